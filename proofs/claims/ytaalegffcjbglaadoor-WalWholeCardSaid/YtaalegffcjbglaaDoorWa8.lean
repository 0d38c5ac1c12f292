/-
  Layer 6: what lasts behind a loss of power (plain).
-/
import Derived.Test.YtaalegffcjbglaaDoorWa6
namespace Go.Proofs.YtaalegffcjbglaaDoor
open Go Go.SL

def setC (L : List (List UInt8)) (c : Chg) : List (List UInt8) := L.set c.1.toNat (fullE c.2)
def applyA (x : List Chg) (L : List (List UInt8)) : List (List UInt8) := x.foldl setC L
def toW (c : Chg) : Nat × List UInt8 := (c.1.toNat, fullE c.2)
def OkC (n : Nat) (x : List Chg) : Prop := ∀ c ∈ x, 0 ≤ c.1 ∧ c.1 < (n : Int) ∧ c.2.length ≤ 512
def OffC (x : List Chg) (i : Nat) : Prop := ∀ c ∈ x, c.1.toNat ≠ i
theorem apply_snoc (x : List Chg) (c : Chg) (L : List (List UInt8)) : applyA (x ++ [c]) L = setC (applyA x L) c := by unfold applyA; rw [List.foldl_append]; rfl
theorem apply_len : ∀ (x : List Chg) (L : List (List UInt8)), (applyA x L).length = L.length
  | [], _ => rfl
  | c :: r, L => by
    show (applyA r (setC L c)).length = _
    rw [apply_len r]; unfold setC; rw [List.length_set]
theorem apply_at : ∀ (x : List Chg) (L L' : List (List UInt8)) (i : Nat), L.length = L'.length → (OffC x i → L[i]? = L'[i]?) → (applyA x L)[i]? = (applyA x L')[i]?
  | [], _, _, _, _, h => h (fun c hc => absurd hc List.not_mem_nil)
  | c :: r, L, L', i, hl, h => by
    show (applyA r (setC L c))[i]? = (applyA r (setC L' c))[i]?
    refine apply_at r _ _ i (by unfold setC; rw [List.length_set, List.length_set, hl]) (fun ho => ?_)
    unfold setC
    rw [List.getElem?_set, List.getElem?_set, hl]
    by_cases hc : c.1.toNat = i
    · rw [if_pos hc, if_pos hc]
    · rw [if_neg hc, if_neg hc]
      refine h (fun d hd => ?_)
      rcases List.mem_cons.1 hd with rfl | hd
      · exact hc
      · exact ho d hd
theorem apply_off : ∀ (x : List Chg) (L : List (List UInt8)) (i : Nat), OffC x i → (applyA x L)[i]? = L[i]?
  | [], _, _, _ => rfl
  | c :: r, L, i, h => by
    show (applyA r (setC L c))[i]? = _
    rw [apply_off r _ i (fun d hd => h d (List.mem_cons_of_mem _ hd))]
    unfold setC
    rw [List.getElem?_set_ne (h c List.mem_cons_self)]
theorem off_sub {x y : List Chg} {i : Nat} (h : OffC x i) (hs : List.Sublist y x) : OffC y i := fun c hc => h c (hs.subset hc)
theorem failN_app (ds : List Chg) (keep : List Int) (L : List (List UInt8)) : ∀ n, n ≤ ds.length → ∃ sub, List.Sublist sub (ds.take n) ∧ failN (ds.map toW) keep L n = applyA sub L
  | 0, _ => ⟨[], List.nil_sublist _, rfl⟩
  | n + 1, hn => by
    obtain ⟨sub, h1, h2⟩ := failN_app ds keep L n (by omega)
    have ht : ds.take (n + 1) = ds.take n ++ [ds[n]!] := by rw [List.take_add_one, get!_of_lt (by omega)]; rfl
    have hg : (ds.map toW)[n]! = toW ds[n]! := by
      rw [getElem!_pos (ds.map toW) n (by rw [List.length_map]; omega), getElem!_pos ds n (by omega), List.getElem_map]
    rw [failN_succ, ht, hg]
    split
    · exact ⟨sub ++ [ds[n]!], h1.append (List.Sublist.refl _), by rw [apply_snoc, h2]; rfl⟩
    · exact ⟨sub, h1.trans (List.sublist_append_left _ _), h2⟩
theorem failN_one (ds : List Chg) (L : List (List UInt8)) : ∀ n, n ≤ ds.length → failN (ds.map toW) [1] L n = applyA (ds.take n) L
  | 0, _ => rfl
  | n + 1, hn => by
    have ht : ds.take (n + 1) = ds.take n ++ [ds[n]!] := by rw [List.take_add_one, get!_of_lt (by omega)]; rfl
    have hg : (ds.map toW)[n]! = toW ds[n]! := by
      rw [getElem!_pos (ds.map toW) n (by rw [List.length_map]; omega), getElem!_pos ds n (by omega), List.getElem_map]
    rw [failN_succ, if_pos (odd_one n), ht, hg, apply_snoc, failN_one ds L n (by omega)]; rfl
/-- Writes, then they last; or the power fails, and some of them are there. -/
def Ph (s : DSt) (x : List Chg) (p : DSt × Nat) : Prop :=
  p.1.since = [] ∧ (p.2 = 0 ∧ p.1.off = false ∧ p.1.lasts = applyA x s.lasts ∧ (s.left = 0 → p.1.left = 0) ∨
    s.left ≠ 0 ∧ p.2 = 7 ∧ p.1.off = true ∧ ∃ sub, List.Sublist sub x ∧ p.1.lasts = applyA sub s.lasts)
theorem run_law : ∀ (x : List Chg) (s : DSt) (ds : List Chg), s.off = false → s.since = ds.map toW → OkC s.lasts.length x →
    ((runP s x).2 = 0 ∧ (runP s x).1.off = false ∧ (runP s x).1.since = (ds ++ x).map toW ∧ (runP s x).1.lasts = s.lasts ∧ (s.left = 0 → (runP s x).1.left = 0) ∨
      s.left ≠ 0 ∧ (runP s x).2 = 7 ∧ (runP s x).1.off = true ∧ (runP s x).1.since = [] ∧ ∃ sub, List.Sublist sub (ds ++ x) ∧ (runP s x).1.lasts = applyA sub s.lasts)
  | [], s, ds, ho, hs, _ => .inl ⟨rfl, ho, by rw [List.append_nil]; exact hs, rfl, fun h => h⟩
  | c :: r, s, ds, ho, hs, hc => by
    obtain ⟨c1, c2, c3⟩ := hc c List.mem_cons_self
    have hb : badB s c.1 c.2 = false := by
      unfold badB hasB
      rw [decide_eq_false_iff_not]
      simp only [decide_eq_true_eq]
      omega
    have hnb : ¬ badB s c.1 c.2 = true := by rw [hb]; exact Bool.false_ne_true
    have hno : ¬ s.off = true := by rw [ho]; exact Bool.false_ne_true
    rw [runP]
    by_cases hl : s.left = 1
    · obtain ⟨e1, e2⟩ := stepE_fail hno hl
      have ed : dputE s c.1 c.2 = 7 := by unfold dputE; rw [if_neg hnb, e1]
      have ep : putS s c.1 c.2 = failS s s.keep := by unfold putS; rw [if_neg hnb, e1, if_neg (by decide), e2]
      rw [ed, ep, if_pos (by decide)]
      obtain ⟨sub, h1, h2⟩ := failN_app ds s.keep s.lasts ds.length (Nat.le_refl _)
      rw [List.take_length] at h1
      refine .inr ⟨by omega, rfl, rfl, rfl, sub, h1.trans (List.sublist_append_left _ _), ?_⟩
      show failN s.since s.keep s.lasts s.since.length = _
      rw [hs, List.length_map, h2]
    · obtain ⟨e1, e2⟩ := stepE_on hno hl
      have ed : dputE s c.1 c.2 = 0 := by unfold dputE; rw [if_neg hnb, e1]
      have ep : putS s c.1 c.2 = { s with left := s.left - 1, done := s.done + 1, since := s.since ++ [toW c] } := by unfold putS; rw [if_neg hnb, e1, if_pos rfl, e2]; rfl
      rw [ed, ep, if_neg (fun h => h rfl)]
      have ih := run_law r { s with left := s.left - 1, done := s.done + 1, since := s.since ++ [toW c] } (ds ++ [c]) ho (by show s.since ++ [toW c] = _; rw [hs, List.map_append]; rfl) (fun d hd => hc d (List.mem_cons_of_mem _ hd))
      rw [List.append_assoc] at ih
      rcases ih with ⟨i1, i2, i3, i4, i5⟩ | ⟨i0, i1, i2, i3, i4⟩
      · exact .inl ⟨i1, i2, i3, i4, fun h => i5 (by show s.left - 1 = 0; omega)⟩
      · exact .inr ⟨by have : s.left - 1 ≠ 0 := i0; omega, i1, i2, i3, i4⟩
theorem make_law {s : DSt} {x : List Chg} (ho : s.off = false) (hs : s.since = []) (hc : OkC s.lasts.length x) : Ph s x (makeS s x) := by
  have h := run_law x s [] ho hs hc
  rw [List.nil_append] at h
  unfold makeS thenE
  rcases h with ⟨i1, i2, i3, i4, i5⟩ | ⟨i0, i1, i2, i3, i4⟩
  · rw [i1, if_neg (fun h => h rfl)]
    obtain ⟨t, ht⟩ : ∃ t, t = (runP s x).1 := ⟨_, rfl⟩
    rw [← ht] at i2 i3 i4 i5 ⊢
    show Ph s x (syncS t, stepE t)
    have hno : ¬ t.off = true := by rw [i2]; exact Bool.false_ne_true
    by_cases hl : t.left = 1
    · obtain ⟨e1, e2⟩ := stepE_fail hno hl
      have es : syncS t = failS t t.keep := by unfold syncS; rw [e1, if_neg (by decide), e2]
      obtain ⟨sub, h1, h2⟩ := failN_app x t.keep t.lasts x.length (Nat.le_refl _)
      rw [List.take_length] at h1
      rw [es, e1]
      refine ⟨rfl, .inr ⟨fun h0 => by have := i5 h0; omega, rfl, rfl, sub, h1, ?_⟩⟩
      show failN t.since t.keep t.lasts t.since.length = _
      rw [i3, List.length_map, h2, i4]
    · obtain ⟨e1, e2⟩ := stepE_on hno hl
      have es : syncS t = { t with left := t.left - 1, done := t.done + 1, lasts := failN t.since [1] t.lasts t.since.length, since := [] } := by unfold syncS; rw [e1, if_pos rfl, e2]
      rw [es, e1]
      refine ⟨rfl, .inl ⟨rfl, i2, ?_, fun h0 => by show t.left - 1 = 0; have := i5 h0; omega⟩⟩
      show failN t.since [1] t.lasts t.since.length = _
      rw [i3, List.length_map, failN_one x t.lasts x.length (Nat.le_refl _), List.take_length, i4]
  · rw [i1, if_pos (by decide)]
    exact ⟨i3, .inr ⟨i0, i1, i2, i4⟩⟩
/-! The law's log: six sectors of twelve, from the third on. -/
def Tame (y : List Chg) : Prop := y.length ≤ 5 ∧ ∀ c ∈ y, (0 ≤ c.1 ∧ c.1 < 3 ∨ 9 ≤ c.1 ∧ c.1 < 12) ∧ c.2.length ≤ 512
def Zero (L : List (List UInt8)) : Prop := L[3]? = some zs512
def Hd (x : List Chg) (L : List (List UInt8)) : Prop := L[3]? = some (fullE (headB x)) ∧ ∀ j, j < x.length → L[4 + j]? = some (fullE x[j]!.2)
def SameOut (L T : List (List UInt8)) : Prop := ∀ i, i < 3 ∨ 9 ≤ i → L[i]? = T[i]?
structure StA (T L : List (List UInt8)) : Prop where
  len : L.length = 12
  zero : Zero L
  out : SameOut L T
structure Redo (w : List (List UInt8)) (x : List Chg) (L : List (List UInt8)) : Prop where
  len : L.length = 12
  hd : Hd x L
  out : ∀ i, i < 3 ∨ 9 ≤ i → OffC x i → L[i]? = w[i]?
def GA (w : List (List UInt8)) (x : List Chg) (L : List (List UInt8)) : Prop := StA w L ∨ StA (applyA x w) L ∨ Redo w x L
theorem Tame.ok {y : List Chg} (h : Tame y) : OkC 12 y := fun c hc => by obtain ⟨h1, h2⟩ := h.2 c hc; exact ⟨by omega, by omega, h2⟩
theorem Tame.off {y : List Chg} (h : Tame y) {i : Nat} (h1 : 3 ≤ i) (h2 : i < 9) : OffC y i := fun c hc => by obtain ⟨h3, _⟩ := h.2 c hc; omega
theorem Redo.sub {w L : List (List UInt8)} {x y : List Chg} (h : Redo w x L) (hx : Tame x) (hy : ∀ i, OffC x i → OffC y i) : Redo w x (applyA y L) where
  len := by rw [apply_len]; exact h.len
  hd := ⟨by rw [apply_off y L 3 (hy 3 (hx.off (by omega) (by omega)))]; exact h.hd.1, fun j hj => by rw [apply_off y L (4 + j) (hy _ (hx.off (by omega) (by have := hx.1; omega)))]; exact h.hd.2 j hj⟩
  out := fun i hi ho => by rw [apply_off y L i (hy i ho)]; exact h.out i hi ho
theorem sub_one {c : Chg} {y : List Chg} (h : List.Sublist y [c]) : y = [] ∨ y = [c] := by
  cases h with
  | cons _ h => exact .inl (List.eq_nil_of_sublist_nil h)
  | cons_cons _ h => rw [List.eq_nil_of_sublist_nil h]; exact .inr rfl
theorem img_at : ∀ (x : List Chg) (k : Nat) (L : List (List UInt8)) (j : Nat), j < x.length → 4 + k + x.length ≤ L.length →
    (applyA ((x.zipIdx k).map fun p => ((3 : Int) + 1 + (p.2 : Int), p.1.2)) L)[4 + k + j]? = some (fullE x[j]!.2)
  | [], _, _, _, hj, _ => absurd hj (Nat.not_lt_zero _)
  | c :: r, k, L, j, hj, hl => by
    rw [List.length_cons] at hj hl
    rw [List.zipIdx_cons, List.map_cons]
    show (applyA ((r.zipIdx (k + 1)).map _) (setC L ((3 : Int) + 1 + (k : Int), c.2)))[4 + k + j]? = _
    match j with
    | 0 =>
      rw [apply_off]
      · unfold setC
        rw [show ((3 : Int) + 1 + (k : Int)).toNat = 4 + k from by omega, Nat.add_zero, List.getElem?_set_self (by omega)]; rfl
      · intro d hd
        obtain ⟨p, hp, rfl⟩ := List.mem_map.1 hd
        have := List.le_snd_of_mem_zipIdx (x := p) hp
        show ((3 : Int) + 1 + (p.2 : Int)).toNat ≠ _
        omega
    | j + 1 =>
      have := img_at r (k + 1) (setC L ((3 : Int) + 1 + (k : Int), c.2)) j (by omega) (by unfold setC; rw [List.length_set]; omega)
      rw [show 4 + k + (j + 1) = 4 + (k + 1) + j from by omega, this]; rfl
theorem img_off {x : List Chg} {i : Nat} (h : i < 4 ∨ 4 + x.length ≤ i) : OffC (imagesE 3 x) i := by
  intro d hd
  obtain ⟨p, hp, rfl⟩ := List.mem_map.1 hd
  have h1 := List.snd_lt_of_mem_zipIdx (x := p) hp
  show ((3 : Int) + 1 + (p.2 : Int)).toNat ≠ _
  omega
theorem img_ok {x : List Chg} (h : Tame x) : OkC 12 (imagesE 3 x) := by
  intro d hd
  obtain ⟨p, hp, rfl⟩ := List.mem_map.1 hd
  have h1 := List.snd_lt_of_mem_zipIdx (x := p) hp
  have h2 := List.fst_mem_of_mem_zipIdx (x := p) hp
  have := h.1
  exact ⟨by show (0 : Int) ≤ 3 + 1 + (p.2 : Int); omega, by show (3 : Int) + 1 + (p.2 : Int) < _; omega, (h.2 _ h2).2⟩
theorem full_nil : fullE [] = zs512 := rfl
structure Clean (s : DSt) : Prop where
  off : s.off = false
  since : s.since = []
  len : s.lasts.length = 12
  zero : Zero s.lasts
theorem commit_law {s : DSt} {x : List Chg} (hs : Clean s) (hx : Tame x) (hne : x ≠ []) :
    (commitE s 3 6 x).1.since = [] ∧ ((commitE s 3 6 x).2 = 0 ∧ (commitE s 3 6 x).1.off = false ∧ StA (applyA x s.lasts) (commitE s 3 6 x).1.lasts ∧ (s.left = 0 → (commitE s 3 6 x).1.left = 0) ∨
      s.left ≠ 0 ∧ (commitE s 3 6 x).2 = 7 ∧ (commitE s 3 6 x).1.off = true ∧ GA s.lasts x (commitE s 3 6 x).1.lasts) := by
  have hxl := hx.1
  have hlen := hs.len
  have e : commitE s 3 6 x = thenE (makeS s (imagesE 3 x)) fun t => thenE (sayS t 3 (headB x)) fun t => thenE (makeS t x) fun t => sayS t 3 [] := by
    rw [commitE, if_neg, if_neg]
    · rfl
    · rintro ⟨c, hc, hb⟩
      obtain ⟨h1, h2⟩ := hx.2 c hc
      have hb2 := of_decide_eq_true hb
      unfold mayB at hb2
      rw [decide_eq_true_eq, hlen] at hb2
      omega
    · rintro (h | h)
      · exact hne h
      · omega
  rw [e]
  obtain ⟨a1, a2⟩ := make_law hs.off hs.since (by rw [hlen]; exact img_ok hx)
  obtain ⟨p, hp⟩ : ∃ p, p = makeS s (imagesE 3 x) := ⟨_, rfl⟩
  rw [← hp] at a1 a2 ⊢
  rcases a2 with ⟨b1, b2, b3, b4⟩ | ⟨b0, b1, b2, sub, b3, b4⟩
  · have L1len : p.1.lasts.length = 12 := by rw [b3, apply_len]; exact hlen
    have L1z : Zero p.1.lasts := by unfold Zero; rw [b3, apply_off _ _ 3 (img_off (.inl (by omega)))]; exact hs.zero
    have L1o : SameOut p.1.lasts s.lasts := fun i hi => by rw [b3, apply_off _ _ i (img_off (by omega))]
    have L1i : ∀ j, j < x.length → p.1.lasts[4 + j]? = some (fullE x[j]!.2) := fun j hj => by
      have := img_at x 0 s.lasts j hj (by omega)
      rw [b3]; exact this
    have hL1 : StA s.lasts p.1.lasts := ⟨L1len, L1z, L1o⟩
    rw [thenE, if_neg (by rw [b1]; exact fun h => h rfl)]
    have hhl := headB_len x
    obtain ⟨c1, c2⟩ := make_law (x := [(3, headB x)]) b2 a1 (by
      intro d hd; rw [List.mem_singleton] at hd; subst hd
      exact ⟨by show (0 : Int) ≤ 3; omega, by show (3 : Int) < _; omega, by show (headB x).length ≤ 512; omega⟩)
    obtain ⟨q, hq⟩ : ∃ q, q = makeS p.1 [(3, headB x)] := ⟨_, rfl⟩
    have e2 : sayS p.1 3 (headB x) = q := hq.symm
    rw [← hq] at c1 c2
    rw [e2]
    have hset : Redo s.lasts x (applyA [(3, headB x)] p.1.lasts) := by
      refine ⟨by rw [apply_len]; exact L1len, ⟨?_, fun j hj => ?_⟩, fun i hi ho => ?_⟩
      · show (p.1.lasts.set 3 (fullE (headB x)))[3]? = _
        rw [List.getElem?_set_self (by omega)]
      · rw [apply_off _ _ _ (by intro d hd; rw [List.mem_singleton] at hd; subst hd; show (3 : Int).toNat ≠ _; omega)]; exact L1i j hj
      · rw [apply_off _ _ _ (by intro d hd; rw [List.mem_singleton] at hd; subst hd; show (3 : Int).toNat ≠ _; omega)]; exact L1o i hi
    rcases c2 with ⟨d1, d2, d3, d4⟩ | ⟨d0, d1, d2, sub, d3, d4⟩
    · rw [← d3] at hset
      have hqlen := hset.len
      rw [thenE, if_neg (by rw [d1]; exact fun h => h rfl)]
      obtain ⟨g1, g2⟩ := make_law (x := x) d2 c1 (by rw [hqlen]; exact hx.ok)
      obtain ⟨r, hr⟩ : ∃ r, r = makeS q.1 x := ⟨_, rfl⟩
      rw [← hr] at g1 g2 ⊢
      rcases g2 with ⟨h1, h2, h3, h4⟩ | ⟨h0, h1, h2, sub, h3, h4⟩
      · have hred : Redo s.lasts x r.1.lasts := by rw [h3]; exact hset.sub hx (fun _ h => h)
        have hrl := hred.len
        have hrout : SameOut r.1.lasts (applyA x s.lasts) := fun i hi => by
          rw [h3]; exact apply_at x _ _ i (by rw [hqlen, hlen]) (fun ho => hset.out i hi ho)
        have hz : StA (applyA x s.lasts) (applyA [(3, [])] r.1.lasts) := by
          refine ⟨by rw [apply_len]; exact hrl, ?_, fun i hi => ?_⟩
          · show (r.1.lasts.set 3 (fullE []))[3]? = _
            rw [List.getElem?_set_self (by omega)]; rfl
          · rw [apply_off _ _ _ (by intro d hd; rw [List.mem_singleton] at hd; subst hd; show (3 : Int).toNat ≠ _; omega)]; exact hrout i hi
        rw [thenE, if_neg (by rw [h1]; exact fun h => h rfl)]
        obtain ⟨k1, k2⟩ := make_law (x := [(3, [])]) h2 g1 (by
          intro d hd; rw [List.mem_singleton] at hd; subst hd
          exact ⟨by show (0 : Int) ≤ 3; omega, by show (3 : Int) < _; omega, Nat.zero_le _⟩)
        have e3 : sayS r.1 3 [] = makeS r.1 [(3, [])] := rfl
        rw [e3]
        rcases k2 with ⟨l1, l2, l3, l4⟩ | ⟨l0, l1, l2, sub, l3, l4⟩
        · exact ⟨k1, .inl ⟨l1, l2, by rw [l3]; exact hz, fun h => l4 (h4 (d4 (b4 h)))⟩⟩
        · refine ⟨k1, .inr ⟨fun h => l0 (h4 (d4 (b4 h))), l1, l2, ?_⟩⟩
          rw [l4]
          rcases sub_one l3 with rfl | rfl
          · exact .inr (.inr hred)
          · exact .inr (.inl hz)
      · rw [thenE, if_pos (by rw [h1]; decide)]
        refine ⟨g1, .inr ⟨fun h => h0 (d4 (b4 h)), h1, h2, .inr (.inr ?_)⟩⟩
        rw [h4]
        exact hset.sub hx (fun _ h => off_sub h h3)
    · rw [thenE, if_pos (by rw [d1]; decide)]
      refine ⟨c1, .inr ⟨fun h => d0 (b4 h), d1, d2, ?_⟩⟩
      rw [d4]
      rcases sub_one d3 with rfl | rfl
      · exact .inl hL1
      · exact .inr (.inr hset)
  · rw [thenE, if_pos (by rw [b1]; decide)]
    refine ⟨a1, .inr ⟨b0, b1, b2, .inl ⟨by rw [b4, apply_len]; exact hlen, ?_, fun i hi => ?_⟩⟩⟩
    · unfold Zero; rw [b4, apply_off _ _ 3 (off_sub (img_off (.inl (by omega))) b3)]; exact hs.zero
    · rw [b4, apply_off _ _ i (off_sub (img_off (by omega)) b3)]
theorem read_at {s : DSt} (ho : s.off = false) (hs : s.since = []) {i : Nat} (hi : i < s.lasts.length) : readE s (i : Int) = (s.lasts[i]!, 0) := by
  have e1 : hasB s (i : Int) = true := by unfold hasB; rw [decide_eq_true_eq]; omega
  unfold readE
  rw [if_neg (fun h => h e1), if_neg (by rw [ho]; exact Bool.false_ne_true), hs]
  rfl
theorem get_bang {L : List (List UInt8)} {i : Nat} {v : List UInt8} (h : L[i]? = some v) : L[i]! = v := by
  rw [List.getElem!_eq_getElem?_getD, h]; rfl
theorem zero_said {s : DSt} (hs : Clean s) : saidE s 3 6 = ([], 0) := by
  have h3 : readE s 3 = (zs512, 0) := by
    have := read_at hs.off hs.since (i := 3) (by rw [hs.len]; omega)
    rw [get_bang hs.zero] at this; exact this
  rw [saidE, h3, if_neg (fun h => h rfl), if_pos (.inl (by decide))]
theorem fits12 {s : DSt} (h : s.lasts.length = 12) : fitsB s 3 6 = true := by
  unfold fitsB; rw [decide_eq_true_eq, h]; omega
theorem open_zero {s : DSt} (hs : Clean s) : openE s 3 6 = (s, 0, 0) := by
  rw [openE, if_neg (by rw [fits12 hs.len]; exact fun h => h rfl), zero_said hs, if_neg (fun h => h rfl), if_pos rfl]
def fullC (x : List Chg) : List Chg := x.map fun c => (c.1, fullE c.2)
theorem fullC_head {x : List Chg} (h : ∀ c ∈ x, c.2.length ≤ 512) : headB (fullC x) = headB x := by
  have e1 : hdB (fullC x) = hdB x := by
    unfold hdB fullC
    rw [List.length_map, List.flatMap_map]
  have e2 : allB (fullC x) = allB x := by
    have e : (fullC x).flatMap (fun c => fullE c.2) = x.flatMap fun c => fullE c.2 := by
      unfold fullC
      induction x with
      | nil => rfl
      | cons c r ih => rw [List.map_cons, List.flatMap_cons, List.flatMap_cons, ih (fun d hd => h d (List.mem_cons_of_mem _ hd)) (by unfold hdB fullC; rw [List.length_map, List.flatMap_map]), full_full (h c List.mem_cons_self)]
    unfold allB
    rw [e1, e]
  unfold headB
  rw [e1, e2]
theorem flat2 : ∀ (x : List Chg) (r : List UInt8) (i : Nat), i < x.length →
    ((x.flatMap fun c => [byteOf (c.1.toNat / 256), byteOf c.1.toNat]) ++ r)[2 * i]? = some (byteOf (x[i]!.1.toNat / 256)) ∧ ((x.flatMap fun c => [byteOf (c.1.toNat / 256), byteOf c.1.toNat]) ++ r)[2 * i + 1]? = some (byteOf x[i]!.1.toNat)
  | [], _, _, h => absurd h (Nat.not_lt_zero _)
  | c :: x, r, 0, _ => ⟨rfl, rfl⟩
  | c :: x, r, i + 1, h => by
    have := flat2 x r i (by rw [List.length_cons] at h; omega)
    rw [List.flatMap_cons, show 2 * (i + 1) = 2 * i + 1 + 1 from by omega]
    exact this
theorem fullC_dec {s : DSt} {x : List Chg} {w : List (List UInt8)} (ho : s.off = false) (hs : s.since = []) (h : Redo w x s.lasts) (hx : Tame x) : decN s 3 (fullE (headB x)) x.length = fullC x := by
  have hxl := hx.1
  have hlen := h.len
  refine List.ext_getElem (by rw [dec_len]; unfold fullC; rw [List.length_map]) (fun j h1 h2 => ?_)
  rw [dec_len] at h1
  have hg := dec_get (s := s) (f := 3) (h := fullE (headB x)) h1
  rw [getElem!_pos _ j (by rw [dec_len]; exact h1)] at hg
  rw [hg]
  have hf : (fullC x)[j] = (x[j]!.1, fullE x[j]!.2) := by simp [fullC, getElem!_pos x j h1]
  rw [hf]
  obtain ⟨t1, t2⟩ := hx.2 _ (chg_mem h1)
  have hfe : fullE (headB x) = 87 :: 76 :: byteOf x.length :: ((x.flatMap fun c => [byteOf (c.1.toNat / 256), byteOf c.1.toNat]) ++ (le4 (sumE (allB x)) ++ List.replicate (512 - (headB x).length) 0)) := by
    have e1 : fullE (headB x) = (([87, 76, byteOf x.length] ++ x.flatMap fun c => [byteOf (c.1.toNat / 256), byteOf c.1.toNat]) ++ le4 (sumE (allB x))) ++ List.replicate (512 - (headB x).length) 0 := rfl
    rw [e1, List.append_assoc, List.append_assoc]; rfl
  obtain ⟨f1, f2⟩ := flat2 x (le4 (sumE (allB x)) ++ List.replicate (512 - (headB x).length) 0) j h1
  have g1 : (fullE (headB x))[3 + 2 * j]? = some (byteOf (x[j]!.1.toNat / 256)) := by rw [hfe, show 3 + 2 * j = 2 * j + 1 + 1 + 1 from by omega]; exact f1
  have g2 : (fullE (headB x))[4 + 2 * j]? = some (byteOf x[j]!.1.toNat) := by rw [hfe, show 4 + 2 * j = 2 * j + 1 + 1 + 1 + 1 from by omega]; exact f2
  have b1 : (fullE (headB x))[3 + 2 * j]! = byteOf (x[j]!.1.toNat / 256) := by rw [List.getElem!_eq_getElem?_getD, g1]; rfl
  have b2 : (fullE (headB x))[4 + 2 * j]! = byteOf x[j]!.1.toNat := by rw [List.getElem!_eq_getElem?_getD, g2]; rfl
  have hr := read_at ho hs (i := 4 + j) (by omega)
  rw [get_bang (h.hd.2 j h1)] at hr
  unfold decC
  rw [b1, b2, show (3 : Int) + 1 + (j : Int) = ((4 + j : Nat) : Int) from by omega, hr]
  have n1 : (byteOf (x[j]!.1.toNat / 256)).toNat = 0 := by
    rw [show x[j]!.1.toNat / 256 = 0 from by omega]; rfl
  have n2 : (byteOf x[j]!.1.toNat).toNat = x[j]!.1.toNat := by
    unfold byteOf; rw [UInt8.toNat_ofNat']; omega
  rw [n1, n2]
  refine Prod.ext ?_ rfl
  show ((0 * 256 + x[j]!.1.toNat : Nat) : Int) = x[j]!.1
  omega
theorem fullC_apply : ∀ {x : List Chg}, (∀ c ∈ x, c.2.length ≤ 512) → ∀ L, applyA (fullC x) L = applyA x L
  | [], _, _ => rfl
  | c :: r, h, L => by
    show applyA (fullC r) (setC L (c.1, fullE c.2)) = applyA r (setC L c)
    rw [fullC_apply (fun d hd => h d (List.mem_cons_of_mem _ hd))]
    unfold setC
    rw [full_full (h c List.mem_cons_self)]
theorem fullC_off {x : List Chg} {i : Nat} (h : OffC x i) : OffC (fullC x) i := by
  intro d hd
  obtain ⟨c, hc, rfl⟩ := List.mem_map.1 hd
  exact h c hc
theorem redo_said {s : DSt} {x : List Chg} {w : List (List UInt8)} (ho : s.off = false) (hs : s.since = []) (h : Redo w x s.lasts) (hx : Tame x) (hne : x ≠ []) : saidE s 3 6 = (fullC x, 0) := by
  have hxl := hx.1
  have h3 : readE s 3 = (fullE (headB x), 0) := by
    have := read_at ho hs (i := 3) (by rw [h.len]; omega)
    rw [get_bang h.hd.1] at this; exact this
  have hn : ((fullE (headB x))[2]!).toNat = x.length := by
    have : (fullE (headB x))[2]! = byteOf x.length := rfl
    rw [this]; unfold byteOf; rw [UInt8.toNat_ofNat']; omega
  have h0 : 1 ≤ x.length := List.length_pos_iff.2 hne
  have := said_some (s := s) (f := 3) (z := 6) (n := x.length) (by rw [h3]) (by rw [h3]; exact hn.symm) h0 (by omega)
    (by
      rw [h3, fullC_dec ho hs h hx]
      intro c hc
      obtain ⟨d, hd, rfl⟩ := List.mem_map.1 hc
      obtain ⟨t1, _⟩ := hx.2 d hd
      unfold mayB
      rw [decide_eq_true_eq, h.len]
      show 0 ≤ d.1 ∧ _
      omega)
    (by rw [h3, fullC_dec ho hs h hx, fullC_head (fun c hc => (hx.2 c hc).2)])
  rw [this, h3, fullC_dec ho hs h hx]
theorem open_law {s : DSt} {x : List Chg} {w : List (List UInt8)} (ho : s.off = false) (hs : s.since = []) (hw : w.length = 12) (h : GA w x s.lasts) (hx : Tame x) (hne : x ≠ []) :
    (openE s 3 6).1.since = [] ∧ ((openE s 3 6).2.2 = 0 ∧ (openE s 3 6).1.off = false ∧ (StA w (openE s 3 6).1.lasts ∨ StA (applyA x w) (openE s 3 6).1.lasts) ∧ (s.left = 0 → (openE s 3 6).1.left = 0) ∧ ((openE s 3 6).2.1 = 0 ∨ (openE s 3 6).2.1 = x.length) ∨
      s.left ≠ 0 ∧ (openE s 3 6).2.2 = 7 ∧ (openE s 3 6).1.off = true ∧ GA w x (openE s 3 6).1.lasts) := by
  rcases h with h | h | h
  · rw [open_zero ⟨ho, hs, h.len, h.zero⟩]
    exact ⟨hs, .inl ⟨rfl, ho, .inl h, fun h => h, .inl rfl⟩⟩
  · rw [open_zero ⟨ho, hs, h.len, h.zero⟩]
    exact ⟨hs, .inl ⟨rfl, ho, .inr h, fun h => h, .inl rfl⟩⟩
  · have hd2 : ∀ c ∈ x, c.2.length ≤ 512 := fun c hc => (hx.2 c hc).2
    have hsd := redo_said ho hs h hx hne
    have hlen := h.len
    have hnf : fullC x ≠ [] := by unfold fullC; intro h; exact hne (List.map_eq_nil_iff.1 h)
    have hfl : (fullC x).length = x.length := by unfold fullC; rw [List.length_map]
    obtain ⟨p, hp⟩ : ∃ p, p = doneE s 3 (fullC x) := ⟨_, rfl⟩
    have key : p.1.since = [] ∧ (p.2 = 0 ∧ p.1.off = false ∧ StA (applyA x w) p.1.lasts ∧ (s.left = 0 → p.1.left = 0) ∨ s.left ≠ 0 ∧ p.2 = 7 ∧ p.1.off = true ∧ GA w x p.1.lasts) := by
      rw [hp]
      unfold doneE
      obtain ⟨a1, a2⟩ := make_law (x := fullC x) ho hs (by
        intro c hc
        obtain ⟨d, hd, rfl⟩ := List.mem_map.1 hc
        obtain ⟨t1, t2⟩ := hx.2 d hd
        exact ⟨by show 0 ≤ d.1; omega, by show d.1 < _; omega, by show (fullE d.2).length ≤ 512; rw [full_len t2]; exact Nat.le_refl _⟩)
      obtain ⟨q, hq⟩ : ∃ q, q = makeS s (fullC x) := ⟨_, rfl⟩
      rw [← hq] at a1 a2 ⊢
      rcases a2 with ⟨b1, b2, b3, b4⟩ | ⟨b0, b1, b2, sub, b3, b4⟩
      · have hred : Redo w x q.1.lasts := by rw [b3]; exact h.sub hx (fun _ h => fullC_off h)
        have hql := hred.len
        have hz : StA (applyA x w) (applyA [(3, [])] q.1.lasts) := by
          refine ⟨by rw [apply_len]; exact hql, ?_, fun i hi => ?_⟩
          · show (q.1.lasts.set 3 (fullE []))[3]? = _
            rw [List.getElem?_set_self (by omega)]; rfl
          · rw [apply_off _ _ _ (by intro d hd; rw [List.mem_singleton] at hd; subst hd; show (3 : Int).toNat ≠ _; omega), b3, fullC_apply hd2]
            exact apply_at x _ _ i (by rw [hlen, hw]) (fun ho => h.out i hi ho)
        rw [thenE, if_neg (by rw [b1]; exact fun h => h rfl)]
        obtain ⟨k1, k2⟩ := make_law (x := [(3, [])]) b2 a1 (by
          intro d hd; rw [List.mem_singleton] at hd; subst hd
          exact ⟨by show (0 : Int) ≤ 3; omega, by show (3 : Int) < _; omega, Nat.zero_le _⟩)
        have e3 : sayS q.1 3 [] = makeS q.1 [(3, [])] := rfl
        rw [e3]
        rcases k2 with ⟨l1, l2, l3, l4⟩ | ⟨l0, l1, l2, sub, l3, l4⟩
        · exact ⟨k1, .inl ⟨l1, l2, by rw [l3]; exact hz, fun h => l4 (b4 h)⟩⟩
        · refine ⟨k1, .inr ⟨fun h => l0 (b4 h), l1, l2, ?_⟩⟩
          rw [l4]
          rcases sub_one l3 with rfl | rfl
          · exact .inr (.inr hred)
          · exact .inr (.inl hz)
      · rw [thenE, if_pos (by rw [b1]; decide)]
        refine ⟨a1, .inr ⟨b0, b1, b2, .inr (.inr ?_)⟩⟩
        rw [b4]
        exact h.sub hx (fun _ h => off_sub (fullC_off h) b3)
    have e : openE s 3 6 = if p.2 ≠ 0 then (p.1, 0, p.2) else (p.1, x.length, 0) := by
      rw [openE, if_neg (by rw [fits12 hlen]; exact fun h => h rfl), hsd, if_neg (fun h => h rfl), if_neg hnf, ← hp, hfl]
    rw [e]
    obtain ⟨k1, k2⟩ := key
    rcases k2 with ⟨l1, l2, l3, l4⟩ | ⟨l0, l1, l2, l3⟩
    · rw [if_neg (by rw [l1]; exact fun h => h rfl)]
      exact ⟨k1, .inl ⟨rfl, l2, .inr l3, l4, .inr rfl⟩⟩
    · rw [if_pos (by rw [l1]; decide)]
      exact ⟨k1, .inr ⟨l0, l1, l2, l3⟩⟩
/-- What stands outside the log. -/
def outB (s : DSt) (f z : Int) (i : Nat) : List UInt8 := if (i : Int) < f ∨ f + z ≤ (i : Int) then (readE s (i : Int)).1.take 8 else []
def outE (s : DSt) (f z : Int) (n : Nat) : List UInt8 := (List.range n).flatMap (outB s f z)
theorem out_same {s t : DSt} (h1 : s.off = false) (h2 : s.since = []) (h3 : s.lasts.length = 12) (k1 : t.off = false) (k2 : t.since = []) (k3 : t.lasts.length = 12) (h : SameOut s.lasts t.lasts) : outE s 3 6 12 = outE t 3 6 12 := by
  have e : ∀ i ∈ List.range 12, outB s 3 6 i = outB t 3 6 i := by
    intro i hi
    have hi2 := List.mem_range.1 hi
    unfold outB
    rw [read_at h1 h2 (by omega), read_at k1 k2 (by omega)]
    by_cases hh : (i : Int) < 3 ∨ (3 : Int) + 6 ≤ (i : Int)
    · rw [if_pos hh, if_pos hh]
      show (s.lasts[i]!).take 8 = (t.lasts[i]!).take 8
      rw [List.getElem!_eq_getElem?_getD, List.getElem!_eq_getElem?_getD, h i (by omega)]
    · rw [if_neg hh, if_neg hh]
  unfold outE
  rw [List.flatMap_def, List.flatMap_def, List.map_congr_left e]
theorem crash_none {s : DSt} (h1 : s.off = false) (h2 : s.since = []) (k : List Int) : crashS s k = { s with left := 0 } := by
  cases s; simp only at h1 h2; subst h1; subst h2; rfl
theorem Clean.new : Clean (newS 12) := ⟨rfl, rfl, rfl, rfl⟩
theorem Clean.cut {s : DSt} (h : Clean s) (n : Int) (k : List Int) : Clean (cutS s n k) := ⟨h.off, h.since, h.len, h.zero⟩
theorem cut_left (s : DSt) (n : Int) (k : List Int) : (cutS s n k).left ≠ 0 := by show (max n 1).toNat ≠ 0; omega
theorem commit_nil (s : DSt) (f z : Int) : commitE s f z [] = (s, 1) := by rw [commitE, if_pos (.inl rfl)]
theorem Clean.commit {s : DSt} (h : Clean s) (hl : s.left = 0) {y : List Chg} (hy : Tame y) : Clean (commitE s 3 6 y).1 ∧ (commitE s 3 6 y).1.left = 0 := by
  by_cases hne : y = []
  · rw [hne, commit_nil]; exact ⟨h, hl⟩
  · obtain ⟨c1, c2⟩ := commit_law h hy hne
    rcases c2 with ⟨d1, d2, d3, d4⟩ | ⟨d0, _⟩
    · exact ⟨⟨d2, c1, d3.len, d3.zero⟩, d4 hl⟩
    · exact absurd hl d0
theorem whole_law {s : DSt} {y : List Chg} {x0 x1 : List Int} {c1 c2 : Int} {p : DSt × Nat} {q : DSt} {o u : DSt × Nat × Nat} (hs : Clean s) (hl : s.left = 0) (hy : Tame y)
    (hp : p = commitE (cutS s c1 x0) 3 6 y) (hq : q = onS (if p.2 = 7 then p.1 else crashS p.1 x0)) (ho : o = openE (cutS q c2 x1) 3 6) (hu : u = openE (onS o.1) 3 6) :
    (o.2.2 = 0 ∨ o.2.2 = 7) ∧ u.2.2 = 0 ∧ u.1.off = false ∧ (outE u.1 3 6 12 = outE (commitE s 3 6 y).1 3 6 12 ∨ outE u.1 3 6 12 = outE s 3 6 12 ∧ p.2 ≠ 0) := by
  by_cases hne : y = []
  · rw [hne, commit_nil] at hp
    rw [hne, commit_nil]
    subst hp
    rw [if_neg (by show (1 : Nat) ≠ 7; decide), crash_none (s := cutS s c1 x0) hs.off hs.since] at hq
    have hcq : Clean (cutS q c2 x1) := by rw [hq]; exact ⟨rfl, hs.since, hs.len, hs.zero⟩
    rw [open_zero hcq] at ho
    have hcu : Clean (onS o.1) := by rw [ho]; exact ⟨rfl, hcq.since, hcq.len, hcq.zero⟩
    rw [open_zero hcu] at hu
    have hlu : u.1.lasts = s.lasts := by rw [hu, ho, hq]; rfl
    refine ⟨.inl (by rw [ho]), by rw [hu], by rw [hu]; rfl, .inl ?_⟩
    exact out_same (by rw [hu]; rfl) (by rw [hu]; exact hcu.since) (by rw [hlu]; exact hs.len) hs.off hs.since hs.len (fun i _ => by rw [hlu])
  · obtain ⟨r1, r2⟩ := commit_law hs hy hne
    have r3 : (commitE s 3 6 y).1.off = false ∧ StA (applyA y s.lasts) (commitE s 3 6 y).1.lasts := by
      rcases r2 with ⟨_, d2, d3, _⟩ | ⟨d0, _⟩
      · exact ⟨d2, d3⟩
      · exact absurd hl d0
    obtain ⟨r3, r4⟩ := r3
    have fin : ∀ t : DSt, t.off = false → t.since = [] → (StA s.lasts t.lasts ∨ StA (applyA y s.lasts) t.lasts) → outE t 3 6 12 = outE (commitE s 3 6 y).1 3 6 12 ∨ outE t 3 6 12 = outE s 3 6 12 := by
      intro t t1 t2 t3
      rcases t3 with t3 | t3
      · exact .inr (out_same t1 t2 t3.len hs.off hs.since hs.len t3.out)
      · exact .inl (out_same t1 t2 t3.len r3 r1 r4.len (fun i hi => (t3.out i hi).trans (r4.out i hi).symm))
    obtain ⟨a1, a2⟩ := commit_law (s := cutS s c1 x0) (hs.cut _ _) hy hne
    rw [← hp] at a1 a2
    rcases a2 with ⟨b1, b2, b3, _⟩ | ⟨_, b1, b2, b3⟩
    · rw [if_neg (by rw [b1]; decide), crash_none b2 a1] at hq
      have hcq : Clean (cutS q c2 x1) := by rw [hq]; exact ⟨rfl, a1, b3.len, b3.zero⟩
      rw [open_zero hcq] at ho
      have hcu : Clean (onS o.1) := by rw [ho]; exact ⟨rfl, hcq.since, hcq.len, hcq.zero⟩
      rw [open_zero hcu] at hu
      have hlu : u.1.lasts = p.1.lasts := by rw [hu, ho, hq]; rfl
      refine ⟨.inl (by rw [ho]), by rw [hu], by rw [hu]; rfl, .inl ?_⟩
      exact out_same (by rw [hu]; rfl) (by rw [hu]; exact hcu.since) (by rw [hlu]; exact b3.len) r3 r1 r4.len (fun i hi => by rw [hlu]; exact (b3.out i hi).trans (r4.out i hi).symm)
    · rw [if_pos b1] at hq
      obtain ⟨g1, g2⟩ := open_law (s := cutS q c2 x1) (x := y) (w := s.lasts) (by rw [hq]; rfl) (by rw [hq]; exact a1) hs.len (by rw [hq]; exact b3) hy hne
      rw [← ho] at g1 g2
      have hgu : (u.1.since = [] ∧ u.2.2 = 0 ∧ u.1.off = false ∧ (StA s.lasts u.1.lasts ∨ StA (applyA y s.lasts) u.1.lasts)) := by
        have hG : GA s.lasts y o.1.lasts := by
          rcases g2 with ⟨_, _, h3, _⟩ | ⟨_, _, _, h3⟩
          · rcases h3 with h3 | h3
            · exact .inl h3
            · exact .inr (.inl h3)
          · exact h3
        obtain ⟨k1, k2⟩ := open_law (s := onS o.1) (x := y) (w := s.lasts) rfl g1 hs.len hG hy hne
        rw [← hu] at k1 k2
        rcases k2 with ⟨l1, l2, l3, _⟩ | ⟨l0, _⟩
        · exact ⟨k1, l1, l2, l3⟩
        · exact absurd rfl l0
      obtain ⟨u1, u2, u3, u4⟩ := hgu
      refine ⟨g2.elim (fun h => .inl h.1) (fun h => .inr h.2.1), u2, u3, ?_⟩
      rcases fin u.1 u3 u1 u4 with h | h
      · exact .inl h
      · exact .inr ⟨h, by rw [b1]; decide⟩
theorem once_law {s : DSt} {y : List Chg} {x0 : List Int} {c1 : Int} {p : DSt × Nat} {q : DSt} {o u : DSt × Nat × Nat} (hs : Clean s) (hy : Tame y)
    (hp : p = commitE (cutS s c1 x0) 3 6 y) (hq : q = crashS (onS p.1) []) (ho : o = openE q 3 6) (hu : u = openE o.1 3 6) :
    o.2.2 = 0 ∧ u.2.2 = 0 ∧ u.2.1 = 0 ∧ (o.2.1 = 0 ∨ o.2.1 = y.length ∧ p.2 = 7) ∧ u.1 = o.1 ∧ o.1.off = false ∧ o.1.lasts.length = 12 := by
  have hz : Clean q → o.2.2 = 0 ∧ u.2.2 = 0 ∧ u.2.1 = 0 ∧ (o.2.1 = 0 ∨ o.2.1 = y.length ∧ p.2 = 7) ∧ u.1 = o.1 ∧ o.1.off = false ∧ o.1.lasts.length = 12 := by
    intro hc
    rw [open_zero hc] at ho
    subst ho
    rw [open_zero hc] at hu
    subst hu
    exact ⟨rfl, rfl, rfl, .inl rfl, rfl, hc.off, hc.len⟩
  by_cases hne : y = []
  · rw [hne, commit_nil] at hp
    subst hp
    rw [crash_none (s := onS (cutS s c1 x0)) rfl hs.since] at hq
    exact hz (by rw [hq]; exact ⟨rfl, hs.since, hs.len, hs.zero⟩)
  · obtain ⟨a1, a2⟩ := commit_law (s := cutS s c1 x0) (hs.cut _ _) hy hne
    rw [← hp] at a1 a2
    rw [crash_none (s := onS p.1) rfl a1] at hq
    rcases a2 with ⟨b1, b2, b3, _⟩ | ⟨_, b1, b2, b3⟩
    · exact hz (by rw [hq]; exact ⟨rfl, a1, b3.len, b3.zero⟩)
    · obtain ⟨g1, g2⟩ := open_law (s := q) (x := y) (w := s.lasts) (by rw [hq]; rfl) (by rw [hq]; exact a1) hs.len (by rw [hq]; exact b3) hy hne
      rw [← ho] at g1 g2
      rcases g2 with ⟨h1, h2, h3, _, h5⟩ | ⟨h0, _⟩
      · have hco : Clean o.1 := by
          rcases h3 with h3 | h3
          · exact ⟨h2, g1, h3.len, h3.zero⟩
          · exact ⟨h2, g1, h3.len, h3.zero⟩
        rw [open_zero hco] at hu
        subst hu
        exact ⟨h1, rfl, rfl, h5.elim .inl (fun h => .inr ⟨h, b1⟩), rfl, h2, hco.len⟩
      · exact absurd (show q.left = 0 by rw [hq]) h0
def secE (i : Int) : Nat := ((i.tmod ((6 : Nat) : Int) + 6).tmod ((6 : Nat) : Int)).toNat
def secs : List Int := [0, 1, 2, 9, 10, 11]
def tameC (c : Chg) : Chg := (secs[secE c.1]!, c.2.take 512)
def tameE (l : List Chg) : List Chg := (l.take 5).map tameC
theorem sec_lt (i : Int) : secE i < 6 ∧ ((secE i : Nat) : Int) = (i.tmod ((6 : Nat) : Int) + 6).tmod ((6 : Nat) : Int) := by
  obtain ⟨h1, h2⟩ := tmodb i (m := 6) (by decide)
  have h3 := Int.tmod_nonneg (a := i.tmod ((6 : Nat) : Int) + 6) ((6 : Nat) : Int) (by omega)
  have h4 := Int.tmod_lt_of_pos (i.tmod ((6 : Nat) : Int) + 6) (b := ((6 : Nat) : Int)) (by omega)
  unfold secE
  omega
theorem secs_ok {k : Nat} (h : k < 6) : 0 ≤ secs[k]! ∧ secs[k]! < 3 ∨ 9 ≤ secs[k]! ∧ secs[k]! < 12 := by
  match k, h with
  | 0, _ => decide
  | 1, _ => decide
  | 2, _ => decide
  | 3, _ => decide
  | 4, _ => decide
  | 5, _ => decide
theorem tame_ok (l : List Chg) : Tame (tameE l) := by
  refine ⟨by unfold tameE; rw [List.length_map, List.length_take]; omega, fun c hc => ?_⟩
  obtain ⟨d, _, rfl⟩ := List.mem_map.1 hc
  exact ⟨secs_ok (sec_lt d.1).1, by show (d.2.take 512).length ≤ 512; rw [List.length_take]; omega⟩
end Go.Proofs.YtaalegffcjbglaaDoor
