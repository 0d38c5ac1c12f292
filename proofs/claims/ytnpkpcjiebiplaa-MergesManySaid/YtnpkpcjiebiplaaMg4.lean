/-
  Layer 8: plain: the links of a row; what holds in a round.
-/
import Derived.Test.YtnpkpcjiebiplaaMg3
namespace Go.Proofs.Ytnpkpcjiebiplaa
open Go Go.SL
theorem app_cases {α : Type} {c d : α} : ∀ {x y p v : List α}, x ++ c :: y = p ++ d :: v → (∃ p', p = x ++ c :: p' ∧ y = p' ++ d :: v) ∨ (x = p ∧ c = d ∧ y = v) ∨ (∃ x', x = p ++ d :: x' ∧ v = x' ++ c :: y)
  | [], y, [], v, h => by
    simp only [List.nil_append, List.cons.injEq] at h; exact .inr (.inl ⟨rfl, h.1, h.2⟩)
  | [], y, e :: p, v, h => by
    simp only [List.nil_append, List.cons_append, List.cons.injEq] at h
    exact .inl ⟨p, by rw [h.1]; rfl, h.2⟩
  | e :: x, y, [], v, h => by
    simp only [List.nil_append, List.cons_append, List.cons.injEq] at h
    exact .inr (.inr ⟨x, by rw [h.1]; rfl, h.2.symm⟩)
  | e :: x, y, e' :: p, v, h => by
    simp only [List.cons_append, List.cons.injEq] at h
    obtain ⟨rfl, h⟩ := h
    rcases app_cases h with ⟨p', h1, h2⟩ | ⟨h1, h2, h3⟩ | ⟨x', h1, h2⟩
    · exact .inl ⟨p', by rw [h1]; rfl, h2⟩
    · exact .inr (.inl ⟨by rw [h1], h2, h3⟩)
    · exact .inr (.inr ⟨x', by rw [h1]; rfl, h2⟩)
theorem adj_cases {α : Type} {a b d : α} {x y p v : List α} (h : x ++ a :: b :: y = p ++ d :: v) :
    (∃ p', p = x ++ a :: b :: p' ∧ y = p' ++ d :: v) ∨ (p = x ++ [a] ∧ b = d ∧ y = v) ∨ (x = p ∧ a = d ∧ v = b :: y) ∨ (∃ x', x = p ++ d :: x' ∧ v = x' ++ a :: b :: y) := by
  rcases app_cases h with ⟨p', h1, h2⟩ | ⟨h1, h2, h3⟩ | ⟨x', h1, h2⟩
  · cases p' with
    | nil => simp only [List.nil_append, List.cons.injEq] at h2; exact .inr (.inl ⟨h1, h2.1, h2.2⟩)
    | cons e p' =>
      simp only [List.cons_append, List.cons.injEq] at h2
      obtain ⟨rfl, h2⟩ := h2
      exact .inl ⟨p', h1, h2⟩
  · exact .inr (.inr (.inl ⟨h1, h2, h3.symm⟩))
  · exact .inr (.inr (.inr ⟨x', h1, h2⟩))
structure Links (n : Nat) (ps : List T) (nx pr : List Int) : Prop where
  nl : nx.length = n
  pl : pr.length = n
  next : ∀ u a v, ps = u ++ a :: v → nx[off u]! = ((off u + a.length : Nat) : Int)
  prev : ∀ u a b v, ps = u ++ a :: b :: v → pr[off u + a.length]! = ((off u : Nat) : Int)
  first : ps ≠ [] → pr[0]! = -1
theorem off_snoc (u : List T) (a : T) (v : List T) : off (u ++ a :: v) = off u + a.length + off v := by rw [off_app, off_cons]; omega
def prSet (pr : List Int) (v : List T) (k x : Nat) : List Int := if v = [] then pr else pr.set k (x : Int)
theorem prSet_len (pr : List Int) (v : List T) (k x : Nat) : (prSet pr v k x).length = pr.length := by unfold prSet; split <;> simp
theorem prSet_ne {pr : List Int} {v : List T} {k x j : Nat} (h : j ≠ k) : (prSet pr v k x)[j]! = pr[j]! := by
  unfold prSet
  split
  · rfl
  · by_cases hk : k < pr.length
    · rw [set_get! hk, if_neg h]
    · rw [List.set_eq_of_length_le (by omega)]
theorem Links.merge {n : Nat} {u v : List T} {a b : T} {nx pr : List Int} (h : Links n (u ++ a :: b :: v) nx pr) (hf : Full (u ++ a :: b :: v)) (hn : off (u ++ a :: b :: v) = n) :
    Links n (u ++ (a ++ b) :: v) (nx.set (off u) ((off u + a.length + b.length : Nat) : Int)) (prSet pr v (off u + a.length + b.length) (off u)) := by
  have ha := len_pos hf.mid
  have hb : 0 < b.length := len_pos (hf b (by simp))
  rw [off_snoc, off_cons] at hn
  refine ⟨by rw [List.length_set]; exact h.nl, by rw [prSet_len]; exact h.pl, fun u' c v' e => ?_, fun u' c d v' e => ?_, fun _ => ?_⟩
  · have hu : off u < nx.length := by rw [h.nl]; omega
    rw [set_get! hu]
    rcases app_cases e.symm with ⟨p', h1, h2⟩ | ⟨h1, h2, h3⟩ | ⟨x', h1, h2⟩
    · have hc := len_pos (hf c (by rw [h1]; simp))
      have ho : off u = off u' + c.length + off p' := by rw [h1, off_snoc]
      rw [if_neg (by omega)]
      exact h.next u' c (p' ++ a :: b :: v) (by rw [h1]; simp)
    · rw [h1, if_pos rfl, h2, List.length_append]; congr 1; omega
    · have ho : off u' = off u + (a ++ b).length + off x' := by rw [h1, off_snoc]
      rw [List.length_append] at ho
      rw [if_neg (by omega)]
      have := h.next (u ++ a :: b :: x') c v' (by rw [h2]; simp)
      rw [off_snoc, off_cons] at this
      rw [show off u' = off u + a.length + (b.length + off x') from by omega]
      exact this
  · rcases adj_cases e.symm with ⟨p', h1, h2⟩ | ⟨h1, h2, h3⟩ | ⟨h1, h2, h3⟩ | ⟨x', h1, h2⟩
    · have ho : off u = off u' + c.length + (d.length + off p') := by rw [h1, off_snoc, off_cons]
      rw [prSet_ne (by omega)]
      exact h.prev u' c d (p' ++ a :: b :: v) (by rw [h1]; simp)
    · have ho : off u = off u' + c.length := by rw [h1, off_snoc, off_nil, Nat.add_zero]
      rw [prSet_ne (by omega)]
      exact h.prev u' c a (b :: v) (by rw [h1]; simp)
    · subst h1
      subst h2
      subst h3
      have hd := len_pos (hf d (by simp))
      rw [off_cons] at hn
      rw [List.length_append, prSet, if_neg (by simp), set_get! (by rw [h.pl]; omega), if_pos (by omega)]
    · have ho : off u' = off u + (a ++ b).length + off x' := by rw [h1, off_snoc]
      rw [List.length_append] at ho
      have hc := len_pos (hf c (by rw [h2]; simp))
      rw [prSet_ne (by omega)]
      have := h.prev (u ++ a :: b :: x') c d v' (by rw [h2]; simp)
      rw [off_snoc, off_cons] at this
      rw [show off u' = off u + a.length + (b.length + off x') from by omega]
      exact this
  · rw [prSet_ne (by omega)]
    exact h.first (by simp)
/-! ### what holds in a round -/
def Sound (l : List Pr) (n : Nat) (H : List Sp) : Prop := ∀ s ∈ H, rk l (s.a, s.b) = some s.rank ∧ s.pl < n ∧ s.a ≠ []
def Cov (l : List Pr) (ps : List T) (H : List Sp) (M : List Nat) : Prop := ∀ u a b v r, ps = u ++ a :: b :: v → rk l (a, b) = some r → (⟨r, off u, a, b⟩ : Sp) ∈ H ∨ off u ∈ M ∨ off u + a.length ∈ M
structure Inv (l : List Pr) (n : Nat) (ps : List T) (H : List Sp) : Prop where
  full : Full ps
  len : off ps = n
  sound : Sound l n H
  cov : Cov l ps H []
def Fits (q : List T) (s : Sp) : Prop := ∃ u v, q = u ++ s.a :: s.b :: v ∧ off u = s.pl
structure InR (l : List Pr) (n : Nat) (ps0 : List T) (r : Nat) (A B : T) (pre suf : List T) (H : List Sp) (M : List Nat) : Prop where
  full : Full (pre ++ suf)
  len : off (pre ++ suf) = n
  sound : Sound l n H
  cov : Cov l (pre ++ suf) H M
  low : ∀ s ∈ H, r ≤ s.rank
  h1 : pass A B ps0 = pre ++ pass A B suf
  h2 : ∀ u v, pre ++ suf = u ++ A :: B :: v → pre.length ≤ u.length
  mok : ∀ m ∈ M, A ≠ [] ∧ B ≠ [] ∧ ∃ u v, pre ++ suf = u ++ (A ++ B) :: v ∧ off u = m
  cnt : (pre ++ suf).length + M.length = ps0.length
theorem InR.start {l : List Pr} {n : Nat} {ps : List T} {H : List Sp} {r : Nat} {A B : T} (h : Inv l n ps H) (hl : ∀ s ∈ H, r ≤ s.rank) : InR l n ps r A B [] ps H [] :=
  ⟨h.full, h.len, h.sound, h.cov, hl, rfl, fun u v _ => Nat.zero_le _, fun m hm => (by cases hm), by simp⟩
theorem app_ne_l {A B : T} (h : B ≠ []) : A ++ B ≠ A := fun e => h (by simpa using e)
theorem app_ne_r {A B : T} (h : A ≠ []) : A ++ B ≠ B := fun e => h (by simpa using e)
theorem Sound.mono {l : List Pr} {n : Nat} {H H' : List Sp} (h : Sound l n H) (hs : ∀ s ∈ H', s ∈ H) : Sound l n H' := fun s hm => h s (hs s hm)
theorem InR.bad {l : List Pr} {n : Nat} {ps0 : List T} {r : Nat} {A B : T} {pre suf : List T} {H H' : List Sp} {M : List Nat} {s : Sp} (h : InR l n ps0 r A B pre suf H M) (hp : (s :: H').Perm H) (hb : ¬ Fits (pre ++ suf) s) : InR l n ps0 r A B pre suf H' M := by
  have hm : ∀ t ∈ H', t ∈ H := fun t ht => hp.mem_iff.1 (List.mem_cons_of_mem _ ht)
  refine ⟨h.full, h.len, h.sound.mono hm, fun u a b v r' e hr => ?_, fun t ht => h.low t (hm t ht), h.h1, h.h2, h.mok, h.cnt⟩
  rcases h.cov u a b v r' e hr with g | g
  · rcases List.mem_cons.1 (hp.mem_iff.2 g) with g | g
    · exact absurd ⟨u, v, by rw [← g]; exact e, by rw [← g]⟩ hb
    · exact .inl g
  · exact .inr g
theorem InR.good {l : List Pr} {n : Nat} {ps0 : List T} {r : Nat} {A B : T} {pre suf : List T} {H H' : List Sp} {M : List Nat} {s : Sp} (hr : rk l (A, B) = some r) (h : InR l n ps0 r A B pre suf H M) (hp : (s :: H').Perm H) (hmin : ∀ t ∈ H, ¬ spLt t s) (hs : s.rank = r)
    {u v : List T} (hq : pre ++ suf = u ++ s.a :: s.b :: v) (ho : off u = s.pl) : s.a = A ∧ s.b = B ∧ ∃ pre' suf', pre' ++ suf' = u ++ (A ++ B) :: v ∧ InR l n ps0 r A B pre' suf' H' (M ++ [s.pl]) := by
  have hsm : s ∈ H := hp.mem_iff.1 List.mem_cons_self
  have hm : ∀ t ∈ H', t ∈ H := fun t ht => hp.mem_iff.1 (List.mem_cons_of_mem _ ht)
  have hsr := (h.sound s hsm).1
  rw [hs] at hsr
  have hpair := rk_inj hsr hr
  simp only [Prod.mk.injEq] at hpair
  obtain ⟨ea, eb⟩ := hpair
  rw [ea, eb] at hq
  refine ⟨ea, eb, ?_⟩
  have hfq : Full (u ++ A :: B :: v) := hq ▸ h.full
  have hA : A ≠ [] := hfq.mid
  have hB : B ≠ [] := hfq B (by simp)
  have lA := len_pos hA
  have lB := len_pos hB
  -- the rest begins in 'suf'
  obtain ⟨u', hu⟩ : ∃ u', u = pre ++ u' := by
    have hle := h.h2 u v hq
    have : pre <+: u := List.prefix_of_prefix_length_le (l₃ := pre ++ suf) (List.prefix_append _ _) (by rw [hq]; exact List.prefix_append _ _) hle
    obtain ⟨t, ht⟩ := this
    exact ⟨t, ht.symm⟩
  have hsuf : suf = u' ++ A :: B :: v := by
    rw [hu, List.append_assoc] at hq
    exact List.append_cancel_left hq
  -- no pair ahead of it
  have early : ∀ x y, pre ++ suf = x ++ A :: B :: y → off u ≤ off x := fun x y e => by
    have touched : off x ∉ M ∧ off x + A.length ∉ M := by
      constructor
      · intro hx
        obtain ⟨_, _, x', y', e', ho'⟩ := h.mok _ hx
        exact app_ne_l hB (place h.full e' e (by omega)).2.1
      · intro hx
        obtain ⟨_, _, x', y', e', ho'⟩ := h.mok _ hx
        have e2 : pre ++ suf = (x ++ [A]) ++ B :: y := by rw [e]; simp
        exact app_ne_r hA (place h.full e' e2 (by rw [ho', off_snoc, off_nil]; rfl)).2.1
    rcases h.cov x A B y r e hr with g | g | g
    · have := hmin _ g
      unfold spLt at this
      simp only at this
      omega
    · exact absurd g touched.1
    · exact absurd g touched.2
  have hno : NoAdj A B (u' ++ [A]) := fun x y e => by
    have e2 : pre ++ suf = (pre ++ x) ++ A :: B :: (y ++ B :: v) := by
      rw [hsuf, show u' ++ A :: B :: v = (u' ++ [A]) ++ B :: v from by simp, e]; simp
    have g := early _ _ e2
    have ho2 : off (u' ++ [A]) = off x + A.length + (B.length + off y) := by rw [e, off_snoc, off_cons]
    rw [off_snoc, off_nil] at ho2
    rw [hu, off_app, off_app] at g
    omega
  refine ⟨pre ++ u' ++ [A ++ B], v, by rw [hu]; simp, ?_⟩
  have hq' : pre ++ u' ++ [A ++ B] ++ v = u ++ (A ++ B) :: v := by rw [hu]; simp
  have hf' : Full (u ++ (A ++ B) :: v) := fun p hp => by
    rcases List.mem_append.1 hp with g | g
    · exact hfq p (List.mem_append_left _ g)
    · rcases List.mem_cons.1 g with g | g
      · rw [g]; intro e; exact hA (List.append_eq_nil_iff.1 e).1
      · exact hfq p (by simp [g])
  refine ⟨by rw [hq']; exact hf', ?_, h.sound.mono hm, ?_, fun t ht => h.low t (hm t ht), ?_, ?_, ?_, ?_⟩
  · rw [hq', ← h.len, hq, off_snoc, off_snoc, off_cons, List.length_append]; omega
  · rw [hq']
    intro x a b y r' e hr'
    rw [List.mem_append, List.mem_append, List.mem_singleton, List.mem_singleton]
    have old : ∀ {x' y' : List T}, pre ++ suf = x' ++ a :: b :: y' → off x' ≠ off u → ((⟨r', off x', a, b⟩ : Sp) ∈ H' ∨ (off x' ∈ M ∨ off x' = s.pl) ∨ (off x' + a.length ∈ M ∨ off x' + a.length = s.pl)) := fun e2 hne => by
      rcases h.cov _ a b _ r' e2 hr' with g | g | g
      · rcases List.mem_cons.1 (hp.mem_iff.2 g) with g | g
        · have := congrArg Sp.pl g; simp only at this; omega
        · exact .inl g
      · exact .inr (.inl (.inl g))
      · exact .inr (.inr (.inl g))
    rcases adj_cases e.symm with ⟨p', g1, g2⟩ | ⟨g1, g2, g3⟩ | ⟨g1, g2, g3⟩ | ⟨x', g1, g2⟩
    · have ha : 0 < a.length := len_pos (hfq a (by rw [g1]; simp))
      exact old (x' := x) (y' := p' ++ A :: B :: v) (by rw [hq, g1]; simp) (by rw [g1, off_snoc]; omega)
    · refine .inr (.inr (.inr ?_))
      rw [← ho, g1, off_snoc, off_nil]; rfl
    · exact .inr (.inl (.inr (by rw [g1, ho])))
    · have hx : off x = off (u ++ A :: B :: x') := by rw [g1, off_snoc, off_snoc, off_cons, List.length_append]; omega
      rw [hx]
      exact old (x' := u ++ A :: B :: x') (y' := y) (by rw [hq, g2]; simp) (by rw [off_snoc]; omega)
  · rw [h.h1, hsuf, pass_at hno]; simp
  · rw [hq']
    intro x y e
    rcases adj_cases e.symm with ⟨p', g1, g2⟩ | ⟨g1, g2, g3⟩ | ⟨g1, g2, g3⟩ | ⟨x', g1, g2⟩
    · have := early x (p' ++ A :: B :: v) (by rw [hq, g1]; simp)
      rw [g1, off_snoc] at this; omega
    · exact absurd g2.symm (app_ne_r hA)
    · exact absurd g2.symm (app_ne_l hB)
    · rw [g1, hu]; simp
  · rw [hq']
    intro m hm'
    refine ⟨hA, hB, ?_⟩
    rcases List.mem_append.1 hm' with g | g
    · obtain ⟨_, _, x, y, e, ho'⟩ := h.mok m g
      rw [hq] at e
      rcases app_cases e.symm with ⟨p', g1, g2⟩ | ⟨g1, g2, g3⟩ | ⟨x', g1, g2⟩
      · exact ⟨x, p' ++ (A ++ B) :: v, by rw [g1]; simp, ho'⟩
      · exact absurd g2 (app_ne_l hB)
      · cases x' with
        | nil =>
          simp only [List.nil_append, List.cons.injEq] at g2
          exact absurd g2.1.symm (app_ne_r hA)
        | cons c x' =>
          simp only [List.cons_append, List.cons.injEq] at g2
          obtain ⟨rfl, g2⟩ := g2
          exact ⟨u ++ (A ++ B) :: x', y, by rw [g2]; simp, by rw [← ho', g1, off_snoc, off_snoc, off_cons, List.length_append]; omega⟩
    · rw [List.mem_singleton] at g
      exact ⟨u, v, rfl, by rw [g]; exact ho⟩
  · have := h.cnt
    rw [hq] at this
    rw [hq']
    simp only [List.length_append, List.length_cons, List.length_nil] at this ⊢
    omega
/-- Where no spot of the rank is left the round is whole. -/
theorem InR.finish {l : List Pr} {n : Nat} {ps0 : List T} {r : Nat} {A B : T} {pre suf : List T} {H : List Sp} {M : List Nat} (hr : rk l (A, B) = some r) (h : InR l n ps0 r A B pre suf H M) (hh : ∀ s ∈ H, s.rank ≠ r) : pre ++ suf = pass A B ps0 := by
  have hno : NoAdj A B (pre ++ suf) := fun x y e => by
    have hf := h.full
    rw [e] at hf
    have hA : A ≠ [] := hf.mid
    have hB : B ≠ [] := hf B (by simp)
    rcases h.cov x A B y r e hr with g | g | g
    · exact hh _ g rfl
    · obtain ⟨_, _, x', y', e', ho'⟩ := h.mok _ g
      exact app_ne_l hB (place h.full e' e (by omega)).2.1
    · obtain ⟨_, _, x', y', e', ho'⟩ := h.mok _ g
      have e2 : pre ++ suf = (x ++ [A]) ++ B :: y := by rw [e]; simp
      exact app_ne_r hA (place h.full e' e2 (by rw [ho', off_snoc, off_nil]; rfl)).2.1
  rw [h.h1, pass_none (ps := suf) (fun u v e => hno (pre ++ u) v (by rw [e]; simp))]
theorem Inv.least {l : List Pr} {n : Nat} {ps : List T} {H : List Sp} {r : Nat} (h : Inv l n ps H) (hl : ∀ s ∈ H, r ≤ s.rank) : ∀ r', HasPair l ps r' → r ≤ r' := fun r' ⟨u, a, b, v, e, hr⟩ => by
  rcases h.cov u a b v r' e hr with g | g | g
  · exact hl _ g
  · cases g
  · cases g
end Go.Proofs.Ytnpkpcjiebiplaa
