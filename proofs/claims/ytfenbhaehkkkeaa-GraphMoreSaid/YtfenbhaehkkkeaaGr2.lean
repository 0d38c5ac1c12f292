/-
  Layer 18: plain: what is come to; logs; cycles.
-/
import Derived.Test.YtfenbhaehkkkeaaGr1
namespace Go.Proofs.Ytfenbhaehkkkeaa
open Go Go.SL
structure PG where
  ks : List T
  pars : T → List T
  time : T → Int
inductive Path (G : PG) : T → T → Prop
  | refl (x : T) : Path G x x
  | step {x p y : T} (hx : x ∈ G.ks) (hp : p ∈ G.pars x) (h : Path G p y) : Path G x y
def Closed (G : PG) : Prop := ∀ x ∈ G.ks, ∀ p ∈ G.pars x, p ∈ G.ks
def Come (G : PG) (fs : List T) (y : T) : Prop := ∃ f ∈ fs, f ∈ G.ks ∧ Path G f y
theorem Path.trans {G : PG} {x y z : T} (h : Path G x y) (k : Path G y z) : Path G x z := by
  induction h with
  | refl => exact k
  | step hx hp _ ih => exact .step hx hp (ih k)
theorem Path.last {G : PG} {x y : T} (h : Path G x y) : x = y ∨ ∃ c, Path G x c ∧ c ∈ G.ks ∧ y ∈ G.pars c := by
  induction h with
  | refl => exact .inl rfl
  | step hx hp k ih =>
    rcases ih with rfl | ⟨c, h1, h2, h3⟩
    · exact .inr ⟨_, .refl _, hx, hp⟩
    · exact .inr ⟨c, .step hx hp h1, h2, h3⟩
theorem Path.first {G : PG} {x y : T} (h : Path G x y) : x = y ∨ ∃ p, x ∈ G.ks ∧ p ∈ G.pars x ∧ Path G p y := by
  cases h with
  | refl => exact .inl rfl
  | step hx hp k => exact .inr ⟨_, hx, hp, k⟩
theorem Path.mem {G : PG} (hc : Closed G) {x y : T} (h : Path G x y) : x ∈ G.ks → y ∈ G.ks := by
  induction h with
  | refl => exact id
  | step hx hp _ ih => exact fun _ => ih (hc _ hx _ hp)
theorem Come.mem {G : PG} (hc : Closed G) {fs : List T} {y : T} (h : Come G fs y) : y ∈ G.ks := by
  obtain ⟨f, _, h1, h2⟩ := h
  exact h2.mem hc h1
theorem Come.path {G : PG} {fs : List T} {x y : T} (h : Come G fs x) (k : Path G x y) : Come G fs y := by
  obtain ⟨f, h0, h1, h2⟩ := h
  exact ⟨f, h0, h1, h2.trans k⟩
/-- What holds of the beginnings and goes on to parents holds of all that is come to. -/
theorem Come.all {G : PG} {fs : List T} {M : T → Prop} (h0 : ∀ f ∈ fs, f ∈ G.ks → M f) (h1 : ∀ x, x ∈ G.ks → M x → ∀ p ∈ G.pars x, M p) {y : T} (h : Come G fs y) : M y := by
  obtain ⟨f, hf, hk, hp⟩ := h
  have key : ∀ {x y : T}, Path G x y → M x → M y := fun h => by
    induction h with
    | refl => exact id
    | step hx hp _ ih => exact fun hm => ih (h1 _ hx hm _ hp)
  exact key hp (h0 f hf hk)
def Cyc (G : PG) (z : T) : Prop := z ∈ G.ks ∧ ∃ p ∈ G.pars z, Path G p z
/-! ### logs -/
def Free (G : PG) (A : T → Prop) (done : List T) (x : T) : Prop := A x ∧ x ∉ done ∧ ∀ c, A c → c ∉ done → x ∉ G.pars c
def Ahead (G : PG) (x y : T) : Prop := G.time y < G.time x ∨ (G.time x = G.time y ∧ x < y)
def First (G : PG) (A : T → Prop) (done : List T) (x : T) : Prop := Free G A done x ∧ ∀ y, Free G A done y → y = x ∨ Ahead G x y
inductive Kahn (G : PG) (A : T → Prop) : List T → List T → Prop
  | stop {done : List T} (h : ∀ x, ¬ Free G A done x) : Kahn G A done done
  | step {done out : List T} {x : T} (h : First G A done x) (k : Kahn G A (done ++ [x]) out) : Kahn G A done out
theorem Ahead.asymm {G : PG} {x y : T} (h : Ahead G x y) (h' : Ahead G y x) : False := by
  rcases h with h | ⟨h1, h2⟩ <;> rcases h' with g | ⟨g1, g2⟩
  · omega
  · omega
  · omega
  · exact List.lt_irrefl _ (List.lt_trans h2 g2)
theorem First.uniq {G : PG} {A : T → Prop} {done : List T} {x y : T} (h : First G A done x) (h' : First G A done y) : x = y := by
  rcases h.2 y h'.1 with e | g
  · exact e.symm
  · rcases h'.2 x h.1 with e | g'
    · exact e
    · exact (g.asymm g').elim
theorem Kahn.uniq {G : PG} {A : T → Prop} {done a b : List T} (h : Kahn G A done a) (h' : Kahn G A done b) : a = b := by
  induction h with
  | stop hn =>
    cases h' with
    | stop => rfl
    | step g => exact absurd g.1 (hn _)
  | step g k ih =>
    cases h' with
    | stop hn => exact absurd g.1 (hn _)
    | step g' k' =>
      have e := g.uniq g'
      subst e
      exact ih k'
/-- What holds at each step of a log. -/
theorem Kahn.inv {G : PG} {A : T → Prop} {J : List T → Prop} (hs : ∀ done x, J done → Free G A done x → J (done ++ [x])) {done out : List T} (h : Kahn G A done out) : J done → J out ∧ ∀ x, ¬ Free G A out x := by
  induction h with
  | stop hn => exact fun h => ⟨h, hn⟩
  | step g k ih => exact fun h => ih (hs _ _ h g.1)
theorem Kahn.nodup {G : PG} {A : T → Prop} {out : List T} (h : Kahn G A [] out) : out.Nodup ∧ ∀ x ∈ out, A x := by
  refine (h.inv (J := fun d => d.Nodup ∧ ∀ x ∈ d, A x) (fun d x hd hf => ⟨?_, fun y hy => ?_⟩) ⟨List.nodup_nil, fun x hx => by cases hx⟩).1
  · rw [List.nodup_append]
    refine ⟨hd.1, by simp, fun a ha b hb => ?_⟩
    rw [List.mem_singleton.1 hb]
    rintro rfl
    exact hf.2.1 ha
  · rcases List.mem_append.1 hy with g | g
    · exact hd.2 y g
    · rw [List.mem_singleton.1 g]; exact hf.1
/-- No parent stands ahead of its child. -/
theorem Kahn.order {G : PG} {A : T → Prop} {out : List T} (h : Kahn G A [] out) : ∀ u v x, out = u ++ x :: v → ∀ c, A c → x ∈ G.pars c → c ∈ u := by
  refine (h.inv (J := fun d => ∀ u v x, d = u ++ x :: v → ∀ c, A c → x ∈ G.pars c → c ∈ u) (fun d y hd hf => ?_) (fun u v x e => by simp at e)).1
  intro u v x e c hc hx
  rcases List.eq_nil_or_concat v with rfl | ⟨v', z, rfl⟩
  · have e2 := List.append_inj' e rfl
    obtain ⟨rfl, h2⟩ := e2
    simp only [List.cons.injEq, and_true] at h2
    subst h2
    exact Decidable.byContradiction fun g => hf.2.2 c hc g hx
  · rw [List.concat_eq_append, ← List.cons_append, ← List.append_assoc] at e
    have e2 := List.append_inj' e rfl
    exact hd u v' x e2.1 c hc hx
theorem nodup_len' {l l' : List T} (h : l.Nodup) (hs : ∀ x ∈ l, x ∈ l') : l.length ≤ l'.length := nodup_len h hs
/-- Where there is no cycle, all stand in the log. -/
theorem kahn_all {G : PG} {A : T → Prop} (hA : ∀ x, A x → x ∈ G.ks) (hn : ∀ z, ¬ Cyc G z) {done : List T} (hs : ∀ x, ¬ Free G A done x) : ∀ x, A x → x ∈ done := by
  intro x hx
  refine Decidable.byContradiction fun hd => ?_
  have key : ∀ n, ∃ h t, (h :: t).length = n + 1 ∧ (h :: t).Nodup ∧ (∀ y ∈ h :: t, A y ∧ y ∉ done ∧ Path G h y) := by
    intro n
    induction n with
    | zero => exact ⟨x, [], rfl, by simp, fun y hy => by rw [List.mem_singleton.1 hy]; exact ⟨hx, hd, .refl _⟩⟩
    | succ n ih =>
      obtain ⟨h, t, h1, h2, h3⟩ := ih
      have hh := h3 h List.mem_cons_self
      obtain ⟨c, c1, c2, c3⟩ : ∃ c, A c ∧ c ∉ done ∧ h ∈ G.pars c := Classical.byContradiction fun g => hs h ⟨hh.1, hh.2.1, fun c c1 c2 c3 => g ⟨c, c1, c2, c3⟩⟩
      have hck := hA c c1
      refine ⟨c, h :: t, by rw [List.length_cons, h1], List.nodup_cons.2 ⟨fun hm => ?_, h2⟩, fun y hy => ?_⟩
      · exact hn c ⟨hck, h, c3, (h3 c hm).2.2⟩
      · rcases List.mem_cons.1 hy with rfl | hy
        · exact ⟨c1, c2, .refl _⟩
        · exact ⟨(h3 y hy).1, (h3 y hy).2.1, .step hck c3 (h3 y hy).2.2⟩
  obtain ⟨h, t, h1, h2, h3⟩ := key G.ks.length
  have := nodup_len' h2 (fun y hy => hA y (h3 y hy).1)
  omega
/-- What stands on a cycle stands in no log. -/
theorem kahn_cyc {G : PG} {A : T → Prop} (hA : ∀ x y, A x → Path G x y → A y) {out : List T} (h : Kahn G A [] out) {z : T} (hz : Cyc G z) : z ∉ out := by
  have hcyc : ∀ z, Cyc G z → ∃ c, Cyc G c ∧ z ∈ G.pars c ∧ Path G z c := fun z ⟨h1, p, hp, hpz⟩ => by
    rcases hpz.last with rfl | ⟨c, g1, g2, g3⟩
    · exact ⟨p, ⟨h1, p, hp, .refl _⟩, hp, .refl _⟩
    · exact ⟨c, ⟨g2, z, g3, .step h1 hp g1⟩, g3, .step h1 hp g1⟩
  refine (h.inv (J := fun d => ∀ z, Cyc G z → z ∉ d) (fun d x hd hf z hz hm => ?_) (fun z _ h => by cases h)).1 z hz
  rcases List.mem_append.1 hm with g | g
  · exact hd z hz g
  · rw [List.mem_singleton.1 g] at hz
    obtain ⟨c, c1, c2, c3⟩ := hcyc x hz
    exact hf.2.2 c (hA x c hf.1 c3) (hd c c1) c2
/-! ### what is left to be looked at -/
def restSum (G : PG) (out : T → Bool) : Nat := ((G.ks.filter fun x => !out x).map fun x => (G.pars x).length).sum
theorem sum_le {f : T → Nat} : ∀ {l : List T} {p q : T → Bool}, (∀ x, p x = true → q x = true) → ((l.filter p).map f).sum ≤ ((l.filter q).map f).sum
  | [], _, _, _ => Nat.le_refl _
  | a :: l, p, q, h => by
    have ih := sum_le (l := l) h (f := f)
    rw [List.filter_cons, List.filter_cons]
    by_cases hp : p a = true
    · rw [if_pos hp, if_pos (h a hp)]; simp only [List.map_cons, List.sum_cons]; omega
    · rw [if_neg hp]
      split
      · simp only [List.map_cons, List.sum_cons]; omega
      · exact ih
theorem sum_drop {f : T → Nat} : ∀ {l : List T} {p q : T → Bool} {z : T}, z ∈ l → (∀ x, p x = true → q x = true) → p z = false → q z = true → ((l.filter p).map f).sum + f z ≤ ((l.filter q).map f).sum
  | a :: l, p, q, z, hz, h, hp, hq => by
    rw [List.filter_cons, List.filter_cons]
    rcases List.mem_cons.1 hz with rfl | hz
    · rw [if_neg (by simp [hp]), if_pos hq]
      have := sum_le (l := l) h (f := f)
      simp only [List.map_cons, List.sum_cons]; omega
    · have ih := sum_drop (l := l) hz h hp hq (f := f)
      by_cases hpa : p a = true
      · rw [if_pos hpa, if_pos (h a hpa)]; simp only [List.map_cons, List.sum_cons]; omega
      · rw [if_neg hpa]
        split
        · simp only [List.map_cons, List.sum_cons]; omega
        · exact ih
end Go.Proofs.Ytfenbhaehkkkeaa
