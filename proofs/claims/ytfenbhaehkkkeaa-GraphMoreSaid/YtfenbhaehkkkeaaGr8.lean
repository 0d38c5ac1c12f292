/-
  Layer 18: the log.
-/
import Derived.Test.YtfenbhaehkkkeaaGr7
namespace Go.Proofs.Ytfenbhaehkkkeaa
open Go Go.SL
/-! ### plain -/
def rem (G : PG) (al done : List T) (p : T) : Nat := ((al.filter fun c => decide (c ∉ done)).flatMap G.pars).count p
theorem rem_zero {G : PG} {al done : List T} {p : T} : rem G al done p = 0 ↔ ∀ c ∈ al, c ∉ done → p ∉ G.pars c := by
  unfold rem
  rw [List.count_eq_zero]
  constructor
  · intro h c hc hd hp
    exact h (List.mem_flatMap.2 ⟨c, List.mem_filter.2 ⟨hc, decide_eq_true hd⟩, hp⟩)
  · intro h hm
    obtain ⟨c, hc, hp⟩ := List.mem_flatMap.1 hm
    have := List.mem_filter.1 hc
    exact h c this.1 (of_decide_eq_true this.2) hp
theorem rem_step {G : PG} {al done : List T} {n p : T} (hn : al.Nodup) (h1 : n ∈ al) (h2 : n ∉ done) : rem G al done p = (G.pars n).count p + rem G al (done ++ [n]) p := by
  have hp : (al.filter fun c => decide (c ∉ done)).Perm (n :: al.filter fun c => decide (c ∉ done ++ [n])) := by
    rw [List.perm_ext_iff_of_nodup (hn.filter _) (List.nodup_cons.2 ⟨fun h => by
      have := of_decide_eq_true (List.mem_filter.1 h).2
      exact this (List.mem_append_right _ (List.mem_singleton.2 rfl)), hn.filter _⟩)]
    intro a
    rw [List.mem_cons, List.mem_filter, List.mem_filter, decide_eq_true_eq, decide_eq_true_eq, List.mem_append, List.mem_singleton]
    constructor
    · rintro ⟨g1, g2⟩
      by_cases e : a = n
      · exact .inl e
      · exact .inr ⟨g1, fun h => h.elim g2 e⟩
    · rintro (rfl | ⟨g1, g2⟩)
      · exact ⟨h1, h2⟩
      · exact ⟨g1, fun h => g2 (.inl h)⟩
  unfold rem
  rw [(hp.flatMap_right G.pars).count_eq, List.flatMap_cons, List.count_append]
structure LogAt (G : PG) (A : T → Prop) (gm : GoMap T Nv) (done : List T) (H : List Nv) : Prop where
  dn : done.Nodup
  sub : ∀ x ∈ done, A x
  ord : ∀ d ∈ done, ∀ c, A c → c ∉ done → d ∉ G.pars c
  hn : (H.map (·.1)).Nodup
  hq : ∀ q ∈ H, gm.get q.1 = some q
  hs : ∀ x, x ∈ H.map (·.1) ↔ Free G A done x
/-- While a node's parents are gone through. -/
structure LogIn (G : PG) (A : T → Prop) (gm : GoMap T Nv) (al done : List T) (n : T) (k : Nat) (H : List Nv) : Prop where
  hn : (H.map (·.1)).Nodup
  hq : ∀ q ∈ H, gm.get q.1 = some q
  hs : ∀ x, x ∈ H.map (·.1) ↔ A x ∧ x ∉ done ++ [n] ∧ ((G.pars n).drop k).count x + rem G al (done ++ [n]) x = 0
theorem free_rem {G : PG} {A : T → Prop} {al done : List T} (ha : ∀ x, x ∈ al ↔ A x) {x : T} : Free G A done x ↔ A x ∧ x ∉ done ∧ rem G al done x = 0 := by
  unfold Free
  rw [rem_zero]
  exact ⟨fun ⟨h1, h2, h3⟩ => ⟨h1, h2, fun c hc => h3 c ((ha c).1 hc)⟩, fun ⟨h1, h2, h3⟩ => ⟨h1, h2, fun c hc => h3 c ((ha c).2 hc)⟩⟩
/-- The first one of the heap is the first that is free. -/
theorem LogAt.first {G : PG} {A : T → Prop} {gm : GoMap T Nv} {done : List T} {H : List Nv} {n : Nv} (hG : MapG gm G) (h : LogAt G A gm done H) (hm : n ∈ H) (hl : ∀ t ∈ H, ¬ ndLt t n) : First G A done n.1 := by
  refine ⟨(h.hs n.1).1 (List.mem_map_of_mem hm), fun y hy => ?_⟩
  obtain ⟨t, ht, rfl⟩ := List.mem_map.1 ((h.hs y).2 hy)
  have e1 := (hG.nd _ _ (h.hq n hm)).2
  have e2 := (hG.nd _ _ (h.hq t ht)).2
  have h3 := hl t ht
  unfold ndLt at h3
  unfold Ahead
  rw [← e1, ← e2]
  rcases tlt_tri t.1 n.1 with g | g | g
  · right; left
    refine Int.lt_of_not_ge fun hge => ?_
    by_cases e : t.2.2 = n.2.2
    · exact h3 (.inr ⟨e, g⟩)
    · exact h3 (.inl (by omega))
  · exact .inl g
  · right
    by_cases e : n.2.2 = t.2.2
    · exact .inr ⟨e, g⟩
    · exact .inl (by
        refine Int.lt_of_not_ge fun hge => h3 (.inl (by omega)))
theorem LogAt.take {G : PG} {A : T → Prop} {gm : GoMap T Nv} {al done : List T} {H ys : List Nv} {n : Nv} (hal : al.Nodup) (ha : ∀ x, x ∈ al ↔ A x) (h : LogAt G A gm done H) (hp : (n :: ys).Perm H) : LogIn G A gm al done n.1 0 ys := by
  have hf : Free G A done n.1 := (h.hs n.1).1 (List.mem_map_of_mem (hp.mem_iff.1 List.mem_cons_self))
  have hnd : ((n :: ys).map (·.1)).Nodup := (hp.map _).nodup_iff.2 h.hn
  rw [List.map_cons, List.nodup_cons] at hnd
  refine ⟨hnd.2, fun q hq => h.hq q (hp.mem_iff.1 (List.mem_cons_of_mem _ hq)), fun x => ?_⟩
  have hx : x ∈ (n :: ys).map (·.1) ↔ Free G A done x := ((hp.map (·.1)).mem_iff).trans (h.hs x)
  rw [List.map_cons, List.mem_cons, free_rem ha, rem_step hal ((ha n.1).2 hf.1) hf.2.1] at hx
  rw [List.drop_zero, List.mem_append, List.mem_singleton]
  constructor
  · intro hm
    obtain ⟨g1, g2, g3⟩ := hx.1 (.inr hm)
    exact ⟨g1, fun e => e.elim g2 (fun e => hnd.1 (e ▸ hm)), g3⟩
  · rintro ⟨g1, g2, g3⟩
    rcases hx.2 ⟨g1, fun e => g2 (.inl e), g3⟩ with e | e
    · exact absurd (.inr e) g2
    · exact e
theorem LogIn.next {G : PG} {A : T → Prop} {gm : GoMap T Nv} {al done : List T} {n p : T} {k : Nat} {H H2 : List Nv} (h : LogIn G A gm al done n k H) (hk : (G.pars n).drop k = p :: (G.pars n).drop (k + 1)) (hA : A p) (hpd : p ∉ done ++ [n])
    (h2 : (((G.pars n).drop (k + 1)).count p + rem G al (done ++ [n]) p = 0 ∧ ∃ q, gm.get p = some q ∧ q.1 = p ∧ H2.Perm (H ++ [q])) ∨ (((G.pars n).drop (k + 1)).count p + rem G al (done ++ [n]) p ≠ 0 ∧ H2 = H)) : LogIn G A gm al done n (k + 1) H2 := by
  have hnp : p ∉ H.map (·.1) := fun hm => by
    have := ((h.hs p).1 hm).2.2
    rw [hk, List.count_cons_self] at this; omega
  have oth : ∀ x, x ≠ p → ((G.pars n).drop k).count x = ((G.pars n).drop (k + 1)).count x := fun x hx => by rw [hk, List.count_cons_of_ne (fun e => hx e.symm)]
  rcases h2 with ⟨h0, q, hq, hqp, hperm⟩ | ⟨h0, rfl⟩
  · have hm : ∀ x, x ∈ H2.map (·.1) ↔ x ∈ H.map (·.1) ∨ x = p := fun x => by
      rw [(hperm.map (·.1)).mem_iff, List.map_append, List.mem_append, List.map_singleton, List.mem_singleton, hqp]
    refine ⟨?_, fun r hr => ?_, fun x => ?_⟩
    · rw [(hperm.map (·.1)).nodup_iff, List.map_append, List.map_singleton, List.nodup_append]
      exact ⟨h.hn, by simp, fun a ha b hb => by rw [List.mem_singleton.1 hb, hqp]; rintro rfl; exact hnp ha⟩
    · rcases List.mem_append.1 (hperm.mem_iff.1 hr) with g | g
      · exact h.hq r g
      · rw [List.mem_singleton.1 g, hqp]; exact hq
    · rw [hm, h.hs]
      by_cases e : x = p
      · subst e
        exact ⟨fun _ => ⟨hA, hpd, h0⟩, fun _ => .inr rfl⟩
      · rw [oth x e]
        exact ⟨fun g => g.elim id (fun g => absurd g e), fun g => .inl g⟩
  · refine ⟨h.hn, h.hq, fun x => ?_⟩
    rw [h.hs]
    by_cases e : x = p
    · subst e
      exact ⟨fun g => absurd ((h.hs x).2 g) hnp, fun g => absurd g.2.2 h0⟩
    · rw [oth x e]
theorem LogIn.done {G : PG} {A : T → Prop} {gm : GoMap T Nv} {al done : List T} {n : T} {H H0 : List Nv} (ha : ∀ x, x ∈ al ↔ A x) (h0 : LogAt G A gm done H0) (hf : Free G A done n) (h : LogIn G A gm al done n (G.pars n).length H) : LogAt G A gm (done ++ [n]) H := by
  refine ⟨?_, fun x hx => ?_, fun d hd c hc hcd => ?_, h.hn, h.hq, fun x => ?_⟩
  · rw [List.nodup_append]
    exact ⟨h0.dn, by simp, fun a ha b hb => by rw [List.mem_singleton.1 hb]; rintro rfl; exact hf.2.1 ha⟩
  · rcases List.mem_append.1 hx with g | g
    · exact h0.sub x g
    · rw [List.mem_singleton.1 g]; exact hf.1
  · have hcd' : c ∉ done := fun e => hcd (List.mem_append_left _ e)
    rcases List.mem_append.1 hd with g | g
    · exact h0.ord d g c hc hcd'
    · rw [List.mem_singleton.1 g]; exact hf.2.2 c hc hcd'
  · rw [h.hs, free_rem ha, List.drop_length]
    simp
theorem LogAt.size {G : PG} {A : T → Prop} {gm : GoMap T Nv} {done : List T} {H : List Nv} (hA : ∀ x, A x → x ∈ G.ks) (h : LogAt G A gm done H) : H.length ≤ G.ks.length := by
  have := nodup_len' h.hn (l' := G.ks) (fun x hx => hA x ((h.hs x).1 hx).1)
  rwa [List.length_map] at this
theorem LogIn.size {G : PG} {A : T → Prop} {gm : GoMap T Nv} {al done : List T} {n : T} {k : Nat} {H : List Nv} (hA : ∀ x, A x → x ∈ G.ks) (h : LogIn G A gm al done n k H) : H.length ≤ G.ks.length := by
  have := nodup_len' h.hn (l' := G.ks) (fun x hx => hA x ((h.hs x).1 hx).1)
  rwa [List.length_map] at this
end Go.Proofs.Ytfenbhaehkkkeaa
