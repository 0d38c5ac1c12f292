/-
  Layer 18: plain: bases of nodes whose parents stand ahead; logs and paths; the nodes in another order.
-/
import Derived.Test.YtfenbhaehkkkeaaGr17
namespace Go.Proofs.Ytfenbhaehkkkeaa
open Go Go.SL
theorem come_one {G : PG} {f y : T} : Come G [f] y ↔ f ∈ G.ks ∧ Path G f y :=
  ⟨fun ⟨g, h1, h2, h3⟩ => by rw [List.mem_singleton.1 h1] at h2 h3; exact ⟨h2, h3⟩, fun ⟨h1, h2⟩ => ⟨f, List.mem_singleton.2 rfl, h1, h2⟩⟩
theorem come_any {G : PG} {fs : List T} {y : T} : Come G fs y ↔ ∃ f ∈ fs, Come G [f] y :=
  ⟨fun ⟨f, h1, h2, h3⟩ => ⟨f, h1, come_one.2 ⟨h2, h3⟩⟩, fun ⟨f, h1, h⟩ => ⟨f, h1, (come_one.1 h).1, (come_one.1 h).2⟩⟩
theorem come_trans {G : PG} {a b c : T} (hc : Closed G) (h : Come G [b] a) (g : Come G [c] b) : Come G [c] a := g.path (come_one.1 h).2
theorem base_comm {G : PG} {a b k : T} : BaseP G a b k ↔ BaseP G b a k := by
  unfold BaseP Common
  constructor
  · rintro ⟨⟨h1, h2⟩, h3⟩
    exact ⟨⟨h2, h1⟩, fun ⟨c, ⟨g1, g2⟩, g3⟩ => h3 ⟨c, ⟨g2, g1⟩, g3⟩⟩
  · rintro ⟨⟨h1, h2⟩, h3⟩
    exact ⟨⟨h2, h1⟩, fun ⟨c, ⟨g1, g2⟩, g3⟩ => h3 ⟨c, ⟨g2, g1⟩, g3⟩⟩
/-- Of a node and one that it is come to from, the base is that node. -/
theorem base_up {G : PG} (hc : Closed G) (hz : ∀ z, ¬ Cyc G z) {x y k : T} (h : Come G [y] x) : BaseP G x y k ↔ k = x := by
  have hxk : x ∈ G.ks := h.mem hc
  have hxx : Common G x y x := ⟨come_one.2 ⟨hxk, .refl _⟩, h⟩
  unfold BaseP
  constructor
  · rintro ⟨⟨h1, h2⟩, h3⟩
    rcases (come_one.1 h1).2.first with e | ⟨p, g1, g2, g3⟩
    · exact e.symm
    · exact absurd ⟨x, hxx, p, g2, g3⟩ h3
  · rintro rfl
    refine ⟨hxx, ?_⟩
    rintro ⟨c, ⟨g1, g2⟩, p, g3, g4⟩
    exact hz c ⟨g1.mem hc, p, g3, g4.trans (come_one.1 g1).2⟩
/-- No base is come to from another one. -/
theorem base_apart {G : PG} {x y a b : T} (ha : BaseP G x y a) (hb : BaseP G x y b) (hne : a ≠ b) : ¬ Come G [b] a := fun h => by
  rcases (come_one.1 h).2.first with e | ⟨p, g1, g2, g3⟩
  · exact hne e.symm
  · exact ha.2 ⟨b, hb.1, p, g2, g3⟩
/-- Each common ancestor is come to from a base. -/
theorem base_below {L : List Nd} (hn : (ids L).Nodup) (hb : Back L) {x y : T} : ∀ (d i : Nat), L.length - i ≤ d → i < L.length → Common (gOf L) x y L[i]!.1 → ∃ k, BaseP (gOf L) x y k ∧ Come (gOf L) [k] L[i]!.1 := by
  have hc := hb.closed hn
  intro d
  induction d with
  | zero => intro i h1 h2; omega
  | succ d ih =>
    intro i h1 hi hcm
    by_cases hbs : BaseP (gOf L) x y L[i]!.1
    · exact ⟨_, hbs, come_one.2 ⟨mem_ids.2 ⟨i, hi, rfl⟩, .refl _⟩⟩
    · obtain ⟨c, g1, p, g2, g3⟩ : ∃ c, Common (gOf L) x y c ∧ ∃ p ∈ (gOf L).pars c, Path (gOf L) p L[i]!.1 := Classical.byContradiction fun g => hbs ⟨hcm, g⟩
      have hck : c ∈ ids L := g1.1.mem hc
      obtain ⟨j, hj, rfl⟩ := mem_ids.1 hck
      obtain ⟨q, hq, eq⟩ := hb j hj p ((pars_at hn hj).1 g2)
      obtain ⟨r, hr, er⟩ := hb.path hn g3 q (by omega) eq
      have hri := ids_inj hn (by omega) hi er
      obtain ⟨k, k1, k2⟩ := ih j (by omega) hj g1
      exact ⟨k, k1, k2.path (.step hck g2 g3)⟩
/-- In a log, what is come to from a node stands behind it. -/
theorem log_path {G : PG} {A : T → Prop} {out : List T} (hA : ∀ x, A x → x ∈ G.ks) (hA2 : ∀ x y, A x → Path G x y → A y) (h : Kahn G A [] out) : ∀ (k : Nat), k < out.length → ∀ x, A x → Path G x out[k]! → x ∈ out.take (k + 1) := by
  intro k
  induction k using Nat.strongRecOn with
  | _ k ih =>
    intro hk x hx hp
    have hsp : out = out.take k ++ out[k]! :: out.drop (k + 1) := by rw [← drop_get hk, List.take_append_drop]
    rcases hp.last with e | ⟨c, g1, g2, g3⟩
    · rw [e, take_snoc' hk]; exact List.mem_append_right _ (List.mem_singleton.2 rfl)
    · have hcu := h.order _ _ _ hsp c (hA2 x c hx g1) g3
      obtain ⟨j, hj, e⟩ := mem_get! hcu
      rw [List.length_take] at hj
      have e2 : out[j]! = c := by
        rw [← e, getElem!_pos (out.take k) j (by rw [List.length_take]; omega), List.getElem_take, ← getElem!_pos out j (by omega)]
      have := ih j (by omega) (by omega) x hx (by rw [e2]; exact g1)
      rw [show out.take (j + 1) = (out.take (k + 1)).take (j + 1) from by rw [List.take_take, Nat.min_eq_left (by omega)]] at this
      exact List.mem_of_mem_take this
end Go.Proofs.Ytfenbhaehkkkeaa
