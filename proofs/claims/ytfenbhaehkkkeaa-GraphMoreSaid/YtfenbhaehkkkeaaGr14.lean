/-
  Layer 18: what the law's functions have: names, texts, the four nodes.
-/
import Derived.Test.YtfenbhaehkkkeaaGr13
namespace Go.Proofs.Ytfenbhaehkkkeaa
open Go Go.SL
/-- Parents stand ahead in the list. -/
def Back (L : List Nd) : Prop := ∀ i, i < L.length → ∀ p ∈ L[i]!.2.1, ∃ j, j < i ∧ L[j]!.1 = p
theorem Back.closed {L : List Nd} (hn : (ids L).Nodup) (h : Back L) : Closed (gOf L) := (closed_iff hn).2 fun j hj p hp => by
  obtain ⟨k, hk, e⟩ := h j hj p hp
  exact mem_ids.2 ⟨k, by omega, e⟩
theorem Back.path {L : List Nd} (hn : (ids L).Nodup) (h : Back L) {x y : T} (hp : Path (gOf L) x y) : ∀ i, i < L.length → L[i]!.1 = x → ∃ j, j ≤ i ∧ L[j]!.1 = y := by
  induction hp with
  | refl => exact fun i _ e => ⟨i, Nat.le_refl _, e⟩
  | step hx hpp _ ih =>
    intro i hi e
    rw [← e, pars_at hn hi] at hpp
    obtain ⟨j, hj, e2⟩ := h i hi _ hpp
    obtain ⟨k, hk, e3⟩ := ih j (by omega) e2
    exact ⟨k, by omega, e3⟩
theorem Back.free {L : List Nd} (hn : (ids L).Nodup) (h : Back L) (z : T) : ¬ Cyc (gOf L) z := by
  rintro ⟨hz, p, hp, hpp⟩
  obtain ⟨i, hi, rfl⟩ := mem_ids.1 hz
  rw [pars_at hn hi] at hp
  obtain ⟨j, hj, e⟩ := h i hi p hp
  obtain ⟨k, hk, e2⟩ := h.path hn hpp j (by omega) e
  have := ids_inj hn (by omega) hi e2
  omega
theorem Made.no {L : List Nd} {e : Int} (hn : (ids L).Nodup) (h : Back L) (hm : Made L e) : False := by
  cases hm with
  | dup g => exact g hn
  | lost _ g => exact g (h.closed hn)
  | round _ _ z hz => exact h.free hn z hz
/-! ### the four nodes -/
def tx (l : List Nat) : T := l.map UInt8.ofNat
def L4 : List Nd := [([97], [], 0), ([98], [[97]], 0), ([99], [[97]], 0), ([100], [[98], [99]], 0)]
theorem L4_nodup : (ids L4).Nodup := by decide +kernel
theorem L4_back : Back L4 := by
  have : ∀ i, i < L4.length → ∀ p ∈ L4[i]!.2.1, ∃ j ∈ List.range i, L4[j]!.1 = p := by decide +kernel
  intro i hi p hp
  obtain ⟨j, hj, e⟩ := this i hi p hp
  exact ⟨j, List.mem_range.1 hj, e⟩
theorem come_sub {L : List Nd} (hn : (ids L).Nodup) {fs S : List T} (h0 : ∀ f ∈ fs, f ∈ S) (h1 : ∀ i, i < L.length → L[i]!.1 ∈ S → ∀ p ∈ L[i]!.2.1, p ∈ S) {y : T} (h : Come (gOf L) fs y) : y ∈ S :=
  Come.all (M := fun x => x ∈ S) (fun f hf _ => h0 f hf) (fun x hx hm p hp => by
    obtain ⟨i, hi, rfl⟩ := mem_ids.1 hx
    exact h1 i hi hm p ((pars_at hn hi).1 hp)) h
theorem come_beg {L : List Nd} {fs : List T} {f : T} (hf : f ∈ fs) (hk : f ∈ ids L) : Come (gOf L) fs f := ⟨f, hf, hk, .refl _⟩
theorem come_up {L : List Nd} (hn : (ids L).Nodup) {fs : List T} {i : Nat} {p : T} (hi : i < L.length) (h : Come (gOf L) fs L[i]!.1) (hp : p ∈ L[i]!.2.1) : Come (gOf L) fs p :=
  h.path (.step (mem_ids.2 ⟨i, hi, rfl⟩) ((pars_at hn hi).2 hp) (.refl _))
theorem come_b (k : T) : Come (gOf L4) [[98]] k ↔ k ∈ ([[98], [97]] : List T) := by
  refine ⟨come_sub L4_nodup (by decide) (by decide +kernel), fun h => ?_⟩
  have hb : Come (gOf L4) [[98]] [98] := come_beg (by decide) (by decide)
  simp only [List.mem_cons, List.not_mem_nil, or_false] at h
  rcases h with rfl | rfl
  · exact hb
  · exact come_up L4_nodup (i := 1) (by decide) hb (by decide)
theorem come_c (k : T) : Come (gOf L4) [[99]] k ↔ k ∈ ([[99], [97]] : List T) := by
  refine ⟨come_sub L4_nodup (by decide) (by decide +kernel), fun h => ?_⟩
  have hb : Come (gOf L4) [[99]] [99] := come_beg (by decide) (by decide)
  simp only [List.mem_cons, List.not_mem_nil, or_false] at h
  rcases h with rfl | rfl
  · exact hb
  · exact come_up L4_nodup (i := 2) (by decide) hb (by decide)
theorem come_d (k : T) : Come (gOf L4) [[100]] k ↔ k ∈ ([[100], [98], [99], [97]] : List T) := by
  refine ⟨come_sub L4_nodup (by decide) (by decide +kernel), fun h => ?_⟩
  have hd : Come (gOf L4) [[100]] [100] := come_beg (by decide) (by decide)
  have hb : Come (gOf L4) [[100]] [98] := come_up L4_nodup (i := 3) (by decide) hd (by decide)
  have hc : Come (gOf L4) [[100]] [99] := come_up L4_nodup (i := 3) (by decide) hd (by decide)
  simp only [List.mem_cons, List.not_mem_nil, or_false] at h
  rcases h with rfl | rfl | rfl | rfl
  · exact hd
  · exact hb
  · exact hc
  · exact come_up L4_nodup (i := 1) (by decide) hb (by decide)
theorem base_bc (k : T) : BaseP (gOf L4) [98] [99] k ↔ k ∈ ([[97]] : List T) := by
  have hcm : ∀ k, Common (gOf L4) [98] [99] k ↔ k = [97] := fun k => by
    unfold Common
    rw [come_b, come_c]
    simp only [List.mem_cons, List.not_mem_nil, or_false]
    constructor
    · rintro ⟨rfl | rfl, h⟩
      · exact absurd h (by decide)
      · rfl
    · rintro rfl; exact ⟨.inr rfl, .inr rfl⟩
  unfold BaseP
  rw [hcm, List.mem_singleton]
  refine ⟨fun h => h.1, fun e => ⟨e, ?_⟩⟩
  rintro ⟨c, hc, p, hp, _⟩
  rw [hcm] at hc
  subst hc
  have := (pars_at L4_nodup (i := 0) (by decide)).1 hp
  exact absurd this (by simp [L4])
instance (L : List Nd) (S done : List T) (i n : Nat) : Decidable (FreeTo L (· ∈ S) done i n) := by unfold FreeTo; infer_instance
instance (L : List Nd) (i b : Nat) : Decidable (AheadN L i b) := by unfold AheadN; infer_instance
theorem free_congr {G : PG} {A B : T → Prop} (h : ∀ x, A x ↔ B x) {done : List T} {x : T} : Free G A done x ↔ Free G B done x := by
  unfold Free
  constructor
  · rintro ⟨h1, h2, h3⟩; exact ⟨(h x).1 h1, h2, fun c hc => h3 c ((h c).2 hc)⟩
  · rintro ⟨h1, h2, h3⟩; exact ⟨(h x).2 h1, h2, fun c hc => h3 c ((h c).1 hc)⟩
theorem first_of {L : List Nd} (hn : (ids L).Nodup) {A : T → Prop} {S done : List T} (hS : ∀ x, A x ↔ x ∈ S) (hk : ∀ x ∈ S, x ∈ ids L) {i : Nat} (hi : i < L.length) (h : FreeTo L (· ∈ S) done i L.length ∧ ∀ j, j < L.length → FreeTo L (· ∈ S) done j L.length → j = i ∨ AheadN L i j) : First (gOf L) A done L[i]!.1 := by
  refine ⟨(free_congr hS).2 ((FreeTo.all hn hk).1 h.1), fun y hy => ?_⟩
  have hy' := (free_congr hS).1 hy
  obtain ⟨j, hj, rfl⟩ := mem_ids.1 (hk y hy'.1)
  rcases h.2 j hj ((FreeTo.all hn hk).2 hy') with rfl | g
  · exact .inl rfl
  · exact .inr ((ahead_iff hn hi hj).2 g)
theorem none_of {L : List Nd} (hn : (ids L).Nodup) {A : T → Prop} {S done : List T} (hS : ∀ x, A x ↔ x ∈ S) (hk : ∀ x ∈ S, x ∈ ids L) (h : ∀ j, j < L.length → ¬ FreeTo L (· ∈ S) done j L.length) (x : T) : ¬ Free (gOf L) A done x := fun hy => by
  have hy' := (free_congr hS).1 hy
  obtain ⟨j, hj, rfl⟩ := mem_ids.1 (hk x hy'.1)
  exact h j hj ((FreeTo.all hn hk).2 hy')
theorem log_d : Kahn (gOf L4) (Come (gOf L4) [[100]]) [] [[100], [98], [99], [97]] := by
  have hk : ∀ x ∈ ([[100], [98], [99], [97]] : List T), x ∈ ids L4 := by decide
  refine .step (x := [100]) (first_of L4_nodup come_d hk (i := 3) (by decide) (by decide +kernel)) ?_
  refine .step (x := [98]) (first_of L4_nodup come_d hk (i := 1) (by decide) (by decide +kernel)) ?_
  refine .step (x := [99]) (first_of L4_nodup come_d hk (i := 2) (by decide) (by decide +kernel)) ?_
  refine .step (x := [97]) (first_of L4_nodup come_d hk (i := 0) (by decide) (by decide +kernel)) ?_
  exact .stop (none_of L4_nodup come_d hk (by decide +kernel))
theorem L4_small : ∀ n ∈ L4, n.2.1.length ≤ 100 := by decide
section
variable {R : List RO} {O O' : List Own} {POST : Value → List RO → List Own → Prop} {v : Value} {L : List Nd} {nvs : List Nv}
theorem newOk_spec (hL : NdL v L R) (hn : (ids L).Nodup) (hb : Back L) (h1 : L.length ≤ 1000) (h2 : ∀ n ∈ L, n.2.1.length ≤ 100)
    (hk : ∀ gv p1 p2 p3, OneV gv → GV gv (gOf L) (p1 :: p2 :: p3 :: R) → POST (.tuple #[gv, vi 0]) (p1 :: p2 :: p3 :: R) O) : Fun Try.prog 11 #[v] R O POST :=
  new_spec hL h1 h2 (fun e he => (he.no hn hb).elim) (fun gv p1 p2 p3 _ _ _ h4 _ h5 => hk gv p1 p2 p3 h4 h5)
set_option maxRecDepth 20000 in
theorem texts_spec {xs ys : List T} {av bv : Value} (ha : SlE (SL.one vs) av xs ∈ R) (hb : SlE (SL.one vs) bv ys ∈ R) (h1 : xs.length ≤ 1000000) (h2 : ys.length ≤ 1000000) (hk : POST (.bool (decide (xs = ys))) R O) : Fun Try.prog 15 #[av, bv] R O POST := by
  refine Fun.enter (l := [_, _]) Try.func15 rfl Try.ntmps15 rfl (L0 := [(0, _), (1, _)]) rfl ?_
  refine WC.seq ?_
  refine WC.region ?_
  refine WL.rd rfl rfl rfl (Rd.assign rfl rfl) ?_
  refine WL.nil ?_
  refine thenQ.normal ?_
  refine WC.seq ?_
  refine WC.seq ?_
  refine WC.region ?_
  refine WL.rd rfl rfl rfl (Rd.move rfl rfl) ?_
  refine WL.rd rfl rfl rfl (Rd.lenE (enc := SL.one vs) (xs := xs) rfl rfl Try.underlying28 ha) ?_
  refine WL.rd rfl rfl rfl (Rd.move rfl rfl) ?_
  refine WL.rd rfl rfl rfl (Rd.lenE (enc := SL.one vs) (xs := ys) rfl rfl Try.underlying28 hb) ?_
  refine WL.rd rfl rfl rfl (Rd.neq rfl rfl rfl) ?_
  refine WL.nil ?_
  refine thenQ.normal ?_
  first | refine WC.ite rfl (fun hc1 => ?_) (fun hc1 => ?_) | refine WC.cond rfl (fun hc1 => ?_) (fun hc1 => ?_)
  · skip
    refine WC.seq ?_
    refine WC.region ?_
    refine WL.rd rfl rfl rfl (Rd.assign rfl rfl) ?_
    refine WL.nil ?_
    refine thenQ.normal ?_
    refine WC.ret (Ret.one Try.results15 rfl ?_)
    rw [decide_eq_false (fun e => hc1 (by rw [e]))] at hk
    exact hk
  · skip
    refine WC.skip ?_
    refine thenQ.normal ?_
    refine WC.seq ?_
    refine WC.seq ?_
    refine WC.region ?_
    refine WL.rd rfl rfl rfl (Rd.assign rfl rfl) ?_
    refine WL.nil ?_
    refine thenQ.normal ?_
    refine WC.block ?_
    refine WC.pick [5, 0, 1] (by repeat (first | exact Pick.nil | apply Pick.cons rfl)) ?_
    refine WC.loop1o 1 (fun (i : Nat) => [(5, vi i)]) (fun (i : Nat) => i ≤ xs.length ∧ ∀ j, j < i → xs[j]! = ys[j]!) (fun (i : Nat) => xs.length - i) (0) (by repeat (first | exact Split.zero | apply Split.succ)) ?hinv1 (by repeat (first | exact Sub.nil | refine Sub.cons rfl (by first | rfl | (congr 1; omega) | assumption) ?_)) (fun _ h => h) ?_
    case hinv1 =>
      exact ⟨Nat.zero_le _, fun j h => absurd h (Nat.not_lt_zero _)⟩
    intro i
    rintro ⟨i1, i2⟩
    refine WC.seq ?_
    refine WC.seq ?_
    refine WC.region ?_
    refine WL.rd rfl rfl rfl (Rd.move rfl rfl) ?_
    refine WL.rd rfl rfl rfl (Rd.move rfl rfl) ?_
    refine WL.rd rfl rfl rfl (Rd.lenE (enc := SL.one vs) (xs := xs) rfl rfl Try.underlying28 ha) ?_
    refine WL.rd rfl rfl rfl (Rd.lss rfl rfl rfl) ?_
    refine WL.nil ?_
    refine thenQ.normal ?_
    first | refine WC.ite rfl (fun hc2 => ?_) (fun hc2 => ?_) | refine WC.cond rfl (fun hc2 => ?_) (fun hc2 => ?_)
    · skip
      refine WC.skip ?_
      refine thenQ.normal ?_
      refine WC.seq ?_
      refine WC.block ?_
      refine WC.seq ?_
      refine WC.still mixed (by kernel_rfl) ?_
      refine WA.rd rfl rfl rfl (Rd.move rfl rfl) ?_
      refine WA.rd rfl rfl rfl (Rd.move rfl rfl) ?_
      refine WA.rd rfl rfl rfl (Rd.idx1 (enc := SL.one vs) (xs := xs) (k := i) rfl S28 rfl rfl rfl ha (by omega)) ?_
      refine WA.rd rfl rfl rfl (Rd.get (g := vs) (xs := xs) (k := i) (a := xs[i]!) rfl C9 rfl ha (get!_of_lt (by omega))) ?_
      refine WA.rd rfl rfl rfl (Rd.move rfl rfl) ?_
      refine WA.rd rfl rfl rfl (Rd.move rfl rfl) ?_
      refine WA.rd rfl rfl rfl (Rd.idx1 (enc := SL.one vs) (xs := ys) (k := i) rfl S28 rfl rfl rfl hb (by omega)) ?_
      refine WA.rd rfl rfl rfl (Rd.get (g := vs) (xs := ys) (k := i) (a := ys[i]!) rfl C9 rfl hb (get!_of_lt (by omega))) ?_
      refine WA.rd rfl rfl rfl (Rd.sneq rfl rfl rfl) ?_
      refine WA.nil ?_
      refine thenQ.normal ?_
      first | refine WC.ite rfl (fun hc3 => ?_) (fun hc3 => ?_) | refine WC.cond rfl (fun hc3 => ?_) (fun hc3 => ?_)
      · skip
        refine WC.seq ?_
        refine WC.region ?_
        refine WL.rd rfl rfl rfl (Rd.assign rfl rfl) ?_
        refine WL.nil ?_
        refine thenQ.normal ?_
        refine WC.ret (Ret.one Try.results15 rfl ?_)
        rw [decide_eq_false (fun e => hc3 (by rw [e]))] at hk
        exact hk
      · skip
        refine WC.skip ?_
        refine blockQ.normal ?_
        refine thenQ.normal ?_
        refine WC.region ?_
        refine WL.rd rfl rfl rfl (Rd.move rfl rfl) ?_
        refine WL.rd rfl rfl rfl (Rd.add rfl rfl rfl (by omega)) ?_
        refine WL.rd rfl rfl rfl (Rd.assign rfl rfl) ?_
        refine WL.nil ?_
        exact loopQ1.mk (i + 1) ⟨by omega, fun j hj => by
        rcases Nat.lt_or_ge j i with g | g
        · exact i2 j g
        · obtain rfl : j = i := by omega
          exact Decidable.not_not.1 hc3⟩ (by omega) (by repeat (first | exact Sub.nil | refine Sub.cons rfl (by first | rfl | (congr 1; omega) | assumption) ?_)) (fun w h => OwnL.sat (by repeat (first | exact OwnL.refl | apply OwnL.take (by repeat (first | exact Take.head _ | apply Take.tail)) | apply OwnL.drop)) w (h.thin (SubL.mem (by repeat (first | exact SubL.refl | refine SubL.cons (by repeat (first | assumption | exact mS | apply mT)) ?_ | refine SubL.skip ?_)))))
    · skip
      refine WC.exit ?_
      refine thenQ.exit ?_
      refine loopQ1.exit ?_
      refine blockQ.exit ?_
      refine thenQ.normal ?_
      refine WC.seq ?_
      refine WC.region ?_
      refine WL.rd rfl rfl rfl (Rd.assign rfl rfl) ?_
      refine WL.nil ?_
      refine thenQ.normal ?_
      refine WC.ret (Ret.one Try.results15 rfl ?_)
      have e : xs = ys := by
        apply List.ext_getElem (by omega)
        intro j hj1 hj2
        rw [← getElem!_pos xs j hj1, ← getElem!_pos ys j hj2]
        exact i2 j (by omega)
      rw [decide_eq_true e] at hk
      exact hk
end
end Go.Proofs.Ytfenbhaehkkkeaa
