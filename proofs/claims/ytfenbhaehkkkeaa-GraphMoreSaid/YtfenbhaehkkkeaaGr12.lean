/-
  Layer 18: the document's New, Sorted, Bases.
-/
import Derived.Test.YtfenbhaehkkkeaaGr11
namespace Go.Proofs.Ytfenbhaehkkkeaa
open Go Go.SL
/-- What the document's New says. -/
def Says (L : List Nd) (e : Int) : Prop := Made L e ∨ (e = 0 ∧ (ids L).Nodup ∧ Closed (gOf L) ∧ ∀ z, ¬ Cyc (gOf L) z)
theorem Says.uniq {L : List Nd} {a b : Int} (h : Says L a) (g : Says L b) : a = b := by
  rcases h with h | ⟨rfl, h1, h2, h3⟩
  · cases h with
    | dup h =>
      rcases g with g | ⟨rfl, g1, g2, g3⟩
      · cases g with
        | dup => rfl
        | lost g1 => exact absurd g1 h
        | round g1 => exact absurd g1 h
      · exact absurd g1 h
    | lost h h2 =>
      rcases g with g | ⟨rfl, g1, g2, g3⟩
      · cases g with
        | dup g => exact absurd h g
        | lost => rfl
        | round _ g2 => exact absurd g2 h2
      · exact absurd g2 h2
    | round h h2 z hz =>
      rcases g with g | ⟨rfl, g1, g2, g3⟩
      · cases g with
        | dup g => exact absurd h g
        | lost _ g2 => exact absurd h2 g2
        | round => rfl
      · exact absurd hz (g3 z)
  · rcases g with g | ⟨rfl, g1, g2, g3⟩
    · cases g with
      | dup g => exact absurd h1 g
      | lost _ g2 => exact absurd h2 g2
      | round _ _ z hz => exact absurd hz (h3 z)
    · rfl
theorem closed_iff {L : List Nd} (hn : (ids L).Nodup) : Closed (gOf L) ↔ ∀ j, j < L.length → ∀ p ∈ L[j]!.2.1, p ∈ ids L := by
  constructor
  · intro h j hj p hp
    exact h L[j]!.1 (mem_ids.2 ⟨j, hj, rfl⟩) p ((pars_at hn hj).2 hp)
  · intro h x hx p hp
    obtain ⟨j, hj, rfl⟩ := mem_ids.1 hx
    exact h j hj p ((pars_at hn hj).1 hp)
theorem cyc_iff {L : List Nd} (hn : (ids L).Nodup) (hc : Closed (gOf L)) {i : Nat} (hi : i < L.length) : Come (gOf L) L[i]!.2.1 L[i]!.1 ↔ Cyc (gOf L) L[i]!.1 := by
  have hik : L[i]!.1 ∈ ids L := mem_ids.2 ⟨i, hi, rfl⟩
  constructor
  · rintro ⟨p, h1, h2, h3⟩
    exact ⟨hik, p, (pars_at hn hi).2 h1, h3⟩
  · rintro ⟨_, p, h2, h3⟩
    exact ⟨p, (pars_at hn hi).1 h2, hc _ hik p h2, h3⟩
theorem ids_get {L : List Nd} {i : Nat} (h : i < (ids L).length) : (ids L)[i] = L[i]!.1 := by
  have h' : i < L.length := by simpa [ids] using h
  rw [getElem!_pos L i h']; simp [ids]
theorem nodup_of {L : List Nd} (h : ∀ j, j < L.length → ∀ j', j' < j → L[j']!.1 ≠ L[j]!.1) : (ids L).Nodup := by
  refine List.pairwise_iff_getElem.2 fun i j hi hj hlt => ?_
  have hi' : i < L.length := by unfold ids at hi; rwa [List.length_map] at hi
  have hj' : j < L.length := by unfold ids at hj; rwa [List.length_map] at hj
  have := h j hj' i hlt
  rw [ids_get hi, ids_get hj]
  exact this
theorem asc_in {out : List T} {x : T} {k : Nat} (ha : Asc out) (hk : k ≤ out.length) (h1 : ∀ j, j < k → out[j]! < x) (h2 : k = out.length ∨ x < out[k]!) : Asc (out.take k ++ [x] ++ out.drop k) := by
  have hr : ∀ a b : T, (Op.bytesLess a b = true) = (a < b) := fun a b => by rw [bless_eq]; simp
  have hlow : ∀ a ∈ out.take k, a < x := fun a ha' => by
    obtain ⟨j, hj, rfl⟩ := mem_get! ha'
    rw [List.length_take] at hj
    have := h1 j (by omega)
    rw [getElem!_pos _ _ (by rw [List.length_take]; omega), List.getElem_take, ← getElem!_pos out j (by omega)]
    exact this
  unfold Asc at *
  simp only [hr] at *
  have hhigh : ∀ b ∈ out.drop k, x < b := fun b hb => by
    rcases h2 with rfl | h2
    · rw [List.drop_length] at hb; cases hb
    · have hkl : k < out.length := by
        rcases Nat.lt_or_ge k out.length with g | g
        · exact g
        · rw [List.drop_of_length_le g] at hb; cases hb
      rw [drop_get hkl] at hb
      rcases List.mem_cons.1 hb with rfl | hb
      · exact h2
      · have hd := ha.sublist (List.drop_sublist k out)
        rw [drop_get hkl, List.pairwise_cons] at hd
        exact List.lt_trans h2 (hd.1 b hb)
  rw [List.append_assoc, List.pairwise_append]
  refine ⟨ha.sublist (List.take_sublist _ _), List.pairwise_cons.2 ⟨hhigh, ha.sublist (List.drop_sublist _ _)⟩, fun a ha' b hb => ?_⟩
  rcases List.mem_cons.1 hb with rfl | hb
  · exact hlow a ha'
  · exact List.lt_trans (hlow a ha') (hhigh b hb)
def SortedIs (L : List Nd) (bs : List Bool) (n : Nat) (out : List T) : Prop := ∀ x, x ∈ out ↔ ∃ j, j < n ∧ bs[j]! = true ∧ L[j]!.1 = x
section
variable {R : List RO} {O O' : List Own} {POST : Value → List RO → List Own → Prop} {v : Value} {L : List Nd} {nvs : List Nv}
set_option maxRecDepth 20000 in
set_option maxHeartbeats 8000000 in
theorem rnew_spec (hN : NLs v L R nvs) (hl : L.length ≤ 1000) (hps : ∀ n ∈ L, n.2.1.length ≤ 1000) (hk : ∀ e, Says L e → POST (vi e) R O) : Fun Try.prog 12 #[v] R O POST := by
  have hlen := hN.len
  refine Fun.enter (l := [_]) Try.func12 rfl Try.ntmps12 rfl (L0 := [(0, _)]) rfl ?_
  refine WC.seq ?_
  refine WC.region ?_
  refine WL.rd rfl rfl rfl (Rd.assign rfl rfl) ?_
  refine WL.nil ?_
  refine thenQ.normal ?_
  refine WC.seq ?_
  refine WC.seq ?_
  refine WC.region ?_
  refine WL.rd rfl rfl rfl (Rd.assign rfl rfl) ?_
  refine WL.nil ?_
  refine thenQ.normal ?_
  refine WC.block ?_
  refine WC.pick [3, 0] (by repeat (first | exact Pick.nil | apply Pick.cons rfl)) ?_
  refine WC.loop1o 1 (fun (i : Nat) => [(3, vi i)]) (fun (i : Nat) => i ≤ L.length ∧ ∀ j, j < i → ∀ j', j' < j → L[j']!.1 ≠ L[j]!.1) (fun (i : Nat) => L.length - i) (0) (by repeat (first | exact Split.zero | apply Split.succ)) ?hinv1 (by repeat (first | exact Sub.nil | refine Sub.cons rfl (by first | rfl | (congr 1; omega) | assumption) ?_)) (fun _ h => h) ?_
  case hinv1 =>
    exact ⟨Nat.zero_le _, fun j h => absurd h (Nat.not_lt_zero _)⟩
  intro i
  rintro ⟨i1, i2⟩
  refine WC.seq ?_
  refine WC.seq ?_
  refine WC.region ?_
  refine WL.rd rfl rfl rfl (Rd.move rfl rfl) ?_
  refine WL.rd rfl rfl rfl (Rd.move rfl rfl) ?_
  refine WL.rd rfl rfl rfl (hN.rdLen rfl rfl Try.underlying25) ?_
  refine WL.rd rfl rfl rfl (Rd.lss rfl rfl rfl) ?_
  refine WL.nil ?_
  refine thenQ.normal ?_
  first | refine WC.ite rfl (fun hc1 => ?_) (fun hc1 => ?_) | refine WC.cond rfl (fun hc1 => ?_) (fun hc1 => ?_)
  · skip
    have hii : L[i]!.1 ∈ ids L := mem_ids.2 ⟨i, by omega, rfl⟩
    refine WC.skip ?_
    refine thenQ.normal ?_
    refine WC.seq ?_
    refine WC.block ?_
    refine WC.seq ?_
    refine WC.region ?_
    refine WL.rd rfl rfl rfl (Rd.move rfl rfl) ?_
    refine WL.rd rfl rfl rfl (Rd.move rfl rfl) ?_
    refine WL.rd rfl rfl rfl (Rd.move rfl rfl) ?_
    refine WL.rd rfl rfl rfl (hN.rdIdx (i := i) (by omega) rfl S25 rfl rfl rfl) ?_
    refine WL.rd rfl rfl rfl (Rd.fieldE rfl F31_0 rfl hN.sl (by omega)) ?_
    refine WL.rd rfl rfl rfl (hN.rdId (i := i) (by omega) rfl C9 rfl rfl) ?_
    refine WL.op rfl ?_
    refine OpW.call rfl rfl (by repeat (first | exact Evs.nil | apply Evs.cons rfl)) (by kernel_rfl) rfl rfl rfl ?_
    refine rfind_spec hN (by omega) ?_; intro k hk19
    refine WL.rd rfl rfl rfl (Rd.move rfl rfl) ?_
    refine WL.rd rfl rfl rfl (Rd.lss rfl rfl rfl) ?_
    refine WL.nil ?_
    refine thenQ.normal ?_
    first | refine WC.ite rfl (fun hc2 => ?_) (fun hc2 => ?_) | refine WC.cond rfl (fun hc2 => ?_) (fun hc2 => ?_)
    · skip
      refine WC.seq ?_
      refine WC.region ?_
      refine WL.rd rfl rfl rfl (Rd.assign rfl rfl) ?_
      refine WL.nil ?_
      refine thenQ.normal ?_
      refine WC.ret (Ret.one Try.results12 rfl ?_)
      exact hk 10 (.inl (.dup fun hnd => by
      rcases hk19 with ⟨_, h⟩ | ⟨m, rfl, m1, m2, m3⟩
      · exact h hii
      · have := ids_inj hnd m1 (by omega) m2
        omega))
    · skip
      refine WC.skip ?_
      refine blockQ.normal ?_
      refine thenQ.normal ?_
      refine WC.region ?_
      refine WL.rd rfl rfl rfl (Rd.move rfl rfl) ?_
      refine WL.rd rfl rfl rfl (Rd.add rfl rfl rfl (by omega)) ?_
      refine WL.rd rfl rfl rfl (Rd.assign rfl rfl) ?_
      refine WL.nil ?_
      exact loopQ1.mk (i + 1) ⟨by omega, fun j hj => by
      rcases Nat.lt_or_ge j i with h | h
      · exact i2 j h
      · obtain rfl : j = i := by omega
        rcases hk19 with ⟨_, h⟩ | ⟨m, rfl, m1, m2, m3⟩
        · exact absurd hii h
        · have hmj : m = j := by
            rcases Nat.lt_trichotomy m j with g | g | g
            · omega
            · exact g
            · exact absurd rfl (m3 j g)
          subst hmj
          exact m3⟩ (by omega) (by repeat (first | exact Sub.nil | refine Sub.cons rfl (by first | rfl | (congr 1; omega) | assumption) ?_)) (fun w h => OwnL.sat (by repeat (first | exact OwnL.refl | apply OwnL.take (by repeat (first | exact Take.head _ | apply Take.tail)) | apply OwnL.drop)) w (h.thin (SubL.mem (by repeat (first | exact SubL.refl | refine SubL.cons (by repeat (first | assumption | exact mS | apply mT)) ?_ | refine SubL.skip ?_)))))
  · skip
    obtain rfl : i = L.length := by omega
    have hn := nodup_of i2
    refine WC.exit ?_
    refine thenQ.exit ?_
    refine loopQ1.exit ?_
    refine blockQ.exit ?_
    refine thenQ.normal ?_
    refine WC.seq ?_
    refine WC.seq ?_
    refine WC.region ?_
    refine WL.rd rfl rfl rfl (Rd.assign rfl rfl) ?_
    refine WL.nil ?_
    refine thenQ.normal ?_
    refine WC.block ?_
    refine WC.pick [4, 0] (by repeat (first | exact Pick.nil | apply Pick.cons rfl)) ?_
    refine WC.loop1o 1 (fun (i : Nat) => [(4, vi i)]) (fun (i : Nat) => i ≤ L.length ∧ ∀ j, j < i → ∀ p ∈ L[j]!.2.1, p ∈ ids L) (fun (i : Nat) => L.length - i) (0) (by repeat (first | exact Split.zero | apply Split.succ)) ?hinv2 (by repeat (first | exact Sub.nil | refine Sub.cons rfl (by first | rfl | (congr 1; omega) | assumption) ?_)) (fun _ h => h) ?_
    case hinv2 =>
      exact ⟨Nat.zero_le _, fun j h => absurd h (Nat.not_lt_zero _)⟩
    intro i
    rintro ⟨j1, j2⟩
    refine WC.seq ?_
    refine WC.seq ?_
    refine WC.region ?_
    refine WL.rd rfl rfl rfl (Rd.move rfl rfl) ?_
    refine WL.rd rfl rfl rfl (Rd.move rfl rfl) ?_
    refine WL.rd rfl rfl rfl (hN.rdLen rfl rfl Try.underlying25) ?_
    refine WL.rd rfl rfl rfl (Rd.lss rfl rfl rfl) ?_
    refine WL.nil ?_
    refine thenQ.normal ?_
    first | refine WC.ite rfl (fun hc3 => ?_) (fun hc3 => ?_) | refine WC.cond rfl (fun hc3 => ?_) (fun hc3 => ?_)
    · skip
      have hil : i < L.length := by omega
      have hpl := hps _ (get!_mem hil)
      refine WC.skip ?_
      refine thenQ.normal ?_
      refine WC.seq ?_
      refine WC.block ?_
      refine WC.seq ?_
      refine WC.region ?_
      refine WL.rd rfl rfl rfl (Rd.assign rfl rfl) ?_
      refine WL.nil ?_
      refine thenQ.normal ?_
      refine WC.block ?_
      refine WC.pick [5, 0, 4] (by repeat (first | exact Pick.nil | apply Pick.cons rfl)) ?_
      refine WC.loop1o 1 (fun (k : Nat) => [(5, vi k)]) (fun (k : Nat) => k ≤ L[i]!.2.1.length ∧ ∀ j, j < k → L[i]!.2.1[j]! ∈ ids L) (fun (k : Nat) => L[i]!.2.1.length - k) (0) (by repeat (first | exact Split.zero | apply Split.succ)) ?hinv3 (by repeat (first | exact Sub.nil | refine Sub.cons rfl (by first | rfl | (congr 1; omega) | assumption) ?_)) (fun _ h => h) ?_
      case hinv3 =>
        exact ⟨Nat.zero_le _, fun j h => absurd h (Nat.not_lt_zero _)⟩
      intro k
      rintro ⟨l1, l2⟩
      refine WC.seq ?_
      refine WC.seq ?_
      refine WC.region ?_
      refine WL.rd rfl rfl rfl (Rd.move rfl rfl) ?_
      refine WL.rd rfl rfl rfl (Rd.move rfl rfl) ?_
      refine WL.rd rfl rfl rfl (Rd.move rfl rfl) ?_
      refine WL.rd rfl rfl rfl (hN.rdIdx (i := i) hil rfl S25 rfl rfl rfl) ?_
      refine WL.rd rfl rfl rfl (Rd.fieldE rfl F31_1 rfl hN.sl (by omega)) ?_
      refine WL.rd rfl rfl rfl (hN.rdPs (i := i) hil rfl C28 rfl rfl) ?_
      refine WL.rd rfl rfl rfl (hN.rdPLen (i := i) hil rfl rfl Try.underlying28) ?_
      refine WL.rd rfl rfl rfl (Rd.lss rfl rfl rfl) ?_
      refine WL.nil ?_
      refine thenQ.normal ?_
      first | refine WC.ite rfl (fun hc4 => ?_) (fun hc4 => ?_) | refine WC.cond rfl (fun hc4 => ?_) (fun hc4 => ?_)
      · skip
        refine WC.skip ?_
        refine thenQ.normal ?_
        refine WC.seq ?_
        refine WC.block ?_
        refine WC.seq ?_
        refine WC.region ?_
        refine WL.rd rfl rfl rfl (Rd.move rfl rfl) ?_
        refine WL.rd rfl rfl rfl (Rd.move rfl rfl) ?_
        refine WL.rd rfl rfl rfl (Rd.move rfl rfl) ?_
        refine WL.rd rfl rfl rfl (hN.rdIdx (i := i) hil rfl S25 rfl rfl rfl) ?_
        refine WL.rd rfl rfl rfl (Rd.fieldE rfl F31_1 rfl hN.sl (by omega)) ?_
        refine WL.rd rfl rfl rfl (hN.rdPs (i := i) hil rfl C28 rfl rfl) ?_
        refine WL.rd rfl rfl rfl (Rd.move rfl rfl) ?_
        refine WL.rd rfl rfl rfl (hN.rdPIdx (i := i) (k := k) hil (by omega) rfl S28 rfl rfl rfl) ?_
        refine WL.rd rfl rfl rfl (hN.rdP (i := i) (k := k) hil (by omega) rfl C9 rfl) ?_
        refine WL.op rfl ?_
        refine OpW.call rfl rfl (by repeat (first | exact Evs.nil | apply Evs.cons rfl)) (by kernel_rfl) rfl rfl rfl ?_
        refine rfind_spec hN (by omega) ?_; intro f hf47
        refine WL.rd rfl rfl rfl (Rd.lss rfl rfl rfl) ?_
        refine WL.nil ?_
        refine thenQ.normal ?_
        first | refine WC.ite rfl (fun hc5 => ?_) (fun hc5 => ?_) | refine WC.cond rfl (fun hc5 => ?_) (fun hc5 => ?_)
        · skip
          refine WC.seq ?_
          refine WC.region ?_
          refine WL.rd rfl rfl rfl (Rd.assign rfl rfl) ?_
          refine WL.nil ?_
          refine thenQ.normal ?_
          refine WC.ret (Ret.one Try.results12 rfl ?_)
          exact hk 9 (.inl (.lost hn fun hcl => by
          rcases hf47 with ⟨_, h⟩ | ⟨m, rfl, m1, m2, m3⟩
          · exact h ((closed_iff hn).1 hcl i hil _ (get!_mem (by omega)))
          · omega))
        · skip
          refine WC.skip ?_
          refine blockQ.normal ?_
          refine thenQ.normal ?_
          refine WC.region ?_
          refine WL.rd rfl rfl rfl (Rd.move rfl rfl) ?_
          refine WL.rd rfl rfl rfl (Rd.add rfl rfl rfl (by omega)) ?_
          refine WL.rd rfl rfl rfl (Rd.assign rfl rfl) ?_
          refine WL.nil ?_
          exact loopQ1.mk (k + 1) ⟨by omega, fun j hj => by
          rcases Nat.lt_or_ge j k with h | h
          · exact l2 j h
          · obtain rfl : j = k := by omega
            rcases hf47 with ⟨h, _⟩ | ⟨m, rfl, m1, m2, m3⟩
            · omega
            · exact mem_ids.2 ⟨m, m1, m2⟩⟩ (by omega) (by repeat (first | exact Sub.nil | refine Sub.cons rfl (by first | rfl | (congr 1; omega) | assumption) ?_)) (fun w h => OwnL.sat (by repeat (first | exact OwnL.refl | apply OwnL.take (by repeat (first | exact Take.head _ | apply Take.tail)) | apply OwnL.drop)) w (h.thin (SubL.mem (by repeat (first | exact SubL.refl | refine SubL.cons (by repeat (first | assumption | exact mS | apply mT)) ?_ | refine SubL.skip ?_)))))
      · skip
        refine WC.exit ?_
        refine thenQ.exit ?_
        refine loopQ1.exit ?_
        refine blockQ.exit ?_
        refine blockQ.normal ?_
        refine thenQ.normal ?_
        refine WC.region ?_
        refine WL.rd rfl rfl rfl (Rd.move rfl rfl) ?_
        refine WL.rd rfl rfl rfl (Rd.add rfl rfl rfl (by omega)) ?_
        refine WL.rd rfl rfl rfl (Rd.assign rfl rfl) ?_
        refine WL.nil ?_
        exact loopQ1.mk (i + 1) ⟨by omega, fun j hj p hp => by
        rcases Nat.lt_or_ge j i with h | h
        · exact j2 j h p hp
        · obtain rfl : j = i := by omega
          obtain ⟨q, hq, rfl⟩ := mem_get! hp
          exact l2 q (by omega)⟩ (by omega) (by repeat (first | exact Sub.nil | refine Sub.cons rfl (by first | rfl | (congr 1; omega) | assumption) ?_)) (fun w h => OwnL.sat (by repeat (first | exact OwnL.refl | apply OwnL.take (by repeat (first | exact Take.head _ | apply Take.tail)) | apply OwnL.drop)) w (h.thin (SubL.mem (by repeat (first | exact SubL.refl | refine SubL.cons (by repeat (first | assumption | exact mS | apply mT)) ?_ | refine SubL.skip ?_)))))
    · skip
      obtain rfl : i = L.length := by omega
      have hcl := (closed_iff hn).2 j2
      refine WC.exit ?_
      refine thenQ.exit ?_
      refine loopQ1.exit ?_
      refine blockQ.exit ?_
      refine thenQ.normal ?_
      refine WC.seq ?_
      refine WC.seq ?_
      refine WC.region ?_
      refine WL.rd rfl rfl rfl (Rd.assign rfl rfl) ?_
      refine WL.nil ?_
      refine thenQ.normal ?_
      refine WC.block ?_
      refine WC.pick [6, 0] (by repeat (first | exact Pick.nil | apply Pick.cons rfl)) ?_
      refine WC.loop1o 1 (fun (i : Nat) => [(6, vi i)]) (fun (i : Nat) => i ≤ L.length ∧ ∀ j, j < i → ¬ Cyc (gOf L) L[j]!.1) (fun (i : Nat) => L.length - i) (0) (by repeat (first | exact Split.zero | apply Split.succ)) ?hinv4 (by repeat (first | exact Sub.nil | refine Sub.cons rfl (by first | rfl | (congr 1; omega) | assumption) ?_)) (fun _ h => h) ?_
      case hinv4 =>
        exact ⟨Nat.zero_le _, fun j h => absurd h (Nat.not_lt_zero _)⟩
      intro i
      rintro ⟨k1, k2⟩
      refine WC.seq ?_
      refine WC.seq ?_
      refine WC.region ?_
      refine WL.rd rfl rfl rfl (Rd.move rfl rfl) ?_
      refine WL.rd rfl rfl rfl (Rd.move rfl rfl) ?_
      refine WL.rd rfl rfl rfl (hN.rdLen rfl rfl Try.underlying25) ?_
      refine WL.rd rfl rfl rfl (Rd.lss rfl rfl rfl) ?_
      refine WL.nil ?_
      refine thenQ.normal ?_
      first | refine WC.ite rfl (fun hc6 => ?_) (fun hc6 => ?_) | refine WC.cond rfl (fun hc6 => ?_) (fun hc6 => ?_)
      · skip
        have hil : i < L.length := by omega
        have hpl := hps _ (get!_mem hil)
        refine WC.skip ?_
        refine thenQ.normal ?_
        refine WC.seq ?_
        refine WC.block ?_
        refine WC.seq ?_
        refine WC.region ?_
        refine WL.rd rfl rfl rfl (Rd.move rfl rfl) ?_
        refine WL.rd rfl rfl rfl (Rd.move rfl rfl) ?_
        refine WL.rd rfl rfl rfl (Rd.move rfl rfl) ?_
        refine WL.rd rfl rfl rfl (hN.rdIdx (i := i) hil rfl S25 rfl rfl rfl) ?_
        refine WL.rd rfl rfl rfl (Rd.fieldE rfl F31_1 rfl hN.sl (by omega)) ?_
        refine WL.rd rfl rfl rfl (hN.rdPs (i := i) hil rfl C28 rfl rfl) ?_
        refine WL.heap (fun w h => h.weaken (p := ndsP nvs L) (q := SlE (SL.one vs) (slv nvs[i]!.2.1) L[i]!.2.1) hN.ps (fun w hw => hw i hil)) ?_
        refine WL.op rfl ?_
        refine OpW.call rfl rfl (by repeat (first | exact Evs.nil | apply Evs.cons rfl)) (by kernel_rfl) rfl rfl rfl ?_
        refine rcome_spec (hN.mono fun p hp => List.mem_cons_of_mem _ hp) hn List.mem_cons_self hl (by omega) hps ?_; intro v61 bs hbs
        refine WL.rd rfl rfl rfl (Rd.move rfl rfl) ?_
        refine WL.rd rfl rfl rfl (Rd.idxA1 (enc := SL.one vbl) (xs := bs) (k := i) rfl S45 rfl rfl rfl (by repeat (first | assumption | exact mS | apply mT)) (by rw [hbs.1]; exact hil)) ?_
        refine WL.rd rfl rfl rfl (Rd.getA (g := vbl) (xs := bs) (k := i) rfl C4 rfl (by repeat (first | assumption | exact mS | apply mT)) (get!_of_lt (by rw [hbs.1]; exact hil))) ?_
        refine WL.say 64 (u := .bool (decide (bs[i]! = true))) rfl (vbl_dec _) ?_
        refine WL.nil ?_
        refine thenQ.normal ?_
        first | refine WC.ite rfl (fun hc7 => ?_) (fun hc7 => ?_) | refine WC.cond rfl (fun hc7 => ?_) (fun hc7 => ?_)
        · skip
          refine WC.seq ?_
          refine WC.region ?_
          refine WL.rd rfl rfl rfl (Rd.assign rfl rfl) ?_
          refine WL.nil ?_
          refine thenQ.normal ?_
          refine WC.heap (R' := R) (O' := O) (fun w h => OwnL.sat (by repeat (first | exact OwnL.refl | apply OwnL.take (by repeat (first | exact Take.head _ | apply Take.tail)) | apply OwnL.drop)) w (h.thin (SubL.mem (by repeat (first | exact SubL.refl | refine SubL.cons (by repeat (first | assumption | exact mS | apply mT)) ?_ | refine SubL.skip ?_))))) ?_
          refine WC.ret (Ret.one Try.results12 rfl ?_)
          exact hk 12 (.inl (.round hn hcl L[i]!.1 ((cyc_iff hn hcl hil).1 ((hbs.2 i hil).1 hc7))))
        · skip
          refine WC.skip ?_
          refine blockQ.normal ?_
          refine thenQ.normal ?_
          refine WC.region ?_
          refine WL.rd rfl rfl rfl (Rd.move rfl rfl) ?_
          refine WL.rd rfl rfl rfl (Rd.add rfl rfl rfl (by omega)) ?_
          refine WL.rd rfl rfl rfl (Rd.assign rfl rfl) ?_
          refine WL.nil ?_
          exact loopQ1.mk (i + 1) ⟨by omega, fun j hj => by
          rcases Nat.lt_or_ge j i with h | h
          · exact k2 j h
          · obtain rfl : j = i := by omega
            exact fun hz => hc7 ((hbs.2 j hil).2 ((cyc_iff hn hcl hil).2 hz))⟩ (by omega) (by repeat (first | exact Sub.nil | refine Sub.cons rfl (by first | rfl | (congr 1; omega) | assumption) ?_)) (fun w h => OwnL.sat (by repeat (first | exact OwnL.refl | apply OwnL.take (by repeat (first | exact Take.head _ | apply Take.tail)) | apply OwnL.drop)) w (h.thin (SubL.mem (by repeat (first | exact SubL.refl | refine SubL.cons (by repeat (first | assumption | exact mS | apply mT)) ?_ | refine SubL.skip ?_)))))
      · skip
        refine WC.exit ?_
        refine thenQ.exit ?_
        refine loopQ1.exit ?_
        refine blockQ.exit ?_
        refine thenQ.normal ?_
        refine WC.seq ?_
        refine WC.region ?_
        refine WL.rd rfl rfl rfl (Rd.assign rfl rfl) ?_
        refine WL.nil ?_
        refine thenQ.normal ?_
        refine WC.ret (Ret.one Try.results12 rfl ?_)
        exact hk 0 (.inr ⟨rfl, hn, hcl, fun z hz => by
        obtain ⟨j, hj, rfl⟩ := mem_ids.1 hz.1
        exact k2 j (by omega) hz⟩)
set_option maxRecDepth 20000 in
set_option maxHeartbeats 8000000 in
theorem rsorted_spec {bv : Value} {bs : List Bool} (hN : NLs v L R nvs) (hn : (ids L).Nodup) (hB : SlE (SL.one vbl) bv bs ∈ R) (hbl : bs.length = L.length) (hl : L.length ≤ 1000) (hk : ∀ u out, Asc out → SortedIs L bs L.length out → POST u R (accT u out :: O)) : Fun Try.prog 21 #[v, bv] R O POST := by
  have hlen := hN.len
  refine Fun.enter (l := [_, _]) Try.func21 rfl Try.ntmps21 rfl (L0 := [(0, _), (1, _)]) rfl ?_
  refine WC.seq ?_
  refine WC.region ?_
  refine WL.rd rfl rfl rfl (Rd.assign rfl rfl) ?_
  refine WL.nil ?_
  refine thenQ.normal ?_
  refine WC.seq ?_
  refine WC.region ?_
  refine WL.rd rfl rfl rfl (Rd.assign rfl rfl) ?_
  refine WL.nil ?_
  refine thenQ.normal ?_
  refine WC.seq ?_
  refine WC.seq ?_
  refine WC.heap (fun w h => Sat.accNil (e := 9) (size := 1) (enc := SL.one vs) h) ?_
  refine WC.region ?_
  refine WL.rd rfl rfl rfl (Rd.assign rfl rfl) ?_
  refine WL.nil ?_
  refine thenQ.normal ?_
  refine WC.block ?_
  refine WC.pick [6, 5, 0, 1] (by repeat (first | exact Pick.nil | apply Pick.cons rfl)) ?_
  refine WC.loop3 2 (fun (i : Nat) (out : List T) (ov : Value) => [(6, vi i), (5, ov)]) (fun (i : Nat) (out : List T) (ov : Value) => accT ov out :: O) (fun (i : Nat) (out : List T) (ov : Value) => i ≤ L.length ∧ Asc out ∧ SortedIs L bs i out ∧ out.length ≤ i) (fun (i : Nat) (out : List T) (ov : Value) => L.length - i) (0) ([]) (nilS) (by repeat (first | exact Split.zero | apply Split.succ)) ?hinv1 (by repeat (first | exact Sub.nil | refine Sub.cons rfl (by first | rfl | (congr 1; omega) | assumption) ?_)) (fun w h => OwnL.sat (by repeat (first | exact OwnL.refl | apply OwnL.take (by repeat (first | exact Take.head _ | apply Take.tail)) | apply OwnL.drop)) w (h.thin (SubL.mem (by repeat (first | exact SubL.refl | refine SubL.cons (by repeat (first | assumption | exact mS | apply mT)) ?_ | refine SubL.skip ?_))))) ?_
  case hinv1 =>
    exact ⟨Nat.zero_le _, List.Pairwise.nil, fun x => ⟨fun h => (by cases h), fun ⟨j, h, _⟩ => absurd h (Nat.not_lt_zero _)⟩, Nat.zero_le _⟩
  intro i out ov
  rintro ⟨i1, i2, i3, i4⟩
  refine WC.seq ?_
  refine WC.seq ?_
  refine WC.region ?_
  refine WL.rd rfl rfl rfl (Rd.move rfl rfl) ?_
  refine WL.rd rfl rfl rfl (Rd.move rfl rfl) ?_
  refine WL.rd rfl rfl rfl (hN.rdLen rfl rfl Try.underlying25) ?_
  refine WL.rd rfl rfl rfl (Rd.lss rfl rfl rfl) ?_
  refine WL.nil ?_
  refine thenQ.normal ?_
  first | refine WC.ite rfl (fun hc1 => ?_) (fun hc1 => ?_) | refine WC.cond rfl (fun hc1 => ?_) (fun hc1 => ?_)
  · skip
    have hil : i < L.length := by omega
    refine WC.skip ?_
    refine thenQ.normal ?_
    refine WC.seq ?_
    refine WC.block ?_
    refine WC.seq ?_
    refine WC.seq ?_
    refine WC.region ?_
    refine WL.rd rfl rfl rfl (Rd.move rfl rfl) ?_
    refine WL.rd rfl rfl rfl (Rd.move rfl rfl) ?_
    refine WL.rd rfl rfl rfl (Rd.idx1 (enc := SL.one vbl) (xs := bs) (k := i) rfl S45 rfl rfl rfl hB (by omega)) ?_
    refine WL.rd rfl rfl rfl (Rd.get (g := vbl) (xs := bs) (k := i) rfl C4 rfl hB (get!_of_lt (by omega))) ?_
    refine WL.say 18 (u := .bool (decide (bs[i]! = true))) rfl (vbl_dec _) ?_
    refine WL.rd rfl rfl rfl ((by first | exact Rd.notd rfl rfl | exact Rd.not rfl rfl)) ?_
    refine WL.nil ?_
    refine thenQ.normal ?_
    first | refine WC.ite rfl (fun hc2 => ?_) (fun hc2 => ?_) | refine WC.cond rfl (fun hc2 => ?_) (fun hc2 => ?_)
    · skip
      refine WC.exit ?_
      refine thenQ.exit ?_
      refine blockQ.exit ?_
      refine thenQ.normal ?_
      refine WC.region ?_
      refine WL.rd rfl rfl rfl (Rd.move rfl rfl) ?_
      refine WL.rd rfl rfl rfl (Rd.add rfl rfl rfl (by omega)) ?_
      refine WL.rd rfl rfl rfl (Rd.assign rfl rfl) ?_
      refine WL.nil ?_
      exact loopQ3.mk (i + 1) out ov ⟨by omega, i2, fun x => by
      rw [i3]
      exact ⟨fun ⟨j, h1, h2⟩ => ⟨j, by omega, h2⟩, fun ⟨j, h1, h2⟩ => by
        rcases Nat.lt_or_ge j i with g | g
        · exact ⟨j, g, h2⟩
        · obtain rfl : j = i := by omega
          exact absurd h2.1 hc2⟩, by omega⟩ (by omega) (by repeat (first | exact Sub.nil | refine Sub.cons rfl (by first | rfl | (congr 1; omega) | assumption) ?_)) (fun w h => OwnL.sat (by repeat (first | exact OwnL.refl | apply OwnL.take (by repeat (first | exact Take.head _ | apply Take.tail)) | apply OwnL.drop)) w (h.thin (SubL.mem (by repeat (first | exact SubL.refl | refine SubL.cons (by repeat (first | assumption | exact mS | apply mT)) ?_ | refine SubL.skip ?_)))))
    · skip
      have hnew : L[i]!.1 ∉ out := fun hm => by
        obtain ⟨j, h1, _, h3⟩ := (i3 _).1 hm
        have := ids_inj hn (by omega) hil h3
        omega
      refine WC.skip ?_
      refine thenQ.normal ?_
      refine WC.seq ?_
      refine WC.region ?_
      refine WL.rd rfl rfl rfl (Rd.assign rfl rfl) ?_
      refine WL.nil ?_
      refine thenQ.normal ?_
      refine WC.seq ?_
      refine WC.block ?_
      refine WC.pick [7, 0, 1, 5, 6] (by repeat (first | exact Pick.nil | apply Pick.cons rfl)) ?_
      refine WC.loop1o 1 (fun (k : Nat) => [(7, vi k)]) (fun (k : Nat) => k ≤ out.length ∧ ∀ j, j < k → out[j]! < L[i]!.1) (fun (k : Nat) => out.length - k) (0) (by repeat (first | exact Split.zero | apply Split.succ)) ?hinv2 (by repeat (first | exact Sub.nil | refine Sub.cons rfl (by first | rfl | (congr 1; omega) | assumption) ?_)) (fun _ h => h) ?_
      case hinv2 =>
        exact ⟨Nat.zero_le _, fun j h => absurd h (Nat.not_lt_zero _)⟩
      intro k
      rintro ⟨j1, j2⟩
      refine WC.seq ?_
      refine WC.seq ?_
      refine WC.still mixed (by kernel_rfl) ?_
      refine WA.rd rfl rfl rfl (Rd.move rfl rfl) ?_
      refine WA.rd rfl rfl rfl (Rd.move rfl rfl) ?_
      refine WA.rd rfl rfl rfl (Rd.lenA (enc := SL.one vs) (xs := out) rfl rfl Try.underlying28 (by repeat (first | assumption | exact mS | apply mT))) ?_
      refine WA.rd rfl rfl rfl (Rd.lss rfl rfl rfl) ?_
      refine WA.rd rfl rfl rfl (Rd.move rfl rfl) ?_
      refine WA.case 24 rfl (fun hg24 => ?_) (fun hg24 => ?_)
      · skip
        refine WA.rd_yes rfl rfl rfl rfl rfl rfl (Rd.move rfl rfl) ?_
        refine WA.rd_yes rfl rfl rfl rfl rfl rfl (Rd.move rfl rfl) ?_
        refine WA.rd_yes rfl rfl rfl rfl rfl rfl (Rd.idxA1 (enc := SL.one vs) (xs := out) (k := k) rfl S28 rfl rfl rfl (by repeat (first | assumption | exact mS | apply mT)) (by omega)) ?_
        refine WA.rd_yes rfl rfl rfl rfl rfl rfl (Rd.getA (g := vs) (xs := out) (k := k) rfl C9 rfl (by repeat (first | assumption | exact mS | apply mT)) (get!_of_lt (by omega))) ?_
        refine WA.rd_yes rfl rfl rfl rfl rfl rfl (Rd.move rfl rfl) ?_
        refine WA.rd_yes rfl rfl rfl rfl rfl rfl (Rd.move rfl rfl) ?_
        refine WA.rd_yes rfl rfl rfl rfl rfl rfl (hN.rdIdx (i := i) hil rfl S25 rfl rfl rfl) ?_
        refine WA.rd_yes rfl rfl rfl rfl rfl rfl (Rd.fieldE rfl F31_0 rfl hN.sl (by omega)) ?_
        refine WA.rd_yes rfl rfl rfl rfl rfl rfl (hN.rdId (i := i) hil rfl C9 rfl rfl) ?_
        refine WA.rd_yes rfl rfl rfl rfl rfl rfl (Rd.sltD rfl rfl rfl) ?_
        refine WA.rd rfl rfl rfl (Rd.pick_t rfl rfl rfl) ?_
        refine WA.nil ?_
        refine thenQ.normal ?_
        first | refine WC.ite rfl (fun hc3 => ?_) (fun hc3 => ?_) | refine WC.cond rfl (fun hc3 => ?_) (fun hc3 => ?_)
        · skip
          refine WC.skip ?_
          refine thenQ.normal ?_
          refine WC.block ?_
          refine WC.region ?_
          refine WL.rd rfl rfl rfl (Rd.move rfl rfl) ?_
          refine WL.rd rfl rfl rfl (Rd.add rfl rfl rfl (by omega)) ?_
          refine WL.rd rfl rfl rfl (Rd.assign rfl rfl) ?_
          refine WL.nil ?_
          refine blockQ.normal ?_
          exact loopQ1.mk (k + 1) ⟨by omega, fun j hj => by
          rcases Nat.lt_or_ge j k with g | g
          · exact j2 j g
          · obtain rfl : j = k := by omega
            exact hc3⟩ (by omega) (by repeat (first | exact Sub.nil | refine Sub.cons rfl (by first | rfl | (congr 1; omega) | assumption) ?_)) (fun w h => OwnL.sat (by repeat (first | exact OwnL.refl | apply OwnL.take (by repeat (first | exact Take.head _ | apply Take.tail)) | apply OwnL.drop)) w (h.thin (SubL.mem (by repeat (first | exact SubL.refl | refine SubL.cons (by repeat (first | assumption | exact mS | apply mT)) ?_ | refine SubL.skip ?_)))))
        · skip
          refine WC.exit ?_
          refine thenQ.exit ?_
          refine loopQ1.exit ?_
          refine blockQ.exit ?_
          refine thenQ.normal ?_
          refine WC.seq ?_
          have hfin2 : k = out.length ∨ L[i]!.1 < out[k]! := by
            first
              | exact .inl (by omega)
              | exact .inr (by
                  rcases tlt_tri out[k]! L[i]!.1 with g | g | g
                  · exact absurd g hc3
                  · exact absurd (g ▸ get!_mem (by omega)) hnew
                  · exact g)
          have hins := asc_in i2 j1 j2 hfin2
          have hmem : ∀ x, x ∈ out.take k ++ [L[i]!.1] ++ out.drop k ↔ x ∈ out ∨ x = L[i]!.1 := fun x => by
            have e : x ∈ out ↔ x ∈ out.take k ∨ x ∈ out.drop k := by rw [← List.mem_append, List.take_append_drop]
            rw [List.mem_append, List.mem_append, List.mem_singleton, e]
            constructor
            · rintro ((h | h) | h)
              · exact .inl (.inl h)
              · exact .inr h
              · exact .inl (.inr h)
            · rintro ((h | h) | h)
              · exact .inl (.inl h)
              · exact .inr h
              · exact .inl (.inr h)
          have hlen2 : (out.take k ++ [L[i]!.1] ++ out.drop k).length = out.length + 1 := by
            rw [List.length_append, List.length_append, List.length_take, List.length_drop, List.length_singleton]; omega
          refine WC.heap (fun w h => Sat.shareA (xs := out) (by repeat (first | assumption | exact Take.head _ | apply Take.tail)) h) ?_
          refine WC.heap (fun w h => Sat.accNil (e := 9) (size := 1) (enc := SL.one vs) h) ?_
          refine WC.region ?_
          refine WL.rd rfl rfl rfl (Rd.assign rfl rfl) ?_
          refine WL.nil ?_
          refine thenQ.normal ?_
          refine WC.seq ?_
          refine WC.region ?_
          refine WL.rd rfl rfl rfl (Rd.move rfl rfl) ?_
          refine WL.rd rfl rfl rfl (Rd.move rfl rfl) ?_
          refine WL.rd rfl rfl rfl (Rd.move rfl rfl) ?_
          refine WL.rd rfl rfl rfl (Rd.cut_h (enc := SL.one vs) (xs := out) (hi := k) rfl S28 rfl rfl rfl (by repeat (first | assumption | exact mS | apply mT)) (by omega)) ?_
          refine WL.heap (fun w h => h.weaken (p := SlE (SL.one vs) ov out) (q := SlE (SL.one vs) (subSl ov 1 0 k) (out.take k)) List.mem_cons_self (fun w hp => SlE.subh (size := 1) (hi := k) (fun _ => rfl) (by omega) hp)) ?_
          have htl : (out.take k).length ≤ 1000 := by rw [List.length_take]; omega
          have hdl : (out.drop k).length ≤ 1000 := by rw [List.length_drop]; omega
          refine WL.op rfl ?_
          refine OpW.appendE (enc := SL.one vs) (xs := []) (ys := out.take k) rfl S28 Try.underlying28 rfl rfl (by repeat (first | assumption | exact Take.head _ | apply Take.tail)) List.mem_cons_self (by intro x; first | rfl | (cases x; rfl) | (rcases x with ⟨_, _, _⟩; rfl) | (rcases x with ⟨_, _, _, _⟩; rfl)) (by intro x; first | rfl | (cases x; rfl) | (rcases x with ⟨_, _, _⟩; rfl) | (rcases x with ⟨_, _, _, _⟩; rfl)) ⟨by show _ ≤ 9223372036854775807; simp only [List.length_nil]; omega, by simp only [List.length_nil]; omega⟩ rfl rfl ?_; intro v42 hv42
          refine WL.rd rfl rfl rfl (Rd.assign rfl rfl) ?_
          refine WL.nil ?_
          refine thenQ.normal ?_
          refine WC.seq ?_
          refine WC.region ?_
          refine WL.rd rfl rfl rfl (Rd.move rfl rfl) ?_
          refine WL.rd rfl rfl rfl (Rd.move rfl rfl) ?_
          refine WL.rd rfl rfl rfl (Rd.move rfl rfl) ?_
          refine WL.rd rfl rfl rfl ((hN.mono fun p hp => List.mem_cons_of_mem _ (List.mem_cons_of_mem _ hp)).rdIdx (i := i) hil rfl S25 rfl rfl rfl) ?_
          refine WL.rd rfl rfl rfl (Rd.fieldE rfl F31_0 rfl (hN.mono fun p hp => List.mem_cons_of_mem _ (List.mem_cons_of_mem _ hp)).sl (by omega)) ?_
          refine WL.rd rfl rfl rfl ((hN.mono fun p hp => List.mem_cons_of_mem _ (List.mem_cons_of_mem _ hp)).rdId (i := i) hil rfl C9 rfl rfl) ?_
          refine WL.op rfl ?_
          refine OpW.buildSl (ps := [(0, _)]) rfl S28 (by repeat (first | exact Evs.nil | apply Evs.cons rfl)) rfl rfl (by repeat (first | exact CellsOf.nil | apply CellsOf.cons rfl)) (by kernel_rfl) rfl rfl rfl ?_; intro b49
          refine WL.op rfl ?_
          refine OpW.appendRow (enc := SL.one vs) rfl S28 rfl rfl (by repeat (first | assumption | exact Take.head _ | apply Take.tail)) (by repeat (first | assumption | exact Take.head _ | apply Take.tail)) [L[i]!.1] rfl (by rfl) rfl (by intro x; first | rfl | (cases x; rfl) | (rcases x with ⟨_, _, _⟩; rfl) | (rcases x with ⟨_, _, _, _⟩; rfl)) (by intro x; first | rfl | (cases x; rfl) | (rcases x with ⟨_, _, _⟩; rfl) | (rcases x with ⟨_, _, _, _⟩; rfl)) (by first | assumption | exact ⟨by simp only [maxLen, List.length_append, List.length_nil, List.length_cons, List.length_drop, List.length_take, List.length_map]; omega, by first | omega | (simp only [List.length_append, List.length_nil, List.length_cons, List.length_drop, List.length_take, List.length_map]; omega)⟩) rfl rfl ?_; intro v50 hv50
          refine WL.rd rfl rfl rfl (Rd.assign rfl rfl) ?_
          refine WL.nil ?_
          refine thenQ.normal ?_
          refine WC.region ?_
          refine WL.rd rfl rfl rfl (Rd.move rfl rfl) ?_
          refine WL.rd rfl rfl rfl (Rd.move rfl rfl) ?_
          refine WL.rd rfl rfl rfl (Rd.move rfl rfl) ?_
          refine WL.rd rfl rfl rfl (Rd.cut_l (enc := SL.one vs) (xs := out) (lo := k) rfl S28 rfl rfl rfl (by repeat (first | assumption | exact mS | apply mT)) (by omega)) ?_
          refine WL.heap (fun w h => h.weaken (p := SlE (SL.one vs) ov out) (q := SlE (SL.one vs) (subSl ov 1 k out.length) (out.drop k)) (by repeat (first | assumption | exact mS | apply mT)) (fun w hp => SlE.subl (size := 1) (fun _ => rfl) (by omega) hp)) ?_
          refine WL.op rfl ?_
          refine OpW.appendE (enc := SL.one vs) (xs := [] ++ out.take k ++ [L[i]!.1]) (ys := out.drop k) rfl S28 Try.underlying28 rfl rfl (by repeat (first | assumption | exact Take.head _ | apply Take.tail)) List.mem_cons_self (by intro x; first | rfl | (cases x; rfl) | (rcases x with ⟨_, _, _⟩; rfl) | (rcases x with ⟨_, _, _, _⟩; rfl)) (by intro x; first | rfl | (cases x; rfl) | (rcases x with ⟨_, _, _⟩; rfl) | (rcases x with ⟨_, _, _, _⟩; rfl)) ⟨by show _ ≤ 9223372036854775807; simp only [List.length_append, List.length_nil, List.length_singleton]; omega, by simp only [List.length_append, List.length_nil, List.length_singleton]; omega⟩ rfl rfl ?_; intro v55 hv55
          refine WL.rd rfl rfl rfl (Rd.assign rfl rfl) ?_
          refine WL.nil ?_
          refine blockQ.normal ?_
          refine thenQ.normal ?_
          refine WC.region ?_
          refine WL.rd rfl rfl rfl (Rd.move rfl rfl) ?_
          refine WL.rd rfl rfl rfl (Rd.add rfl rfl rfl (by omega)) ?_
          refine WL.rd rfl rfl rfl (Rd.assign rfl rfl) ?_
          refine WL.nil ?_
          exact loopQ3.mk (i + 1) (out.take k ++ [L[i]!.1] ++ out.drop k) v55 ⟨by omega, hins, fun x => by
          rw [hmem, i3]
          constructor
          · rintro (⟨j, h1, h2⟩ | rfl)
            · exact ⟨j, by omega, h2⟩
            · exact ⟨i, by omega, by simpa using hc2, rfl⟩
          · rintro ⟨j, h1, h2⟩
            rcases Nat.lt_or_ge j i with g | g
            · exact .inl ⟨j, g, h2⟩
            · obtain rfl : j = i := by omega
              exact .inr h2.2.symm, by omega⟩ (by omega) (by repeat (first | exact Sub.nil | refine Sub.cons rfl (by first | rfl | (congr 1; omega) | assumption) ?_)) (fun w h => OwnL.sat (by repeat (first | exact OwnL.refl | apply OwnL.take (by repeat (first | exact Take.head _ | apply Take.tail)) | apply OwnL.drop)) w (h.thin (SubL.mem (by repeat (first | exact SubL.refl | refine SubL.cons (by repeat (first | assumption | exact mS | apply mT)) ?_ | refine SubL.skip ?_)))))
      · skip
        refine WA.no rfl rfl rfl rfl rfl rfl ?_
        refine WA.no rfl rfl rfl rfl rfl rfl ?_
        refine WA.no rfl rfl rfl rfl rfl rfl ?_
        refine WA.no rfl rfl rfl rfl rfl rfl ?_
        refine WA.no rfl rfl rfl rfl rfl rfl ?_
        refine WA.no rfl rfl rfl rfl rfl rfl ?_
        refine WA.no rfl rfl rfl rfl rfl rfl ?_
        refine WA.no rfl rfl rfl rfl rfl rfl ?_
        refine WA.no rfl rfl rfl rfl rfl rfl ?_
        refine WA.no rfl rfl rfl rfl rfl rfl ?_
        refine WA.rd rfl rfl rfl (Rd.pick_f rfl rfl rfl) ?_
        refine WA.nil ?_
        refine thenQ.normal ?_
        refine WC.no rfl ?_
        refine WC.exit ?_
        refine thenQ.exit ?_
        refine loopQ1.exit ?_
        refine blockQ.exit ?_
        refine thenQ.normal ?_
        refine WC.seq ?_
        have hfin2 : k = out.length ∨ L[i]!.1 < out[k]! := by
          first
            | exact .inl (by omega)
            | exact .inr (by
                rcases tlt_tri out[k]! L[i]!.1 with g | g | g
                · exact absurd g hc3
                · exact absurd (g ▸ get!_mem (by omega)) hnew
                · exact g)
        have hins := asc_in i2 j1 j2 hfin2
        have hmem : ∀ x, x ∈ out.take k ++ [L[i]!.1] ++ out.drop k ↔ x ∈ out ∨ x = L[i]!.1 := fun x => by
          have e : x ∈ out ↔ x ∈ out.take k ∨ x ∈ out.drop k := by rw [← List.mem_append, List.take_append_drop]
          rw [List.mem_append, List.mem_append, List.mem_singleton, e]
          constructor
          · rintro ((h | h) | h)
            · exact .inl (.inl h)
            · exact .inr h
            · exact .inl (.inr h)
          · rintro ((h | h) | h)
            · exact .inl (.inl h)
            · exact .inr h
            · exact .inl (.inr h)
        have hlen2 : (out.take k ++ [L[i]!.1] ++ out.drop k).length = out.length + 1 := by
          rw [List.length_append, List.length_append, List.length_take, List.length_drop, List.length_singleton]; omega
        refine WC.heap (fun w h => Sat.shareA (xs := out) (by repeat (first | assumption | exact Take.head _ | apply Take.tail)) h) ?_
        refine WC.heap (fun w h => Sat.accNil (e := 9) (size := 1) (enc := SL.one vs) h) ?_
        refine WC.region ?_
        refine WL.rd rfl rfl rfl (Rd.assign rfl rfl) ?_
        refine WL.nil ?_
        refine thenQ.normal ?_
        refine WC.seq ?_
        refine WC.region ?_
        refine WL.rd rfl rfl rfl (Rd.move rfl rfl) ?_
        refine WL.rd rfl rfl rfl (Rd.move rfl rfl) ?_
        refine WL.rd rfl rfl rfl (Rd.move rfl rfl) ?_
        refine WL.rd rfl rfl rfl (Rd.cut_h (enc := SL.one vs) (xs := out) (hi := k) rfl S28 rfl rfl rfl (by repeat (first | assumption | exact mS | apply mT)) (by omega)) ?_
        refine WL.heap (fun w h => h.weaken (p := SlE (SL.one vs) ov out) (q := SlE (SL.one vs) (subSl ov 1 0 k) (out.take k)) List.mem_cons_self (fun w hp => SlE.subh (size := 1) (hi := k) (fun _ => rfl) (by omega) hp)) ?_
        have htl : (out.take k).length ≤ 1000 := by rw [List.length_take]; omega
        have hdl : (out.drop k).length ≤ 1000 := by rw [List.length_drop]; omega
        refine WL.op rfl ?_
        refine OpW.appendE (enc := SL.one vs) (xs := []) (ys := out.take k) rfl S28 Try.underlying28 rfl rfl (by repeat (first | assumption | exact Take.head _ | apply Take.tail)) List.mem_cons_self (by intro x; first | rfl | (cases x; rfl) | (rcases x with ⟨_, _, _⟩; rfl) | (rcases x with ⟨_, _, _, _⟩; rfl)) (by intro x; first | rfl | (cases x; rfl) | (rcases x with ⟨_, _, _⟩; rfl) | (rcases x with ⟨_, _, _, _⟩; rfl)) ⟨by show _ ≤ 9223372036854775807; simp only [List.length_nil]; omega, by simp only [List.length_nil]; omega⟩ rfl rfl ?_; intro v42 hv42
        refine WL.rd rfl rfl rfl (Rd.assign rfl rfl) ?_
        refine WL.nil ?_
        refine thenQ.normal ?_
        refine WC.seq ?_
        refine WC.region ?_
        refine WL.rd rfl rfl rfl (Rd.move rfl rfl) ?_
        refine WL.rd rfl rfl rfl (Rd.move rfl rfl) ?_
        refine WL.rd rfl rfl rfl (Rd.move rfl rfl) ?_
        refine WL.rd rfl rfl rfl ((hN.mono fun p hp => List.mem_cons_of_mem _ (List.mem_cons_of_mem _ hp)).rdIdx (i := i) hil rfl S25 rfl rfl rfl) ?_
        refine WL.rd rfl rfl rfl (Rd.fieldE rfl F31_0 rfl (hN.mono fun p hp => List.mem_cons_of_mem _ (List.mem_cons_of_mem _ hp)).sl (by omega)) ?_
        refine WL.rd rfl rfl rfl ((hN.mono fun p hp => List.mem_cons_of_mem _ (List.mem_cons_of_mem _ hp)).rdId (i := i) hil rfl C9 rfl rfl) ?_
        refine WL.op rfl ?_
        refine OpW.buildSl (ps := [(0, _)]) rfl S28 (by repeat (first | exact Evs.nil | apply Evs.cons rfl)) rfl rfl (by repeat (first | exact CellsOf.nil | apply CellsOf.cons rfl)) (by kernel_rfl) rfl rfl rfl ?_; intro b49
        refine WL.op rfl ?_
        refine OpW.appendRow (enc := SL.one vs) rfl S28 rfl rfl (by repeat (first | assumption | exact Take.head _ | apply Take.tail)) (by repeat (first | assumption | exact Take.head _ | apply Take.tail)) [L[i]!.1] rfl (by rfl) rfl (by intro x; first | rfl | (cases x; rfl) | (rcases x with ⟨_, _, _⟩; rfl) | (rcases x with ⟨_, _, _, _⟩; rfl)) (by intro x; first | rfl | (cases x; rfl) | (rcases x with ⟨_, _, _⟩; rfl) | (rcases x with ⟨_, _, _, _⟩; rfl)) (by first | assumption | exact ⟨by simp only [maxLen, List.length_append, List.length_nil, List.length_cons, List.length_drop, List.length_take, List.length_map]; omega, by first | omega | (simp only [List.length_append, List.length_nil, List.length_cons, List.length_drop, List.length_take, List.length_map]; omega)⟩) rfl rfl ?_; intro v50 hv50
        refine WL.rd rfl rfl rfl (Rd.assign rfl rfl) ?_
        refine WL.nil ?_
        refine thenQ.normal ?_
        refine WC.region ?_
        refine WL.rd rfl rfl rfl (Rd.move rfl rfl) ?_
        refine WL.rd rfl rfl rfl (Rd.move rfl rfl) ?_
        refine WL.rd rfl rfl rfl (Rd.move rfl rfl) ?_
        refine WL.rd rfl rfl rfl (Rd.cut_l (enc := SL.one vs) (xs := out) (lo := k) rfl S28 rfl rfl rfl (by repeat (first | assumption | exact mS | apply mT)) (by omega)) ?_
        refine WL.heap (fun w h => h.weaken (p := SlE (SL.one vs) ov out) (q := SlE (SL.one vs) (subSl ov 1 k out.length) (out.drop k)) (by repeat (first | assumption | exact mS | apply mT)) (fun w hp => SlE.subl (size := 1) (fun _ => rfl) (by omega) hp)) ?_
        refine WL.op rfl ?_
        refine OpW.appendE (enc := SL.one vs) (xs := [] ++ out.take k ++ [L[i]!.1]) (ys := out.drop k) rfl S28 Try.underlying28 rfl rfl (by repeat (first | assumption | exact Take.head _ | apply Take.tail)) List.mem_cons_self (by intro x; first | rfl | (cases x; rfl) | (rcases x with ⟨_, _, _⟩; rfl) | (rcases x with ⟨_, _, _, _⟩; rfl)) (by intro x; first | rfl | (cases x; rfl) | (rcases x with ⟨_, _, _⟩; rfl) | (rcases x with ⟨_, _, _, _⟩; rfl)) ⟨by show _ ≤ 9223372036854775807; simp only [List.length_append, List.length_nil, List.length_singleton]; omega, by simp only [List.length_append, List.length_nil, List.length_singleton]; omega⟩ rfl rfl ?_; intro v55 hv55
        refine WL.rd rfl rfl rfl (Rd.assign rfl rfl) ?_
        refine WL.nil ?_
        refine blockQ.normal ?_
        refine thenQ.normal ?_
        refine WC.region ?_
        refine WL.rd rfl rfl rfl (Rd.move rfl rfl) ?_
        refine WL.rd rfl rfl rfl (Rd.add rfl rfl rfl (by omega)) ?_
        refine WL.rd rfl rfl rfl (Rd.assign rfl rfl) ?_
        refine WL.nil ?_
        exact loopQ3.mk (i + 1) (out.take k ++ [L[i]!.1] ++ out.drop k) v55 ⟨by omega, hins, fun x => by
        rw [hmem, i3]
        constructor
        · rintro (⟨j, h1, h2⟩ | rfl)
          · exact ⟨j, by omega, h2⟩
          · exact ⟨i, by omega, by simpa using hc2, rfl⟩
        · rintro ⟨j, h1, h2⟩
          rcases Nat.lt_or_ge j i with g | g
          · exact .inl ⟨j, g, h2⟩
          · obtain rfl : j = i := by omega
            exact .inr h2.2.symm, by omega⟩ (by omega) (by repeat (first | exact Sub.nil | refine Sub.cons rfl (by first | rfl | (congr 1; omega) | assumption) ?_)) (fun w h => OwnL.sat (by repeat (first | exact OwnL.refl | apply OwnL.take (by repeat (first | exact Take.head _ | apply Take.tail)) | apply OwnL.drop)) w (h.thin (SubL.mem (by repeat (first | exact SubL.refl | refine SubL.cons (by repeat (first | assumption | exact mS | apply mT)) ?_ | refine SubL.skip ?_)))))
  · skip
    refine WC.exit ?_
    refine thenQ.exit ?_
    refine loopQ3.exit ?_
    refine blockQ.exit ?_
    refine thenQ.normal ?_
    refine WC.seq ?_
    refine WC.region ?_
    refine WL.rd rfl rfl rfl (Rd.move rfl rfl) ?_
    refine WL.rd rfl rfl rfl (Rd.assign rfl rfl) ?_
    refine WL.nil ?_
    refine thenQ.normal ?_
    refine WC.ret (Ret.one Try.results21 rfl ?_)
    obtain rfl : i = L.length := by omega
    exact hk ov out i2 i3
theorem set_any {bs : List Bool} {m j : Nat} {a : Bool} (hj : j < bs.length) : (bs.set m a)[j]! = if m = j then a else bs[j]! := by
  rw [getElem!_pos _ j (by rw [List.length_set]; exact hj), List.getElem_set, ← getElem!_pos bs j hj]
/-- Is a place a base, as far as the first n were looked at? -/
def BestTo (L : List Nd) (a b : T) (i n : Nat) : Prop := Common (gOf L) a b L[i]!.1 ∧ ∀ m, m < n → m ≠ i → Common (gOf L) a b L[m]!.1 → ¬ Come (gOf L) [L[m]!.1] L[i]!.1
theorem best_iff {L : List Nd} {a b : T} (hc : Closed (gOf L)) (hz : ∀ z, ¬ Cyc (gOf L) z) {i : Nat} (hn : (ids L).Nodup) (hi : i < L.length) : BestTo L a b i L.length ↔ BaseP (gOf L) a b L[i]!.1 := by
  unfold BestTo BaseP
  refine and_congr_right fun _ => ?_
  constructor
  · rintro h ⟨c, hcc, p, hp, hpp⟩
    have hck : c ∈ ids L := hcc.1.mem hc
    obtain ⟨m, hm, rfl⟩ := mem_ids.1 hck
    by_cases e : m = i
    · subst e
      exact hz _ ⟨hck, p, hp, hpp⟩
    · exact h m hm e hcc ⟨_, List.mem_singleton.2 rfl, hck, .step hck hp hpp⟩
  · rintro h m hm hne hcc ⟨f, hf, hfk, hp⟩
    rw [List.mem_singleton.1 hf] at hfk hp
    rcases hp.first with e | ⟨p, h1, h2, h3⟩
    · exact hne (ids_inj hn hm hi e)
    · exact h ⟨_, hcc, p, h2, h3⟩
theorem BestTo.next {L : List Nd} {a b : T} {i n : Nat} : BestTo L a b i (n + 1) ↔ BestTo L a b i n ∧ (n ≠ i → Common (gOf L) a b L[n]!.1 → ¬ Come (gOf L) [L[n]!.1] L[i]!.1) := by
  unfold BestTo
  constructor
  · rintro ⟨h1, h2⟩
    exact ⟨⟨h1, fun m hm => h2 m (by omega)⟩, h2 n (by omega)⟩
  · rintro ⟨⟨h1, h2⟩, h3⟩
    exact ⟨h1, fun m hm => by
      rcases Nat.lt_or_ge m n with g | g
      · exact h2 m g
      · obtain rfl : m = n := by omega
        exact h3⟩
set_option maxRecDepth 20000 in
set_option maxHeartbeats 8000000 in
theorem rbases_spec {a b : T} (hN : NLs v L R nvs) (hn : (ids L).Nodup) (hc : Closed (gOf L)) (hz : ∀ z, ¬ Cyc (gOf L) z) (hl : L.length ≤ 1000) (hps : ∀ n ∈ L, n.2.1.length ≤ 1000) (hk : ∀ u out, Asc out → (∀ x, x ∈ out ↔ BaseP (gOf L) a b x) → POST u R (accT u out :: O)) : Fun Try.prog 22 #[v, vs a, vs b] R O POST := by
  have hlen := hN.len
  refine Fun.enter (l := [_, _, _]) Try.func22 rfl Try.ntmps22 rfl (L0 := [(0, _), (1, _), (2, _)]) rfl ?_
  refine WC.seq ?_
  refine WC.region ?_
  refine WL.rd rfl rfl rfl (Rd.assign rfl rfl) ?_
  refine WL.nil ?_
  refine thenQ.normal ?_
  refine WC.seq ?_
  refine WC.region ?_
  refine WL.rd rfl rfl rfl (Rd.move rfl rfl) ?_
  refine WL.rd rfl rfl rfl (Rd.move rfl rfl) ?_
  refine WL.op rfl ?_
  refine OpW.buildSl (ps := [(0, _)]) rfl S28 (by repeat (first | exact Evs.nil | apply Evs.cons rfl)) rfl rfl (by repeat (first | exact CellsOf.nil | apply CellsOf.cons rfl)) (by kernel_rfl) rfl rfl rfl ?_; intro b14
  refine WL.heap (fun w h => Sat.shareRow (enc := SL.one vs) (xs := [a]) (by repeat (first | assumption | exact Take.head _ | apply Take.tail)) rfl rfl (by simp) h) ?_
  refine WL.op rfl ?_
  refine OpW.call rfl rfl (by repeat (first | exact Evs.nil | apply Evs.cons rfl)) (by kernel_rfl) rfl rfl rfl ?_
  refine rcome_spec (fs := [a]) (hN.mono fun p hp => List.mem_cons_of_mem _ hp) hn List.mem_cons_self hl (by simp) hps ?_; intro v15 xs hxs
  refine WL.heap (fun w h => Sat.shareA (xs := xs) (by repeat (first | assumption | exact Take.head _ | apply Take.tail)) h) ?_
  refine WL.rd rfl rfl rfl (Rd.move rfl rfl) ?_
  refine WL.rd rfl rfl rfl (Rd.move rfl rfl) ?_
  refine WL.op rfl ?_
  refine OpW.buildSl (ps := [(0, _)]) rfl S28 (by repeat (first | exact Evs.nil | apply Evs.cons rfl)) rfl rfl (by repeat (first | exact CellsOf.nil | apply CellsOf.cons rfl)) (by kernel_rfl) rfl rfl rfl ?_; intro b18
  refine WL.heap (fun w h => Sat.shareRow (enc := SL.one vs) (xs := [b]) (by repeat (first | assumption | exact Take.head _ | apply Take.tail)) rfl rfl (by simp) h) ?_
  refine WL.op rfl ?_
  refine OpW.call rfl rfl (by repeat (first | exact Evs.nil | apply Evs.cons rfl)) (by kernel_rfl) rfl rfl rfl ?_
  refine rcome_spec (fs := [b]) (hN.mono fun p hp => List.mem_cons_of_mem _ (List.mem_cons_of_mem _ (List.mem_cons_of_mem _ hp))) hn List.mem_cons_self hl (by simp) hps ?_; intro v19 ys hys
  refine WL.heap (fun w h => Sat.shareA (xs := ys) (by repeat (first | assumption | exact Take.head _ | apply Take.tail)) h) ?_
  refine WL.rd rfl rfl rfl (Rd.assign rfl rfl) ?_
  refine WL.rd rfl rfl rfl (Rd.assign rfl rfl) ?_
  refine WL.nil ?_
  refine thenQ.normal ?_
  refine WC.seq ?_
  refine WC.heap (R' := SlE (SL.one vbl) v15 xs :: SlE (SL.one vbl) v19 ys :: R) (O' := O) (fun w h => OwnL.sat (by repeat (first | exact OwnL.refl | apply OwnL.take (by repeat (first | exact Take.head _ | apply Take.tail)) | apply OwnL.drop)) w (h.thin (SubL.mem (by repeat (first | exact SubL.refl | refine SubL.cons (by repeat (first | assumption | exact mS | apply mT)) ?_ | refine SubL.skip ?_))))) ?_
  have hN2 : NLs v L (SlE (SL.one vbl) v15 xs :: SlE (SL.one vbl) v19 ys :: R) nvs := hN.mono fun p hp => List.mem_cons_of_mem _ (List.mem_cons_of_mem _ hp)
  have hcm : ∀ j, j < L.length → (Common (gOf L) a b L[j]!.1 ↔ xs[j]! = true ∧ ys[j]! = true) := fun j hj => by rw [hxs.2 j hj, hys.2 j hj]; exact Iff.rfl
  have hxl := hxs.1
  have hyl := hys.1
  refine WC.region ?_
  refine WL.rd rfl rfl rfl (Rd.move rfl rfl) ?_
  refine WL.rd rfl rfl rfl (hN2.rdLen rfl rfl Try.underlying25) ?_
  refine WL.op rfl ?_
  refine OpW.make1 (m := L.length) (c := L.length) rfl S45 rfl rfl rfl rfl rfl (Nat.le_refl _) (by omega) (by omega) rfl rfl ?_; intro b22
  refine WL.heap (fun w h => Sat.accRow (enc := SL.one vbl) (size := 1) (m := L.length) (xs := List.replicate L.length false) (by repeat (first | assumption | exact Take.head _ | apply Take.tail)) (by rw [flat_one, List.map_replicate]) (by simp) (fun _ => rfl) (by omega) h) ?_
  refine WL.rd rfl rfl rfl (Rd.assign rfl rfl) ?_
  refine WL.nil ?_
  refine thenQ.normal ?_
  refine WC.seq ?_
  refine WC.seq ?_
  refine WC.region ?_
  refine WL.rd rfl rfl rfl (Rd.assign rfl rfl) ?_
  refine WL.nil ?_
  refine thenQ.normal ?_
  refine WC.block ?_
  refine WC.pick [10, 0, 7, 8, 9] (by repeat (first | exact Pick.nil | apply Pick.cons rfl)) ?_
  refine WC.loop2 1 (fun (i : Nat) (bb : List Bool) => [(10, vi i)]) (fun (i : Nat) (bb : List Bool) => accB (.slice (some ⟨b22, 0, none⟩) L.length L.length) bb :: O) (fun (i : Nat) (bb : List Bool) => i ≤ L.length ∧ bb.length = L.length ∧ ∀ j, j < i → (bb[j]! = true ↔ BaseP (gOf L) a b L[j]!.1)) (fun (i : Nat) (bb : List Bool) => L.length - i) (0) (List.replicate L.length false) (by repeat (first | exact Split.zero | apply Split.succ)) ?hinv1 (by repeat (first | exact Sub.nil | refine Sub.cons rfl (by first | rfl | (congr 1; omega) | assumption) ?_)) (fun _ h => h) ?_
  case hinv1 =>
    exact ⟨Nat.zero_le _, by simp, fun j h => absurd h (Nat.not_lt_zero _)⟩
  intro i bb
  rintro ⟨i1, i2, i3⟩
  refine WC.seq ?_
  refine WC.seq ?_
  refine WC.region ?_
  refine WL.rd rfl rfl rfl (Rd.move rfl rfl) ?_
  refine WL.rd rfl rfl rfl (Rd.move rfl rfl) ?_
  refine WL.rd rfl rfl rfl (hN2.rdLen rfl rfl Try.underlying25) ?_
  refine WL.rd rfl rfl rfl (Rd.lss rfl rfl rfl) ?_
  refine WL.nil ?_
  refine thenQ.normal ?_
  first | refine WC.ite rfl (fun hc1 => ?_) (fun hc1 => ?_) | refine WC.cond rfl (fun hc1 => ?_) (fun hc1 => ?_)
  · skip
    have hil : i < L.length := by omega
    refine WC.skip ?_
    refine thenQ.normal ?_
    refine WC.seq ?_
    refine WC.block ?_
    refine WC.seq ?_
    refine WC.region ?_
    refine WL.rd rfl rfl rfl (Rd.move rfl rfl) ?_
    refine WL.rd rfl rfl rfl (Rd.move rfl rfl) ?_
    refine WL.rd rfl rfl rfl (Rd.move rfl rfl) ?_
    refine WL.rd rfl rfl rfl (Rd.move rfl rfl) ?_
    refine WL.rd rfl rfl rfl (Rd.idx1 (enc := SL.one vbl) (xs := xs) (k := i) rfl S45 rfl rfl rfl (by repeat (first | assumption | exact mS | apply mT)) (by omega)) ?_
    refine WL.rd rfl rfl rfl (Rd.get (g := vbl) (xs := xs) (k := i) rfl C4 rfl (by repeat (first | assumption | exact mS | apply mT)) (get!_of_lt (by omega))) ?_
    refine WL.say 34 (u := .bool (decide (xs[i]! = true))) rfl (vbl_dec _) ?_
    refine WL.rd rfl rfl rfl (Rd.move rfl rfl) ?_
    refine WL.case 35 rfl (fun hg35 => ?_) (fun hg35 => ?_)
    · skip
      refine WL.rd_yes rfl rfl rfl rfl rfl rfl (Rd.move rfl rfl) ?_
      refine WL.rd_yes rfl rfl rfl rfl rfl rfl (Rd.move rfl rfl) ?_
      refine WL.rd_yes rfl rfl rfl rfl rfl rfl (Rd.idx1 (enc := SL.one vbl) (xs := ys) (k := i) rfl S45 rfl rfl rfl (by repeat (first | assumption | exact mS | apply mT)) (by omega)) ?_
      refine WL.rd_yes rfl rfl rfl rfl rfl rfl (Rd.get (g := vbl) (xs := ys) (k := i) rfl C4 rfl (by repeat (first | assumption | exact mS | apply mT)) (get!_of_lt (by omega))) ?_
      refine WL.say 39 (u := .bool (decide (ys[i]! = true))) rfl (vbl_dec _) ?_
      refine WL.rd rfl rfl rfl (Rd.pick_t rfl rfl rfl) ?_
      refine WL.say 40 (u := vbl (xs[i]! && ys[i]!)) rfl (by first | (rw [show xs[i]! = true from hg35, Bool.true_and]; exact (vbl_dec _).symm) | (rw [show xs[i]! = false from by simpa using hg35, Bool.false_and])) ?_
      refine WL.rd rfl rfl rfl (Rd.idxA1 (enc := SL.one vbl) (xs := bb) (k := i) rfl S45 rfl rfl rfl (by repeat (first | assumption | exact mS | apply mT)) (by omega)) ?_
      refine WL.op rfl ?_
      refine OpW.storeAcc (k := i) (a := xs[i]! && ys[i]!) rfl Z4 rfl rfl rfl rfl (by repeat (first | assumption | exact Take.head _ | apply Take.tail)) (by omega) rfl ?_
      refine WL.nil ?_
      refine thenQ.normal ?_
      refine WC.seq ?_
      refine WC.region ?_
      refine WL.rd rfl rfl rfl (Rd.assign rfl rfl) ?_
      refine WL.nil ?_
      refine thenQ.normal ?_
      refine WC.block ?_
      refine WC.pick [11, 0, 7, 8, 9, 10] (by repeat (first | exact Pick.nil | apply Pick.cons rfl)) ?_
      refine WC.loop2 1 (fun (k : Nat) (bc : List Bool) => [(11, vi k)]) (fun (k : Nat) (bc : List Bool) => accB (.slice (some ⟨b22, 0, none⟩) L.length L.length) bc :: O) (fun (k : Nat) (bc : List Bool) => k ≤ L.length ∧ bc.length = L.length ∧ (∀ j, j < i → (bc[j]! = true ↔ BaseP (gOf L) a b L[j]!.1)) ∧ (bc[i]! = true ↔ BestTo L a b i k)) (fun (k : Nat) (bc : List Bool) => L.length - k) (0) (bb.set i (xs[i]! && ys[i]!)) (by repeat (first | exact Split.zero | apply Split.succ)) ?hinv2 (by repeat (first | exact Sub.nil | refine Sub.cons rfl (by first | rfl | (congr 1; omega) | assumption) ?_)) (fun _ h => h) ?_
      case hinv2 =>
        exact ⟨Nat.zero_le _, by rw [List.length_set]; exact i2, fun j hj => by rw [set_any (by omega), if_neg (by omega)]; exact i3 j hj, by rw [set_any (by omega), if_pos rfl, Bool.and_eq_true, ← hcm i hil]; exact ⟨fun h => ⟨h, fun m hm => absurd hm (Nat.not_lt_zero _)⟩, fun h => h.1⟩⟩
      intro k bc
      rintro ⟨j1, j2, j3, j4⟩
      refine WC.seq ?_
      refine WC.seq ?_
      refine WC.region ?_
      refine WL.rd rfl rfl rfl (Rd.move rfl rfl) ?_
      refine WL.rd rfl rfl rfl (Rd.move rfl rfl) ?_
      refine WL.rd rfl rfl rfl (hN2.rdLen rfl rfl Try.underlying25) ?_
      refine WL.rd rfl rfl rfl (Rd.lss rfl rfl rfl) ?_
      refine WL.nil ?_
      refine thenQ.normal ?_
      first | refine WC.ite rfl (fun hc2 => ?_) (fun hc2 => ?_) | refine WC.cond rfl (fun hc2 => ?_) (fun hc2 => ?_)
      · skip
        have hkl : k < L.length := by omega
        refine WC.skip ?_
        refine thenQ.normal ?_
        refine WC.seq ?_
        refine WC.block ?_
        refine WC.seq ?_
        refine WC.region ?_
        refine WL.rd rfl rfl rfl (Rd.move rfl rfl) ?_
        refine WL.rd rfl rfl rfl (Rd.move rfl rfl) ?_
        refine WL.rd rfl rfl rfl (Rd.neq rfl rfl rfl) ?_
        refine WL.rd rfl rfl rfl (Rd.move rfl rfl) ?_
        refine WL.case 51 rfl (fun hg51 => ?_) (fun hg51 => ?_)
        · skip
          refine WL.rd_yes rfl rfl rfl rfl rfl rfl (Rd.move rfl rfl) ?_
          refine WL.rd_yes rfl rfl rfl rfl rfl rfl (Rd.move rfl rfl) ?_
          refine WL.rd_yes rfl rfl rfl rfl rfl rfl (Rd.idx1 (enc := SL.one vbl) (xs := xs) (k := k) rfl S45 rfl rfl rfl (by repeat (first | assumption | exact mS | apply mT)) (by omega)) ?_
          refine WL.rd_yes rfl rfl rfl rfl rfl rfl (Rd.get (g := vbl) (xs := xs) (k := k) rfl C4 rfl (by repeat (first | assumption | exact mS | apply mT)) (get!_of_lt (by omega))) ?_
          refine WL.say 55 (u := .bool (decide (xs[k]! = true))) rfl (vbl_dec _) ?_
          refine WL.rd rfl rfl rfl (Rd.pick_t rfl rfl rfl) ?_
          refine WL.rd rfl rfl rfl (Rd.move rfl rfl) ?_
          refine WL.case 57 rfl (fun hg57 => ?_) (fun hg57 => ?_)
          · skip
            refine WL.rd_yes rfl rfl rfl rfl rfl rfl (Rd.move rfl rfl) ?_
            refine WL.rd_yes rfl rfl rfl rfl rfl rfl (Rd.move rfl rfl) ?_
            refine WL.rd_yes rfl rfl rfl rfl rfl rfl (Rd.idx1 (enc := SL.one vbl) (xs := ys) (k := k) rfl S45 rfl rfl rfl (by repeat (first | assumption | exact mS | apply mT)) (by omega)) ?_
            refine WL.rd_yes rfl rfl rfl rfl rfl rfl (Rd.get (g := vbl) (xs := ys) (k := k) rfl C4 rfl (by repeat (first | assumption | exact mS | apply mT)) (get!_of_lt (by omega))) ?_
            refine WL.say 61 (u := .bool (decide (ys[k]! = true))) rfl (vbl_dec _) ?_
            refine WL.rd rfl rfl rfl (Rd.pick_t rfl rfl rfl) ?_
            refine WL.rd rfl rfl rfl (Rd.move rfl rfl) ?_
            refine WL.case 63 rfl (fun hg63 => ?_) (fun hg63 => ?_)
            · skip
              refine WL.rd_yes rfl rfl rfl rfl rfl rfl (Rd.move rfl rfl) ?_
              refine WL.rd_yes rfl rfl rfl rfl rfl rfl (Rd.move rfl rfl) ?_
              refine WL.rd_yes rfl rfl rfl rfl rfl rfl (Rd.move rfl rfl) ?_
              refine WL.rd_yes rfl rfl rfl rfl rfl rfl (hN2.rdIdx (i := k) hkl rfl S25 rfl rfl rfl) ?_
              refine WL.rd_yes rfl rfl rfl rfl rfl rfl (Rd.fieldE rfl F31_0 rfl hN2.sl (by omega)) ?_
              refine WL.rd_yes rfl rfl rfl rfl rfl rfl (hN2.rdId (i := k) hkl rfl C9 rfl rfl) ?_
              refine WL.op_yes rfl rfl rfl rfl ?_
              refine OpW.buildSl (ps := [(0, _)]) rfl S28 (by repeat (first | exact Evs.nil | apply Evs.cons rfl)) rfl rfl (by repeat (first | exact CellsOf.nil | apply CellsOf.cons rfl)) (by kernel_rfl) rfl rfl rfl ?_; intro b70
              refine WL.heap (fun w h => Sat.shareRow (enc := SL.one vs) (xs := [L[k]!.1]) (by repeat (first | assumption | exact Take.head _ | apply Take.tail)) rfl rfl (by simp) h) ?_
              refine WL.op_yes rfl rfl rfl rfl ?_
              refine OpW.call rfl rfl (by repeat (first | exact Evs.nil | apply Evs.cons rfl)) (by kernel_rfl) rfl rfl rfl ?_
              refine rcome_spec (fs := [L[k]!.1]) (hN2.mono fun p hp => List.mem_cons_of_mem _ hp) hn List.mem_cons_self hl (by simp) hps ?_; intro v71 zs hzs
              refine WL.rd_yes rfl rfl rfl rfl rfl rfl (Rd.move rfl rfl) ?_
              refine WL.rd_yes rfl rfl rfl rfl rfl rfl (Rd.idxA1 (enc := SL.one vbl) (xs := zs) (k := i) rfl S45 rfl rfl rfl (by repeat (first | assumption | exact mS | apply mT)) (by rw [hzs.1]; exact hil)) ?_
              refine WL.rd_yes rfl rfl rfl rfl rfl rfl (Rd.getA (g := vbl) (xs := zs) (k := i) rfl C4 rfl (by repeat (first | assumption | exact mS | apply mT)) (get!_of_lt (by rw [hzs.1]; exact hil))) ?_
              refine WL.say 74 (u := .bool (decide (zs[i]! = true))) rfl (vbl_dec _) ?_
              refine WL.rd rfl rfl rfl (Rd.pick_t rfl rfl rfl) ?_
              refine WL.nil ?_
              refine thenQ.normal ?_
              first | refine WC.ite rfl (fun hc3 => ?_) (fun hc3 => ?_) | refine WC.cond rfl (fun hc3 => ?_) (fun hc3 => ?_)
              · skip
                have hset : (bc.set i false)[i]! = true ↔ BestTo L a b i (k + 1) := by
                  rw [set_any (by omega), if_pos rfl]
                  exact ⟨fun h => Bool.noConfusion h, fun h => absurd ((hzs.2 i hil).1 hc3) (h.2 k (by omega) (by omega) ((hcm k hkl).2 ⟨hg57, hg63⟩))⟩
                refine WC.region ?_
                refine WL.rd rfl rfl rfl (Rd.move rfl rfl) ?_
                refine WL.rd rfl rfl rfl (Rd.move rfl rfl) ?_
                refine WL.rd rfl rfl rfl (Rd.idxA1 (enc := SL.one vbl) (xs := bc) (k := i) rfl S45 rfl rfl rfl (by repeat (first | assumption | exact mS | apply mT)) (by omega)) ?_
                refine WL.op rfl ?_
                refine OpW.storeAcc (k := i) (a := false) rfl Z4 rfl rfl rfl rfl (by repeat (first | assumption | exact Take.head _ | apply Take.tail)) (by omega) rfl ?_
                refine WL.nil ?_
                refine blockQ.normal ?_
                refine thenQ.normal ?_
                refine WC.region ?_
                refine WL.rd rfl rfl rfl (Rd.move rfl rfl) ?_
                refine WL.rd rfl rfl rfl (Rd.add rfl rfl rfl (by omega)) ?_
                refine WL.rd rfl rfl rfl (Rd.assign rfl rfl) ?_
                refine WL.nil ?_
                exact loopQ2.mk (k + 1) (bc.set i false) ⟨by omega, by rw [List.length_set]; exact j2, fun j hj => by rw [set_any (by omega), if_neg (by omega)]; exact j3 j hj, hset⟩ (by omega) (by repeat (first | exact Sub.nil | refine Sub.cons rfl (by first | rfl | (congr 1; omega) | assumption) ?_)) (fun w h => OwnL.sat (by repeat (first | exact OwnL.refl | apply OwnL.take (by repeat (first | exact Take.head _ | apply Take.tail)) | apply OwnL.drop)) w (h.thin (SubL.mem (by repeat (first | exact SubL.refl | refine SubL.cons (by repeat (first | assumption | exact mS | apply mT)) ?_ | refine SubL.skip ?_)))))
              · skip
                refine WC.skip ?_
                refine blockQ.normal ?_
                refine thenQ.normal ?_
                refine WC.region ?_
                refine WL.rd rfl rfl rfl (Rd.move rfl rfl) ?_
                refine WL.rd rfl rfl rfl (Rd.add rfl rfl rfl (by omega)) ?_
                refine WL.rd rfl rfl rfl (Rd.assign rfl rfl) ?_
                refine WL.nil ?_
                have hkeep : bc[i]! = true ↔ BestTo L a b i (k + 1) := by
                  rw [BestTo.next, j4]
                  refine ⟨fun h => ⟨h, ?_⟩, fun h => h.1⟩
                  first
                    | exact fun _ _ h => hc3 ((hzs.2 i hil).2 h)
                    | exact fun _ h => absurd ((hcm k hkl).1 h).2 hg63
                    | exact fun _ h => absurd ((hcm k hkl).1 h).1 hg57
                    | exact fun h => absurd h (by omega)
                exact loopQ2.mk (k + 1) bc ⟨by omega, j2, j3, hkeep⟩ (by omega) (by repeat (first | exact Sub.nil | refine Sub.cons rfl (by first | rfl | (congr 1; omega) | assumption) ?_)) (fun w h => OwnL.sat (by repeat (first | exact OwnL.refl | apply OwnL.take (by repeat (first | exact Take.head _ | apply Take.tail)) | apply OwnL.drop)) w (h.thin (SubL.mem (by repeat (first | exact SubL.refl | refine SubL.cons (by repeat (first | assumption | exact mS | apply mT)) ?_ | refine SubL.skip ?_)))))
            · skip
              refine WL.no rfl rfl rfl rfl rfl rfl ?_
              refine WL.no rfl rfl rfl rfl rfl rfl ?_
              refine WL.no rfl rfl rfl rfl rfl rfl ?_
              refine WL.no rfl rfl rfl rfl rfl rfl ?_
              refine WL.no rfl rfl rfl rfl rfl rfl ?_
              refine WL.no rfl rfl rfl rfl rfl rfl ?_
              refine WL.no rfl rfl rfl rfl rfl rfl ?_
              refine WL.no rfl rfl rfl rfl rfl rfl ?_
              refine WL.no rfl rfl rfl rfl rfl rfl ?_
              refine WL.no rfl rfl rfl rfl rfl rfl ?_
              refine WL.no rfl rfl rfl rfl rfl rfl ?_
              refine WL.rd rfl rfl rfl (Rd.pick_f rfl rfl rfl) ?_
              refine WL.nil ?_
              refine thenQ.normal ?_
              refine WC.no rfl ?_
              refine WC.skip ?_
              refine blockQ.normal ?_
              refine thenQ.normal ?_
              refine WC.region ?_
              refine WL.rd rfl rfl rfl (Rd.move rfl rfl) ?_
              refine WL.rd rfl rfl rfl (Rd.add rfl rfl rfl (by omega)) ?_
              refine WL.rd rfl rfl rfl (Rd.assign rfl rfl) ?_
              refine WL.nil ?_
              have hkeep : bc[i]! = true ↔ BestTo L a b i (k + 1) := by
                rw [BestTo.next, j4]
                refine ⟨fun h => ⟨h, ?_⟩, fun h => h.1⟩
                first
                  | exact fun _ _ h => hc3 ((hzs.2 i hil).2 h)
                  | exact fun _ h => absurd ((hcm k hkl).1 h).2 hg63
                  | exact fun _ h => absurd ((hcm k hkl).1 h).1 hg57
                  | exact fun h => absurd h (by omega)
              exact loopQ2.mk (k + 1) bc ⟨by omega, j2, j3, hkeep⟩ (by omega) (by repeat (first | exact Sub.nil | refine Sub.cons rfl (by first | rfl | (congr 1; omega) | assumption) ?_)) (fun w h => OwnL.sat (by repeat (first | exact OwnL.refl | apply OwnL.take (by repeat (first | exact Take.head _ | apply Take.tail)) | apply OwnL.drop)) w (h.thin (SubL.mem (by repeat (first | exact SubL.refl | refine SubL.cons (by repeat (first | assumption | exact mS | apply mT)) ?_ | refine SubL.skip ?_)))))
          · skip
            refine WL.no rfl rfl rfl rfl rfl rfl ?_
            refine WL.no rfl rfl rfl rfl rfl rfl ?_
            refine WL.no rfl rfl rfl rfl rfl rfl ?_
            refine WL.no rfl rfl rfl rfl rfl rfl ?_
            refine WL.rd rfl rfl rfl (Rd.pick_f rfl rfl rfl) ?_
            refine WL.rd rfl rfl rfl (Rd.move rfl rfl) ?_
            refine WL.no rfl rfl rfl rfl rfl rfl ?_
            refine WL.no rfl rfl rfl rfl rfl rfl ?_
            refine WL.no rfl rfl rfl rfl rfl rfl ?_
            refine WL.no rfl rfl rfl rfl rfl rfl ?_
            refine WL.no rfl rfl rfl rfl rfl rfl ?_
            refine WL.no rfl rfl rfl rfl rfl rfl ?_
            refine WL.no rfl rfl rfl rfl rfl rfl ?_
            refine WL.no rfl rfl rfl rfl rfl rfl ?_
            refine WL.no rfl rfl rfl rfl rfl rfl ?_
            refine WL.no rfl rfl rfl rfl rfl rfl ?_
            refine WL.no rfl rfl rfl rfl rfl rfl ?_
            refine WL.rd rfl rfl rfl (Rd.pick_f rfl rfl rfl) ?_
            refine WL.nil ?_
            refine thenQ.normal ?_
            refine WC.no rfl ?_
            refine WC.skip ?_
            refine blockQ.normal ?_
            refine thenQ.normal ?_
            refine WC.region ?_
            refine WL.rd rfl rfl rfl (Rd.move rfl rfl) ?_
            refine WL.rd rfl rfl rfl (Rd.add rfl rfl rfl (by omega)) ?_
            refine WL.rd rfl rfl rfl (Rd.assign rfl rfl) ?_
            refine WL.nil ?_
            have hkeep : bc[i]! = true ↔ BestTo L a b i (k + 1) := by
              rw [BestTo.next, j4]
              refine ⟨fun h => ⟨h, ?_⟩, fun h => h.1⟩
              first
                | exact fun _ _ h => hc3 ((hzs.2 i hil).2 h)
                | exact fun _ h => absurd ((hcm k hkl).1 h).2 hg63
                | exact fun _ h => absurd ((hcm k hkl).1 h).1 hg57
                | exact fun h => absurd h (by omega)
            exact loopQ2.mk (k + 1) bc ⟨by omega, j2, j3, hkeep⟩ (by omega) (by repeat (first | exact Sub.nil | refine Sub.cons rfl (by first | rfl | (congr 1; omega) | assumption) ?_)) (fun w h => OwnL.sat (by repeat (first | exact OwnL.refl | apply OwnL.take (by repeat (first | exact Take.head _ | apply Take.tail)) | apply OwnL.drop)) w (h.thin (SubL.mem (by repeat (first | exact SubL.refl | refine SubL.cons (by repeat (first | assumption | exact mS | apply mT)) ?_ | refine SubL.skip ?_)))))
        · skip
          refine WL.no rfl rfl rfl rfl rfl rfl ?_
          refine WL.no rfl rfl rfl rfl rfl rfl ?_
          refine WL.no rfl rfl rfl rfl rfl rfl ?_
          refine WL.no rfl rfl rfl rfl rfl rfl ?_
          refine WL.rd rfl rfl rfl (Rd.pick_f rfl rfl rfl) ?_
          refine WL.rd rfl rfl rfl (Rd.move rfl rfl) ?_
          refine WL.no rfl rfl rfl rfl rfl rfl ?_
          refine WL.no rfl rfl rfl rfl rfl rfl ?_
          refine WL.no rfl rfl rfl rfl rfl rfl ?_
          refine WL.no rfl rfl rfl rfl rfl rfl ?_
          refine WL.rd rfl rfl rfl (Rd.pick_f rfl rfl rfl) ?_
          refine WL.rd rfl rfl rfl (Rd.move rfl rfl) ?_
          refine WL.no rfl rfl rfl rfl rfl rfl ?_
          refine WL.no rfl rfl rfl rfl rfl rfl ?_
          refine WL.no rfl rfl rfl rfl rfl rfl ?_
          refine WL.no rfl rfl rfl rfl rfl rfl ?_
          refine WL.no rfl rfl rfl rfl rfl rfl ?_
          refine WL.no rfl rfl rfl rfl rfl rfl ?_
          refine WL.no rfl rfl rfl rfl rfl rfl ?_
          refine WL.no rfl rfl rfl rfl rfl rfl ?_
          refine WL.no rfl rfl rfl rfl rfl rfl ?_
          refine WL.no rfl rfl rfl rfl rfl rfl ?_
          refine WL.no rfl rfl rfl rfl rfl rfl ?_
          refine WL.rd rfl rfl rfl (Rd.pick_f rfl rfl rfl) ?_
          refine WL.nil ?_
          refine thenQ.normal ?_
          refine WC.no rfl ?_
          refine WC.skip ?_
          refine blockQ.normal ?_
          refine thenQ.normal ?_
          refine WC.region ?_
          refine WL.rd rfl rfl rfl (Rd.move rfl rfl) ?_
          refine WL.rd rfl rfl rfl (Rd.add rfl rfl rfl (by omega)) ?_
          refine WL.rd rfl rfl rfl (Rd.assign rfl rfl) ?_
          refine WL.nil ?_
          have hkeep : bc[i]! = true ↔ BestTo L a b i (k + 1) := by
            rw [BestTo.next, j4]
            refine ⟨fun h => ⟨h, ?_⟩, fun h => h.1⟩
            first
              | exact fun _ _ h => hc3 ((hzs.2 i hil).2 h)
              | exact fun _ h => absurd ((hcm k hkl).1 h).2 hg63
              | exact fun _ h => absurd ((hcm k hkl).1 h).1 hg57
              | exact fun h => absurd h (by omega)
          exact loopQ2.mk (k + 1) bc ⟨by omega, j2, j3, hkeep⟩ (by omega) (by repeat (first | exact Sub.nil | refine Sub.cons rfl (by first | rfl | (congr 1; omega) | assumption) ?_)) (fun w h => OwnL.sat (by repeat (first | exact OwnL.refl | apply OwnL.take (by repeat (first | exact Take.head _ | apply Take.tail)) | apply OwnL.drop)) w (h.thin (SubL.mem (by repeat (first | exact SubL.refl | refine SubL.cons (by repeat (first | assumption | exact mS | apply mT)) ?_ | refine SubL.skip ?_)))))
      · skip
        obtain rfl : k = L.length := by omega
        rw [best_iff hc hz hn hil] at j4
        refine WC.exit ?_
        refine thenQ.exit ?_
        refine loopQ2.exit ?_
        refine blockQ.exit ?_
        refine blockQ.normal ?_
        refine thenQ.normal ?_
        refine WC.region ?_
        refine WL.rd rfl rfl rfl (Rd.move rfl rfl) ?_
        refine WL.rd rfl rfl rfl (Rd.add rfl rfl rfl (by omega)) ?_
        refine WL.rd rfl rfl rfl (Rd.assign rfl rfl) ?_
        refine WL.nil ?_
        exact loopQ2.mk (i + 1) bc ⟨by omega, j2, fun j hj => by
        rcases Nat.lt_or_ge j i with g | g
        · exact j3 j g
        · obtain rfl : j = i := by omega
          exact j4⟩ (by omega) (by repeat (first | exact Sub.nil | refine Sub.cons rfl (by first | rfl | (congr 1; omega) | assumption) ?_)) (fun w h => OwnL.sat (by repeat (first | exact OwnL.refl | apply OwnL.take (by repeat (first | exact Take.head _ | apply Take.tail)) | apply OwnL.drop)) w (h.thin (SubL.mem (by repeat (first | exact SubL.refl | refine SubL.cons (by repeat (first | assumption | exact mS | apply mT)) ?_ | refine SubL.skip ?_)))))
    · skip
      refine WL.no rfl rfl rfl rfl rfl rfl ?_
      refine WL.no rfl rfl rfl rfl rfl rfl ?_
      refine WL.no rfl rfl rfl rfl rfl rfl ?_
      refine WL.no rfl rfl rfl rfl rfl rfl ?_
      refine WL.rd rfl rfl rfl (Rd.pick_f rfl rfl rfl) ?_
      refine WL.say 40 (u := vbl (xs[i]! && ys[i]!)) rfl (by first | (rw [show xs[i]! = true from hg35, Bool.true_and]; exact (vbl_dec _).symm) | (rw [show xs[i]! = false from by simpa using hg35, Bool.false_and])) ?_
      refine WL.rd rfl rfl rfl (Rd.idxA1 (enc := SL.one vbl) (xs := bb) (k := i) rfl S45 rfl rfl rfl (by repeat (first | assumption | exact mS | apply mT)) (by omega)) ?_
      refine WL.op rfl ?_
      refine OpW.storeAcc (k := i) (a := xs[i]! && ys[i]!) rfl Z4 rfl rfl rfl rfl (by repeat (first | assumption | exact Take.head _ | apply Take.tail)) (by omega) rfl ?_
      refine WL.nil ?_
      refine thenQ.normal ?_
      refine WC.seq ?_
      refine WC.region ?_
      refine WL.rd rfl rfl rfl (Rd.assign rfl rfl) ?_
      refine WL.nil ?_
      refine thenQ.normal ?_
      refine WC.block ?_
      refine WC.pick [11, 0, 7, 8, 9, 10] (by repeat (first | exact Pick.nil | apply Pick.cons rfl)) ?_
      refine WC.loop2 1 (fun (k : Nat) (bc : List Bool) => [(11, vi k)]) (fun (k : Nat) (bc : List Bool) => accB (.slice (some ⟨b22, 0, none⟩) L.length L.length) bc :: O) (fun (k : Nat) (bc : List Bool) => k ≤ L.length ∧ bc.length = L.length ∧ (∀ j, j < i → (bc[j]! = true ↔ BaseP (gOf L) a b L[j]!.1)) ∧ (bc[i]! = true ↔ BestTo L a b i k)) (fun (k : Nat) (bc : List Bool) => L.length - k) (0) (bb.set i (xs[i]! && ys[i]!)) (by repeat (first | exact Split.zero | apply Split.succ)) ?hinv2 (by repeat (first | exact Sub.nil | refine Sub.cons rfl (by first | rfl | (congr 1; omega) | assumption) ?_)) (fun _ h => h) ?_
      case hinv2 =>
        exact ⟨Nat.zero_le _, by rw [List.length_set]; exact i2, fun j hj => by rw [set_any (by omega), if_neg (by omega)]; exact i3 j hj, by rw [set_any (by omega), if_pos rfl, Bool.and_eq_true, ← hcm i hil]; exact ⟨fun h => ⟨h, fun m hm => absurd hm (Nat.not_lt_zero _)⟩, fun h => h.1⟩⟩
      intro k bc
      rintro ⟨j1, j2, j3, j4⟩
      refine WC.seq ?_
      refine WC.seq ?_
      refine WC.region ?_
      refine WL.rd rfl rfl rfl (Rd.move rfl rfl) ?_
      refine WL.rd rfl rfl rfl (Rd.move rfl rfl) ?_
      refine WL.rd rfl rfl rfl (hN2.rdLen rfl rfl Try.underlying25) ?_
      refine WL.rd rfl rfl rfl (Rd.lss rfl rfl rfl) ?_
      refine WL.nil ?_
      refine thenQ.normal ?_
      first | refine WC.ite rfl (fun hc2 => ?_) (fun hc2 => ?_) | refine WC.cond rfl (fun hc2 => ?_) (fun hc2 => ?_)
      · skip
        have hkl : k < L.length := by omega
        refine WC.skip ?_
        refine thenQ.normal ?_
        refine WC.seq ?_
        refine WC.block ?_
        refine WC.seq ?_
        refine WC.region ?_
        refine WL.rd rfl rfl rfl (Rd.move rfl rfl) ?_
        refine WL.rd rfl rfl rfl (Rd.move rfl rfl) ?_
        refine WL.rd rfl rfl rfl (Rd.neq rfl rfl rfl) ?_
        refine WL.rd rfl rfl rfl (Rd.move rfl rfl) ?_
        refine WL.case 51 rfl (fun hg51 => ?_) (fun hg51 => ?_)
        · skip
          refine WL.rd_yes rfl rfl rfl rfl rfl rfl (Rd.move rfl rfl) ?_
          refine WL.rd_yes rfl rfl rfl rfl rfl rfl (Rd.move rfl rfl) ?_
          refine WL.rd_yes rfl rfl rfl rfl rfl rfl (Rd.idx1 (enc := SL.one vbl) (xs := xs) (k := k) rfl S45 rfl rfl rfl (by repeat (first | assumption | exact mS | apply mT)) (by omega)) ?_
          refine WL.rd_yes rfl rfl rfl rfl rfl rfl (Rd.get (g := vbl) (xs := xs) (k := k) rfl C4 rfl (by repeat (first | assumption | exact mS | apply mT)) (get!_of_lt (by omega))) ?_
          refine WL.say 55 (u := .bool (decide (xs[k]! = true))) rfl (vbl_dec _) ?_
          refine WL.rd rfl rfl rfl (Rd.pick_t rfl rfl rfl) ?_
          refine WL.rd rfl rfl rfl (Rd.move rfl rfl) ?_
          refine WL.case 57 rfl (fun hg57 => ?_) (fun hg57 => ?_)
          · skip
            refine WL.rd_yes rfl rfl rfl rfl rfl rfl (Rd.move rfl rfl) ?_
            refine WL.rd_yes rfl rfl rfl rfl rfl rfl (Rd.move rfl rfl) ?_
            refine WL.rd_yes rfl rfl rfl rfl rfl rfl (Rd.idx1 (enc := SL.one vbl) (xs := ys) (k := k) rfl S45 rfl rfl rfl (by repeat (first | assumption | exact mS | apply mT)) (by omega)) ?_
            refine WL.rd_yes rfl rfl rfl rfl rfl rfl (Rd.get (g := vbl) (xs := ys) (k := k) rfl C4 rfl (by repeat (first | assumption | exact mS | apply mT)) (get!_of_lt (by omega))) ?_
            refine WL.say 61 (u := .bool (decide (ys[k]! = true))) rfl (vbl_dec _) ?_
            refine WL.rd rfl rfl rfl (Rd.pick_t rfl rfl rfl) ?_
            refine WL.rd rfl rfl rfl (Rd.move rfl rfl) ?_
            refine WL.case 63 rfl (fun hg63 => ?_) (fun hg63 => ?_)
            · skip
              refine WL.rd_yes rfl rfl rfl rfl rfl rfl (Rd.move rfl rfl) ?_
              refine WL.rd_yes rfl rfl rfl rfl rfl rfl (Rd.move rfl rfl) ?_
              refine WL.rd_yes rfl rfl rfl rfl rfl rfl (Rd.move rfl rfl) ?_
              refine WL.rd_yes rfl rfl rfl rfl rfl rfl (hN2.rdIdx (i := k) hkl rfl S25 rfl rfl rfl) ?_
              refine WL.rd_yes rfl rfl rfl rfl rfl rfl (Rd.fieldE rfl F31_0 rfl hN2.sl (by omega)) ?_
              refine WL.rd_yes rfl rfl rfl rfl rfl rfl (hN2.rdId (i := k) hkl rfl C9 rfl rfl) ?_
              refine WL.op_yes rfl rfl rfl rfl ?_
              refine OpW.buildSl (ps := [(0, _)]) rfl S28 (by repeat (first | exact Evs.nil | apply Evs.cons rfl)) rfl rfl (by repeat (first | exact CellsOf.nil | apply CellsOf.cons rfl)) (by kernel_rfl) rfl rfl rfl ?_; intro b70
              refine WL.heap (fun w h => Sat.shareRow (enc := SL.one vs) (xs := [L[k]!.1]) (by repeat (first | assumption | exact Take.head _ | apply Take.tail)) rfl rfl (by simp) h) ?_
              refine WL.op_yes rfl rfl rfl rfl ?_
              refine OpW.call rfl rfl (by repeat (first | exact Evs.nil | apply Evs.cons rfl)) (by kernel_rfl) rfl rfl rfl ?_
              refine rcome_spec (fs := [L[k]!.1]) (hN2.mono fun p hp => List.mem_cons_of_mem _ hp) hn List.mem_cons_self hl (by simp) hps ?_; intro v71 zs hzs
              refine WL.rd_yes rfl rfl rfl rfl rfl rfl (Rd.move rfl rfl) ?_
              refine WL.rd_yes rfl rfl rfl rfl rfl rfl (Rd.idxA1 (enc := SL.one vbl) (xs := zs) (k := i) rfl S45 rfl rfl rfl (by repeat (first | assumption | exact mS | apply mT)) (by rw [hzs.1]; exact hil)) ?_
              refine WL.rd_yes rfl rfl rfl rfl rfl rfl (Rd.getA (g := vbl) (xs := zs) (k := i) rfl C4 rfl (by repeat (first | assumption | exact mS | apply mT)) (get!_of_lt (by rw [hzs.1]; exact hil))) ?_
              refine WL.say 74 (u := .bool (decide (zs[i]! = true))) rfl (vbl_dec _) ?_
              refine WL.rd rfl rfl rfl (Rd.pick_t rfl rfl rfl) ?_
              refine WL.nil ?_
              refine thenQ.normal ?_
              first | refine WC.ite rfl (fun hc3 => ?_) (fun hc3 => ?_) | refine WC.cond rfl (fun hc3 => ?_) (fun hc3 => ?_)
              · skip
                have hset : (bc.set i false)[i]! = true ↔ BestTo L a b i (k + 1) := by
                  rw [set_any (by omega), if_pos rfl]
                  exact ⟨fun h => Bool.noConfusion h, fun h => absurd ((hzs.2 i hil).1 hc3) (h.2 k (by omega) (by omega) ((hcm k hkl).2 ⟨hg57, hg63⟩))⟩
                refine WC.region ?_
                refine WL.rd rfl rfl rfl (Rd.move rfl rfl) ?_
                refine WL.rd rfl rfl rfl (Rd.move rfl rfl) ?_
                refine WL.rd rfl rfl rfl (Rd.idxA1 (enc := SL.one vbl) (xs := bc) (k := i) rfl S45 rfl rfl rfl (by repeat (first | assumption | exact mS | apply mT)) (by omega)) ?_
                refine WL.op rfl ?_
                refine OpW.storeAcc (k := i) (a := false) rfl Z4 rfl rfl rfl rfl (by repeat (first | assumption | exact Take.head _ | apply Take.tail)) (by omega) rfl ?_
                refine WL.nil ?_
                refine blockQ.normal ?_
                refine thenQ.normal ?_
                refine WC.region ?_
                refine WL.rd rfl rfl rfl (Rd.move rfl rfl) ?_
                refine WL.rd rfl rfl rfl (Rd.add rfl rfl rfl (by omega)) ?_
                refine WL.rd rfl rfl rfl (Rd.assign rfl rfl) ?_
                refine WL.nil ?_
                exact loopQ2.mk (k + 1) (bc.set i false) ⟨by omega, by rw [List.length_set]; exact j2, fun j hj => by rw [set_any (by omega), if_neg (by omega)]; exact j3 j hj, hset⟩ (by omega) (by repeat (first | exact Sub.nil | refine Sub.cons rfl (by first | rfl | (congr 1; omega) | assumption) ?_)) (fun w h => OwnL.sat (by repeat (first | exact OwnL.refl | apply OwnL.take (by repeat (first | exact Take.head _ | apply Take.tail)) | apply OwnL.drop)) w (h.thin (SubL.mem (by repeat (first | exact SubL.refl | refine SubL.cons (by repeat (first | assumption | exact mS | apply mT)) ?_ | refine SubL.skip ?_)))))
              · skip
                refine WC.skip ?_
                refine blockQ.normal ?_
                refine thenQ.normal ?_
                refine WC.region ?_
                refine WL.rd rfl rfl rfl (Rd.move rfl rfl) ?_
                refine WL.rd rfl rfl rfl (Rd.add rfl rfl rfl (by omega)) ?_
                refine WL.rd rfl rfl rfl (Rd.assign rfl rfl) ?_
                refine WL.nil ?_
                have hkeep : bc[i]! = true ↔ BestTo L a b i (k + 1) := by
                  rw [BestTo.next, j4]
                  refine ⟨fun h => ⟨h, ?_⟩, fun h => h.1⟩
                  first
                    | exact fun _ _ h => hc3 ((hzs.2 i hil).2 h)
                    | exact fun _ h => absurd ((hcm k hkl).1 h).2 hg63
                    | exact fun _ h => absurd ((hcm k hkl).1 h).1 hg57
                    | exact fun h => absurd h (by omega)
                exact loopQ2.mk (k + 1) bc ⟨by omega, j2, j3, hkeep⟩ (by omega) (by repeat (first | exact Sub.nil | refine Sub.cons rfl (by first | rfl | (congr 1; omega) | assumption) ?_)) (fun w h => OwnL.sat (by repeat (first | exact OwnL.refl | apply OwnL.take (by repeat (first | exact Take.head _ | apply Take.tail)) | apply OwnL.drop)) w (h.thin (SubL.mem (by repeat (first | exact SubL.refl | refine SubL.cons (by repeat (first | assumption | exact mS | apply mT)) ?_ | refine SubL.skip ?_)))))
            · skip
              refine WL.no rfl rfl rfl rfl rfl rfl ?_
              refine WL.no rfl rfl rfl rfl rfl rfl ?_
              refine WL.no rfl rfl rfl rfl rfl rfl ?_
              refine WL.no rfl rfl rfl rfl rfl rfl ?_
              refine WL.no rfl rfl rfl rfl rfl rfl ?_
              refine WL.no rfl rfl rfl rfl rfl rfl ?_
              refine WL.no rfl rfl rfl rfl rfl rfl ?_
              refine WL.no rfl rfl rfl rfl rfl rfl ?_
              refine WL.no rfl rfl rfl rfl rfl rfl ?_
              refine WL.no rfl rfl rfl rfl rfl rfl ?_
              refine WL.no rfl rfl rfl rfl rfl rfl ?_
              refine WL.rd rfl rfl rfl (Rd.pick_f rfl rfl rfl) ?_
              refine WL.nil ?_
              refine thenQ.normal ?_
              refine WC.no rfl ?_
              refine WC.skip ?_
              refine blockQ.normal ?_
              refine thenQ.normal ?_
              refine WC.region ?_
              refine WL.rd rfl rfl rfl (Rd.move rfl rfl) ?_
              refine WL.rd rfl rfl rfl (Rd.add rfl rfl rfl (by omega)) ?_
              refine WL.rd rfl rfl rfl (Rd.assign rfl rfl) ?_
              refine WL.nil ?_
              have hkeep : bc[i]! = true ↔ BestTo L a b i (k + 1) := by
                rw [BestTo.next, j4]
                refine ⟨fun h => ⟨h, ?_⟩, fun h => h.1⟩
                first
                  | exact fun _ _ h => hc3 ((hzs.2 i hil).2 h)
                  | exact fun _ h => absurd ((hcm k hkl).1 h).2 hg63
                  | exact fun _ h => absurd ((hcm k hkl).1 h).1 hg57
                  | exact fun h => absurd h (by omega)
              exact loopQ2.mk (k + 1) bc ⟨by omega, j2, j3, hkeep⟩ (by omega) (by repeat (first | exact Sub.nil | refine Sub.cons rfl (by first | rfl | (congr 1; omega) | assumption) ?_)) (fun w h => OwnL.sat (by repeat (first | exact OwnL.refl | apply OwnL.take (by repeat (first | exact Take.head _ | apply Take.tail)) | apply OwnL.drop)) w (h.thin (SubL.mem (by repeat (first | exact SubL.refl | refine SubL.cons (by repeat (first | assumption | exact mS | apply mT)) ?_ | refine SubL.skip ?_)))))
          · skip
            refine WL.no rfl rfl rfl rfl rfl rfl ?_
            refine WL.no rfl rfl rfl rfl rfl rfl ?_
            refine WL.no rfl rfl rfl rfl rfl rfl ?_
            refine WL.no rfl rfl rfl rfl rfl rfl ?_
            refine WL.rd rfl rfl rfl (Rd.pick_f rfl rfl rfl) ?_
            refine WL.rd rfl rfl rfl (Rd.move rfl rfl) ?_
            refine WL.no rfl rfl rfl rfl rfl rfl ?_
            refine WL.no rfl rfl rfl rfl rfl rfl ?_
            refine WL.no rfl rfl rfl rfl rfl rfl ?_
            refine WL.no rfl rfl rfl rfl rfl rfl ?_
            refine WL.no rfl rfl rfl rfl rfl rfl ?_
            refine WL.no rfl rfl rfl rfl rfl rfl ?_
            refine WL.no rfl rfl rfl rfl rfl rfl ?_
            refine WL.no rfl rfl rfl rfl rfl rfl ?_
            refine WL.no rfl rfl rfl rfl rfl rfl ?_
            refine WL.no rfl rfl rfl rfl rfl rfl ?_
            refine WL.no rfl rfl rfl rfl rfl rfl ?_
            refine WL.rd rfl rfl rfl (Rd.pick_f rfl rfl rfl) ?_
            refine WL.nil ?_
            refine thenQ.normal ?_
            refine WC.no rfl ?_
            refine WC.skip ?_
            refine blockQ.normal ?_
            refine thenQ.normal ?_
            refine WC.region ?_
            refine WL.rd rfl rfl rfl (Rd.move rfl rfl) ?_
            refine WL.rd rfl rfl rfl (Rd.add rfl rfl rfl (by omega)) ?_
            refine WL.rd rfl rfl rfl (Rd.assign rfl rfl) ?_
            refine WL.nil ?_
            have hkeep : bc[i]! = true ↔ BestTo L a b i (k + 1) := by
              rw [BestTo.next, j4]
              refine ⟨fun h => ⟨h, ?_⟩, fun h => h.1⟩
              first
                | exact fun _ _ h => hc3 ((hzs.2 i hil).2 h)
                | exact fun _ h => absurd ((hcm k hkl).1 h).2 hg63
                | exact fun _ h => absurd ((hcm k hkl).1 h).1 hg57
                | exact fun h => absurd h (by omega)
            exact loopQ2.mk (k + 1) bc ⟨by omega, j2, j3, hkeep⟩ (by omega) (by repeat (first | exact Sub.nil | refine Sub.cons rfl (by first | rfl | (congr 1; omega) | assumption) ?_)) (fun w h => OwnL.sat (by repeat (first | exact OwnL.refl | apply OwnL.take (by repeat (first | exact Take.head _ | apply Take.tail)) | apply OwnL.drop)) w (h.thin (SubL.mem (by repeat (first | exact SubL.refl | refine SubL.cons (by repeat (first | assumption | exact mS | apply mT)) ?_ | refine SubL.skip ?_)))))
        · skip
          refine WL.no rfl rfl rfl rfl rfl rfl ?_
          refine WL.no rfl rfl rfl rfl rfl rfl ?_
          refine WL.no rfl rfl rfl rfl rfl rfl ?_
          refine WL.no rfl rfl rfl rfl rfl rfl ?_
          refine WL.rd rfl rfl rfl (Rd.pick_f rfl rfl rfl) ?_
          refine WL.rd rfl rfl rfl (Rd.move rfl rfl) ?_
          refine WL.no rfl rfl rfl rfl rfl rfl ?_
          refine WL.no rfl rfl rfl rfl rfl rfl ?_
          refine WL.no rfl rfl rfl rfl rfl rfl ?_
          refine WL.no rfl rfl rfl rfl rfl rfl ?_
          refine WL.rd rfl rfl rfl (Rd.pick_f rfl rfl rfl) ?_
          refine WL.rd rfl rfl rfl (Rd.move rfl rfl) ?_
          refine WL.no rfl rfl rfl rfl rfl rfl ?_
          refine WL.no rfl rfl rfl rfl rfl rfl ?_
          refine WL.no rfl rfl rfl rfl rfl rfl ?_
          refine WL.no rfl rfl rfl rfl rfl rfl ?_
          refine WL.no rfl rfl rfl rfl rfl rfl ?_
          refine WL.no rfl rfl rfl rfl rfl rfl ?_
          refine WL.no rfl rfl rfl rfl rfl rfl ?_
          refine WL.no rfl rfl rfl rfl rfl rfl ?_
          refine WL.no rfl rfl rfl rfl rfl rfl ?_
          refine WL.no rfl rfl rfl rfl rfl rfl ?_
          refine WL.no rfl rfl rfl rfl rfl rfl ?_
          refine WL.rd rfl rfl rfl (Rd.pick_f rfl rfl rfl) ?_
          refine WL.nil ?_
          refine thenQ.normal ?_
          refine WC.no rfl ?_
          refine WC.skip ?_
          refine blockQ.normal ?_
          refine thenQ.normal ?_
          refine WC.region ?_
          refine WL.rd rfl rfl rfl (Rd.move rfl rfl) ?_
          refine WL.rd rfl rfl rfl (Rd.add rfl rfl rfl (by omega)) ?_
          refine WL.rd rfl rfl rfl (Rd.assign rfl rfl) ?_
          refine WL.nil ?_
          have hkeep : bc[i]! = true ↔ BestTo L a b i (k + 1) := by
            rw [BestTo.next, j4]
            refine ⟨fun h => ⟨h, ?_⟩, fun h => h.1⟩
            first
              | exact fun _ _ h => hc3 ((hzs.2 i hil).2 h)
              | exact fun _ h => absurd ((hcm k hkl).1 h).2 hg63
              | exact fun _ h => absurd ((hcm k hkl).1 h).1 hg57
              | exact fun h => absurd h (by omega)
          exact loopQ2.mk (k + 1) bc ⟨by omega, j2, j3, hkeep⟩ (by omega) (by repeat (first | exact Sub.nil | refine Sub.cons rfl (by first | rfl | (congr 1; omega) | assumption) ?_)) (fun w h => OwnL.sat (by repeat (first | exact OwnL.refl | apply OwnL.take (by repeat (first | exact Take.head _ | apply Take.tail)) | apply OwnL.drop)) w (h.thin (SubL.mem (by repeat (first | exact SubL.refl | refine SubL.cons (by repeat (first | assumption | exact mS | apply mT)) ?_ | refine SubL.skip ?_)))))
      · skip
        obtain rfl : k = L.length := by omega
        rw [best_iff hc hz hn hil] at j4
        refine WC.exit ?_
        refine thenQ.exit ?_
        refine loopQ2.exit ?_
        refine blockQ.exit ?_
        refine blockQ.normal ?_
        refine thenQ.normal ?_
        refine WC.region ?_
        refine WL.rd rfl rfl rfl (Rd.move rfl rfl) ?_
        refine WL.rd rfl rfl rfl (Rd.add rfl rfl rfl (by omega)) ?_
        refine WL.rd rfl rfl rfl (Rd.assign rfl rfl) ?_
        refine WL.nil ?_
        exact loopQ2.mk (i + 1) bc ⟨by omega, j2, fun j hj => by
        rcases Nat.lt_or_ge j i with g | g
        · exact j3 j g
        · obtain rfl : j = i := by omega
          exact j4⟩ (by omega) (by repeat (first | exact Sub.nil | refine Sub.cons rfl (by first | rfl | (congr 1; omega) | assumption) ?_)) (fun w h => OwnL.sat (by repeat (first | exact OwnL.refl | apply OwnL.take (by repeat (first | exact Take.head _ | apply Take.tail)) | apply OwnL.drop)) w (h.thin (SubL.mem (by repeat (first | exact SubL.refl | refine SubL.cons (by repeat (first | assumption | exact mS | apply mT)) ?_ | refine SubL.skip ?_)))))
  · skip
    obtain rfl : i = L.length := by omega
    refine WC.heap (fun w h => Sat.shareA (xs := bb) (by repeat (first | assumption | exact Take.head _ | apply Take.tail)) h) ?_
    refine WC.exit ?_
    refine thenQ.exit ?_
    refine loopQ2.exit ?_
    refine blockQ.exit ?_
    refine thenQ.normal ?_
    refine WC.seq ?_
    refine WC.region ?_
    refine WL.rd rfl rfl rfl (Rd.move rfl rfl) ?_
    refine WL.rd rfl rfl rfl (Rd.move rfl rfl) ?_
    refine WL.op rfl ?_
    refine OpW.call rfl rfl (by repeat (first | exact Evs.nil | apply Evs.cons rfl)) (by kernel_rfl) rfl rfl rfl ?_
    refine rsorted_spec (hN2.mono fun p hp => List.mem_cons_of_mem _ hp) hn List.mem_cons_self i2 hl ?_; intro v81 out ha hs
    refine WL.rd rfl rfl rfl (Rd.assign rfl rfl) ?_
    refine WL.nil ?_
    refine thenQ.normal ?_
    refine WC.heap (R' := R) (O' := accT v81 out :: O) (fun w h => OwnL.sat (by repeat (first | exact OwnL.refl | apply OwnL.take (by repeat (first | exact Take.head _ | apply Take.tail)) | apply OwnL.drop)) w (h.thin (SubL.mem (by repeat (first | exact SubL.refl | refine SubL.cons (by repeat (first | assumption | exact mS | apply mT)) ?_ | refine SubL.skip ?_))))) ?_
    refine WC.ret (Ret.one Try.results22 rfl ?_)
    exact hk v81 out ha fun x => by
      rw [hs]
      exact ⟨fun ⟨j, h1, h2, h3⟩ => h3 ▸ (i3 j h1).1 h2, fun h => by
        obtain ⟨j, hj, rfl⟩ := mem_ids.1 (h.1.1.mem hc)
        exact ⟨j, hj, (i3 j hj).2 h, rfl⟩⟩
end
end Go.Proofs.Ytfenbhaehkkkeaa
