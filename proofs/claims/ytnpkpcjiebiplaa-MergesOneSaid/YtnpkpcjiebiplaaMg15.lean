/-
  Layer 8: MergesWhole.
-/
import Derived.Test.YtnpkpcjiebiplaaMg14
namespace Go.Proofs.Ytnpkpcjiebiplaa
open Go Go.SL
theorem Spl.final {l : List Pr} {ps out : List T} (h : Spl l ps out) : ∀ r, ¬ HasPair l out r := by
  induction h with
  | done h => exact h
  | step _ _ _ ih => exact ih
theorem pass_mem {A B : T} : ∀ {ps : List T} {p : T}, p ∈ pass A B ps → p ∈ ps ∨ p = A ++ B
  | [], _, h => .inl h
  | [_], _, h => .inl h
  | a :: b :: r, p, h => by
    rw [pass] at h
    by_cases e : a = A ∧ b = B
    · rw [if_pos e] at h
      rcases List.mem_cons.1 h with g | g
      · exact .inr (by rw [g, e.1, e.2])
      · rcases pass_mem g with g | g
        · exact .inl (List.mem_cons_of_mem _ (List.mem_cons_of_mem _ g))
        · exact .inr g
    · rw [if_neg e] at h
      rcases List.mem_cons.1 h with g | g
      · exact .inl (by rw [g]; exact List.mem_cons_self)
      · rcases pass_mem g with g | g
        · exact .inl (List.mem_cons_of_mem _ g)
        · exact .inr g
def kn (a : List Pr) (k : Nat) (p : T) : Prop := p.length = 1 ∨ ∃ q ∈ a.take k, q.1 ++ q.2 = p
instance (a : List Pr) (k : Nat) (p : T) : Decidable (kn a k p) := by unfold kn; infer_instance
theorem kn_next {a : List Pr} {k : Nat} {p : T} (h : k < a.length) : kn a (k + 1) p ↔ kn a k p ∨ a[k]!.1 ++ a[k]!.2 = p := by
  unfold kn
  rw [take_snoc' h]
  constructor
  · rintro (h | ⟨q, hq, e⟩)
    · exact .inl (.inl h)
    · rcases List.mem_append.1 hq with g | g
      · exact .inl (.inr ⟨q, g, e⟩)
      · rw [List.mem_singleton.1 g] at e; exact .inr e
  · rintro ((h | ⟨q, hq, e⟩) | e)
    · exact .inl h
    · exact .inr ⟨q, List.mem_append_left _ hq, e⟩
    · exact .inr ⟨_, List.mem_append_right _ (List.mem_singleton.2 rfl), e⟩
theorem Spl.parts {l : List Pr} {ps out : List T} (h : Spl l ps out) : (∀ p ∈ ps, p.length = 1 ∨ ∃ q ∈ l, q.1 ++ q.2 = p) → ∀ p ∈ out, p.length = 1 ∨ ∃ q ∈ l, q.1 ++ q.2 = p := by
  induction h with
  | done _ => exact id
  | step hp _ _ ih =>
    intro h0
    obtain ⟨u, a, b, v, _, hr⟩ := hp
    refine ih fun p hm => ?_
    rcases pass_mem hm with g | g
    · exact h0 p g
    · exact .inr ⟨_, get!_mem (rk_at hr).1, g.symm⟩
theorem flat_take_next {q : List T} {i : Nat} (h : i < q.length) : (q.take (i + 1)).flatten = (q.take i).flatten ++ q[i]! := by rw [take_snoc' h]; simp
theorem flat_take_len {q : List T} {i : Nat} (h : i < q.length) : (q.take i).flatten.length + q[i]!.length ≤ q.flatten.length := by
  have e := congrArg List.flatten (List.take_append_drop (i + 1) q)
  rw [List.flatten_append, flat_take_next h] at e
  rw [← e]; simp only [List.length_append]; omega
section
variable {R : List RO} {O O' : List Own} {POST : Value → List RO → List Own → Prop} {lv : Value}
set_option maxRecDepth 20000 in
set_option maxHeartbeats 4000000 in
theorem whole_spec {xs : List Pr} {word : T} (hl : SlE encP lv xs ∈ R) (hq : ∀ x ∈ xs, x.1.length ≤ 140737488355328 ∧ x.2.length ≤ 140737488355328) (hs : word.length ≤ 140737488351232) (hk : POST (.bool true) R O) : Fun Try.prog 6 #[lv, vs word] R O POST := by
  refine Fun.enter (l := [_, _]) Try.func6 rfl Try.ntmps6 rfl (L0 := [(0, _), (1, _)]) rfl ?_
  refine WC.seq ?_
  refine WC.region ?_
  refine WL.rd rfl rfl rfl (Rd.assign rfl rfl) ?_
  refine WL.nil ?_
  refine thenQ.normal ?_
  refine WC.seq ?_
  refine WC.seq ?_
  refine WC.region ?_
  refine WL.op rfl ?_
  refine OpW.call rfl rfl (by repeat (first | exact Evs.nil | apply Evs.cons rfl)) (by kernel_rfl) rfl rfl rfl ?_
  refine speaks_spec ?_
  refine WL.say 12 (u := .bool (decide True)) rfl (by simp) ?_
  refine WL.rd rfl rfl rfl ((by first | exact Rd.notd rfl rfl | exact Rd.not rfl rfl)) ?_
  refine WL.nil ?_
  refine thenQ.normal ?_
  first | refine WC.ite rfl (fun hc1 => ?_) (fun hc1 => ?_) | refine WC.cond rfl (fun hc1 => ?_) (fun hc1 => ?_)
  · skip
    exact absurd trivial hc1
  · skip
    refine WC.skip ?_
    refine thenQ.normal ?_
    refine WC.cut (α := T) (fun y => [(0, lv), (1, vs y)]) (fun _ => R) (fun _ => O) (fun y => y.length ≤ 2000) ?_ ?_
    · skip
      refine WC.seq ?_
      refine WC.region ?_
      refine WL.rd rfl rfl rfl (Rd.move rfl rfl) ?_
      refine WL.rd rfl rfl rfl (Rd.slen (ts := #[]) (ty := 0) rfl rfl Try.underlying9) ?_
      refine WL.rd rfl rfl rfl (Rd.gtr rfl rfl rfl) ?_
      refine WL.nil ?_
      refine thenQ.normal ?_
      first | refine WC.ite rfl (fun hc2 => ?_) (fun hc2 => ?_) | refine WC.cond rfl (fun hc2 => ?_) (fun hc2 => ?_)
      · skip
        refine WC.region ?_
        refine WL.rd rfl rfl rfl (Rd.move rfl rfl) ?_
        refine WL.rd rfl rfl rfl (Rd.scut_h (hi := 2000) rfl Try.underlying9 rfl rfl (by omega) (by omega)) ?_
        refine WL.rd rfl rfl rfl (Rd.assign rfl rfl) ?_
        refine WL.nil ?_
        exact ⟨word.take 2000, (by show (word.take 2000).length ≤ 2000; rw [List.length_take]; omega), (by repeat (first | exact Sub.nil | refine Sub.cons rfl (by first | rfl | (congr 1; omega) | assumption) ?_)), (fun _ h => h.thin (SubL.mem (by repeat (first | exact SubL.refl | refine SubL.cons (by repeat (first | assumption | exact mS | apply mT)) ?_ | refine SubL.skip ?_))))⟩
      · skip
        refine WC.skip ?_
        exact ⟨word, by omega, (by repeat (first | exact Sub.nil | refine Sub.cons rfl (by first | rfl | (congr 1; omega) | assumption) ?_)), (fun _ h => h.thin (SubL.mem (by repeat (first | exact SubL.refl | refine SubL.cons (by repeat (first | assumption | exact mS | apply mT)) ?_ | refine SubL.skip ?_))))⟩
    · skip
      intro y hy
      refine WC.seq ?_
      refine WC.region ?_
      refine WL.rd rfl rfl rfl (Rd.move rfl rfl) ?_
      refine WL.op rfl ?_
      refine OpW.call rfl rfl (by repeat (first | exact Evs.nil | apply Evs.cons rfl)) (by kernel_rfl) rfl rfl rfl ?_
      refine pairs_spec hl ?_; intro va vd
      have hsm := sums_of hq
      have hxl : (xs.take 60).length ≤ 60 := by rw [List.length_take]; omega
      generalize xs.take 60 = a at *
      refine WL.rd rfl rfl rfl (Rd.move rfl rfl) ?_
      refine WL.rd rfl rfl rfl (Rd.extract rfl rfl rfl) ?_
      refine WL.rd rfl rfl rfl (Rd.extract rfl rfl rfl) ?_
      refine WL.rd rfl rfl rfl (Rd.assign rfl rfl) ?_
      refine WL.rd rfl rfl rfl (Rd.assign rfl rfl) ?_
      refine WL.nil ?_
      refine thenQ.normal ?_
      refine WC.seq ?_
      refine WC.region ?_
      refine WL.rd rfl rfl rfl (Rd.move rfl rfl) ?_
      refine WL.rd rfl rfl rfl (Rd.move rfl rfl) ?_
      refine WL.op rfl ?_
      refine OpW.call rfl rfl (by repeat (first | exact Evs.nil | apply Evs.cons rfl)) (by kernel_rfl) rfl rfl rfl ?_
      refine split_spec (l := a) (by repeat (first | assumption | exact mS | apply mT)) (by omega) ?_; intro v26 out hout
      obtain ⟨_, hspl, hfl, hfull⟩ : y.length ≤ 4096 ∧ Spl a (chars y) out ∧ out.flatten = y ∧ Full out := by
        rcases hout with ⟨h, _⟩ | h
        · omega
        · exact h
      have hno := hspl.final
      have hpt := hspl.parts (fun p hp => .inl (chars_one hp))
      refine WL.rd rfl rfl rfl (Rd.assign rfl rfl) ?_
      refine WL.nil ?_
      refine thenQ.normal ?_
      refine WC.seq ?_
      refine WC.know (p := SlE (one vs) v26 out) (by repeat (first | assumption | exact mS | apply mT)) (fun w h => h.len) fun hol => ?_
      refine WC.region ?_
      refine WL.rd rfl rfl rfl (Rd.assign rfl rfl) ?_
      refine WL.nil ?_
      refine thenQ.normal ?_
      refine WC.seq ?_
      refine WC.seq ?_
      refine WC.region ?_
      refine WL.rd rfl rfl rfl (Rd.assign rfl rfl) ?_
      refine WL.nil ?_
      refine thenQ.normal ?_
      refine WC.block ?_
      refine WC.pick [8, 9, 1, 5, 7] (by repeat (first | exact Pick.nil | apply Pick.cons rfl)) ?_
      refine WC.loop1o 2 (fun (i : Nat) => [(8, vs ((out.take i).flatten)), (9, vi i)]) (fun (i : Nat) => i ≤ out.length) (fun (i : Nat) => out.length - i) (0) (by repeat (first | exact Split.zero | apply Split.succ)) ?hinv1 (by repeat (first | exact Sub.nil | refine Sub.cons rfl (by first | rfl | (congr 1; omega) | assumption) ?_)) (fun _ h => h) ?_
      case hinv1 =>
        exact Nat.zero_le _
      intro i
      rintro i1
      refine WC.seq ?_
      refine WC.seq ?_
      refine WC.region ?_
      refine WL.rd rfl rfl rfl (Rd.move rfl rfl) ?_
      refine WL.rd rfl rfl rfl (Rd.move rfl rfl) ?_
      refine WL.rd rfl rfl rfl (Rd.lenE (enc := one vs) (xs := out) rfl rfl Try.underlying38 (by repeat (first | assumption | exact mS | apply mT))) ?_
      refine WL.rd rfl rfl rfl (Rd.lss rfl rfl rfl) ?_
      refine WL.nil ?_
      refine thenQ.normal ?_
      first | refine WC.ite rfl (fun hc3 => ?_) (fun hc3 => ?_) | refine WC.cond rfl (fun hc3 => ?_) (fun hc3 => ?_)
      · skip
        have hi : i < out.length := by omega
        have hle := flat_take_len hi
        rw [hfl] at hle
        have hkn := hpt out[i]! (get!_mem hi)
        have hne := hfull out[i]! (get!_mem hi)
        have hadj : ∀ k, k < a.length → ¬ (0 < i ∧ a[k]!.1 = out[i - 1]! ∧ a[k]!.2 = out[i]!) := fun k hk h => by
          obtain ⟨h1, h2, h3⟩ := h
          cases hr : rk a (out[i - 1]!, out[i]!) with
          | none =>
            have := rk_none.1 hr
            exact this (by rw [← h2, ← h3]; exact get!_mem hk)
          | some r => exact hno r (hasPair_iff.2 ⟨i - 1, by omega, by rw [show i - 1 + 1 = i by omega]; exact hr⟩)
        refine WC.skip ?_
        refine thenQ.normal ?_
        refine WC.seq ?_
        refine WC.block ?_
        refine WC.seq ?_
        refine WC.region ?_
        refine WL.rd rfl rfl rfl (Rd.move rfl rfl) ?_
        refine WL.rd rfl rfl rfl (Rd.move rfl rfl) ?_
        refine WL.rd rfl rfl rfl (Rd.move rfl rfl) ?_
        refine WL.rd rfl rfl rfl (Rd.idx1 (v := v26) (enc := one vs) (xs := out) (k := i) rfl S38 rfl rfl rfl (by repeat (first | assumption | exact mS | apply mT)) hi) ?_
        refine WL.rd rfl rfl rfl (Rd.get (v := v26) (g := vs) (xs := out) (k := i) (a := out[i]!) rfl C9 rfl (by repeat (first | assumption | exact mS | apply mT)) (get!_of_lt hi)) ?_
        refine WL.rd rfl rfl rfl (Rd.scat rfl rfl rfl (by omega)) ?_
        refine WL.rd rfl rfl rfl (Rd.assign rfl rfl) ?_
        refine WL.nil ?_
        refine thenQ.normal ?_
        refine WC.seq ?_
        refine WC.region ?_
        refine WL.rd rfl rfl rfl (Rd.move rfl rfl) ?_
        refine WL.rd rfl rfl rfl (Rd.move rfl rfl) ?_
        refine WL.rd rfl rfl rfl (Rd.idx1 (v := v26) (enc := one vs) (xs := out) (k := i) rfl S38 rfl rfl rfl (by repeat (first | assumption | exact mS | apply mT)) hi) ?_
        refine WL.rd rfl rfl rfl (Rd.get (v := v26) (g := vs) (xs := out) (k := i) (a := out[i]!) rfl C9 rfl (by repeat (first | assumption | exact mS | apply mT)) (get!_of_lt hi)) ?_
        refine WL.rd rfl rfl rfl (Rd.slen (ts := #[]) (ty := 0) rfl rfl Try.underlying9) ?_
        refine WL.rd rfl rfl rfl (Rd.eql rfl rfl rfl) ?_
        refine WL.rd rfl rfl rfl (Rd.assign rfl rfl) ?_
        refine WL.say 10 (u := .bool (decide (kn a 0 out[i]!))) rfl (vb ⟨fun h => .inl (by omega), fun h => by rcases h with h | ⟨p, hp, _⟩; omega; simp at hp⟩) ?_
        refine WL.nil ?_
        refine thenQ.normal ?_
        refine WC.seq ?_
        refine WC.seq ?_
        refine WC.region ?_
        refine WL.rd rfl rfl rfl (Rd.assign rfl rfl) ?_
        refine WL.nil ?_
        refine thenQ.normal ?_
        refine WC.block ?_
        refine WC.pick [10, 11, 1, 5, 7, 8, 9] (by repeat (first | exact Pick.nil | apply Pick.cons rfl)) ?_
        refine WC.loop1o 2 (fun (k : Nat) => [(10, .bool (decide (kn a k out[i]!))), (11, vi k)]) (fun (k : Nat) => k ≤ a.length) (fun (k : Nat) => a.length - k) (0) (by repeat (first | exact Split.zero | apply Split.succ)) ?hinv2 (by repeat (first | exact Sub.nil | refine Sub.cons rfl (by first | rfl | (congr 1; omega) | assumption) ?_)) (fun _ h => h) ?_
        case hinv2 =>
          exact Nat.zero_le _
        intro k
        rintro j1
        refine WC.seq ?_
        refine WC.seq ?_
        refine WC.region ?_
        refine WL.rd rfl rfl rfl (Rd.move rfl rfl) ?_
        refine WL.rd rfl rfl rfl (Rd.move rfl rfl) ?_
        refine WL.rd rfl rfl rfl (Rd.lenE (enc := encP) (xs := a) rfl rfl Try.underlying24 (by repeat (first | assumption | exact mS | apply mT))) ?_
        refine WL.rd rfl rfl rfl (Rd.lss rfl rfl rfl) ?_
        refine WL.nil ?_
        refine thenQ.normal ?_
        first | refine WC.ite rfl (fun hc4 => ?_) (fun hc4 => ?_) | refine WC.cond rfl (fun hc4 => ?_) (fun hc4 => ?_)
        · skip
          have hk1 : k < a.length := by omega
          have hsk := hsm a[k]! (get!_mem hk1)
          refine WC.skip ?_
          refine thenQ.normal ?_
          refine WC.seq ?_
          refine WC.block ?_
          refine WC.seq ?_
          refine WC.pick [1, 5, 7, 8, 9, 10, 11] (by repeat (first | exact Pick.nil | apply Pick.cons rfl)) ?_
          refine WC.val 77 (.bool (decide (0 < i ∧ a[k]!.1 = out[i - 1]! ∧ a[k]!.2 = out[i]!))) ?_ ?_
          · skip
            refine WC.still mixed (by kernel_rfl) ?_
            refine WA.rd rfl rfl rfl (Rd.move rfl rfl) ?_
            refine WA.rd rfl rfl rfl (Rd.gtr rfl rfl rfl) ?_
            refine WA.rd rfl rfl rfl (Rd.move rfl rfl) ?_
            refine WA.case 53 rfl (fun hg53 => ?_) (fun hg53 => ?_)
            · skip
              refine WA.rd_yes rfl rfl rfl rfl rfl rfl (Rd.move rfl rfl) ?_
              refine WA.rd_yes rfl rfl rfl rfl rfl rfl (Rd.move rfl rfl) ?_
              refine WA.rd_yes rfl rfl rfl rfl rfl rfl (Rd.idx (v := va) (enc := encP) (xs := a) (k := k) rfl S24 rfl rfl rfl (by repeat (first | assumption | exact mS | apply mT)) hk1) ?_
              refine WA.rd_yes rfl rfl rfl rfl rfl rfl (Rd.fieldE (v := va) (enc := encP) (xs := a) rfl F42_0 rfl (by repeat (first | assumption | exact mS | apply mT)) (by omega)) ?_
              refine WA.rd_yes rfl rfl rfl rfl rfl rfl (Rd.getF (v := va) (enc := encP) (size := 2) (xs := a) (k := k) (f := 0) (a := a[k]!) (u := vs a[k]!.1) rfl C9 rfl (by repeat (first | assumption | exact mS | apply mT)) (fun x => rfl) (by omega) (get!_of_lt hk1) rfl) ?_
              refine WA.rd_yes rfl rfl rfl rfl rfl rfl (Rd.move rfl rfl) ?_
              refine WA.rd_yes rfl rfl rfl rfl rfl rfl (Rd.move rfl rfl) ?_
              refine WA.rd_yes rfl rfl rfl rfl rfl rfl (Rd.sub rfl rfl rfl (by omega)) ?_
              refine WA.rd_yes rfl rfl rfl rfl rfl rfl (Rd.idx1 (v := v26) (enc := one vs) (xs := out) (k := i - 1) rfl S38 rfl rfl (by omega) (by repeat (first | assumption | exact mS | apply mT)) (by omega)) ?_
              refine WA.rd_yes rfl rfl rfl rfl rfl rfl (Rd.get (v := v26) (g := vs) (xs := out) (k := i - 1) (a := out[i - 1]!) rfl C9 rfl (by repeat (first | assumption | exact mS | apply mT)) (get!_of_lt (by omega))) ?_
              refine WA.rd_yes rfl rfl rfl rfl rfl rfl (Rd.seql rfl rfl rfl) ?_
              refine WA.rd rfl rfl rfl (Rd.pick_t rfl rfl rfl) ?_
              refine WA.rd rfl rfl rfl (Rd.move rfl rfl) ?_
              refine WA.case 66 rfl (fun hg66 => ?_) (fun hg66 => ?_)
              · skip
                refine WA.rd_yes rfl rfl rfl rfl rfl rfl (Rd.move rfl rfl) ?_
                refine WA.rd_yes rfl rfl rfl rfl rfl rfl (Rd.move rfl rfl) ?_
                refine WA.rd_yes rfl rfl rfl rfl rfl rfl (Rd.idx (v := va) (enc := encP) (xs := a) (k := k) rfl S24 rfl rfl rfl (by repeat (first | assumption | exact mS | apply mT)) hk1) ?_
                refine WA.rd_yes rfl rfl rfl rfl rfl rfl (Rd.fieldE (v := va) (enc := encP) (xs := a) rfl F42_1 rfl (by repeat (first | assumption | exact mS | apply mT)) (by omega)) ?_
                refine WA.rd_yes rfl rfl rfl rfl rfl rfl (Rd.getF (v := va) (enc := encP) (size := 2) (xs := a) (k := k) (f := 1) (a := a[k]!) (u := vs a[k]!.2) rfl C9 rfl (by repeat (first | assumption | exact mS | apply mT)) (fun x => rfl) (by omega) (get!_of_lt hk1) rfl) ?_
                refine WA.rd_yes rfl rfl rfl rfl rfl rfl (Rd.move rfl rfl) ?_
                refine WA.rd_yes rfl rfl rfl rfl rfl rfl (Rd.move rfl rfl) ?_
                refine WA.rd_yes rfl rfl rfl rfl rfl rfl (Rd.idx1 (v := v26) (enc := one vs) (xs := out) (k := i) rfl S38 rfl rfl rfl (by repeat (first | assumption | exact mS | apply mT)) hi) ?_
                refine WA.rd_yes rfl rfl rfl rfl rfl rfl (Rd.get (v := v26) (g := vs) (xs := out) (k := i) (a := out[i]!) rfl C9 rfl (by repeat (first | assumption | exact mS | apply mT)) (get!_of_lt hi)) ?_
                refine WA.rd_yes rfl rfl rfl rfl rfl rfl (Rd.seql rfl rfl rfl) ?_
                refine WA.rd rfl rfl rfl (Rd.pick_t rfl rfl rfl) ?_
                refine WA.nil ?_
                exact ⟨by repeat (first | exact Sub.nil | refine Sub.cons rfl (by first | rfl | (first | exact vb_f (by omega) | exact vb_f (fun h => hg66 h.2.1) | exact vb ⟨fun h => ⟨by omega, hg66, h⟩, fun h => h.2.2⟩)) ?_), by first | exact (fun _ h => h.thin (SubL.mem (by repeat (first | exact SubL.refl | refine SubL.cons (by repeat (first | assumption | exact mS | apply mT)) ?_ | refine SubL.skip ?_)))) | exact (fun w h => OwnL.sat (by repeat (first | exact OwnL.refl | apply OwnL.take (by repeat (first | exact Take.head _ | apply Take.tail)) | apply OwnL.drop)) w (h.thin (SubL.mem (by repeat (first | exact SubL.refl | refine SubL.cons (by repeat (first | assumption | exact mS | apply mT)) ?_ | refine SubL.skip ?_)))))⟩
              · skip
                refine WA.no rfl rfl rfl rfl rfl rfl ?_
                refine WA.no rfl rfl rfl rfl rfl rfl ?_
                refine WA.no rfl rfl rfl rfl rfl rfl ?_
                refine WA.no rfl rfl rfl rfl rfl rfl ?_
                refine WA.no rfl rfl rfl rfl rfl rfl ?_
                refine WA.no rfl rfl rfl rfl rfl rfl ?_
                refine WA.no rfl rfl rfl rfl rfl rfl ?_
                refine WA.no rfl rfl rfl rfl rfl rfl ?_
                refine WA.no rfl rfl rfl rfl rfl rfl ?_
                refine WA.no rfl rfl rfl rfl rfl rfl ?_
                refine WA.rd rfl rfl rfl (Rd.pick_f rfl rfl rfl) ?_
                refine WA.nil ?_
                exact ⟨by repeat (first | exact Sub.nil | refine Sub.cons rfl (by first | rfl | (first | exact vb_f (by omega) | exact vb_f (fun h => hg66 h.2.1) | exact vb ⟨fun h => ⟨by omega, hg66, h⟩, fun h => h.2.2⟩)) ?_), by first | exact (fun _ h => h.thin (SubL.mem (by repeat (first | exact SubL.refl | refine SubL.cons (by repeat (first | assumption | exact mS | apply mT)) ?_ | refine SubL.skip ?_)))) | exact (fun w h => OwnL.sat (by repeat (first | exact OwnL.refl | apply OwnL.take (by repeat (first | exact Take.head _ | apply Take.tail)) | apply OwnL.drop)) w (h.thin (SubL.mem (by repeat (first | exact SubL.refl | refine SubL.cons (by repeat (first | assumption | exact mS | apply mT)) ?_ | refine SubL.skip ?_)))))⟩
            · skip
              refine WA.no rfl rfl rfl rfl rfl rfl ?_
              refine WA.no rfl rfl rfl rfl rfl rfl ?_
              refine WA.no rfl rfl rfl rfl rfl rfl ?_
              refine WA.no rfl rfl rfl rfl rfl rfl ?_
              refine WA.no rfl rfl rfl rfl rfl rfl ?_
              refine WA.no rfl rfl rfl rfl rfl rfl ?_
              refine WA.no rfl rfl rfl rfl rfl rfl ?_
              refine WA.no rfl rfl rfl rfl rfl rfl ?_
              refine WA.no rfl rfl rfl rfl rfl rfl ?_
              refine WA.no rfl rfl rfl rfl rfl rfl ?_
              refine WA.no rfl rfl rfl rfl rfl rfl ?_
              refine WA.rd rfl rfl rfl (Rd.pick_f rfl rfl rfl) ?_
              refine WA.rd rfl rfl rfl (Rd.move rfl rfl) ?_
              refine WA.no rfl rfl rfl rfl rfl rfl ?_
              refine WA.no rfl rfl rfl rfl rfl rfl ?_
              refine WA.no rfl rfl rfl rfl rfl rfl ?_
              refine WA.no rfl rfl rfl rfl rfl rfl ?_
              refine WA.no rfl rfl rfl rfl rfl rfl ?_
              refine WA.no rfl rfl rfl rfl rfl rfl ?_
              refine WA.no rfl rfl rfl rfl rfl rfl ?_
              refine WA.no rfl rfl rfl rfl rfl rfl ?_
              refine WA.no rfl rfl rfl rfl rfl rfl ?_
              refine WA.no rfl rfl rfl rfl rfl rfl ?_
              refine WA.rd rfl rfl rfl (Rd.pick_f rfl rfl rfl) ?_
              refine WA.nil ?_
              exact ⟨by repeat (first | exact Sub.nil | refine Sub.cons rfl (by first | rfl | (first | exact vb_f (by omega) | exact vb_f (fun h => hg66 h.2.1) | exact vb ⟨fun h => ⟨by omega, hg66, h⟩, fun h => h.2.2⟩)) ?_), by first | exact (fun _ h => h.thin (SubL.mem (by repeat (first | exact SubL.refl | refine SubL.cons (by repeat (first | assumption | exact mS | apply mT)) ?_ | refine SubL.skip ?_)))) | exact (fun w h => OwnL.sat (by repeat (first | exact OwnL.refl | apply OwnL.take (by repeat (first | exact Take.head _ | apply Take.tail)) | apply OwnL.drop)) w (h.thin (SubL.mem (by repeat (first | exact SubL.refl | refine SubL.cons (by repeat (first | assumption | exact mS | apply mT)) ?_ | refine SubL.skip ?_)))))⟩
          · skip
            first | refine WC.ite rfl (fun hc5 => ?_) (fun hc5 => ?_) | refine WC.cond rfl (fun hc5 => ?_) (fun hc5 => ?_)
            · skip
              exact absurd hc5 (hadj k hk1)
            · skip
              refine WC.skip ?_
              refine thenQ.normal ?_
              refine WC.still mixed (by kernel_rfl) ?_
              refine WA.rd rfl rfl rfl (Rd.move rfl rfl) ?_
              refine WA.rd rfl rfl rfl (Rd.move rfl rfl) ?_
              refine WA.case 79 rfl (fun hg79 => ?_) (fun hg79 => ?_)
              · skip
                refine WA.no rfl rfl rfl rfl rfl rfl ?_
                refine WA.no rfl rfl rfl rfl rfl rfl ?_
                refine WA.no rfl rfl rfl rfl rfl rfl ?_
                refine WA.no rfl rfl rfl rfl rfl rfl ?_
                refine WA.no rfl rfl rfl rfl rfl rfl ?_
                refine WA.no rfl rfl rfl rfl rfl rfl ?_
                refine WA.no rfl rfl rfl rfl rfl rfl ?_
                refine WA.no rfl rfl rfl rfl rfl rfl ?_
                refine WA.no rfl rfl rfl rfl rfl rfl ?_
                refine WA.no rfl rfl rfl rfl rfl rfl ?_
                refine WA.no rfl rfl rfl rfl rfl rfl ?_
                refine WA.no rfl rfl rfl rfl rfl rfl ?_
                refine WA.no rfl rfl rfl rfl rfl rfl ?_
                refine WA.no rfl rfl rfl rfl rfl rfl ?_
                refine WA.no rfl rfl rfl rfl rfl rfl ?_
                refine WA.no rfl rfl rfl rfl rfl rfl ?_
                refine WA.rd rfl rfl rfl (Rd.pick_t rfl rfl rfl) ?_
                refine WA.rd rfl rfl rfl (Rd.assign rfl rfl) ?_
                refine WA.say 10 (u := .bool (decide (kn a (k + 1) out[i]!))) rfl (vb_t ((kn_next hk1).2 (.inl hg79))) ?_
                refine WA.nil ?_
                refine blockQ.normal ?_
                refine thenQ.normal ?_
                refine WC.region ?_
                refine WL.rd rfl rfl rfl (Rd.move rfl rfl) ?_
                refine WL.rd rfl rfl rfl (Rd.add rfl rfl rfl (by omega)) ?_
                refine WL.rd rfl rfl rfl (Rd.assign rfl rfl) ?_
                refine WL.nil ?_
                exact loopQ1.mk (k + 1) (by omega) (by omega) (by repeat (first | exact Sub.nil | refine Sub.cons rfl (by first | rfl | (congr 1; omega) | assumption) ?_)) (fun w h => OwnL.sat (by repeat (first | exact OwnL.refl | apply OwnL.take (by repeat (first | exact Take.head _ | apply Take.tail)) | apply OwnL.drop)) w (h.thin (SubL.mem (by repeat (first | exact SubL.refl | refine SubL.cons (by repeat (first | assumption | exact mS | apply mT)) ?_ | refine SubL.skip ?_)))))
              · skip
                refine WA.rd_yes rfl rfl rfl rfl rfl rfl (Rd.move rfl rfl) ?_
                refine WA.rd_yes rfl rfl rfl rfl rfl rfl (Rd.move rfl rfl) ?_
                refine WA.rd_yes rfl rfl rfl rfl rfl rfl (Rd.idx (v := va) (enc := encP) (xs := a) (k := k) rfl S24 rfl rfl rfl (by repeat (first | assumption | exact mS | apply mT)) hk1) ?_
                refine WA.rd_yes rfl rfl rfl rfl rfl rfl (Rd.fieldE (v := va) (enc := encP) (xs := a) rfl F42_0 rfl (by repeat (first | assumption | exact mS | apply mT)) (by omega)) ?_
                refine WA.rd_yes rfl rfl rfl rfl rfl rfl (Rd.getF (v := va) (enc := encP) (size := 2) (xs := a) (k := k) (f := 0) (a := a[k]!) (u := vs a[k]!.1) rfl C9 rfl (by repeat (first | assumption | exact mS | apply mT)) (fun x => rfl) (by omega) (get!_of_lt hk1) rfl) ?_
                refine WA.rd_yes rfl rfl rfl rfl rfl rfl (Rd.move rfl rfl) ?_
                refine WA.rd_yes rfl rfl rfl rfl rfl rfl (Rd.move rfl rfl) ?_
                refine WA.rd_yes rfl rfl rfl rfl rfl rfl (Rd.idx (v := va) (enc := encP) (xs := a) (k := k) rfl S24 rfl rfl rfl (by repeat (first | assumption | exact mS | apply mT)) hk1) ?_
                refine WA.rd_yes rfl rfl rfl rfl rfl rfl (Rd.fieldE (v := va) (enc := encP) (xs := a) rfl F42_1 rfl (by repeat (first | assumption | exact mS | apply mT)) (by omega)) ?_
                refine WA.rd_yes rfl rfl rfl rfl rfl rfl (Rd.getF (v := va) (enc := encP) (size := 2) (xs := a) (k := k) (f := 1) (a := a[k]!) (u := vs a[k]!.2) rfl C9 rfl (by repeat (first | assumption | exact mS | apply mT)) (fun x => rfl) (by omega) (get!_of_lt hk1) rfl) ?_
                refine WA.rd_yes rfl rfl rfl rfl rfl rfl (Rd.scat rfl rfl rfl (by omega)) ?_
                refine WA.rd_yes rfl rfl rfl rfl rfl rfl (Rd.move rfl rfl) ?_
                refine WA.rd_yes rfl rfl rfl rfl rfl rfl (Rd.move rfl rfl) ?_
                refine WA.rd_yes rfl rfl rfl rfl rfl rfl (Rd.idx1 (v := v26) (enc := one vs) (xs := out) (k := i) rfl S38 rfl rfl rfl (by repeat (first | assumption | exact mS | apply mT)) hi) ?_
                refine WA.rd_yes rfl rfl rfl rfl rfl rfl (Rd.get (v := v26) (g := vs) (xs := out) (k := i) (a := out[i]!) rfl C9 rfl (by repeat (first | assumption | exact mS | apply mT)) (get!_of_lt hi)) ?_
                refine WA.rd_yes rfl rfl rfl rfl rfl rfl (Rd.seql rfl rfl rfl) ?_
                refine WA.rd rfl rfl rfl (Rd.pick_f rfl rfl rfl) ?_
                refine WA.rd rfl rfl rfl (Rd.assign rfl rfl) ?_
                refine WA.say 10 (u := .bool (decide (kn a (k + 1) out[i]!))) rfl (vb ⟨fun h => (kn_next hk1).2 (.inr h), fun h => ((kn_next hk1).1 h).resolve_left hg79⟩) ?_
                refine WA.nil ?_
                refine blockQ.normal ?_
                refine thenQ.normal ?_
                refine WC.region ?_
                refine WL.rd rfl rfl rfl (Rd.move rfl rfl) ?_
                refine WL.rd rfl rfl rfl (Rd.add rfl rfl rfl (by omega)) ?_
                refine WL.rd rfl rfl rfl (Rd.assign rfl rfl) ?_
                refine WL.nil ?_
                exact loopQ1.mk (k + 1) (by omega) (by omega) (by repeat (first | exact Sub.nil | refine Sub.cons rfl (by first | rfl | (congr 1; omega) | assumption) ?_)) (fun w h => OwnL.sat (by repeat (first | exact OwnL.refl | apply OwnL.take (by repeat (first | exact Take.head _ | apply Take.tail)) | apply OwnL.drop)) w (h.thin (SubL.mem (by repeat (first | exact SubL.refl | refine SubL.cons (by repeat (first | assumption | exact mS | apply mT)) ?_ | refine SubL.skip ?_)))))
        · skip
          obtain rfl : k = a.length := by omega
          have hkn2 : kn a a.length out[i]! := by unfold kn; rw [List.take_length]; exact hkn
          refine WC.exit ?_
          refine thenQ.exit ?_
          refine loopQ1.exit ?_
          refine blockQ.exit ?_
          refine thenQ.normal ?_
          refine WC.pick [1, 5, 7, 8, 9, 10] (by repeat (first | exact Pick.nil | apply Pick.cons rfl)) ?_
          refine WC.val 105 (.bool false) ?_ ?_
          · skip
            refine WC.region ?_
            refine WL.rd rfl rfl rfl (Rd.move rfl rfl) ?_
            refine WL.rd rfl rfl rfl ((by first | exact Rd.notd rfl rfl | exact Rd.not rfl rfl)) ?_
            refine WL.rd rfl rfl rfl (Rd.move rfl rfl) ?_
            refine WL.case 99 rfl (fun hg99 => ?_) (fun hg99 => ?_)
            · skip
              refine WL.no rfl rfl rfl rfl rfl rfl ?_
              refine WL.no rfl rfl rfl rfl rfl rfl ?_
              refine WL.no rfl rfl rfl rfl rfl rfl ?_
              refine WL.no rfl rfl rfl rfl rfl rfl ?_
              refine WL.no rfl rfl rfl rfl rfl rfl ?_
              refine WL.rd rfl rfl rfl (Rd.pick_t rfl rfl rfl) ?_
              refine WL.nil ?_
              exact ⟨by repeat (first | exact Sub.nil | refine Sub.cons rfl (by first | rfl | (first | exact absurd hkn2 hg99 | exact congrArg Value.bool (decide_eq_false hne))) ?_), by first | exact (fun _ h => h.thin (SubL.mem (by repeat (first | exact SubL.refl | refine SubL.cons (by repeat (first | assumption | exact mS | apply mT)) ?_ | refine SubL.skip ?_)))) | exact (fun w h => OwnL.sat (by repeat (first | exact OwnL.refl | apply OwnL.take (by repeat (first | exact Take.head _ | apply Take.tail)) | apply OwnL.drop)) w (h.thin (SubL.mem (by repeat (first | exact SubL.refl | refine SubL.cons (by repeat (first | assumption | exact mS | apply mT)) ?_ | refine SubL.skip ?_)))))⟩
            · skip
              refine WL.rd_yes rfl rfl rfl rfl rfl rfl (Rd.move rfl rfl) ?_
              refine WL.rd_yes rfl rfl rfl rfl rfl rfl (Rd.move rfl rfl) ?_
              refine WL.rd_yes rfl rfl rfl rfl rfl rfl (Rd.idx1 (v := v26) (enc := one vs) (xs := out) (k := i) rfl S38 rfl rfl rfl (by repeat (first | assumption | exact mS | apply mT)) hi) ?_
              refine WL.rd_yes rfl rfl rfl rfl rfl rfl (Rd.get (v := v26) (g := vs) (xs := out) (k := i) (a := out[i]!) rfl C9 rfl (by repeat (first | assumption | exact mS | apply mT)) (get!_of_lt hi)) ?_
              refine WL.rd_yes rfl rfl rfl rfl rfl rfl (Rd.seql rfl rfl rfl) ?_
              refine WL.rd rfl rfl rfl (Rd.pick_f rfl rfl rfl) ?_
              refine WL.nil ?_
              exact ⟨by repeat (first | exact Sub.nil | refine Sub.cons rfl (by first | rfl | (first | exact absurd hkn2 hg99 | exact congrArg Value.bool (decide_eq_false hne))) ?_), by first | exact (fun _ h => h.thin (SubL.mem (by repeat (first | exact SubL.refl | refine SubL.cons (by repeat (first | assumption | exact mS | apply mT)) ?_ | refine SubL.skip ?_)))) | exact (fun w h => OwnL.sat (by repeat (first | exact OwnL.refl | apply OwnL.take (by repeat (first | exact Take.head _ | apply Take.tail)) | apply OwnL.drop)) w (h.thin (SubL.mem (by repeat (first | exact SubL.refl | refine SubL.cons (by repeat (first | assumption | exact mS | apply mT)) ?_ | refine SubL.skip ?_)))))⟩
          · skip
            first | refine WC.ite rfl (fun hc6 => ?_) (fun hc6 => ?_) | refine WC.cond rfl (fun hc6 => ?_) (fun hc6 => ?_)
            · skip
              cases hc6
            · skip
              refine WC.skip ?_
              refine blockQ.normal ?_
              refine thenQ.normal ?_
              refine WC.region ?_
              refine WL.rd rfl rfl rfl (Rd.move rfl rfl) ?_
              refine WL.rd rfl rfl rfl (Rd.add rfl rfl rfl (by omega)) ?_
              refine WL.rd rfl rfl rfl (Rd.assign rfl rfl) ?_
              refine WL.nil ?_
              exact loopQ1.mk (i + 1) (by omega) (by omega) (Sub.cons rfl (by rw [flat_take_next hi]) (by repeat (first | exact Sub.nil | refine Sub.cons rfl (by first | rfl | (congr 1; omega) | assumption) ?_))) (fun w h => OwnL.sat (by repeat (first | exact OwnL.refl | apply OwnL.take (by repeat (first | exact Take.head _ | apply Take.tail)) | apply OwnL.drop)) w (h.thin (SubL.mem (by repeat (first | exact SubL.refl | refine SubL.cons (by repeat (first | assumption | exact mS | apply mT)) ?_ | refine SubL.skip ?_)))))
      · skip
        obtain rfl : i = out.length := by omega
        rw [List.take_length, hfl]
        refine WC.exit ?_
        refine thenQ.exit ?_
        refine loopQ1.exit ?_
        refine blockQ.exit ?_
        refine thenQ.normal ?_
        refine WC.seq ?_
        refine WC.region ?_
        refine WL.rd rfl rfl rfl (Rd.move rfl rfl) ?_
        refine WL.rd rfl rfl rfl (Rd.move rfl rfl) ?_
        refine WL.rd rfl rfl rfl (Rd.seql rfl rfl rfl) ?_
        refine WL.say 108 (u := .bool true) rfl (by simp) ?_
        refine WL.rd rfl rfl rfl (Rd.assign rfl rfl) ?_
        refine WL.nil ?_
        refine thenQ.normal ?_
        refine WC.heap (R' := R) (O' := O) (fun w h => OwnL.sat (by repeat (first | exact OwnL.refl | apply OwnL.take (by repeat (first | exact Take.head _ | apply Take.tail)) | apply OwnL.drop)) w (h.thin (SubL.mem (by repeat (first | exact SubL.refl | refine SubL.cons (by repeat (first | assumption | exact mS | apply mT)) ?_ | refine SubL.skip ?_))))) ?_
        refine WC.ret (Ret.one Try.results6 rfl ?_)
        exact hk
theorem whole2_spec {xs : List Pr} {word : T} (hl : SlE encP lv xs ∈ R) (hq : AllQ QP xs ∈ R) (hs : word.length ≤ 140737488351232) (hk : POST (.bool true) R O) : Fun Try.prog 6 #[lv, vs word] R O POST :=
  Fun.know hq (fun _ h => h) fun h => whole_spec hl h hs hk
end
end Go.Proofs.Ytnpkpcjiebiplaa
