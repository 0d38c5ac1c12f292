/-
  Layer 21: what stays of a list (slices.DeleteFunc, pick).
-/
import Derived.Test.YtpicbbkmcbhnpaaTh3
namespace Go.Proofs.Ytpicbbkmcbhnpaa
open Go Go.SL

theorem find2_spec {R : List RO} {O : List Own} {POST : Value → List RO → List Own → Prop} {us them was xs : List (List UInt8)} {v : Value} {bf b1 b2 b3 : Nat} (h : Asks b1 b2 b3 us them was O)
    (hf : rowC bf 50 [.func (.func 20) #[] #[.pointer (some ⟨b1, 0, none⟩), .pointer (some ⟨b2, 0, none⟩), .pointer (some ⟨b3, 0, none⟩)]] ∈ O)
    (hx : accC 9 1 (one vs) v xs ∈ O) (hl : xs.length ≤ 4294967296)
    (hk : ∀ k : Int, ((k = -1 ∧ ∀ j, j < xs.length → staysB us them was xs[j]! = true) ∨ ∃ i : Nat, k = i ∧ i < xs.length ∧ (∀ j, j < i → staysB us them was xs[j]! = true) ∧ staysB us them was xs[i]! = false) → POST (.int .i64 k) R O) :
    Fun Try.prog 40 #[v, .func (.func 34) #[] #[.pointer (some ⟨bf, 0, none⟩)]] R O POST :=
  find_spec h hf hx hl (fun i h1 h2 h3 => hk i (.inr ⟨i, rfl, h1, h2, h3⟩)) (fun h1 => hk (-1) (.inl ⟨rfl, h1⟩))
theorem filter_all {p : List UInt8 → Bool} {xs : List (List UInt8)} (h : ∀ j, j < xs.length → p xs[j]! = true) : xs.filter p = xs := by
  rw [List.filter_eq_self]
  intro a ha
  obtain ⟨j, hj, rfl⟩ := List.getElem_of_mem ha
  have := h j hj
  rwa [getElem!_pos xs j hj] at this
theorem filter_next (p : List UInt8 → Bool) {xs : List (List UInt8)} {j : Nat} (h : j < xs.length) : (xs.take (j + 1)).filter p = (xs.take j).filter p ++ if p xs[j]! then [xs[j]!] else [] := by
  rw [List.take_add_one, get!_of_lt h, List.filter_append]
  simp only [Option.toList_some, List.filter_cons, List.filter_nil]
theorem drop_at {ys xs : List (List UInt8)} {j : Nat} (hl : ys.length = xs.length) (hj : j < xs.length) (h : ys.drop j = xs.drop j) : ys[j]! = xs[j]! ∧ ys.drop (j + 1) = xs.drop (j + 1) := by
  rw [drop_get (l := ys) (by omega), drop_get hj, List.cons.injEq] at h
  exact h
set_option maxHeartbeats 1000000 in
theorem delete_spec {R : List RO} {O : List Own} {POST : Value → List RO → List Own → Prop} {us them was xs : List (List UInt8)} {v : Value} {bf b1 b2 b3 : Nat} (h : Asks b1 b2 b3 us them was O)
    (hf : rowC bf 50 [.func (.func 20) #[] #[.pointer (some ⟨b1, 0, none⟩), .pointer (some ⟨b2, 0, none⟩), .pointer (some ⟨b3, 0, none⟩)]] ∈ O)
    (hl : xs.length ≤ 4294967296) (hv : OneV v)
    (hk : ∀ u, POST u R (accC 9 1 (one vs) u (xs.filter (staysB us them was)) :: O)) : Fun Try.prog 33 #[v, .func (.func 34) #[] #[.pointer (some ⟨bf, 0, none⟩)]] R (accC 9 1 (one vs) v xs :: O) POST := by
  obtain ⟨p, hp⟩ : ∃ p, p = staysB us them was := ⟨_, rfl⟩
  refine Fun.enter (l := [_, _]) Try.func33 rfl Try.ntmps33 rfl (L0 := [(0, _), (1, _)]) rfl ?_
  refine WC.seq ?_
  refine WC.region ?_
  refine WL.rd rfl rfl rfl (Rd.assign rfl rfl) ?_
  refine WL.nil ?_
  refine thenQ.normal ?_
  refine WC.seq ?_
  refine WC.region ?_
  refine WL.rd rfl rfl rfl (Rd.move rfl rfl) ?_
  refine WL.rd rfl rfl rfl (Rd.move rfl rfl) ?_
  refine WL.op rfl ?_
  refine OpW.call rfl rfl (by repeat (first | exact Evs.nil | apply Evs.cons rfl)) (by kernel_rfl) rfl rfl rfl ?_
  refine find2_spec (h.mono fun c hc => List.mem_cons_of_mem _ hc) (List.mem_cons_of_mem _ hf) List.mem_cons_self hl ?_; intro k hk10
  refine WL.rd rfl rfl rfl (Rd.assign rfl rfl) ?_
  refine WL.nil ?_
  refine thenQ.normal ?_
  refine WC.seq ?_
  refine WC.seq ?_
  refine WC.region ?_
  refine WL.rd rfl rfl rfl (Rd.move rfl rfl) ?_
  refine WL.rd rfl rfl rfl (Rd.eql rfl rfl rfl) ?_
  refine WL.nil ?_
  refine thenQ.normal ?_
  first | refine WC.ite rfl (fun hc1 => ?_) (fun hc1 => ?_) | refine WC.cond rfl (fun hc1 => ?_) (fun hc1 => ?_)
  · skip
    refine WC.seq ?_
    refine WC.region ?_
    refine WL.rd rfl rfl rfl (Rd.move rfl rfl) ?_
    refine WL.rd rfl rfl rfl (Rd.assign rfl rfl) ?_
    refine WL.nil ?_
    refine thenQ.normal ?_
    -- ret_1
    refine WC.ret (Ret.one Try.results33 rfl ?_)
    have e : xs.filter (staysB us them was) = xs := by
      rcases hk10 with ⟨_, h1⟩ | ⟨i, rfl, _⟩
      · exact filter_all h1
      · omega
    have hk' := hk v
    rw [e] at hk'
    exact hk'
  · skip
    obtain ⟨i0, rfl, h1, h2, h3⟩ : ∃ i : Nat, k = i ∧ i < xs.length ∧ (∀ j, j < i → staysB us them was xs[j]! = true) ∧ staysB us them was xs[i]! = false := by
      rcases hk10 with ⟨h1, _⟩ | h1
      · exact absurd h1 hc1
      · exact h1
    have hf0 : (xs.take (i0 + 1)).filter p = xs.take i0 := by
      rw [filter_next p h1, hp, h3, filter_all (xs := xs.take i0) (fun j hj => by
        rw [List.length_take] at hj
        have := h2 j (by omega)
        rwa [getElem!_pos _ _ (by rw [List.length_take]; omega), List.getElem_take, ← getElem!_pos xs j (by omega)])]
      simp
    refine WC.skip ?_
    refine thenQ.normal ?_
    refine WC.seq ?_
    refine WC.seq ?_
    refine WC.region ?_
    refine WL.rd rfl rfl rfl (Rd.move rfl rfl) ?_
    refine WL.rd rfl rfl rfl (Rd.add rfl rfl rfl (by omega)) ?_
    refine WL.rd rfl rfl rfl (Rd.assign rfl rfl) ?_
    refine WL.nil ?_
    refine thenQ.normal ?_
    refine WC.block ?_
    refine WC.pick [5, 6, 0, 1] (by repeat (first | exact Pick.nil | apply Pick.cons rfl)) ?_
    refine WC.loop3 2 (fun (i : Nat) (j : Nat) (ys : List (List UInt8)) => [(5, .int .i64 (i : Int)), (6, .int .i64 (j : Int))]) (fun (i : Nat) (j : Nat) (ys : List (List UInt8)) => accC 9 1 (one vs) v ys :: O) (fun (i : Nat) (j : Nat) (ys : List (List UInt8)) => i < j ∧ j ≤ xs.length ∧ ys.length = xs.length ∧ ys.take i = (xs.take j).filter p ∧ ys.drop j = xs.drop j) (fun (i : Nat) (j : Nat) (ys : List (List UInt8)) => xs.length - j) (i0) (i0 + 1) (xs) (by repeat (first | exact Split.zero | apply Split.succ)) ?hinv1 (by repeat (first | exact Sub.nil | refine Sub.cons rfl (by first | rfl | (congr 1; omega) | assumption) ?_)) (fun _ h => h) ?_
    case hinv1 =>
      exact ⟨by omega, by omega, rfl, hf0.symm, rfl⟩
    intro i j ys
    rintro ⟨i1, i2, i3, i4, i5⟩
    refine WC.seq ?_
    refine WC.seq ?_
    refine WC.region ?_
    refine WL.rd rfl rfl rfl (Rd.move rfl rfl) ?_
    refine WL.rd rfl rfl rfl (Rd.move rfl rfl) ?_
    refine WL.rd rfl rfl rfl (Rd.lenA rfl rfl Try.underlying22 List.mem_cons_self) ?_
    refine WL.rd rfl rfl rfl (Rd.lss rfl rfl rfl) ?_
    refine WL.nil ?_
    refine thenQ.normal ?_
    first | refine WC.ite rfl (fun hc2 => ?_) (fun hc2 => ?_) | refine WC.cond rfl (fun hc2 => ?_) (fun hc2 => ?_)
    · skip
      obtain ⟨d1, d2⟩ := drop_at i3 (by omega) i5
      have hfn := filter_next p (xs := xs) (j := j) (by omega)
      refine WC.skip ?_
      refine thenQ.normal ?_
      refine WC.seq ?_
      refine WC.block ?_
      refine WC.seq ?_
      refine WC.region ?_
      refine WL.rd rfl rfl rfl (Rd.move rfl rfl) ?_
      refine WL.rd rfl rfl rfl (Rd.move rfl rfl) ?_
      refine WL.rd rfl rfl rfl (Rd.idxA1 (k := j) rfl S22 rfl rfl rfl List.mem_cons_self (by omega)) ?_
      refine WL.rd rfl rfl rfl (Rd.getA (k := j) rfl C9 rfl List.mem_cons_self (get!_of_lt (by omega))) ?_
      refine WL.rd rfl rfl rfl (Rd.assign rfl rfl) ?_
      refine WL.nil ?_
      refine thenQ.normal ?_
      refine WC.seq ?_
      refine WC.region ?_
      refine WL.rd rfl rfl rfl (Rd.move rfl rfl) ?_
      refine WL.rd rfl rfl rfl (Rd.move rfl rfl) ?_
      refine WL.op rfl ?_
      refine OpW.call rfl rfl (by repeat (first | exact Evs.nil | apply Evs.cons rfl)) (by kernel_rfl) rfl rfl rfl ?_
      refine pick1_spec (h.mono fun c hc => List.mem_cons_of_mem _ hc) (List.mem_cons_of_mem _ hf) ?_
      rw [← hp, d1]
      refine WL.rd rfl rfl rfl ((by first | exact Rd.notd rfl rfl | exact Rd.not rfl rfl)) ?_
      refine WL.nil ?_
      refine thenQ.normal ?_
      first | refine WC.ite rfl (fun hc3 => ?_) (fun hc3 => ?_) | refine WC.cond rfl (fun hc3 => ?_) (fun hc3 => ?_)
      · skip
        refine WC.seq ?_
        refine WC.region ?_
        refine WL.rd rfl rfl rfl (Rd.move rfl rfl) ?_
        refine WL.rd rfl rfl rfl (Rd.move rfl rfl) ?_
        refine WL.rd rfl rfl rfl (Rd.move rfl rfl) ?_
        refine WL.rd rfl rfl rfl (Rd.idxA1 (k := i) rfl S22 rfl rfl rfl List.mem_cons_self (by omega)) ?_
        refine WL.op rfl ?_
        refine OpW.storeAcc (k := i) (a := xs[j]!) rfl Z9 rfl rfl rfl rfl (Take.head _) (by omega) rfl ?_
        refine WL.nil ?_
        refine thenQ.normal ?_
        refine WC.region ?_
        refine WL.rd rfl rfl rfl (Rd.move rfl rfl) ?_
        refine WL.rd rfl rfl rfl (Rd.add rfl rfl rfl (by omega)) ?_
        refine WL.rd rfl rfl rfl (Rd.assign rfl rfl) ?_
        refine WL.nil ?_
        refine blockQ.normal ?_
        refine thenQ.normal ?_
        refine WC.region ?_
        refine WL.rd rfl rfl rfl (Rd.move rfl rfl) ?_
        refine WL.rd rfl rfl rfl (Rd.add rfl rfl rfl (by omega)) ?_
        refine WL.rd rfl rfl rfl (Rd.assign rfl rfl) ?_
        refine WL.nil ?_
        -- next1_1
        exact loopQ3.mk (i + 1) (j + 1) (ys.set i xs[j]!) ⟨by omega, by omega, by rw [List.length_set, i3], by
        rw [List.take_add_one, List.take_set_of_le (Nat.le_refl _), i4, hfn, if_pos (by simpa using hc3), List.getElem?_set_self (by omega)]; rfl, by
        rw [List.drop_set_of_lt (by omega), d2]⟩ (by omega) (by repeat (first | exact Sub.nil | refine Sub.cons rfl (by first | rfl | (congr 1; omega) | assumption) ?_)) (fun w h => OwnL.sat (by repeat (first | exact OwnL.refl | apply OwnL.take (by repeat (first | exact Take.head _ | apply Take.tail)) | apply OwnL.drop)) w (h.thin (SubL.mem (by repeat (first | exact SubL.refl | refine SubL.cons (by repeat (first | assumption | exact List.mem_cons_self | refine List.mem_cons_of_mem _ ?_)) ?_ | refine SubL.skip ?_)))))
      · skip
        refine WC.skip ?_
        refine blockQ.normal ?_
        refine thenQ.normal ?_
        refine WC.region ?_
        refine WL.rd rfl rfl rfl (Rd.move rfl rfl) ?_
        refine WL.rd rfl rfl rfl (Rd.add rfl rfl rfl (by omega)) ?_
        refine WL.rd rfl rfl rfl (Rd.assign rfl rfl) ?_
        refine WL.nil ?_
        -- next1_2
        exact loopQ3.mk i (j + 1) ys ⟨by omega, by omega, i3, by rw [i4, hfn, if_neg (by simpa using hc3), List.append_nil], d2⟩ (by omega) (by repeat (first | exact Sub.nil | refine Sub.cons rfl (by first | rfl | (congr 1; omega) | assumption) ?_)) (fun w h => OwnL.sat (by repeat (first | exact OwnL.refl | apply OwnL.take (by repeat (first | exact Take.head _ | apply Take.tail)) | apply OwnL.drop)) w (h.thin (SubL.mem (by repeat (first | exact SubL.refl | refine SubL.cons (by repeat (first | assumption | exact List.mem_cons_self | refine List.mem_cons_of_mem _ ?_)) ?_ | refine SubL.skip ?_)))))
    · skip
      refine WC.exit ?_
      refine thenQ.exit ?_
      refine loopQ3.exit ?_
      refine blockQ.exit ?_
      refine thenQ.normal ?_
      refine WC.seq ?_
      refine WC.region ?_
      refine WL.rd rfl rfl rfl (Rd.move rfl rfl) ?_
      refine WL.rd rfl rfl rfl (Rd.move rfl rfl) ?_
      refine WL.rd rfl rfl rfl (Rd.cutA_l (lo := i) rfl S22 rfl rfl rfl List.mem_cons_self (by omega)) ?_
      refine WL.op rfl ?_
      refine OpW.clearAcc (a0 := []) rfl S22 rfl rfl rfl rfl rfl (Take.head _) (by omega) rfl ?_
      refine WL.nil ?_
      refine thenQ.normal ?_
      refine WC.seq ?_
      refine WC.region ?_
      refine WL.rd rfl rfl rfl (Rd.move rfl rfl) ?_
      refine WL.rd rfl rfl rfl (Rd.move rfl rfl) ?_
      refine WL.rd rfl rfl rfl (Rd.cutA_h (hi := i) rfl S22 rfl rfl rfl List.mem_cons_self (by simp; omega)) ?_
      refine WL.rd rfl rfl rfl (Rd.assign rfl rfl) ?_
      refine WL.nil ?_
      refine thenQ.normal ?_
      -- ret_2
      refine WC.heap (fun w h => Sat.cutAcc (enc := one vs) (size := 1) (xs := ys.take i ++ List.replicate (ys.length - i) []) (hi := i) (Take.head _) (fun _ => rfl) (by simp; omega) h) ?_
      refine WC.ret (Ret.one Try.results33 rfl ?_)
      have e : (ys.take i ++ List.replicate (ys.length - i) []).take i = xs.filter (staysB us them was) := by
        rw [List.take_append_of_le_length (by rw [List.length_take]; omega), List.take_take, Nat.min_self, i4, List.take_of_length_le (by omega), hp]
      rw [e]
      exact hk _
theorem pick_spec {R : List RO} {O : List Own} {POST : Value → List RO → List Own → Prop} {us them was xs : List (List UInt8)} {av : Value} {b1 b2 b3 : Nat} (ha : SlE (one vs) av xs ∈ R) (h : Asks b1 b2 b3 us them was O)
    (hl : xs.length ≤ 4294967296)
    (hk : ∀ u, POST u (SlE (one vs) u (xs.filter (staysB us them was)) :: R) O) : Fun Try.prog 22 #[av, .func (.func 20) #[] #[.pointer (some ⟨b1, 0, none⟩), .pointer (some ⟨b2, 0, none⟩), .pointer (some ⟨b3, 0, none⟩)]] R O POST := by
  refine Fun.enter (l := [_, _]) Try.func22 rfl Try.ntmps22 rfl (L0 := [(0, _), (1, _)]) rfl ?_
  refine WC.seq ?_
  refine WC.region ?_
  refine WL.op rfl ?_
  refine OpW.box1 rfl rfl (by first | exact ⟨rfl, rfl⟩ | assumption) rfl rfl ?_; intro b3
  refine WL.rd rfl rfl rfl (Rd.assign rfl rfl) ?_
  refine WL.nil ?_
  refine thenQ.normal ?_
  refine WC.seq ?_
  refine WC.region ?_
  refine WL.rd rfl rfl rfl (Rd.move rfl rfl) ?_
  refine WL.op rfl ?_
  refine OpW.call rfl rfl (by repeat (first | exact Evs.nil | apply Evs.cons rfl)) (by kernel_rfl) rfl rfl rfl ?_
  refine clone_spec ha hl ?_; intro v6 hv6
  refine WL.rd rfl rfl rfl (Rd.func rfl (by repeat (first | exact Evs.nil | apply Evs.cons rfl)) (by repeat (first | exact Evs.nil | apply Evs.cons rfl)) ⟨_, rfl⟩) ?_
  refine WL.op rfl ?_
  refine OpW.call rfl rfl (by repeat (first | exact Evs.nil | apply Evs.cons rfl)) (by kernel_rfl) rfl rfl rfl ?_
  refine delete_spec (h.mono fun c hc => List.mem_cons_of_mem _ hc) List.mem_cons_self hl hv6 ?_; intro u
  refine WL.rd rfl rfl rfl (Rd.assign rfl rfl) ?_
  refine WL.nil ?_
  refine thenQ.normal ?_
  -- ret_1
  refine WC.heap (fun w hh => Sat.shareA (Take.head _) hh) ?_
  refine WC.heap (R' := SlE (one vs) u (xs.filter (staysB us them was)) :: R) (O' := O) (fun w h => OwnL.sat (by repeat (first | exact OwnL.refl | apply OwnL.take (by repeat (first | exact Take.head _ | apply Take.tail)) | apply OwnL.drop)) w (h.thin (SubL.mem (by repeat (first | exact SubL.refl | refine SubL.cons (by repeat (first | assumption | exact List.mem_cons_self | refine List.mem_cons_of_mem _ ?_)) ?_ | refine SubL.skip ?_))))) ?_
  refine WC.ret (Ret.one Try.results22 rfl ?_)
  exact hk u
end Go.Proofs.Ytpicbbkmcbhnpaa
