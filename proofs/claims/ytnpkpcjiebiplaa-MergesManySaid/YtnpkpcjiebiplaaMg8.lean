/-
  Layer 8: the parts that are left (slices.DeleteFunc); the list from its end on (slices.Backward).
-/
import Derived.Test.YtnpkpcjiebiplaaMg7
import Derived.Test.YtnpkpcjiebiplaaRf
namespace Go.Proofs.Ytnpkpcjiebiplaa
open Go Go.SL
set_option maxRecDepth 20000 in
theorem gone_spec {R : List RO} {O : List Own} {POST : Value → List RO → List Own → Prop} {s : T} (hk : POST (.bool (decide (s = []))) R O) : Fun Try.prog 28 #[vs s] R O POST := by
  refine Fun.enter (l := [_]) Try.func28 rfl Try.ntmps28 rfl (L0 := [(0, _)]) rfl ?_
  refine WC.seq ?_
  refine WC.region ?_
  refine WL.rd rfl rfl rfl (Rd.assign rfl rfl) ?_
  refine WL.nil ?_
  refine thenQ.normal ?_
  refine WC.seq ?_
  refine WC.region ?_
  refine WL.rd rfl rfl rfl (Rd.move rfl rfl) ?_
  refine WL.rd rfl rfl rfl (Rd.seql rfl rfl rfl) ?_
  refine WL.rd rfl rfl rfl (Rd.assign rfl rfl) ?_
  refine WL.nil ?_
  refine thenQ.normal ?_
  refine WC.ret (Ret.one Try.results28 rfl ?_)
  exact hk
set_option maxRecDepth 20000 in
theorem findGone_spec {R : List RO} {O : List Own} {POST : Value → List RO → List Own → Prop} {xs : List T} {v : Value} (hx : accT v xs ∈ O) (hl : xs.length ≤ 4294967296)
    (hk : ∀ k : Int, ((k = -1 ∧ ∀ j, j < xs.length → xs[j]! ≠ []) ∨ ∃ i : Nat, k = i ∧ i < xs.length ∧ (∀ j, j < i → xs[j]! ≠ []) ∧ xs[i]! = []) → POST (.int .i64 k) R O) :
    Fun Try.prog 38 #[v, .func (.func 28) #[] #[]] R O POST := by
  refine Fun.enter (l := [_, _]) Try.func38 rfl Try.ntmps38 rfl (L0 := [(0, _), (1, _)]) rfl ?_
  refine WC.seq ?_
  refine WC.region ?_
  refine WL.rd rfl rfl rfl (Rd.assign rfl rfl) ?_
  refine WL.nil ?_
  refine thenQ.normal ?_
  refine WC.seq ?_
  refine WC.seq ?_
  refine WC.region ?_
  refine WL.rd rfl rfl rfl (Rd.move rfl rfl) ?_
  refine WL.rd rfl rfl rfl (Rd.lenA (enc := one vs) (xs := xs) rfl rfl Try.underlying38 hx) ?_
  refine WL.rd rfl rfl rfl (Rd.move rfl rfl) ?_
  refine WL.nil ?_
  refine thenQ.normal ?_
  refine WC.block ?_
  refine WC.pick [8, 0, 1, 7] (by repeat (first | exact Pick.nil | apply Pick.cons rfl)) ?_
  refine WC.loop1o 1 (fun (j : Nat) => [(8, vi j)]) (fun (j : Nat) => j ≤ xs.length ∧ ∀ i, i < j → xs[i]! ≠ []) (fun (j : Nat) => xs.length - j) (0) (by repeat (first | exact Split.zero | apply Split.succ)) ?hinv1 (by repeat (first | exact Sub.nil | refine Sub.cons rfl (by first | rfl | (congr 1; omega) | assumption) ?_)) (fun _ h => h) ?_
  case hinv1 =>
    exact ⟨Nat.zero_le _, fun i h => absurd h (Nat.not_lt_zero _)⟩
  intro j
  rintro ⟨i1, i2⟩
  refine WC.seq ?_
  refine WC.region ?_
  refine WL.rd rfl rfl rfl (Rd.lss rfl rfl rfl) ?_
  refine WL.nil ?_
  refine thenQ.normal ?_
  refine WC.seq ?_
  first | refine WC.ite rfl (fun hc1 => ?_) (fun hc1 => ?_) | refine WC.cond rfl (fun hc1 => ?_) (fun hc1 => ?_)
  · skip
    refine WC.skip ?_
    refine thenQ.normal ?_
    refine WC.seq ?_
    refine WC.block ?_
    refine WC.seq ?_
    refine WC.region ?_
    refine WL.rd rfl rfl rfl (Rd.move rfl rfl) ?_
    refine WL.rd rfl rfl rfl (Rd.assign rfl rfl) ?_
    refine WL.nil ?_
    refine thenQ.normal ?_
    refine WC.seq ?_
    refine WC.region ?_
    refine WL.rd rfl rfl rfl (Rd.move rfl rfl) ?_
    refine WL.rd rfl rfl rfl (Rd.move rfl rfl) ?_
    refine WL.rd rfl rfl rfl (Rd.move rfl rfl) ?_
    refine WL.rd rfl rfl rfl (Rd.idxA1 (enc := one vs) (xs := xs) (k := j) rfl S38 rfl rfl rfl hx (by omega)) ?_
    refine WL.rd rfl rfl rfl (Rd.getA (g := vs) (xs := xs) (k := j) rfl C9 rfl hx (get!_of_lt (by omega))) ?_
    refine WL.op rfl ?_
    refine OpW.call rfl rfl (by repeat (first | exact Evs.nil | apply Evs.cons rfl)) (by kernel_rfl) rfl rfl rfl ?_
    refine gone_spec ?_
    refine WL.nil ?_
    refine thenQ.normal ?_
    first | refine WC.ite rfl (fun hc2 => ?_) (fun hc2 => ?_) | refine WC.cond rfl (fun hc2 => ?_) (fun hc2 => ?_)
    · skip
      refine WC.seq ?_
      refine WC.region ?_
      refine WL.rd rfl rfl rfl (Rd.move rfl rfl) ?_
      refine WL.rd rfl rfl rfl (Rd.assign rfl rfl) ?_
      refine WL.nil ?_
      refine thenQ.normal ?_
      refine WC.ret (Ret.one Try.results38 rfl ?_)
      exact hk _ (.inr ⟨j, rfl, by omega, i2, hc2⟩)
    · skip
      refine WC.skip ?_
      refine blockQ.normal ?_
      refine thenQ.normal ?_
      refine WC.region ?_
      refine WL.rd rfl rfl rfl (Rd.add rfl rfl rfl (by omega)) ?_
      refine WL.rd rfl rfl rfl (Rd.move rfl rfl) ?_
      refine WL.nil ?_
      exact loopQ1.mk (j + 1) ⟨by omega, fun i hi => by
      rcases Nat.lt_or_ge i j with h | h
      · exact i2 i h
      · obtain rfl : i = j := by omega
        exact hc2⟩ (by omega) (by repeat (first | exact Sub.nil | refine Sub.cons rfl (by first | rfl | (congr 1; omega) | assumption) ?_)) (fun w h => OwnL.sat (by repeat (first | exact OwnL.refl | apply OwnL.take (by repeat (first | exact Take.head _ | apply Take.tail)) | apply OwnL.drop)) w (h.thin (SubL.mem (by repeat (first | exact SubL.refl | refine SubL.cons (by repeat (first | assumption | exact mS | apply mT)) ?_ | refine SubL.skip ?_)))))
  · skip
    refine WC.exit ?_
    refine thenQ.exit ?_
    refine loopQ1.exit ?_
    refine blockQ.exit ?_
    refine thenQ.normal ?_
    refine WC.seq ?_
    refine WC.region ?_
    refine WL.rd rfl rfl rfl (Rd.assign rfl rfl) ?_
    refine WL.nil ?_
    refine thenQ.normal ?_
    refine WC.ret (Ret.one Try.results38 rfl ?_)
    exact hk _ (.inl ⟨rfl, fun i hi => i2 i (by omega)⟩)
def stays (s : T) : Bool := decide (s ≠ [])
theorem filter_all {p : T → Bool} {xs : List T} (h : ∀ j, j < xs.length → p xs[j]! = true) : xs.filter p = xs := by
  rw [List.filter_eq_self]
  intro a ha
  obtain ⟨j, hj, rfl⟩ := List.getElem_of_mem ha
  have := h j hj
  rwa [getElem!_pos xs j hj] at this
theorem filter_next (p : T → Bool) {xs : List T} {j : Nat} (h : j < xs.length) : (xs.take (j + 1)).filter p = (xs.take j).filter p ++ if p xs[j]! then [xs[j]!] else [] := by
  rw [List.take_add_one, get!_of_lt h, List.filter_append]
  simp only [Option.toList_some, List.filter_cons, List.filter_nil]
theorem drop_get {α : Type} [Inhabited α] {l : List α} {j : Nat} (h : j < l.length) : l.drop j = l[j]! :: l.drop (j + 1) := by
  rw [List.drop_eq_getElem_cons h, getElem!_pos l j h]
theorem drop_at {ys xs : List T} {j : Nat} (hl : ys.length = xs.length) (hj : j < xs.length) (h : ys.drop j = xs.drop j) : ys[j]! = xs[j]! ∧ ys.drop (j + 1) = xs.drop (j + 1) := by
  rw [drop_get (l := ys) (by omega), drop_get hj, List.cons.injEq] at h
  exact h
set_option maxRecDepth 20000 in
set_option maxHeartbeats 1000000 in
theorem delete_spec {R : List RO} {O : List Own} {POST : Value → List RO → List Own → Prop} {xs : List T} {v : Value} (hl : xs.length ≤ 4294967296)
    (hk : ∀ u, POST u R (accT u (xs.filter stays) :: O)) : Fun Try.prog 27 #[v, .func (.func 28) #[] #[]] R (accT v xs :: O) POST := by
  obtain ⟨p, hp⟩ : ∃ p, p = stays := ⟨_, rfl⟩
  refine Fun.enter (l := [_, _]) Try.func27 rfl Try.ntmps27 rfl (L0 := [(0, _), (1, _)]) rfl ?_
  refine WC.seq ?_
  refine WC.region ?_
  refine WL.rd rfl rfl rfl (Rd.assign rfl rfl) ?_
  refine WL.nil ?_
  refine thenQ.normal ?_
  refine WC.seq ?_
  refine WC.region ?_
  refine WL.rd rfl rfl rfl (Rd.move rfl rfl) ?_
  refine WL.rd rfl rfl rfl (Rd.move rfl rfl) ?_
  refine WL.op rfl ?_
  refine OpW.call rfl rfl (by repeat (first | exact Evs.nil | apply Evs.cons rfl)) (by kernel_rfl) rfl rfl rfl ?_
  refine findGone_spec List.mem_cons_self hl ?_; intro k hk10
  refine WL.rd rfl rfl rfl (Rd.assign rfl rfl) ?_
  refine WL.nil ?_
  refine thenQ.normal ?_
  refine WC.seq ?_
  refine WC.seq ?_
  refine WC.region ?_
  refine WL.rd rfl rfl rfl (Rd.move rfl rfl) ?_
  refine WL.rd rfl rfl rfl (Rd.eql rfl rfl rfl) ?_
  refine WL.nil ?_
  refine thenQ.normal ?_
  first | refine WC.ite rfl (fun hc1 => ?_) (fun hc1 => ?_) | refine WC.cond rfl (fun hc1 => ?_) (fun hc1 => ?_)
  · skip
    refine WC.seq ?_
    refine WC.region ?_
    refine WL.rd rfl rfl rfl (Rd.move rfl rfl) ?_
    refine WL.rd rfl rfl rfl (Rd.assign rfl rfl) ?_
    refine WL.nil ?_
    refine thenQ.normal ?_
    refine WC.ret (Ret.one Try.results27 rfl ?_)
    have e : xs.filter stays = xs := by
      rcases hk10 with ⟨_, h1⟩ | ⟨i, rfl, _⟩
      · exact filter_all (fun j hj => decide_eq_true (h1 j hj))
      · omega
    have hk' := hk v
    rw [e] at hk'
    exact hk'
  · skip
    obtain ⟨i0, rfl, h1, h2, h3⟩ : ∃ i : Nat, k = i ∧ i < xs.length ∧ (∀ j, j < i → xs[j]! ≠ []) ∧ xs[i]! = [] := by
      rcases hk10 with ⟨h1, _⟩ | h1
      · exact absurd h1 hc1
      · exact h1
    have hf0 : (xs.take (i0 + 1)).filter p = xs.take i0 := by
      rw [filter_next p h1, hp, show stays xs[i0]! = false from by rw [h3]; rfl, filter_all (xs := xs.take i0) (fun j hj => by
        rw [List.length_take] at hj
        have := h2 j (by omega)
        rw [getElem!_pos _ _ (by rw [List.length_take]; omega), List.getElem_take, ← getElem!_pos xs j (by omega)]
        exact decide_eq_true this)]
      simp
    refine WC.skip ?_
    refine thenQ.normal ?_
    refine WC.seq ?_
    refine WC.seq ?_
    refine WC.region ?_
    refine WL.rd rfl rfl rfl (Rd.move rfl rfl) ?_
    refine WL.rd rfl rfl rfl (Rd.add rfl rfl rfl (by omega)) ?_
    refine WL.rd rfl rfl rfl (Rd.assign rfl rfl) ?_
    refine WL.nil ?_
    refine thenQ.normal ?_
    refine WC.block ?_
    refine WC.pick [5, 6, 0, 1] (by repeat (first | exact Pick.nil | apply Pick.cons rfl)) ?_
    refine WC.loop3 2 (fun (i : Nat) (j : Nat) (ys : List T) => [(5, .int .i64 (i : Int)), (6, .int .i64 (j : Int))]) (fun (i : Nat) (j : Nat) (ys : List T) => accT v ys :: O) (fun (i : Nat) (j : Nat) (ys : List T) => i < j ∧ j ≤ xs.length ∧ ys.length = xs.length ∧ ys.take i = (xs.take j).filter p ∧ ys.drop j = xs.drop j) (fun (i : Nat) (j : Nat) (ys : List T) => xs.length - j) (i0) (i0 + 1) (xs) (by repeat (first | exact Split.zero | apply Split.succ)) ?hinv1 (by repeat (first | exact Sub.nil | refine Sub.cons rfl (by first | rfl | (congr 1; omega) | assumption) ?_)) (fun _ h => h) ?_
    case hinv1 =>
      exact ⟨by omega, by omega, rfl, hf0.symm, rfl⟩
    intro i j ys
    rintro ⟨i1, i2, i3, i4, i5⟩
    refine WC.seq ?_
    refine WC.seq ?_
    refine WC.region ?_
    refine WL.rd rfl rfl rfl (Rd.move rfl rfl) ?_
    refine WL.rd rfl rfl rfl (Rd.move rfl rfl) ?_
    refine WL.rd rfl rfl rfl (Rd.lenA rfl rfl Try.underlying38 List.mem_cons_self) ?_
    refine WL.rd rfl rfl rfl (Rd.lss rfl rfl rfl) ?_
    refine WL.nil ?_
    refine thenQ.normal ?_
    first | refine WC.ite rfl (fun hc2 => ?_) (fun hc2 => ?_) | refine WC.cond rfl (fun hc2 => ?_) (fun hc2 => ?_)
    · skip
      obtain ⟨d1, d2⟩ := drop_at i3 (by omega) i5
      have hfn := filter_next p (xs := xs) (j := j) (by omega)
      refine WC.skip ?_
      refine thenQ.normal ?_
      refine WC.seq ?_
      refine WC.block ?_
      refine WC.seq ?_
      refine WC.region ?_
      refine WL.rd rfl rfl rfl (Rd.move rfl rfl) ?_
      refine WL.rd rfl rfl rfl (Rd.move rfl rfl) ?_
      refine WL.rd rfl rfl rfl (Rd.idxA1 (k := j) rfl S38 rfl rfl rfl List.mem_cons_self (by omega)) ?_
      refine WL.rd rfl rfl rfl (Rd.getA (k := j) rfl C9 rfl List.mem_cons_self (get!_of_lt (by omega))) ?_
      refine WL.rd rfl rfl rfl (Rd.assign rfl rfl) ?_
      refine WL.nil ?_
      refine thenQ.normal ?_
      refine WC.seq ?_
      refine WC.region ?_
      refine WL.rd rfl rfl rfl (Rd.move rfl rfl) ?_
      refine WL.rd rfl rfl rfl (Rd.move rfl rfl) ?_
      refine WL.op rfl ?_
      refine OpW.call rfl rfl (by repeat (first | exact Evs.nil | apply Evs.cons rfl)) (by kernel_rfl) rfl rfl rfl ?_
      refine gone_spec ?_
      rw [d1]
      refine WL.rd rfl rfl rfl ((by first | exact Rd.notd rfl rfl | exact Rd.not rfl rfl)) ?_
      refine WL.nil ?_
      refine thenQ.normal ?_
      first | refine WC.ite rfl (fun hc3 => ?_) (fun hc3 => ?_) | refine WC.cond rfl (fun hc3 => ?_) (fun hc3 => ?_)
      · skip
        refine WC.seq ?_
        refine WC.region ?_
        refine WL.rd rfl rfl rfl (Rd.move rfl rfl) ?_
        refine WL.rd rfl rfl rfl (Rd.move rfl rfl) ?_
        refine WL.rd rfl rfl rfl (Rd.move rfl rfl) ?_
        refine WL.rd rfl rfl rfl (Rd.idxA1 (k := i) rfl S38 rfl rfl rfl List.mem_cons_self (by omega)) ?_
        refine WL.op rfl ?_
        refine OpW.storeAcc (k := i) (a := xs[j]!) rfl Z9 rfl rfl rfl rfl (Take.head _) (by omega) rfl ?_
        refine WL.nil ?_
        refine thenQ.normal ?_
        refine WC.region ?_
        refine WL.rd rfl rfl rfl (Rd.move rfl rfl) ?_
        refine WL.rd rfl rfl rfl (Rd.add rfl rfl rfl (by omega)) ?_
        refine WL.rd rfl rfl rfl (Rd.assign rfl rfl) ?_
        refine WL.nil ?_
        refine blockQ.normal ?_
        refine thenQ.normal ?_
        refine WC.region ?_
        refine WL.rd rfl rfl rfl (Rd.move rfl rfl) ?_
        refine WL.rd rfl rfl rfl (Rd.add rfl rfl rfl (by omega)) ?_
        refine WL.rd rfl rfl rfl (Rd.assign rfl rfl) ?_
        refine WL.nil ?_
        exact loopQ3.mk (i + 1) (j + 1) (ys.set i xs[j]!) ⟨by omega, by omega, by rw [List.length_set, i3], by
        rw [List.take_add_one, List.take_set_of_le (Nat.le_refl _), i4, hfn, if_pos (by rw [hp]; simpa [stays] using hc3), List.getElem?_set_self (by omega)]; rfl, by
        rw [List.drop_set_of_lt (by omega), d2]⟩ (by omega) (by repeat (first | exact Sub.nil | refine Sub.cons rfl (by first | rfl | (congr 1; omega) | assumption) ?_)) (fun w h => OwnL.sat (by repeat (first | exact OwnL.refl | apply OwnL.take (by repeat (first | exact Take.head _ | apply Take.tail)) | apply OwnL.drop)) w (h.thin (SubL.mem (by repeat (first | exact SubL.refl | refine SubL.cons (by repeat (first | assumption | exact mS | apply mT)) ?_ | refine SubL.skip ?_)))))
      · skip
        refine WC.skip ?_
        refine blockQ.normal ?_
        refine thenQ.normal ?_
        refine WC.region ?_
        refine WL.rd rfl rfl rfl (Rd.move rfl rfl) ?_
        refine WL.rd rfl rfl rfl (Rd.add rfl rfl rfl (by omega)) ?_
        refine WL.rd rfl rfl rfl (Rd.assign rfl rfl) ?_
        refine WL.nil ?_
        exact loopQ3.mk i (j + 1) ys ⟨by omega, by omega, i3, by rw [i4, hfn, if_neg (by rw [hp]; simpa [stays] using hc3), List.append_nil], d2⟩ (by omega) (by repeat (first | exact Sub.nil | refine Sub.cons rfl (by first | rfl | (congr 1; omega) | assumption) ?_)) (fun w h => OwnL.sat (by repeat (first | exact OwnL.refl | apply OwnL.take (by repeat (first | exact Take.head _ | apply Take.tail)) | apply OwnL.drop)) w (h.thin (SubL.mem (by repeat (first | exact SubL.refl | refine SubL.cons (by repeat (first | assumption | exact mS | apply mT)) ?_ | refine SubL.skip ?_)))))
    · skip
      refine WC.exit ?_
      refine thenQ.exit ?_
      refine loopQ3.exit ?_
      refine blockQ.exit ?_
      refine thenQ.normal ?_
      refine WC.seq ?_
      refine WC.region ?_
      refine WL.rd rfl rfl rfl (Rd.move rfl rfl) ?_
      refine WL.rd rfl rfl rfl (Rd.move rfl rfl) ?_
      refine WL.rd rfl rfl rfl (Rd.cutA_l (lo := i) rfl S38 rfl rfl rfl List.mem_cons_self (by omega)) ?_
      refine WL.op rfl ?_
      refine OpW.clearAcc (a0 := []) rfl S38 rfl rfl rfl rfl rfl (Take.head _) (by omega) rfl ?_
      refine WL.nil ?_
      refine thenQ.normal ?_
      refine WC.seq ?_
      refine WC.region ?_
      refine WL.rd rfl rfl rfl (Rd.move rfl rfl) ?_
      refine WL.rd rfl rfl rfl (Rd.move rfl rfl) ?_
      refine WL.rd rfl rfl rfl (Rd.cutA_h (hi := i) rfl S38 rfl rfl rfl List.mem_cons_self (by simp; omega)) ?_
      refine WL.rd rfl rfl rfl (Rd.assign rfl rfl) ?_
      refine WL.nil ?_
      refine thenQ.normal ?_
      refine WC.heap (fun w h => Sat.cutAcc (enc := one vs) (size := 1) (xs := ys.take i ++ List.replicate (ys.length - i) []) (hi := i) (Take.head _) (fun _ => rfl) (by simp; omega) h) ?_
      refine WC.ret (Ret.one Try.results27 rfl ?_)
      have e : (ys.take i ++ List.replicate (ys.length - i) []).take i = xs.filter stays := by
        rw [List.take_append_of_le_length (by rw [List.length_take]; omega), List.take_take, Nat.min_self, i4, List.take_of_length_le (by omega), hp]
      rw [e]
      exact hk _
/-! ### backwards -/
set_option maxRecDepth 20000 in
theorem back_spec {R : List RO} {O : List Own} {POST : Value → List RO → List Own → Prop} {lv : Value} (hv : OneV lv) (hk : ∀ b, POST (.func (.func 34) #[] #[.pointer (some ⟨b, 0, none⟩)]) R (rowC b 24 [lv] :: O)) :
    Fun Try.prog 24 #[lv] R O POST := by
  refine Fun.enter (l := [_]) Try.func24 rfl Try.ntmps24 rfl (L0 := [(0, _)]) rfl ?_
  refine WC.seq ?_
  refine WC.region ?_
  refine WL.op rfl ?_
  refine OpW.box1 rfl rfl (by first | exact ⟨rfl, rfl⟩ | assumption) rfl rfl ?_; intro b1
  refine WL.rd rfl rfl rfl (Rd.assign rfl rfl) ?_
  refine WL.nil ?_
  refine thenQ.normal ?_
  refine WC.seq ?_
  refine WC.region ?_
  refine WL.rd rfl rfl rfl (Rd.func rfl (by repeat (first | exact Evs.nil | apply Evs.cons rfl)) (by repeat (first | exact Evs.nil | apply Evs.cons rfl)) ⟨_, rfl⟩) ?_
  refine WL.rd rfl rfl rfl (Rd.assign rfl rfl) ?_
  refine WL.nil ?_
  refine thenQ.normal ?_
  refine WC.ret (Ret.one Try.results24 rfl ?_)
  exact hk _
set_option maxRecDepth 20000 in
theorem iter_spec {R : List RO} {POST : Value → List RO → List Own → Prop} {lv : Value} {xs : List Pr} {l b : Nat} {c1 c2 : Own} (I : Nat → List Own) (hR : SlE encP lv xs ∈ R) (hl : xs.length ≤ 4294967296)
    (hY : ∀ j, j < xs.length → Yld Try.prog l [vi j, vp xs[j]!] R (c1 :: c2 :: rowC b 24 [lv] :: I (j + 1)) (fun b' R' O' => b' = true ∧ ∀ w, Sat R' O' w → Sat R (c1 :: c2 :: rowC b 24 [lv] :: I j) w))
    (hk : POST (.tuple #[]) R (c1 :: c2 :: rowC b 24 [lv] :: I 0)) :
    Fun Try.prog 34 #[.func (.yield l) #[] #[], .pointer (some ⟨b, 0, none⟩)] R (c1 :: c2 :: rowC b 24 [lv] :: I xs.length) POST := by
  refine Fun.enterR (l := [_, _]) Try.func34 rfl Try.ntmps34 rfl (L0 := [(0, _), (1, _)]) rfl ?_
  refine WR.seq ?_
  refine WR.region ?_
  refine WL.rd rfl rfl rfl (Rd.row1 (off := 0) (u := lv) rfl C24 rfl (by repeat (first | assumption | exact mS | apply mT)) rfl) ?_
  refine WL.rd rfl rfl rfl (Rd.lenE (enc := encP) (xs := xs) rfl rfl Try.underlying24 hR) ?_
  refine WL.rd rfl rfl rfl (Rd.sub rfl rfl rfl (by omega)) ?_
  refine WL.rd rfl rfl rfl (Rd.assign rfl rfl) ?_
  refine WL.nil ?_
  refine thenR.normal ?_
  refine WR.block ?_
  refine WR.pick [3, 0, 1] (by repeat (first | exact Pick.nil | apply Pick.cons rfl)) ?_
  refine WR.loop1 1 (fun (k : Nat) => [(3, vi ((k : Int) - 1))]) (fun (k : Nat) => c1 :: c2 :: rowC b 24 [lv] :: I k) (fun (k : Nat) => k ≤ xs.length) (fun (k : Nat) => k) (xs.length) (by repeat (first | exact Split.zero | apply Split.succ)) ?hinv1 (by repeat (first | exact Sub.nil | refine Sub.cons rfl (by first | rfl | (congr 1; omega) | assumption) ?_)) (fun _ h => h) ?_
  case hinv1 =>
    exact Nat.le_refl _
  intro k
  rintro hI1
  refine WR.seq ?_
  refine WR.seq ?_
  refine WR.region ?_
  refine WL.rd rfl rfl rfl (Rd.move rfl rfl) ?_
  refine WL.rd rfl rfl rfl (Rd.geq rfl rfl rfl) ?_
  refine WL.nil ?_
  refine thenR.normal ?_
  first | refine WR.ite rfl (fun hc1 => ?_) (fun hc1 => ?_) | refine WR.cond rfl (fun hc1 => ?_) (fun hc1 => ?_)
  · skip
    obtain ⟨k, rfl⟩ : ∃ k', k = k' + 1 := ⟨k - 1, by omega⟩
    refine WR.say 3 (u := vi k) rfl (by congr 1; omega) ?_
    refine WR.skip ?_
    refine thenR.normal ?_
    refine WR.seq ?_
    refine WR.block ?_
    refine WR.seq ?_
    refine WR.regionY ?_
    refine WY.rd rfl rfl rfl (Rd.move rfl rfl) ?_
    refine WY.rd rfl rfl rfl (Rd.move rfl rfl) ?_
    refine WY.rd rfl rfl rfl (Rd.row1 (off := 0) (u := lv) rfl C24 rfl (by repeat (first | assumption | exact mS | apply mT)) rfl) ?_
    refine WY.rd rfl rfl rfl (Rd.move rfl rfl) ?_
    refine WY.rd rfl rfl rfl (Rd.idx (enc := encP) (xs := xs) (k := k) rfl S24 rfl rfl rfl hR (by omega)) ?_
    refine WY.rd rfl rfl rfl (Rd.getS (enc := encP) (size := 2) (xs := xs) (k := k) (a := xs[k]!) (cs := [vs xs[k]!.1, vs xs[k]!.2]) rfl G42 rfl hR (fun x => rfl) (get!_of_lt (by omega)) (NF.refl _)) ?_
    refine WY.yield rfl rfl rfl (by repeat (first | exact Evs.nil | apply Evs.cons rfl)) rfl rfl ?_
    refine (hY k (by omega)).mono ?_; rintro b' R' O' ⟨rfl, hS⟩; refine WY.heap hS ?_
    refine WY.rd rfl rfl rfl ((by first | exact Rd.notd rfl rfl | exact Rd.not rfl rfl)) ?_
    refine WY.nil ?_
    refine thenR.normal ?_
    first | refine WR.ite rfl (fun hc2 => ?_) (fun hc2 => ?_) | refine WR.cond rfl (fun hc2 => ?_) (fun hc2 => ?_)
    · skip
      cases hc2
    · skip
      refine WR.skip ?_
      refine blockQ.normal ?_
      refine thenR.normal ?_
      refine WR.region ?_
      refine WL.rd rfl rfl rfl (Rd.move rfl rfl) ?_
      refine WL.rd rfl rfl rfl (Rd.sub rfl rfl rfl (by omega)) ?_
      refine WL.rd rfl rfl rfl (Rd.assign rfl rfl) ?_
      refine WL.nil ?_
      exact loopQ1.mk k (by omega) (by omega) (by repeat (first | exact Sub.nil | refine Sub.cons rfl (by first | rfl | (congr 1; omega) | assumption) ?_)) (fun w h => OwnL.sat (by repeat (first | exact OwnL.refl | apply OwnL.take (by repeat (first | exact Take.head _ | apply Take.tail)) | apply OwnL.drop)) w (h.thin (SubL.mem (by repeat (first | exact SubL.refl | refine SubL.cons (by repeat (first | assumption | exact mS | apply mT)) ?_ | refine SubL.skip ?_)))))
  · skip
    refine WR.exit ?_
    refine thenR.exit ?_
    refine loopQ1.exit ?_
    refine blockQ.exit ?_
    refine Ret.normal (Ret.zero Try.results34 ?_)
    obtain rfl : k = 0 := by omega
    exact hk
/-- The ranks, as the loop has put them down from the end on. -/
def mapFrom : List Pr → Nat → GoMap Pr Int
  | [], _ => GoMap.empty
  | x :: r, i => (mapFrom r (i + 1)).set x i
theorem mapFrom_get : ∀ (l : List Pr) (i : Nat) (p : Pr), (mapFrom l i).get p = (rk l p).map fun r => ((r + i : Nat) : Int)
  | [], _, _ => rfl
  | x :: r, i, p => by
    rw [mapFrom, GoMap.get_set, rk, mapFrom_get r (i + 1) p]
    by_cases e : p = x
    · rw [if_pos e, if_pos e.symm]; simp
    · rw [if_neg e, if_neg (fun h => e h.symm)]
      cases rk r p with
      | none => rfl
      | some q => simp; omega
theorem mapFrom_rk (l : List Pr) : RkM l (mapFrom l 0) := fun p => by rw [mapFrom_get]; cases rk l p <;> rfl
end Go.Proofs.Ytnpkpcjiebiplaa
