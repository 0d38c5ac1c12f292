/-
  Layer 8: the library's heap over spots.
-/
import Derived.Test.YtnpkpcjiebiplaaMg1
namespace Go.SL
open Go Go.RowKit
/-- (j - 1) / 2 of int, of none below 0 too. -/
theorem Rd.half {P : Program} {L : Env} {R : List RO} {O : List Own} {o : Oper} {x y : Operand} {t t' : TypeId} {p : Int} {j : Nat} (ho : o.op = .binOp .quo t x y t') (hx : ev L x = some (.int .i64 p)) (hy : ev L y = some (.int .i64 2)) (hp : p = (j : Int) - 1) (hj : j ≤ 9223372036854775807) : Rd P o L R O (.int .i64 (((j - 1) / 2 : Nat) : Int)) := by
  cases j with
  | zero =>
    subst hp
    exact run_bin ho hx hy fun w => by simp [binOp, Op.intDiv]; rfl
  | succ j => exact Rd.quoI (a := j) (b := 2) ho hx hy (by rw [hp]; omega) rfl (by omega) (by omega)
end Go.SL
namespace Go.Proofs.Ytnpkpcjiebiplaa
open Go Go.SL
section
variable {R : List RO} {O O' : List Own} {POST : Value → List RO → List Own → Prop} {xs : List Sp} {sv : Value} {br bm : Nat} {pv nv qv : Value}
set_option maxRecDepth 20000 in
theorem up_spec {j : Nat} (hlen : xs.length ≤ 1000000) (hU : Up spLt xs j) (hk : ∀ ys, ys.Perm xs → Hp spLt ys → POST (.tuple #[]) R (rowW br pv nv qv bm sv :: accS sv ys :: O)) :
    Fun Try.prog 41 #[ifv br, vi j] R (rowW br pv nv qv bm sv :: accS sv xs :: O) POST := by
  have hjl := hU.1
  refine Fun.enter (l := [_, _]) Try.func41 rfl Try.ntmps41 rfl (L0 := [(0, _), (1, _)]) rfl ?_
  refine WC.block ?_
  refine WC.pick [1, 0] (by repeat (first | exact Pick.nil | apply Pick.cons rfl)) ?_
  refine WC.loop2 1 (fun (i : Nat) (ys : List Sp) => [(1, vi i)]) (fun (i : Nat) (ys : List Sp) => rowW br pv nv qv bm sv :: accS sv ys :: O) (fun (i : Nat) (ys : List Sp) => Up spLt ys i ∧ ys.Perm xs ∧ i < ys.length ∧ ys.length = xs.length) (fun (i : Nat) (ys : List Sp) => i) (j) (xs) (by repeat (first | exact Split.zero | apply Split.succ)) ?hinv1 (by repeat (first | exact Sub.nil | refine Sub.cons rfl (by first | rfl | (congr 1; omega) | assumption) ?_)) (fun _ h => h) ?_
  case hinv1 =>
    exact ⟨hU, List.Perm.refl _, hjl, rfl⟩
  intro i ys
  rintro ⟨i1, i2, i3, i4⟩
  refine WC.block ?_
  refine WC.seq ?_
  refine WC.region ?_
  refine WL.rd rfl rfl rfl (Rd.move rfl rfl) ?_
  refine WL.rd rfl rfl rfl (Rd.sub rfl rfl rfl (by omega)) ?_
  refine WL.rd rfl rfl rfl (Rd.half (j := i) rfl rfl rfl (by omega) (by omega)) ?_
  refine WL.rd rfl rfl rfl (Rd.assign rfl rfl) ?_
  refine WL.nil ?_
  refine thenQ.normal ?_
  refine WC.seq ?_
  refine WC.pick [0, 1, 4] (by repeat (first | exact Pick.nil | apply Pick.cons rfl)) ?_
  refine WC.val 17 (.bool (decide (¬ (0 < i ∧ spLt ys[i]! ys[(i - 1) / 2]!)))) ?_ ?_
  · skip
    refine WC.region ?_
    refine WL.rd rfl rfl rfl (Rd.move rfl rfl) ?_
    refine WL.rd rfl rfl rfl (Rd.move rfl rfl) ?_
    refine WL.rd rfl rfl rfl (Rd.eql rfl rfl rfl) ?_
    refine WL.rd rfl rfl rfl (Rd.move rfl rfl) ?_
    refine WL.case 11 rfl (fun hg11 => ?_) (fun hg11 => ?_)
    · skip
      refine WL.no rfl rfl rfl rfl rfl rfl ?_
      refine WL.no rfl rfl rfl rfl rfl rfl ?_
      refine WL.no rfl rfl rfl rfl rfl rfl ?_
      refine WL.no rfl rfl rfl rfl rfl rfl ?_
      refine WL.no rfl rfl rfl rfl rfl rfl ?_
      refine WL.rd rfl rfl rfl (Rd.pick_t rfl rfl rfl) ?_
      refine WL.nil ?_
      exact ⟨by repeat (first | exact Sub.nil | refine Sub.cons rfl (by first | rfl | (first | exact vb_t (fun h => by omega) | exact vb ⟨fun h g => h g.2, fun h g => h ⟨by omega, g⟩⟩)) ?_), by first | exact (fun _ h => h.thin (SubL.mem (by repeat (first | exact SubL.refl | refine SubL.cons (by repeat (first | assumption | exact mS | apply mT)) ?_ | refine SubL.skip ?_)))) | exact (fun w h => OwnL.sat (by repeat (first | exact OwnL.refl | apply OwnL.take (by repeat (first | exact Take.head _ | apply Take.tail)) | apply OwnL.drop)) w (h.thin (SubL.mem (by repeat (first | exact SubL.refl | refine SubL.cons (by repeat (first | assumption | exact mS | apply mT)) ?_ | refine SubL.skip ?_)))))⟩
    · skip
      refine WL.rd_yes rfl rfl rfl rfl rfl rfl (Rd.move rfl rfl) ?_
      refine WL.rd_yes rfl rfl rfl rfl rfl rfl (Rd.move rfl rfl) ?_
      refine WL.rd_yes rfl rfl rfl rfl rfl rfl (Rd.move rfl rfl) ?_
      refine WL.op_yes rfl rfl rfl rfl ?_
      refine OpW.invoke rfl rfl (by repeat (first | exact Evs.nil | apply Evs.cons rfl)) (mLess (by repeat (first | assumption | exact mS | apply mT))) (by kernel_rfl) rfl rfl ?_; refine less_spec (xs := ys) (i := i) (j := (i - 1) / 2) (by repeat (first | assumption | exact mS | apply mT)) (by omega) (by omega) ?_
      refine WL.rd_yes rfl rfl rfl rfl rfl rfl ((by first | exact Rd.notd rfl rfl | exact Rd.not rfl rfl)) ?_
      refine WL.rd rfl rfl rfl (Rd.pick_f rfl rfl rfl) ?_
      refine WL.nil ?_
      exact ⟨by repeat (first | exact Sub.nil | refine Sub.cons rfl (by first | rfl | (first | exact vb_t (fun h => by omega) | exact vb ⟨fun h g => h g.2, fun h g => h ⟨by omega, g⟩⟩)) ?_), by first | exact (fun _ h => h.thin (SubL.mem (by repeat (first | exact SubL.refl | refine SubL.cons (by repeat (first | assumption | exact mS | apply mT)) ?_ | refine SubL.skip ?_)))) | exact (fun w h => OwnL.sat (by repeat (first | exact OwnL.refl | apply OwnL.take (by repeat (first | exact Take.head _ | apply Take.tail)) | apply OwnL.drop)) w (h.thin (SubL.mem (by repeat (first | exact SubL.refl | refine SubL.cons (by repeat (first | assumption | exact mS | apply mT)) ?_ | refine SubL.skip ?_)))))⟩
  · skip
    first | refine WC.ite rfl (fun hc1 => ?_) (fun hc1 => ?_) | refine WC.cond rfl (fun hc1 => ?_) (fun hc1 => ?_)
    · skip
      refine WC.exit ?_
      refine thenQ.exit ?_
      refine blockQ.pass rfl ?_
      refine loopQ2.exit ?_
      refine blockQ.exit ?_
      refine Ret.normal (Ret.zero Try.results41 ?_)
      exact hk ys i2 (i1.done (by rcases Nat.eq_zero_or_pos i with h | h; exact .inl h; exact .inr (fun g => hc1 ⟨h, g⟩)))
    · skip
      obtain ⟨h0, hlt⟩ := Decidable.not_not.1 hc1
      refine WC.skip ?_
      refine thenQ.normal ?_
      refine WC.seq ?_
      refine WC.region ?_
      refine WL.rd rfl rfl rfl (Rd.move rfl rfl) ?_
      refine WL.rd rfl rfl rfl (Rd.move rfl rfl) ?_
      refine WL.rd rfl rfl rfl (Rd.move rfl rfl) ?_
      refine WL.op rfl ?_
      refine OpW.invoke rfl rfl (by repeat (first | exact Evs.nil | apply Evs.cons rfl)) (mSwap (by repeat (first | assumption | exact mS | apply mT))) (by kernel_rfl) rfl rfl ?_; refine swap_spec (xs := ys) (i := (i - 1) / 2) (j := i) (by repeat (first | assumption | exact Take.head _ | apply Take.tail)) (by omega) (by omega) ?_
      refine WL.nil ?_
      refine thenQ.normal ?_
      refine WC.region ?_
      refine WL.rd rfl rfl rfl (Rd.move rfl rfl) ?_
      refine WL.rd rfl rfl rfl (Rd.assign rfl rfl) ?_
      refine WL.nil ?_
      refine blockQ.normal ?_
      exact loopQ2.mk ((i - 1) / 2) (swapL ys ((i - 1) / 2) i) ⟨i1.step spOrd h0 hlt, (swapL_perm (by omega) (by omega)).trans i2, by rw [swapL_len]; omega, by rw [swapL_len]; exact i4⟩ (by omega) (by repeat (first | exact Sub.nil | refine Sub.cons rfl (by first | rfl | (congr 1; omega) | assumption) ?_)) (fun w h => OwnL.sat (by repeat (first | exact OwnL.refl | apply OwnL.take (by repeat (first | exact Take.head _ | apply Take.tail)) | apply OwnL.drop)) w (h.thin (SubL.mem (by repeat (first | exact SubL.refl | refine SubL.cons (by repeat (first | assumption | exact mS | apply mT)) ?_ | refine SubL.skip ?_)))))
set_option maxRecDepth 20000 in
theorem down_spec {n : Nat} (hlen : xs.length ≤ 1000000) (hD : Dn spLt xs 0 n) (hk : ∀ b ys, ys.Perm xs → ys.drop n = xs.drop n → Hp spLt (ys.take n) → POST (.bool b) R (rowW br pv nv qv bm sv :: accS sv ys :: O)) :
    Fun Try.prog 42 #[ifv br, vi 0, vi n] R (rowW br pv nv qv bm sv :: accS sv xs :: O) POST := by
  have hn := hD.1
  refine Fun.enter (l := [_, _, _]) Try.func42 rfl Try.ntmps42 rfl (L0 := [(0, _), (1, _), (2, _)]) rfl ?_
  refine WC.seq ?_
  refine WC.region ?_
  refine WL.rd rfl rfl rfl (Rd.assign rfl rfl) ?_
  refine WL.nil ?_
  refine thenQ.normal ?_
  refine WC.seq ?_
  refine WC.region ?_
  refine WL.rd rfl rfl rfl (Rd.move rfl rfl) ?_
  refine WL.rd rfl rfl rfl (Rd.assign rfl rfl) ?_
  refine WL.nil ?_
  refine thenQ.normal ?_
  refine WC.seq ?_
  refine WC.block ?_
  refine WC.pick [7, 0, 1, 2] (by repeat (first | exact Pick.nil | apply Pick.cons rfl)) ?_
  refine WC.loop2 1 (fun (i : Nat) (ys : List Sp) => [(7, vi i)]) (fun (i : Nat) (ys : List Sp) => rowW br pv nv qv bm sv :: accS sv ys :: O) (fun (i : Nat) (ys : List Sp) => Dn spLt ys i n ∧ ys.Perm xs ∧ ys.drop n = xs.drop n ∧ ys.length = xs.length ∧ i ≤ n) (fun (i : Nat) (ys : List Sp) => n - i) (0) (xs) (by repeat (first | exact Split.zero | apply Split.succ)) ?hinv1 (by repeat (first | exact Sub.nil | refine Sub.cons rfl (by first | rfl | (congr 1; omega) | assumption) ?_)) (fun _ h => h) ?_
  case hinv1 =>
    exact ⟨hD, List.Perm.refl _, rfl, rfl, Nat.zero_le _⟩
  intro i ys
  rintro ⟨i1, i2, i3, i4, i5⟩
  refine WC.block ?_
  refine WC.seq ?_
  refine WC.region ?_
  refine WL.rd rfl rfl rfl (Rd.move rfl rfl) ?_
  refine WL.rd rfl rfl rfl (Rd.mul rfl rfl rfl (by omega)) ?_
  refine WL.rd rfl rfl rfl (Rd.add rfl rfl rfl (by omega)) ?_
  refine WL.rd rfl rfl rfl (Rd.assign rfl rfl) ?_
  refine WL.nil ?_
  refine thenQ.normal ?_
  refine WC.seq ?_
  refine WC.seq ?_
  refine WC.region ?_
  refine WL.rd rfl rfl rfl (Rd.move rfl rfl) ?_
  refine WL.rd rfl rfl rfl (Rd.move rfl rfl) ?_
  refine WL.rd rfl rfl rfl (Rd.geq rfl rfl rfl) ?_
  refine WL.rd rfl rfl rfl (Rd.move rfl rfl) ?_
  refine WL.case 18 rfl (fun hg18 => ?_) (fun hg18 => ?_)
  · skip
    have hdone : Hp spLt (ys.take n) := i1.done (fun c c0 cn ce => by omega)
    refine WL.no rfl rfl rfl rfl rfl rfl ?_
    refine WL.no rfl rfl rfl rfl rfl rfl ?_
    refine WL.rd rfl rfl rfl (Rd.pick_t rfl rfl rfl) ?_
    refine WL.nil ?_
    refine thenQ.normal ?_
    refine WC.yes rfl ?_
    refine WC.exit ?_
    refine thenQ.exit ?_
    refine blockQ.pass rfl ?_
    refine loopQ2.exit ?_
    refine blockQ.exit ?_
    refine thenQ.normal ?_
    refine WC.seq ?_
    refine WC.region ?_
    refine WL.rd rfl rfl rfl (Rd.move rfl rfl) ?_
    refine WL.rd rfl rfl rfl (Rd.move rfl rfl) ?_
    refine WL.rd rfl rfl rfl (Rd.gtr rfl rfl rfl) ?_
    refine WL.rd rfl rfl rfl (Rd.assign rfl rfl) ?_
    refine WL.nil ?_
    refine thenQ.normal ?_
    refine WC.ret (Ret.one Try.results42 rfl ?_)
    exact hk _ ys i2 i3 hdone
  · skip
    refine WL.rd_yes rfl rfl rfl rfl rfl rfl (Rd.move rfl rfl) ?_
    refine WL.rd_yes rfl rfl rfl rfl rfl rfl (Rd.lss rfl rfl rfl) ?_
    refine WL.rd rfl rfl rfl (Rd.pick_f rfl rfl rfl) ?_
    refine WL.nil ?_
    refine thenQ.normal ?_
    first | refine WC.ite rfl (fun hc1 => ?_) (fun hc1 => ?_) | refine WC.cond rfl (fun hc1 => ?_) (fun hc1 => ?_)
    · skip
      exfalso; omega
    · skip
      refine WC.skip ?_
      refine thenQ.normal ?_
      refine WC.seq ?_
      refine WC.region ?_
      refine WL.rd rfl rfl rfl (Rd.move rfl rfl) ?_
      refine WL.rd rfl rfl rfl (Rd.assign rfl rfl) ?_
      refine WL.nil ?_
      refine thenQ.normal ?_
      refine WC.seq ?_
      refine WC.seq ?_
      refine WC.region ?_
      refine WL.rd rfl rfl rfl (Rd.move rfl rfl) ?_
      refine WL.rd rfl rfl rfl (Rd.add rfl rfl rfl (by omega)) ?_
      refine WL.rd rfl rfl rfl (Rd.assign rfl rfl) ?_
      refine WL.nil ?_
      refine thenQ.normal ?_
      refine WC.pick [0, 1, 2, 7, 8, 9, 10] (by repeat (first | exact Pick.nil | apply Pick.cons rfl)) ?_
      refine WC.val 33 (.bool (decide (2 * i + 1 + 1 < n ∧ spLt ys[2 * i + 1 + 1]! ys[2 * i + 1]!))) ?_ ?_
      · skip
        refine WC.region ?_
        refine WL.rd rfl rfl rfl (Rd.move rfl rfl) ?_
        refine WL.rd rfl rfl rfl (Rd.move rfl rfl) ?_
        refine WL.rd rfl rfl rfl (Rd.lss rfl rfl rfl) ?_
        refine WL.rd rfl rfl rfl (Rd.move rfl rfl) ?_
        refine WL.case 28 rfl (fun hg28 => ?_) (fun hg28 => ?_)
        · skip
          refine WL.rd_yes rfl rfl rfl rfl rfl rfl (Rd.move rfl rfl) ?_
          refine WL.rd_yes rfl rfl rfl rfl rfl rfl (Rd.move rfl rfl) ?_
          refine WL.rd_yes rfl rfl rfl rfl rfl rfl (Rd.move rfl rfl) ?_
          refine WL.op_yes rfl rfl rfl rfl ?_
          refine OpW.invoke rfl rfl (by repeat (first | exact Evs.nil | apply Evs.cons rfl)) (mLess (by repeat (first | assumption | exact mS | apply mT))) (by kernel_rfl) rfl rfl ?_; refine less_spec (xs := ys) (i := 2 * i + 1 + 1) (j := 2 * i + 1) (by repeat (first | assumption | exact mS | apply mT)) (by omega) (by omega) ?_
          refine WL.rd rfl rfl rfl (Rd.pick_t rfl rfl rfl) ?_
          refine WL.nil ?_
          exact ⟨by repeat (first | exact Sub.nil | refine Sub.cons rfl (by first | rfl | (first | exact vb_f (fun h => hg28 (by have := h.1; omega)) | exact vb ⟨fun h => ⟨by omega, h⟩, fun h => h.2⟩)) ?_), by first | exact (fun _ h => h.thin (SubL.mem (by repeat (first | exact SubL.refl | refine SubL.cons (by repeat (first | assumption | exact mS | apply mT)) ?_ | refine SubL.skip ?_)))) | exact (fun w h => OwnL.sat (by repeat (first | exact OwnL.refl | apply OwnL.take (by repeat (first | exact Take.head _ | apply Take.tail)) | apply OwnL.drop)) w (h.thin (SubL.mem (by repeat (first | exact SubL.refl | refine SubL.cons (by repeat (first | assumption | exact mS | apply mT)) ?_ | refine SubL.skip ?_)))))⟩
        · skip
          refine WL.no rfl rfl rfl rfl rfl rfl ?_
          refine WL.no rfl rfl rfl rfl rfl rfl ?_
          refine WL.no rfl rfl rfl rfl rfl rfl ?_
          refine WL.no rfl rfl rfl rfl rfl rfl ?_
          refine WL.rd rfl rfl rfl (Rd.pick_f rfl rfl rfl) ?_
          refine WL.nil ?_
          exact ⟨by repeat (first | exact Sub.nil | refine Sub.cons rfl (by first | rfl | (first | exact vb_f (fun h => hg28 (by have := h.1; omega)) | exact vb ⟨fun h => ⟨by omega, h⟩, fun h => h.2⟩)) ?_), by first | exact (fun _ h => h.thin (SubL.mem (by repeat (first | exact SubL.refl | refine SubL.cons (by repeat (first | assumption | exact mS | apply mT)) ?_ | refine SubL.skip ?_)))) | exact (fun w h => OwnL.sat (by repeat (first | exact OwnL.refl | apply OwnL.take (by repeat (first | exact Take.head _ | apply Take.tail)) | apply OwnL.drop)) w (h.thin (SubL.mem (by repeat (first | exact SubL.refl | refine SubL.cons (by repeat (first | assumption | exact mS | apply mT)) ?_ | refine SubL.skip ?_)))))⟩
      · skip
        first | refine WC.ite rfl (fun hc2 => ?_) (fun hc2 => ?_) | refine WC.cond rfl (fun hc2 => ?_) (fun hc2 => ?_)
        · skip
          have hmin : ∀ c, 0 < c → c < n → (c - 1) / 2 = i → ¬ spLt ys[c]! ys[2 * i + 1 + 1]! := fun c c0 cn ce => by
            rcases (show c = 2 * i + 1 ∨ c = 2 * i + 1 + 1 by omega) with rfl | rfl
            · exact spOrd.asymm _ _ hc2.2
            · exact spOrd.irrefl _
          have hJn := hc2.1
          refine WC.region ?_
          refine WL.rd rfl rfl rfl (Rd.move rfl rfl) ?_
          refine WL.rd rfl rfl rfl (Rd.assign rfl rfl) ?_
          refine WL.nil ?_
          refine thenQ.normal ?_
          refine WC.seq ?_
          refine WC.seq ?_
          refine WC.region ?_
          refine WL.rd rfl rfl rfl (Rd.move rfl rfl) ?_
          refine WL.rd rfl rfl rfl (Rd.move rfl rfl) ?_
          refine WL.rd rfl rfl rfl (Rd.move rfl rfl) ?_
          refine WL.op rfl ?_
          refine OpW.invoke rfl rfl (by repeat (first | exact Evs.nil | apply Evs.cons rfl)) (mLess (by repeat (first | assumption | exact mS | apply mT))) (by kernel_rfl) rfl rfl ?_; refine less_spec (xs := ys) (i := 2 * i + 1 + 1) (j := i) (by repeat (first | assumption | exact mS | apply mT)) (by omega) (by omega) ?_
          refine WL.rd rfl rfl rfl ((by first | exact Rd.notd rfl rfl | exact Rd.not rfl rfl)) ?_
          refine WL.nil ?_
          refine thenQ.normal ?_
          first | refine WC.ite rfl (fun hc3 => ?_) (fun hc3 => ?_) | refine WC.cond rfl (fun hc3 => ?_) (fun hc3 => ?_)
          · skip
            have hdone : Hp spLt (ys.take n) := i1.done (fun c c0 cn ce => spOrd.le_trans _ _ _ hc3 (hmin c c0 cn ce))
            refine WC.exit ?_
            refine thenQ.exit ?_
            refine blockQ.pass rfl ?_
            refine loopQ2.exit ?_
            refine blockQ.exit ?_
            refine thenQ.normal ?_
            refine WC.seq ?_
            refine WC.region ?_
            refine WL.rd rfl rfl rfl (Rd.move rfl rfl) ?_
            refine WL.rd rfl rfl rfl (Rd.move rfl rfl) ?_
            refine WL.rd rfl rfl rfl (Rd.gtr rfl rfl rfl) ?_
            refine WL.rd rfl rfl rfl (Rd.assign rfl rfl) ?_
            refine WL.nil ?_
            refine thenQ.normal ?_
            refine WC.ret (Ret.one Try.results42 rfl ?_)
            exact hk _ ys i2 i3 hdone
          · skip
            have hlt := Decidable.not_not.1 hc3
            refine WC.skip ?_
            refine thenQ.normal ?_
            refine WC.seq ?_
            refine WC.region ?_
            refine WL.rd rfl rfl rfl (Rd.move rfl rfl) ?_
            refine WL.rd rfl rfl rfl (Rd.move rfl rfl) ?_
            refine WL.rd rfl rfl rfl (Rd.move rfl rfl) ?_
            refine WL.op rfl ?_
            refine OpW.invoke rfl rfl (by repeat (first | exact Evs.nil | apply Evs.cons rfl)) (mSwap (by repeat (first | assumption | exact mS | apply mT))) (by kernel_rfl) rfl rfl ?_; refine swap_spec (xs := ys) (i := i) (j := 2 * i + 1 + 1) (by repeat (first | assumption | exact Take.head _ | apply Take.tail)) (by omega) (by omega) ?_
            refine WL.nil ?_
            refine thenQ.normal ?_
            refine WC.region ?_
            refine WL.rd rfl rfl rfl (Rd.move rfl rfl) ?_
            refine WL.rd rfl rfl rfl (Rd.assign rfl rfl) ?_
            refine WL.nil ?_
            refine blockQ.normal ?_
            exact loopQ2.mk (2 * i + 1 + 1) (swapL ys i (2 * i + 1 + 1)) ⟨i1.step spOrd (by omega) (by omega) (by omega) hmin hlt, (swapL_perm (by omega) (by omega)).trans i2, (swapL_take (by omega) (by omega) (by omega)).trans i3, by rw [swapL_len]; exact i4, by omega⟩ (by omega) (by repeat (first | exact Sub.nil | refine Sub.cons rfl (by first | rfl | (congr 1; omega) | assumption) ?_)) (fun w h => OwnL.sat (by repeat (first | exact OwnL.refl | apply OwnL.take (by repeat (first | exact Take.head _ | apply Take.tail)) | apply OwnL.drop)) w (h.thin (SubL.mem (by repeat (first | exact SubL.refl | refine SubL.cons (by repeat (first | assumption | exact mS | apply mT)) ?_ | refine SubL.skip ?_)))))
        · skip
          have hmin : ∀ c, 0 < c → c < n → (c - 1) / 2 = i → ¬ spLt ys[c]! ys[2 * i + 1]! := fun c c0 cn ce => by
            rcases (show c = 2 * i + 1 ∨ c = 2 * i + 1 + 1 by omega) with rfl | rfl
            · exact spOrd.irrefl _
            · exact fun g => hc2 ⟨cn, g⟩
          have hJn : 2 * i + 1 < n := by omega
          refine WC.skip ?_
          refine thenQ.normal ?_
          refine WC.seq ?_
          refine WC.seq ?_
          refine WC.region ?_
          refine WL.rd rfl rfl rfl (Rd.move rfl rfl) ?_
          refine WL.rd rfl rfl rfl (Rd.move rfl rfl) ?_
          refine WL.rd rfl rfl rfl (Rd.move rfl rfl) ?_
          refine WL.op rfl ?_
          refine OpW.invoke rfl rfl (by repeat (first | exact Evs.nil | apply Evs.cons rfl)) (mLess (by repeat (first | assumption | exact mS | apply mT))) (by kernel_rfl) rfl rfl ?_; refine less_spec (xs := ys) (i := 2 * i + 1) (j := i) (by repeat (first | assumption | exact mS | apply mT)) (by omega) (by omega) ?_
          refine WL.rd rfl rfl rfl ((by first | exact Rd.notd rfl rfl | exact Rd.not rfl rfl)) ?_
          refine WL.nil ?_
          refine thenQ.normal ?_
          first | refine WC.ite rfl (fun hc3 => ?_) (fun hc3 => ?_) | refine WC.cond rfl (fun hc3 => ?_) (fun hc3 => ?_)
          · skip
            have hdone : Hp spLt (ys.take n) := i1.done (fun c c0 cn ce => spOrd.le_trans _ _ _ hc3 (hmin c c0 cn ce))
            refine WC.exit ?_
            refine thenQ.exit ?_
            refine blockQ.pass rfl ?_
            refine loopQ2.exit ?_
            refine blockQ.exit ?_
            refine thenQ.normal ?_
            refine WC.seq ?_
            refine WC.region ?_
            refine WL.rd rfl rfl rfl (Rd.move rfl rfl) ?_
            refine WL.rd rfl rfl rfl (Rd.move rfl rfl) ?_
            refine WL.rd rfl rfl rfl (Rd.gtr rfl rfl rfl) ?_
            refine WL.rd rfl rfl rfl (Rd.assign rfl rfl) ?_
            refine WL.nil ?_
            refine thenQ.normal ?_
            refine WC.ret (Ret.one Try.results42 rfl ?_)
            exact hk _ ys i2 i3 hdone
          · skip
            have hlt := Decidable.not_not.1 hc3
            refine WC.skip ?_
            refine thenQ.normal ?_
            refine WC.seq ?_
            refine WC.region ?_
            refine WL.rd rfl rfl rfl (Rd.move rfl rfl) ?_
            refine WL.rd rfl rfl rfl (Rd.move rfl rfl) ?_
            refine WL.rd rfl rfl rfl (Rd.move rfl rfl) ?_
            refine WL.op rfl ?_
            refine OpW.invoke rfl rfl (by repeat (first | exact Evs.nil | apply Evs.cons rfl)) (mSwap (by repeat (first | assumption | exact mS | apply mT))) (by kernel_rfl) rfl rfl ?_; refine swap_spec (xs := ys) (i := i) (j := 2 * i + 1) (by repeat (first | assumption | exact Take.head _ | apply Take.tail)) (by omega) (by omega) ?_
            refine WL.nil ?_
            refine thenQ.normal ?_
            refine WC.region ?_
            refine WL.rd rfl rfl rfl (Rd.move rfl rfl) ?_
            refine WL.rd rfl rfl rfl (Rd.assign rfl rfl) ?_
            refine WL.nil ?_
            refine blockQ.normal ?_
            exact loopQ2.mk (2 * i + 1) (swapL ys i (2 * i + 1)) ⟨i1.step spOrd (by omega) (by omega) (by omega) hmin hlt, (swapL_perm (by omega) (by omega)).trans i2, (swapL_take (by omega) (by omega) (by omega)).trans i3, by rw [swapL_len]; exact i4, by omega⟩ (by omega) (by repeat (first | exact Sub.nil | refine Sub.cons rfl (by first | rfl | (congr 1; omega) | assumption) ?_)) (fun w h => OwnL.sat (by repeat (first | exact OwnL.refl | apply OwnL.take (by repeat (first | exact Take.head _ | apply Take.tail)) | apply OwnL.drop)) w (h.thin (SubL.mem (by repeat (first | exact SubL.refl | refine SubL.cons (by repeat (first | assumption | exact mS | apply mT)) ?_ | refine SubL.skip ?_)))))
set_option maxRecDepth 20000 in
theorem hpush_spec {x : Sp} (hlen : xs.length ≤ 900000) (hH : Hp spLt xs) (hk : ∀ sv' ys, ys.Perm (xs ++ [x]) → Hp spLt ys → POST (.tuple #[]) R (rowW br pv nv qv bm sv' :: accS sv' ys :: O)) :
    Fun Try.prog 35 #[ifv br, spv x] R (rowW br pv nv qv bm sv :: accS sv xs :: O) POST := by
  refine Fun.enter (l := [_, _]) Try.func35 rfl Try.ntmps35 rfl (L0 := [(0, _), (1, _)]) rfl ?_
  refine WC.seq ?_
  refine WC.region ?_
  refine WL.rd rfl rfl rfl (Rd.move rfl rfl) ?_
  refine WL.rd rfl rfl rfl (Rd.move rfl rfl) ?_
  refine WL.op rfl ?_
  refine OpW.invoke rfl rfl (by repeat (first | exact Evs.nil | apply Evs.cons rfl)) mPush (by kernel_rfl) rfl rfl ?_; refine push_spec (xs := xs) (x := x) (by omega) ?_; intro sv'
  refine WL.nil ?_
  refine thenQ.normal ?_
  refine WC.region ?_
  refine WL.rd rfl rfl rfl (Rd.move rfl rfl) ?_
  refine WL.rd rfl rfl rfl (Rd.move rfl rfl) ?_
  refine WL.op rfl ?_
  refine OpW.invoke rfl rfl (by repeat (first | exact Evs.nil | apply Evs.cons rfl)) (mLen (by repeat (first | assumption | exact mS | apply mT))) (by kernel_rfl) rfl rfl ?_; refine len_spec (xs := xs ++ [x]) (by repeat (first | assumption | exact mS | apply mT)) ?_
  refine WL.rd rfl rfl rfl (Rd.sub rfl rfl rfl (by rw [List.length_append, List.length_singleton]; omega)) ?_
  refine WL.say 10 (u := vi xs.length) rfl (by rw [List.length_append, List.length_singleton]; congr 1; omega) ?_
  refine WL.op rfl ?_
  refine OpW.call rfl rfl (by repeat (first | exact Evs.nil | apply Evs.cons rfl)) (by kernel_rfl) rfl rfl rfl ?_
  refine up_spec (xs := xs ++ [x]) (j := xs.length) (by rw [List.length_append, List.length_singleton]; omega) (Up.push hH x) ?_; intro ys hp hh
  refine WL.nil ?_
  refine Ret.normal (Ret.zero Try.results35 ?_)
  exact hk _ ys hp hh
theorem last_of {zs l : List Sp} {n : Nat} (h : zs.drop n = l.drop n) (hn : n < l.length) (hz : zs.length = l.length) : zs[n]! = l[n]! := by
  have h1 := congrArg (fun q : List Sp => q[0]?) h
  simp only [List.getElem?_drop, Nat.add_zero] at h1
  rw [getElem!_pos zs n (by omega), getElem!_pos l n hn]
  rw [List.getElem?_eq_getElem (by omega), List.getElem?_eq_getElem hn] at h1
  exact Option.some.inj h1
set_option maxRecDepth 20000 in
theorem hpop_spec (hlen : xs.length ≤ 900000) (h0 : 0 < xs.length) (hH : Hp spLt xs) (hk : ∀ sv' ys, (xs[0]! :: ys).Perm xs → Hp spLt ys → POST (spv xs[0]!) R (rowW br pv nv qv bm sv' :: accS sv' ys :: O)) :
    Fun Try.prog 36 #[ifv br] R (rowW br pv nv qv bm sv :: accS sv xs :: O) POST := by
  obtain ⟨m, hm⟩ : ∃ m, xs.length = m + 1 := ⟨xs.length - 1, by omega⟩
  have hD := Dn.start (m := m) hH hm
  refine Fun.enter (l := [_]) Try.func36 rfl Try.ntmps36 rfl (L0 := [(0, _)]) rfl ?_
  refine WC.seq ?_
  refine WC.region ?_
  refine WL.rd rfl rfl rfl (Rd.assign rfl rfl) ?_
  refine WL.nil ?_
  refine thenQ.normal ?_
  refine WC.seq ?_
  refine WC.region ?_
  refine WL.rd rfl rfl rfl (Rd.move rfl rfl) ?_
  refine WL.op rfl ?_
  refine OpW.invoke rfl rfl (by repeat (first | exact Evs.nil | apply Evs.cons rfl)) (mLen (by repeat (first | assumption | exact mS | apply mT))) (by kernel_rfl) rfl rfl ?_; refine len_spec (xs := xs) (by repeat (first | assumption | exact mS | apply mT)) ?_
  refine WL.rd rfl rfl rfl (Rd.sub rfl rfl rfl (by omega)) ?_
  refine WL.say 6 (u := vi m) rfl (by rw [hm]; congr 1; omega) ?_
  refine WL.rd rfl rfl rfl (Rd.assign rfl rfl) ?_
  refine WL.nil ?_
  refine thenQ.normal ?_
  refine WC.seq ?_
  refine WC.region ?_
  refine WL.rd rfl rfl rfl (Rd.move rfl rfl) ?_
  refine WL.rd rfl rfl rfl (Rd.move rfl rfl) ?_
  refine WL.op rfl ?_
  refine OpW.invoke rfl rfl (by repeat (first | exact Evs.nil | apply Evs.cons rfl)) (mSwap (by repeat (first | assumption | exact mS | apply mT))) (by kernel_rfl) rfl rfl ?_; refine swap_spec (xs := xs) (i := 0) (j := m) (by repeat (first | assumption | exact Take.head _ | apply Take.tail)) (by omega) (by omega) ?_
  refine WL.heap (R' := R) (O' := rowW br pv nv qv bm sv :: accS sv (swapL xs 0 m) :: O) (fun w h => OwnL.sat (by repeat (first | exact OwnL.refl | apply OwnL.take (by repeat (first | exact Take.head _ | apply Take.tail)) | apply OwnL.drop)) w (h.thin (SubL.mem (by repeat (first | exact SubL.refl | refine SubL.cons (by repeat (first | assumption | exact mS | apply mT)) ?_ | refine SubL.skip ?_))))) ?_
  refine WL.nil ?_
  refine thenQ.normal ?_
  refine WC.seq ?_
  refine WC.region ?_
  refine WL.rd rfl rfl rfl (Rd.move rfl rfl) ?_
  refine WL.rd rfl rfl rfl (Rd.move rfl rfl) ?_
  refine WL.op rfl ?_
  refine OpW.call rfl rfl (by repeat (first | exact Evs.nil | apply Evs.cons rfl)) (by kernel_rfl) rfl rfl rfl ?_
  refine down_spec (xs := swapL xs 0 m) (n := m) (by rw [swapL_len]; omega) hD ?_; intro b zs hp hd hh
  have hzl : zs.length = m + 1 := by rw [hp.length_eq, swapL_len, hm]
  have hlast : zs[zs.length - 1]! = xs[0]! := by
    rw [hzl, show m + 1 - 1 = m from rfl, last_of hd (by rw [swapL_len]; omega) (by rw [swapL_len]; omega), swapL_get (by omega) (by omega), if_pos rfl]
  have hzz : (xs[0]! :: zs.take m).Perm xs := by
    have e : zs = zs.take m ++ [xs[0]!] := by
      rw [← hlast, hzl, show m + 1 - 1 = m from rfl, ← take_snoc' (by omega), List.take_of_length_le (by omega)]
    have h1 : (xs[0]! :: zs.take m).Perm zs := by
      conv => rhs; rw [e]
      exact (List.perm_append_singleton _ _).symm
    exact h1.trans (hp.trans (swapL_perm (by omega) (by omega)))
  refine WL.nil ?_
  refine thenQ.normal ?_
  refine WC.seq ?_
  refine WC.region ?_
  refine WL.rd rfl rfl rfl (Rd.move rfl rfl) ?_
  refine WL.op rfl ?_
  refine OpW.invoke rfl rfl (by repeat (first | exact Evs.nil | apply Evs.cons rfl)) mPop (by kernel_rfl) rfl rfl ?_; refine pop_spec (xs := zs) (by omega) (by omega) ?_; intro sv'
  refine WL.rd rfl rfl rfl (Rd.assign rfl rfl) ?_
  refine WL.nil ?_
  refine thenQ.normal ?_
  refine WC.ret (Ret.one Try.results36 rfl ?_)
  rw [hlast] at *
  rw [hzl] at *
  exact hk _ _ hzz hh
end
end Go.Proofs.Ytnpkpcjiebiplaa
