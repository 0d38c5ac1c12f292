/-
  Layer 18: GraphNil.
-/
import Derived.Test.YtfenbhaehkkkeaaGr15
namespace Go.Proofs.Ytfenbhaehkkkeaa
open Go Go.SL
section
variable {R : List RO} {O O' : List Own} {POST : Value → List RO → List Own → Prop}
theorem come0 {fs : List T} {k : T} : ¬ Come (gOf []) fs k := fun ⟨_, _, h, _⟩ => by cases h
theorem kahn0 {fs out : List T} (h : Kahn (gOf []) (Come (gOf []) fs) [] out) : out = [] := by
  cases out with
  | nil => rfl
  | cons a l => exact absurd (h.nodup.2 a List.mem_cons_self) come0
theorem nil_of {l : List T} (h : ∀ k, ¬ k ∈ l) : l = [] := List.eq_nil_iff_forall_not_mem.2 h
set_option maxRecDepth 20000 in
set_option maxHeartbeats 1000000 in
theorem nilLaw_spec {s : T} (hk : POST (.bool true) R O) : Fun Try.prog 7 #[vs s] R O POST := by
  have hc0 : Closed (gOf []) := fun x hx => by cases hx
  have hs0 : Small (gOf []) := gOf_small (by decide) (fun n hn => by cases hn)
  refine Fun.enter (l := [_]) Try.func7 rfl Try.ntmps7 rfl (L0 := [(0, _)]) rfl ?_
  refine WC.seq ?_
  refine WC.region ?_
  refine WL.rd rfl rfl rfl (Rd.assign rfl rfl) ?_
  refine WL.nil ?_
  refine thenQ.normal ?_
  refine WC.seq ?_
  refine WC.seq ?_
  refine WC.region ?_
  refine WL.op rfl ?_
  refine OpW.call rfl rfl (by repeat (first | exact Evs.nil | apply Evs.cons rfl)) (by kernel_rfl) rfl rfl rfl ?_
  refine speaks_spec ?_
  refine WL.say 6 (u := .bool (decide True)) rfl (by simp) ?_
  refine WL.rd rfl rfl rfl ((by first | exact Rd.notd rfl rfl | exact Rd.not rfl rfl)) ?_
  refine WL.nil ?_
  refine thenQ.normal ?_
  first | refine WC.ite rfl (fun hc1 => ?_) (fun hc1 => ?_) | refine WC.cond rfl (fun hc1 => ?_) (fun hc1 => ?_)
  · skip
    exact absurd trivial hc1
  · skip
    refine WC.skip ?_
    refine thenQ.normal ?_
    refine WC.seq ?_
    refine WC.region ?_
    refine WL.rd rfl rfl rfl (Rd.assign rfl rfl) ?_
    refine WL.nil ?_
    refine thenQ.normal ?_
    refine WC.seq ?_
    refine WC.heap (fun w h => h.nilE (α := Nv) (enc := encN)) ?_
    refine WC.heap (fun w h => h.derive (q := ndsP [] []) (fun _ _ i hi => absurd hi (Nat.not_lt_zero _))) ?_
    refine WC.region ?_
    refine WL.op rfl ?_
    refine OpW.call rfl rfl (by repeat (first | exact Evs.nil | apply Evs.cons rfl)) (by kernel_rfl) rfl rfl rfl ?_
    refine newOk_spec (L := []) ⟨[], (by repeat (first | assumption | exact mS | apply mT)), List.mem_cons_self, rfl, fun i h => absurd h (Nat.not_lt_zero _)⟩ List.nodup_nil (fun i h => absurd h (Nat.not_lt_zero _)) (by decide) (fun n hn => by cases hn) ?_; intro gv p1 p2 p3 hone hG
    refine WL.rd rfl rfl rfl (Rd.move rfl rfl) ?_
    refine WL.rd rfl rfl rfl (Rd.extract rfl rfl rfl) ?_
    refine WL.rd rfl rfl rfl (Rd.extract rfl rfl rfl) ?_
    refine WL.rd rfl rfl rfl (Rd.assign rfl rfl) ?_
    refine WL.rd rfl rfl rfl (Rd.assign rfl rfl) ?_
    refine WL.nil ?_
    refine thenQ.normal ?_
    refine WC.seq ?_
    refine WC.region ?_
    refine WL.rd rfl rfl rfl (Rd.move rfl rfl) ?_
    refine WL.rd rfl rfl rfl (Rd.move rfl rfl) ?_
    refine WL.op rfl ?_
    refine OpW.call rfl rfl (by repeat (first | exact Evs.nil | apply Evs.cons rfl)) (by kernel_rfl) rfl rfl rfl ?_
    refine has_spec (G := gOf []) (.nil rfl rfl) ?_
    refine WL.say 14 (u := .bool (decide False)) rfl (vb ⟨fun h => (by cases h), False.elim⟩) ?_
    refine WL.rd rfl rfl rfl ((by first | exact Rd.notd rfl rfl | exact Rd.not rfl rfl)) ?_
    refine WL.rd rfl rfl rfl (Rd.move rfl rfl) ?_
    refine WL.case 16 rfl (fun hg16 => ?_) (fun hg16 => ?_)
    · skip
      refine WL.rd_yes rfl rfl rfl rfl rfl rfl (Rd.move rfl rfl) ?_
      refine WL.rd_yes rfl rfl rfl rfl rfl rfl (Rd.move rfl rfl) ?_
      refine WL.op_yes rfl rfl rfl rfl ?_
      refine OpW.buildSl (ps := [(0, _)]) rfl S28 (by repeat (first | exact Evs.nil | apply Evs.cons rfl)) rfl rfl (by repeat (first | exact CellsOf.nil | apply CellsOf.cons rfl)) (by kernel_rfl) rfl rfl rfl ?_; intro b19
      refine WL.heap (fun w h => Sat.shareRow (enc := SL.one vs) (xs := [s]) (by repeat (first | assumption | exact Take.head _ | apply Take.tail)) rfl rfl (by show (1 : Nat) ≤ _; decide) h) ?_
      refine WL.op_yes rfl rfl rfl rfl ?_
      refine OpW.call rfl rfl (by repeat (first | exact Evs.nil | apply Evs.cons rfl)) (by kernel_rfl) rfl rfl rfl ?_
      refine reach_spec (G := gOf []) (fs := [s]) (.nil rfl rfl) hc0 hs0 List.mem_cons_self (by show (1 : Nat) ≤ _; decide) ?_; intro v20 k20 _ hk20
      obtain rfl := nil_of (fun k h => come0 ((hk20 k).1 h))
      refine WL.rd_yes rfl rfl rfl rfl rfl rfl (Rd.lenA (enc := SL.one vs) (xs := ([] : List T)) rfl rfl Try.underlying28 (by repeat (first | assumption | exact mS | apply mT))) ?_
      refine WL.rd_yes rfl rfl rfl rfl rfl rfl (Rd.eql rfl rfl rfl) ?_
      refine WL.rd rfl rfl rfl (Rd.pick_t rfl rfl rfl) ?_
      refine WL.rd rfl rfl rfl (Rd.move rfl rfl) ?_
      refine WL.case 24 rfl (fun hg24 => ?_) (fun hg24 => ?_)
      · skip
        refine WL.rd_yes rfl rfl rfl rfl rfl rfl (Rd.move rfl rfl) ?_
        refine WL.rd_yes rfl rfl rfl rfl rfl rfl (Rd.move rfl rfl) ?_
        refine WL.rd_yes rfl rfl rfl rfl rfl rfl (Rd.move rfl rfl) ?_
        refine WL.op_yes rfl rfl rfl rfl ?_
        refine OpW.call rfl rfl (by repeat (first | exact Evs.nil | apply Evs.cons rfl)) (by kernel_rfl) rfl rfl rfl ?_
        refine anc_spec (G := gOf []) (.nil rfl rfl) hc0 hs0 ?_
        refine WL.say 28 (u := .bool (decide False)) rfl (vb ⟨come0, False.elim⟩) ?_
        refine WL.rd_yes rfl rfl rfl rfl rfl rfl ((by first | exact Rd.notd rfl rfl | exact Rd.not rfl rfl)) ?_
        refine WL.rd rfl rfl rfl (Rd.pick_t rfl rfl rfl) ?_
        refine WL.rd rfl rfl rfl (Rd.move rfl rfl) ?_
        refine WL.case 31 rfl (fun hg31 => ?_) (fun hg31 => ?_)
        · skip
          refine WL.rd_yes rfl rfl rfl rfl rfl rfl (Rd.move rfl rfl) ?_
          refine WL.rd_yes rfl rfl rfl rfl rfl rfl (Rd.move rfl rfl) ?_
          refine WL.rd_yes rfl rfl rfl rfl rfl rfl (Rd.move rfl rfl) ?_
          refine WL.op_yes rfl rfl rfl rfl ?_
          refine OpW.call rfl rfl (by repeat (first | exact Evs.nil | apply Evs.cons rfl)) (by kernel_rfl) rfl rfl rfl ?_
          refine bases_spec (G := gOf []) (.nil rfl rfl) hc0 hs0 ?_; intro v35 k35 _ hk35
          obtain rfl := nil_of (fun k h => come0 ((hk35 k).1 h).1.1)
          refine WL.rd_yes rfl rfl rfl rfl rfl rfl (Rd.lenA (enc := SL.one vs) (xs := ([] : List T)) rfl rfl Try.underlying28 (by repeat (first | assumption | exact mS | apply mT))) ?_
          refine WL.rd_yes rfl rfl rfl rfl rfl rfl (Rd.eql rfl rfl rfl) ?_
          refine WL.rd rfl rfl rfl (Rd.pick_t rfl rfl rfl) ?_
          refine WL.rd rfl rfl rfl (Rd.move rfl rfl) ?_
          refine WL.case 39 rfl (fun hg39 => ?_) (fun hg39 => ?_)
          · skip
            refine WL.rd_yes rfl rfl rfl rfl rfl rfl (Rd.move rfl rfl) ?_
            refine WL.rd_yes rfl rfl rfl rfl rfl rfl (Rd.move rfl rfl) ?_
            refine WL.op_yes rfl rfl rfl rfl ?_
            refine OpW.buildSl (ps := [(0, _)]) rfl S28 (by repeat (first | exact Evs.nil | apply Evs.cons rfl)) rfl rfl (by repeat (first | exact CellsOf.nil | apply CellsOf.cons rfl)) (by kernel_rfl) rfl rfl rfl ?_; intro b42
            refine WL.heap (fun w h => Sat.shareRow (enc := SL.one vs) (xs := [s]) (by repeat (first | assumption | exact Take.head _ | apply Take.tail)) rfl rfl (by show (1 : Nat) ≤ _; decide) h) ?_
            refine WL.op_yes rfl rfl rfl rfl ?_
            refine OpW.call rfl rfl (by repeat (first | exact Evs.nil | apply Evs.cons rfl)) (by kernel_rfl) rfl rfl rfl ?_
            refine log_spec (G := gOf []) (fs := [s]) (.nil rfl rfl) hc0 hs0 List.mem_cons_self (by show (1 : Nat) ≤ _; decide) ?_; intro v43 k43 hk43
            obtain rfl := kahn0 hk43
            refine WL.rd_yes rfl rfl rfl rfl rfl rfl (Rd.lenA (enc := SL.one vs) (xs := ([] : List T)) rfl rfl Try.underlying28 (by repeat (first | assumption | exact mS | apply mT))) ?_
            refine WL.rd_yes rfl rfl rfl rfl rfl rfl (Rd.eql rfl rfl rfl) ?_
            refine WL.rd rfl rfl rfl (Rd.pick_t rfl rfl rfl) ?_
            refine WL.rd rfl rfl rfl (Rd.move rfl rfl) ?_
            refine WL.case 47 rfl (fun hg47 => ?_) (fun hg47 => ?_)
            · skip
              refine WL.rd_yes rfl rfl rfl rfl rfl rfl (Rd.move rfl rfl) ?_
              refine WL.rd_yes rfl rfl rfl rfl rfl rfl (Rd.eql rfl rfl rfl) ?_
              refine WL.rd rfl rfl rfl (Rd.pick_t rfl rfl rfl) ?_
              refine WL.rd rfl rfl rfl (Rd.move rfl rfl) ?_
              refine WL.case 51 rfl (fun hg51 => ?_) (fun hg51 => ?_)
              · skip
                refine WL.rd_yes rfl rfl rfl rfl rfl rfl (Rd.move rfl rfl) ?_
                refine WL.rd_yes rfl rfl rfl rfl rfl rfl (Rd.move rfl rfl) ?_
                refine WL.op_yes rfl rfl rfl rfl ?_
                refine OpW.call rfl rfl (by repeat (first | exact Evs.nil | apply Evs.cons rfl)) (by kernel_rfl) rfl rfl rfl ?_
                refine has_spec (G := gOf []) (hG.mono fun p hp => by repeat (first | exact hp | apply List.mem_cons_of_mem)) ?_
                refine WL.say 54 (u := .bool (decide False)) rfl (vb ⟨fun h => (by cases h), False.elim⟩) ?_
                refine WL.rd_yes rfl rfl rfl rfl rfl rfl ((by first | exact Rd.notd rfl rfl | exact Rd.not rfl rfl)) ?_
                refine WL.rd rfl rfl rfl (Rd.pick_t rfl rfl rfl) ?_
                refine WL.rd rfl rfl rfl (Rd.move rfl rfl) ?_
                refine WL.case 57 rfl (fun hg57 => ?_) (fun hg57 => ?_)
                · skip
                  refine WL.rd_yes rfl rfl rfl rfl rfl rfl (Rd.move rfl rfl) ?_
                  refine WL.rd_yes rfl rfl rfl rfl rfl rfl (Rd.move rfl rfl) ?_
                  refine WL.op_yes rfl rfl rfl rfl ?_
                  refine OpW.buildSl (ps := [(0, _)]) rfl S28 (by repeat (first | exact Evs.nil | apply Evs.cons rfl)) rfl rfl (by repeat (first | exact CellsOf.nil | apply CellsOf.cons rfl)) (by kernel_rfl) rfl rfl rfl ?_; intro b60
                  refine WL.heap (fun w h => Sat.shareRow (enc := SL.one vs) (xs := [s]) (by repeat (first | assumption | exact Take.head _ | apply Take.tail)) rfl rfl (by show (1 : Nat) ≤ _; decide) h) ?_
                  refine WL.op_yes rfl rfl rfl rfl ?_
                  refine OpW.call rfl rfl (by repeat (first | exact Evs.nil | apply Evs.cons rfl)) (by kernel_rfl) rfl rfl rfl ?_
                  refine reach_spec (G := gOf []) (fs := [s]) (hG.mono fun p hp => by repeat (first | exact hp | apply List.mem_cons_of_mem)) hc0 hs0 List.mem_cons_self (by show (1 : Nat) ≤ _; decide) ?_; intro v61 k61 _ hk61
                  obtain rfl := nil_of (fun k h => come0 ((hk61 k).1 h))
                  refine WL.rd_yes rfl rfl rfl rfl rfl rfl (Rd.lenA (enc := SL.one vs) (xs := ([] : List T)) rfl rfl Try.underlying28 (by repeat (first | assumption | exact mS | apply mT))) ?_
                  refine WL.rd_yes rfl rfl rfl rfl rfl rfl (Rd.eql rfl rfl rfl) ?_
                  refine WL.rd rfl rfl rfl (Rd.pick_t rfl rfl rfl) ?_
                  refine WL.rd rfl rfl rfl (Rd.move rfl rfl) ?_
                  refine WL.case 65 rfl (fun hg65 => ?_) (fun hg65 => ?_)
                  · skip
                    refine WL.rd_yes rfl rfl rfl rfl rfl rfl (Rd.move rfl rfl) ?_
                    refine WL.rd_yes rfl rfl rfl rfl rfl rfl (Rd.move rfl rfl) ?_
                    refine WL.rd_yes rfl rfl rfl rfl rfl rfl (Rd.move rfl rfl) ?_
                    refine WL.op_yes rfl rfl rfl rfl ?_
                    refine OpW.buildSl (ps := [(0, _), (1, _)]) rfl S28 (by repeat (first | exact Evs.nil | apply Evs.cons rfl)) rfl rfl (by repeat (first | exact CellsOf.nil | apply CellsOf.cons rfl)) (by kernel_rfl) rfl rfl rfl ?_; intro b69
                    refine WL.heap (fun w h => Sat.shareRow (enc := SL.one vs) (xs := [s, s]) (by repeat (first | assumption | exact Take.head _ | apply Take.tail)) rfl rfl (by show (2 : Nat) ≤ _; decide) h) ?_
                    refine WL.op_yes rfl rfl rfl rfl ?_
                    refine OpW.call rfl rfl (by repeat (first | exact Evs.nil | apply Evs.cons rfl)) (by kernel_rfl) rfl rfl rfl ?_
                    refine log_spec (G := gOf []) (fs := [s, s]) (hG.mono fun p hp => by repeat (first | exact hp | apply List.mem_cons_of_mem)) hc0 hs0 List.mem_cons_self (by show (2 : Nat) ≤ _; decide) ?_; intro v70 k70 hk70
                    obtain rfl := kahn0 hk70
                    refine WL.rd_yes rfl rfl rfl rfl rfl rfl (Rd.lenA (enc := SL.one vs) (xs := ([] : List T)) rfl rfl Try.underlying28 (by repeat (first | assumption | exact mS | apply mT))) ?_
                    refine WL.rd_yes rfl rfl rfl rfl rfl rfl (Rd.eql rfl rfl rfl) ?_
                    refine WL.rd rfl rfl rfl (Rd.pick_t rfl rfl rfl) ?_
                    refine WL.rd rfl rfl rfl (Rd.assign rfl rfl) ?_
                    refine WL.nil ?_
                    refine thenQ.normal ?_
                    refine WC.heap (R' := R) (O' := O) (fun w h => OwnL.sat (by repeat (first | exact OwnL.refl | apply OwnL.take (by repeat (first | exact Take.head _ | apply Take.tail)) | apply OwnL.drop)) w (h.thin (fun p hp => by repeat (first | exact hp | apply List.mem_cons_of_mem)))) ?_
                    refine WC.ret (Ret.one Try.results7 rfl ?_)
                    exact hk
                  · skip
                    exact absurd rfl hg65
                · skip
                  simp at hg57
              · skip
                exact absurd rfl hg51
            · skip
              exact absurd rfl hg47
          · skip
            exact absurd rfl hg39
        · skip
          simp at hg31
      · skip
        exact absurd rfl hg24
    · skip
      simp at hg16
end
end Go.Proofs.Ytfenbhaehkkkeaa
