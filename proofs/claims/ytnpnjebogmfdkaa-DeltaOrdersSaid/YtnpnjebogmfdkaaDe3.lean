/-
  Layer 13: the document's Apply; orders that give a text.
-/
import Derived.Test.YtnpnjebogmfdkaaDe2
namespace Go.Proofs.Ytnpnjebogmfdkaa
open Go Go.SL

section
variable {R : List RO} {O : List Own} {POST : Value → List RO → List Own → Prop}
set_option maxHeartbeats 2000000 in
theorem refApply_spec {base d : List UInt8} (hb : base.length ≤ 4611686018427387904) (hs : d.length ≤ 4611686018427387904) (hk : POST (.tuple #[vs (applyE base d).1, .int .i64 (applyE base d).2]) R O) : Fun Try.prog 10 #[vs base, vs d] R O POST := by
  obtain ⟨hto, hfr⟩ := head_to d
  refine Fun.enter (l := [_, _]) Try.func10 rfl Try.ntmps10 rfl (L0 := [(0, _), (1, _)]) rfl ?_
  refine WC.seq ?_
  refine WC.region ?_
  refine WL.rd rfl rfl rfl (Rd.assign rfl rfl) ?_
  refine WL.rd rfl rfl rfl (Rd.assign rfl rfl) ?_
  refine WL.nil ?_
  refine thenQ.normal ?_
  refine WC.seq ?_
  refine WC.region ?_
  refine WL.rd rfl rfl rfl (Rd.move rfl rfl) ?_
  refine WL.op rfl ?_
  refine OpW.call rfl rfl (by repeat (first | exact Evs.nil | apply Evs.cons rfl)) (by kernel_rfl) rfl rfl rfl ?_
  refine refSizes_spec (by omega) ?_; intro at0 hat0 hat1
  refine WL.rd rfl rfl rfl (Rd.move rfl rfl) ?_
  refine WL.rd rfl rfl rfl (Rd.extract rfl rfl rfl) ?_
  refine WL.rd rfl rfl rfl (Rd.extract rfl rfl rfl) ?_
  refine WL.rd rfl rfl rfl (Rd.extract rfl rfl rfl) ?_
  refine WL.rd rfl rfl rfl (Rd.extract rfl rfl rfl) ?_
  refine WL.rd rfl rfl rfl (Rd.assign rfl rfl) ?_
  refine WL.rd rfl rfl rfl (Rd.assign rfl rfl) ?_
  refine WL.rd rfl rfl rfl (Rd.assign rfl rfl) ?_
  refine WL.rd rfl rfl rfl (Rd.assign rfl rfl) ?_
  refine WL.nil ?_
  refine thenQ.normal ?_
  refine WC.seq ?_
  refine WC.seq ?_
  refine WC.region ?_
  refine WL.rd rfl rfl rfl (Rd.move rfl rfl) ?_
  refine WL.rd rfl rfl rfl (Rd.neq rfl rfl rfl) ?_
  refine WL.nil ?_
  refine thenQ.normal ?_
  first | refine WC.ite rfl (fun hc1 => ?_) (fun hc1 => ?_) | refine WC.cond rfl (fun hc1 => ?_) (fun hc1 => ?_)
  · skip
    refine WC.seq ?_
    refine WC.region ?_
    refine WL.rd rfl rfl rfl (Rd.move rfl rfl) ?_
    refine WL.rd rfl rfl rfl (Rd.assign rfl rfl) ?_
    refine WL.rd rfl rfl rfl (Rd.assign rfl rfl) ?_
    refine WL.nil ?_
    refine thenQ.normal ?_
    -- ret_1
    refine WC.ret (Ret.two Try.results10 rfl rfl ?_)
    have e : applyE base d = ([], (headE d).2.2.2) := if_pos hc1
    rw [e] at hk
    exact hk
  · skip
    refine WC.skip ?_
    refine thenQ.normal ?_
    refine WC.seq ?_
    refine WC.seq ?_
    refine WC.region ?_
    refine WL.rd rfl rfl rfl (Rd.move rfl rfl) ?_
    refine WL.rd rfl rfl rfl (Rd.slen (ts := #[]) (ty := 0) rfl rfl Try.underlying9) ?_
    refine WL.rd rfl rfl rfl (Rd.move rfl rfl) ?_
    refine WL.rd rfl rfl rfl (Rd.neq rfl rfl rfl) ?_
    refine WL.nil ?_
    refine thenQ.normal ?_
    first | refine WC.ite rfl (fun hc2 => ?_) (fun hc2 => ?_) | refine WC.cond rfl (fun hc2 => ?_) (fun hc2 => ?_)
    · skip
      refine WC.seq ?_
      refine WC.region ?_
      refine WL.rd rfl rfl rfl (Rd.assign rfl rfl) ?_
      refine WL.rd rfl rfl rfl (Rd.assign rfl rfl) ?_
      refine WL.nil ?_
      refine thenQ.normal ?_
      -- ret_2
      refine WC.ret (Ret.two Try.results10 rfl rfl ?_)
      have e : applyE base d = ([], 13) := by unfold applyE; rw [if_neg hc1, if_pos (by omega)]
      rw [e] at hk
      exact hk
    · skip
      have hfin : applyE base d = goE base (headE d).2.1 [] (d.drop at0) := by unfold applyE; rw [if_neg hc1, if_neg (by omega), hat1 (Decidable.not_not.1 hc1)]
      rw [hfin] at hk
      obtain ⟨to, hto'⟩ : ∃ to, to = (headE d).2.1 := ⟨_, rfl⟩
      rw [← hto'] at hk hto ⊢
      refine WC.skip ?_
      refine thenQ.normal ?_
      refine WC.seq ?_
      refine WC.region ?_
      refine WL.rd rfl rfl rfl (Rd.assign rfl rfl) ?_
      refine WL.nil ?_
      refine thenQ.normal ?_
      refine WC.seq ?_
      refine WC.block ?_
      refine WC.pick [8, 10, 0, 1, 7] (by repeat (first | exact Pick.nil | apply Pick.cons rfl)) ?_
      refine WC.loop2o 2 (fun (at_ : Nat) (out : List UInt8) => [(8, .int .i64 (at_ : Int)), (10, vs out)]) (fun (at_ : Nat) (out : List UInt8) => at_ ≤ d.length ∧ out.length ≤ 262208 ∧ goE base to [] (d.drop at0) = goE base to out (d.drop at_)) (fun (at_ : Nat) (out : List UInt8) => d.length - at_) (at0) ([]) (by repeat (first | exact Split.zero | apply Split.succ)) ?hinv1 (by repeat (first | exact Sub.nil | refine Sub.cons rfl (by first | rfl | (congr 1; omega) | assumption) ?_)) (fun _ h => h) ?_
      case hinv1 =>
        exact ⟨hat0, Nat.zero_le _, rfl⟩
      intro at_ out
      rintro ⟨i1, i2, i4⟩
      refine WC.seq ?_
      refine WC.seq ?_
      refine WC.region ?_
      refine WL.rd rfl rfl rfl (Rd.move rfl rfl) ?_
      refine WL.rd rfl rfl rfl (Rd.move rfl rfl) ?_
      refine WL.rd rfl rfl rfl (Rd.slen (ts := #[]) (ty := 0) rfl rfl Try.underlying9) ?_
      refine WL.rd rfl rfl rfl (Rd.lss rfl rfl rfl) ?_
      refine WL.nil ?_
      refine thenQ.normal ?_
      first | refine WC.ite rfl (fun hc3 => ?_) (fun hc3 => ?_) | refine WC.cond rfl (fun hc3 => ?_) (fun hc3 => ?_)
      · skip
        obtain ⟨r, hr⟩ : ∃ r, r = d.drop (at_ + 1) := ⟨_, rfl⟩
        obtain ⟨c, hcc⟩ : ∃ c, c = d[at_]! := ⟨_, rfl⟩
        have hdr : d.drop at_ = c :: r := by rw [hcc, hr, getElem!_pos d at_ (by omega)]; exact List.drop_eq_getElem_cons _
        have hrl : r.length = d.length - (at_ + 1) := by rw [hr, List.length_drop]
        have hl := gR_len r
        obtain ⟨g1, g2, g3, g4, g5, _, _⟩ := g_is r
        obtain ⟨f1, f2, f3, f4, f5, _, _⟩ := g_is (gR r)
        have hgl : (gR r).length = r.length - gK r := List.length_drop
        rw [hdr, goE_cons] at i4
        have c8 := UInt8.toNat_lt c
        refine WC.skip ?_
        refine thenQ.normal ?_
        refine WC.block ?_
        refine WC.seq ?_
        refine WC.region ?_
        refine WL.rd rfl rfl rfl (Rd.move rfl rfl) ?_
        refine WL.rd rfl rfl rfl (Rd.move rfl rfl) ?_
        refine WL.rd rfl rfl rfl (Rd.sidx (k := at_) (b := c) rfl Try.underlying9 rfl rfl rfl (by rw [hcc]; exact get!_of_lt (by omega))) ?_
        refine WL.rd rfl rfl rfl (Rd.assign rfl rfl) ?_
        refine WL.nil ?_
        refine thenQ.normal ?_
        refine WC.seq ?_
        refine WC.region ?_
        refine WL.rd rfl rfl rfl (Rd.move rfl rfl) ?_
        refine WL.rd rfl rfl rfl (Rd.add rfl rfl rfl (by omega)) ?_
        refine WL.rd rfl rfl rfl (Rd.assign rfl rfl) ?_
        refine WL.nil ?_
        refine thenQ.normal ?_
        refine WC.seq ?_
        refine WC.seq ?_
        refine WC.region ?_
        refine WL.rd rfl rfl rfl (Rd.move rfl rfl) ?_
        refine WL.rd rfl rfl rfl (Rd.gtr rfl rfl rfl) ?_
        refine WL.nil ?_
        refine thenQ.normal ?_
        first | refine WC.ite rfl (fun hc4 => ?_) (fun hc4 => ?_) | refine WC.cond rfl (fun hc4 => ?_) (fun hc4 => ?_)
        · skip
          have h0 : ¬ c = 0 := fun h => by rw [h] at hc4; exact absurd hc4 (by decide)
          have h1 : ¬ c = 1 := fun h => by rw [h] at hc4; exact absurd hc4 (by decide)
          have e : orderE base c r = ([], [], 2) := by unfold orderE; rw [if_neg h0, if_neg h1]
          rw [e, if_pos (by decide)] at i4
          refine WC.seq ?_
          refine WC.region ?_
          refine WL.rd rfl rfl rfl (Rd.assign rfl rfl) ?_
          refine WL.rd rfl rfl rfl (Rd.assign rfl rfl) ?_
          refine WL.nil ?_
          refine thenQ.normal ?_
          -- ret_3
          refine WC.ret (Ret.two Try.results10 rfl rfl ?_)
          rw [i4] at hk
          exact hk
        · skip
          refine WC.skip ?_
          refine thenQ.normal ?_
          refine WC.seq ?_
          refine WC.region ?_
          refine WL.rd rfl rfl rfl (Rd.assign rfl rfl) ?_
          refine WL.nil ?_
          refine thenQ.normal ?_
          refine WC.seq ?_
          refine WC.seq ?_
          refine WC.region ?_
          refine WL.rd rfl rfl rfl (Rd.move rfl rfl) ?_
          refine WL.rd rfl rfl rfl (Rd.eql rfl rfl rfl) ?_
          refine WL.nil ?_
          refine thenQ.normal ?_
          first | refine WC.ite rfl (fun hc5 => ?_) (fun hc5 => ?_) | refine WC.cond rfl (fun hc5 => ?_) (fun hc5 => ?_)
          · skip
            have h1 : c = 1 := by apply UInt8.toNat_inj.1; rw [show (1 : UInt8).toNat = 1 from rfl]; omega
            have h0 : ¬ c = 0 := by rw [h1]; decide
            refine WC.seq ?_
            refine WC.region ?_
            refine WL.rd rfl rfl rfl (Rd.move rfl rfl) ?_
            refine WL.rd rfl rfl rfl (Rd.move rfl rfl) ?_
            refine WL.rd rfl rfl rfl (Rd.scut_l (lo := at_ + 1) rfl Try.underlying9 rfl rfl rfl (by omega)) ?_
            refine WL.say 50 (u := vs r) rfl (by rw [hr]) ?_
            refine WL.op rfl ?_
            refine OpW.call rfl rfl (by repeat (first | exact Evs.nil | apply Evs.cons rfl)) (by kernel_rfl) rfl rfl rfl ?_
            refine rget_spec (s := r) (by omega) ?_; rw [g1, g2, g3]
            refine WL.rd rfl rfl rfl (Rd.move rfl rfl) ?_
            refine WL.rd rfl rfl rfl (Rd.extract rfl rfl rfl) ?_
            refine WL.rd rfl rfl rfl (Rd.extract rfl rfl rfl) ?_
            refine WL.rd rfl rfl rfl (Rd.extract rfl rfl rfl) ?_
            refine WL.rd rfl rfl rfl (Rd.assign rfl rfl) ?_
            refine WL.rd rfl rfl rfl (Rd.assign rfl rfl) ?_
            refine WL.rd rfl rfl rfl (Rd.assign rfl rfl) ?_
            refine WL.nil ?_
            refine thenQ.normal ?_
            refine WC.seq ?_
            refine WC.seq ?_
            refine WC.region ?_
            refine WL.rd rfl rfl rfl (Rd.move rfl rfl) ?_
            refine WL.rd rfl rfl rfl (Rd.neq rfl rfl rfl) ?_
            refine WL.nil ?_
            refine thenQ.normal ?_
            first | refine WC.ite rfl (fun hc6 => ?_) (fun hc6 => ?_) | refine WC.cond rfl (fun hc6 => ?_) (fun hc6 => ?_)
            · skip
              have e : orderE base c r = ([], [], gX r) := by unfold orderE; rw [if_neg h0, if_pos h1, if_pos hc6]
              rw [e, if_pos hc6] at i4
              refine WC.seq ?_
              refine WC.region ?_
              refine WL.rd rfl rfl rfl (Rd.move rfl rfl) ?_
              refine WL.rd rfl rfl rfl (Rd.assign rfl rfl) ?_
              refine WL.rd rfl rfl rfl (Rd.assign rfl rfl) ?_
              refine WL.nil ?_
              refine thenQ.normal ?_
              -- ret_4
              refine WC.ret (Ret.two Try.results10 rfl rfl ?_)
              rw [i4] at hk
              exact hk
            · skip
              refine WC.skip ?_
              refine thenQ.normal ?_
              refine WC.seq ?_
              refine WC.region ?_
              refine WL.rd rfl rfl rfl (Rd.move rfl rfl) ?_
              refine WL.rd rfl rfl rfl (Rd.assign rfl rfl) ?_
              refine WL.nil ?_
              refine thenQ.normal ?_
              refine WC.region ?_
              refine WL.rd rfl rfl rfl (Rd.move rfl rfl) ?_
              refine WL.rd rfl rfl rfl (Rd.move rfl rfl) ?_
              refine WL.rd rfl rfl rfl (Rd.add rfl rfl rfl (by omega)) ?_
              refine WL.rd rfl rfl rfl (Rd.assign rfl rfl) ?_
              refine WL.nil ?_
              refine thenQ.normal ?_
              refine WC.seq ?_
              refine WC.region ?_
              refine WL.rd rfl rfl rfl (Rd.move rfl rfl) ?_
              refine WL.rd rfl rfl rfl (Rd.move rfl rfl) ?_
              refine WL.rd rfl rfl rfl (Rd.scut_l (lo := at_ + 1 + gK r) rfl Try.underlying9 rfl rfl (by omega) (by omega)) ?_
              refine WL.say 65 (u := vs (gR r)) rfl (by rw [hr]; unfold gR; rw [List.drop_drop]) ?_
              refine WL.op rfl ?_
              refine OpW.call rfl rfl (by repeat (first | exact Evs.nil | apply Evs.cons rfl)) (by kernel_rfl) rfl rfl rfl ?_
              refine rget_spec (s := gR r) (by omega) ?_; rw [f1, f2, f3]
              refine WL.rd rfl rfl rfl (Rd.move rfl rfl) ?_
              refine WL.rd rfl rfl rfl (Rd.extract rfl rfl rfl) ?_
              refine WL.rd rfl rfl rfl (Rd.extract rfl rfl rfl) ?_
              refine WL.rd rfl rfl rfl (Rd.extract rfl rfl rfl) ?_
              refine WL.rd rfl rfl rfl (Rd.assign rfl rfl) ?_
              refine WL.rd rfl rfl rfl (Rd.assign rfl rfl) ?_
              refine WL.rd rfl rfl rfl (Rd.assign rfl rfl) ?_
              refine WL.nil ?_
              refine thenQ.normal ?_
              refine WC.seq ?_
              refine WC.seq ?_
              refine WC.region ?_
              refine WL.rd rfl rfl rfl (Rd.move rfl rfl) ?_
              refine WL.rd rfl rfl rfl (Rd.neq rfl rfl rfl) ?_
              refine WL.nil ?_
              refine thenQ.normal ?_
              first | refine WC.ite rfl (fun hc7 => ?_) (fun hc7 => ?_) | refine WC.cond rfl (fun hc7 => ?_) (fun hc7 => ?_)
              · skip
                have e : orderE base c r = ([], [], gX (gR r)) := by unfold orderE; rw [if_neg h0, if_pos h1, if_neg hc6, if_pos hc7]
                rw [e, if_pos hc7] at i4
                refine WC.seq ?_
                refine WC.region ?_
                refine WL.rd rfl rfl rfl (Rd.move rfl rfl) ?_
                refine WL.rd rfl rfl rfl (Rd.assign rfl rfl) ?_
                refine WL.rd rfl rfl rfl (Rd.assign rfl rfl) ?_
                refine WL.nil ?_
                refine thenQ.normal ?_
                -- ret_5
                refine WC.ret (Ret.two Try.results10 rfl rfl ?_)
                rw [i4] at hk
                exact hk
              · skip
                refine WC.skip ?_
                refine thenQ.normal ?_
                refine WC.seq ?_
                refine WC.region ?_
                refine WL.rd rfl rfl rfl (Rd.move rfl rfl) ?_
                refine WL.rd rfl rfl rfl (Rd.move rfl rfl) ?_
                refine WL.rd rfl rfl rfl (Rd.add rfl rfl rfl (by omega)) ?_
                refine WL.rd rfl rfl rfl (Rd.assign rfl rfl) ?_
                refine WL.nil ?_
                refine thenQ.normal ?_
                refine WC.seq ?_
                refine WC.seq ?_
                refine WC.region ?_
                refine WL.rd rfl rfl rfl (Rd.move rfl rfl) ?_
                refine WL.rd rfl rfl rfl (Rd.eql rfl rfl rfl) ?_
                refine WL.nil ?_
                refine thenQ.normal ?_
                first | refine WC.ite rfl (fun hc8 => ?_) (fun hc8 => ?_) | refine WC.cond rfl (fun hc8 => ?_) (fun hc8 => ?_)
                · skip
                  have e : orderE base c r = ([], [], 2) := by unfold orderE; rw [if_neg h0, if_pos h1, if_neg hc6, if_neg hc7, if_pos (by omega)]
                  rw [e, if_pos (by decide)] at i4
                  refine WC.seq ?_
                  refine WC.region ?_
                  refine WL.rd rfl rfl rfl (Rd.assign rfl rfl) ?_
                  refine WL.rd rfl rfl rfl (Rd.assign rfl rfl) ?_
                  refine WL.nil ?_
                  refine thenQ.normal ?_
                  -- ret_6
                  refine WC.ret (Ret.two Try.results10 rfl rfl ?_)
                  rw [i4] at hk
                  exact hk
                · skip
                  refine WC.skip ?_
                  refine thenQ.normal ?_
                  refine WC.seq ?_
                  refine WC.region ?_
                  refine WL.rd rfl rfl rfl (Rd.assign rfl rfl) ?_
                  refine WL.nil ?_
                  refine thenQ.normal ?_
                  refine WC.seq ?_
                  refine WC.seq ?_
                  refine WC.region ?_
                  refine WL.rd rfl rfl rfl (Rd.move rfl rfl) ?_
                  refine WL.rd rfl rfl rfl (Rd.eql rfl rfl rfl) ?_
                  refine WL.nil ?_
                  refine thenQ.normal ?_
                  first | refine WC.ite rfl (fun hc9 => ?_) (fun hc9 => ?_) | refine WC.cond rfl (fun hc9 => ?_) (fun hc9 => ?_)
                  · skip
                    refine WC.seq ?_
                    refine WC.pick [0, 1, 7, 8, 10, 12, 16] (by repeat (first | exact Pick.nil | apply Pick.cons rfl)) ?_
                    refine WC.val 91 (.bool (decide (gN (gR r) = 0 ∨ base.length < gN r ∨ base.length < gN r + gN (gR r)))) ?_ ?_
                    · skip
                      refine WC.region ?_
                      refine WL.rd rfl rfl rfl (Rd.move rfl rfl) ?_
                      refine WL.rd rfl rfl rfl (Rd.move rfl rfl) ?_
                      refine WL.rd rfl rfl rfl (Rd.slen (ts := #[]) (ty := 0) rfl rfl Try.underlying9) ?_
                      refine WL.rd rfl rfl rfl (Rd.gtr rfl rfl rfl) ?_
                      refine WL.rd rfl rfl rfl (Rd.move rfl rfl) ?_
                      refine WL.case 84 rfl (fun hg84 => ?_) (fun hg84 => ?_)
                      · skip
                        refine WL.no rfl rfl rfl rfl rfl rfl ?_
                        refine WL.no rfl rfl rfl rfl rfl rfl ?_
                        refine WL.no rfl rfl rfl rfl rfl rfl ?_
                        refine WL.no rfl rfl rfl rfl rfl rfl ?_
                        refine WL.no rfl rfl rfl rfl rfl rfl ?_
                        refine WL.no rfl rfl rfl rfl rfl rfl ?_
                        refine WL.rd rfl rfl rfl (Rd.pick_t rfl rfl rfl) ?_
                        refine WL.nil ?_
                        exact ⟨by repeat (first | exact Sub.nil | refine Sub.cons rfl (by first | rfl | (first | exact vb_t (by omega) | exact vb ⟨fun h => by omega, fun h => by omega⟩)) ?_), by first | exact (fun _ h => h.thin (SubL.mem (by repeat (first | exact SubL.refl | refine SubL.cons (by repeat (first | assumption | exact List.mem_cons_self | refine List.mem_cons_of_mem _ ?_)) ?_ | refine SubL.skip ?_)))) | exact (fun w h => OwnL.sat (by repeat (first | exact OwnL.refl | apply OwnL.take (by repeat (first | exact Take.head _ | apply Take.tail)) | apply OwnL.drop)) w (h.thin (SubL.mem (by repeat (first | exact SubL.refl | refine SubL.cons (by repeat (first | assumption | exact List.mem_cons_self | refine List.mem_cons_of_mem _ ?_)) ?_ | refine SubL.skip ?_)))))⟩
                      · skip
                        refine WL.rd_yes rfl rfl rfl rfl rfl rfl (Rd.move rfl rfl) ?_
                        refine WL.rd_yes rfl rfl rfl rfl rfl rfl (Rd.move rfl rfl) ?_
                        refine WL.rd_yes rfl rfl rfl rfl rfl rfl (Rd.slen (ts := #[]) (ty := 0) rfl rfl Try.underlying9) ?_
                        refine WL.rd_yes rfl rfl rfl rfl rfl rfl (Rd.move rfl rfl) ?_
                        refine WL.rd_yes rfl rfl rfl rfl rfl rfl (Rd.sub rfl rfl rfl (by omega)) ?_
                        refine WL.rd_yes rfl rfl rfl rfl rfl rfl (Rd.gtr rfl rfl rfl) ?_
                        refine WL.rd rfl rfl rfl (Rd.pick_f rfl rfl rfl) ?_
                        refine WL.nil ?_
                        exact ⟨by repeat (first | exact Sub.nil | refine Sub.cons rfl (by first | rfl | (first | exact vb_t (by omega) | exact vb ⟨fun h => by omega, fun h => by omega⟩)) ?_), by first | exact (fun _ h => h.thin (SubL.mem (by repeat (first | exact SubL.refl | refine SubL.cons (by repeat (first | assumption | exact List.mem_cons_self | refine List.mem_cons_of_mem _ ?_)) ?_ | refine SubL.skip ?_)))) | exact (fun w h => OwnL.sat (by repeat (first | exact OwnL.refl | apply OwnL.take (by repeat (first | exact Take.head _ | apply Take.tail)) | apply OwnL.drop)) w (h.thin (SubL.mem (by repeat (first | exact SubL.refl | refine SubL.cons (by repeat (first | assumption | exact List.mem_cons_self | refine List.mem_cons_of_mem _ ?_)) ?_ | refine SubL.skip ?_)))))⟩
                    · skip
                      first | refine WC.ite rfl (fun hc10 => ?_) (fun hc10 => ?_) | refine WC.cond rfl (fun hc10 => ?_) (fun hc10 => ?_)
                      · skip
                        have e : orderE base c r = ([], [], 2) := by unfold orderE; rw [if_neg h0, if_pos h1, if_neg hc6, if_neg hc7, if_pos hc10]
                        rw [e, if_pos (by decide)] at i4
                        refine WC.seq ?_
                        refine WC.region ?_
                        refine WL.rd rfl rfl rfl (Rd.assign rfl rfl) ?_
                        refine WL.rd rfl rfl rfl (Rd.assign rfl rfl) ?_
                        refine WL.nil ?_
                        refine thenQ.normal ?_
                        -- ret_7
                        refine WC.ret (Ret.two Try.results10 rfl rfl ?_)
                        rw [i4] at hk
                        exact hk
                      · skip
                        have e : orderE base c r = ((base.take (gN r + gN (gR r))).drop (gN r), gR (gR r), 0) := by unfold orderE; rw [if_neg h0, if_pos h1, if_neg hc6, if_neg hc7, if_neg hc10]
                        rw [e, if_neg (fun h => h rfl)] at i4
                        have hsl : ((base.take (gN r + gN (gR r))).drop (gN r)).length = gN (gR r) := by rw [List.length_drop, List.length_take]; omega
                        refine WC.skip ?_
                        refine thenQ.normal ?_
                        refine WC.region ?_
                        refine WL.rd rfl rfl rfl (Rd.move rfl rfl) ?_
                        refine WL.rd rfl rfl rfl (Rd.move rfl rfl) ?_
                        refine WL.rd rfl rfl rfl (Rd.move rfl rfl) ?_
                        refine WL.rd rfl rfl rfl (Rd.move rfl rfl) ?_
                        refine WL.rd rfl rfl rfl (Rd.add rfl rfl rfl (by omega)) ?_
                        refine WL.rd rfl rfl rfl (Rd.scut_lh (lo := gN r) (hi := gN r + gN (gR r)) rfl Try.underlying9 rfl rfl rfl rfl (by omega) (by omega) (by omega)) ?_
                        refine WL.rd rfl rfl rfl (Rd.assign rfl rfl) ?_
                        refine WL.nil ?_
                        refine thenQ.normal ?_
                        refine WC.seq ?_
                        refine WC.seq ?_
                        refine WC.region ?_
                        refine WL.rd rfl rfl rfl (Rd.move rfl rfl) ?_
                        refine WL.rd rfl rfl rfl (Rd.slen (ts := #[]) (ty := 0) rfl rfl Try.underlying9) ?_
                        refine WL.rd rfl rfl rfl (Rd.move rfl rfl) ?_
                        refine WL.rd rfl rfl rfl (Rd.slen (ts := #[]) (ty := 0) rfl rfl Try.underlying9) ?_
                        refine WL.rd rfl rfl rfl (Rd.add rfl rfl rfl (by omega)) ?_
                        refine WL.rd rfl rfl rfl (Rd.move rfl rfl) ?_
                        refine WL.rd rfl rfl rfl (Rd.gtr rfl rfl rfl) ?_
                        refine WL.nil ?_
                        refine thenQ.normal ?_
                        first | refine WC.ite rfl (fun hc12 => ?_) (fun hc12 => ?_) | refine WC.cond rfl (fun hc12 => ?_) (fun hc12 => ?_)
                        · skip
                          rw [if_pos (by show to < out.length + ((base.take (gN r + gN (gR r))).drop (gN r)).length; omega)] at i4
                          refine WC.seq ?_
                          refine WC.region ?_
                          refine WL.rd rfl rfl rfl (Rd.assign rfl rfl) ?_
                          refine WL.rd rfl rfl rfl (Rd.assign rfl rfl) ?_
                          refine WL.nil ?_
                          refine thenQ.normal ?_
                          -- ret_8
                          refine WC.ret (Ret.two Try.results10 rfl rfl ?_)
                          rw [i4] at hk
                          exact hk
                        · skip
                          rw [if_neg (by show ¬ to < out.length + ((base.take (gN r + gN (gR r))).drop (gN r)).length; omega)] at i4
                          refine WC.skip ?_
                          refine thenQ.normal ?_
                          refine WC.region ?_
                          refine WL.rd rfl rfl rfl (Rd.move rfl rfl) ?_
                          refine WL.rd rfl rfl rfl (Rd.move rfl rfl) ?_
                          refine WL.rd rfl rfl rfl (Rd.scat rfl rfl rfl (by omega)) ?_
                          refine WL.rd rfl rfl rfl (Rd.assign rfl rfl) ?_
                          refine WL.nil ?_
                          refine blockQ.normal ?_
                          -- next1_1
                          exact loopQ2.mk (at_ + 1 + gK r + gK (gR r)) (out ++ ((base.take (gN r + gN (gR r))).drop (gN r))) ⟨by omega, by rw [List.length_append]; omega, by rw [i4]; congr 1; show (gR r).drop (gK (gR r)) = _; unfold gR; rw [hr]; simp only [List.drop_drop]⟩ (by omega) (by repeat (first | exact Sub.nil | refine Sub.cons rfl (by first | rfl | (congr 1; omega) | assumption) ?_)) (fun w h => OwnL.sat (by repeat (first | exact OwnL.refl | apply OwnL.take (by repeat (first | exact Take.head _ | apply Take.tail)) | apply OwnL.drop)) w (h.thin (SubL.mem (by repeat (first | exact SubL.refl | refine SubL.cons (by repeat (first | assumption | exact List.mem_cons_self | refine List.mem_cons_of_mem _ ?_)) ?_ | refine SubL.skip ?_)))))
                  · skip
                    exact absurd hc5 hc9
          · skip
            have h1 : ¬ c = 1 := fun h => by rw [h] at hc5; exact absurd rfl hc5
            refine WC.skip ?_
            refine thenQ.normal ?_
            refine WC.seq ?_
            refine WC.region ?_
            refine WL.rd rfl rfl rfl (Rd.move rfl rfl) ?_
            refine WL.rd rfl rfl rfl (Rd.move rfl rfl) ?_
            refine WL.rd rfl rfl rfl (Rd.scut_l (lo := at_ + 1) rfl Try.underlying9 rfl rfl rfl (by omega)) ?_
            refine WL.say 65 (u := vs r) rfl (by rw [hr]) ?_
            refine WL.op rfl ?_
            refine OpW.call rfl rfl (by repeat (first | exact Evs.nil | apply Evs.cons rfl)) (by kernel_rfl) rfl rfl rfl ?_
            have h0 : c = 0 := by
              have hne : c.toNat ≠ 1 := fun h => hc5 (by omega)
              apply UInt8.toNat_inj.1; rw [show (0 : UInt8).toNat = 0 from rfl]; omega
            refine rget_spec (s := r) (by omega) ?_; rw [g1, g2, g3]
            refine WL.rd rfl rfl rfl (Rd.move rfl rfl) ?_
            refine WL.rd rfl rfl rfl (Rd.extract rfl rfl rfl) ?_
            refine WL.rd rfl rfl rfl (Rd.extract rfl rfl rfl) ?_
            refine WL.rd rfl rfl rfl (Rd.extract rfl rfl rfl) ?_
            refine WL.rd rfl rfl rfl (Rd.assign rfl rfl) ?_
            refine WL.rd rfl rfl rfl (Rd.assign rfl rfl) ?_
            refine WL.rd rfl rfl rfl (Rd.assign rfl rfl) ?_
            refine WL.nil ?_
            refine thenQ.normal ?_
            refine WC.seq ?_
            refine WC.seq ?_
            refine WC.region ?_
            refine WL.rd rfl rfl rfl (Rd.move rfl rfl) ?_
            refine WL.rd rfl rfl rfl (Rd.neq rfl rfl rfl) ?_
            refine WL.nil ?_
            refine thenQ.normal ?_
            first | refine WC.ite rfl (fun hc7 => ?_) (fun hc7 => ?_) | refine WC.cond rfl (fun hc7 => ?_) (fun hc7 => ?_)
            · skip
              have e : orderE base c r = ([], [], gX r) := by unfold orderE; rw [if_pos h0, if_pos hc7]
              rw [e, if_pos hc7] at i4
              refine WC.seq ?_
              refine WC.region ?_
              refine WL.rd rfl rfl rfl (Rd.move rfl rfl) ?_
              refine WL.rd rfl rfl rfl (Rd.assign rfl rfl) ?_
              refine WL.rd rfl rfl rfl (Rd.assign rfl rfl) ?_
              refine WL.nil ?_
              refine thenQ.normal ?_
              -- ret_9
              refine WC.ret (Ret.two Try.results10 rfl rfl ?_)
              rw [i4] at hk
              exact hk
            · skip
              refine WC.skip ?_
              refine thenQ.normal ?_
              refine WC.seq ?_
              refine WC.region ?_
              refine WL.rd rfl rfl rfl (Rd.move rfl rfl) ?_
              refine WL.rd rfl rfl rfl (Rd.move rfl rfl) ?_
              refine WL.rd rfl rfl rfl (Rd.add rfl rfl rfl (by omega)) ?_
              refine WL.rd rfl rfl rfl (Rd.assign rfl rfl) ?_
              refine WL.nil ?_
              refine thenQ.normal ?_
              refine WC.seq ?_
              refine WC.seq ?_
              refine WC.region ?_
              refine WL.rd rfl rfl rfl (Rd.move rfl rfl) ?_
              refine WL.rd rfl rfl rfl (Rd.eql rfl rfl rfl) ?_
              refine WL.nil ?_
              refine thenQ.normal ?_
              first | refine WC.ite rfl (fun hc8 => ?_) (fun hc8 => ?_) | refine WC.cond rfl (fun hc8 => ?_) (fun hc8 => ?_)
              · skip
                have e : orderE base c r = ([], [], 2) := by unfold orderE; rw [if_pos h0, if_neg hc7, if_pos (by omega)]
                rw [e, if_pos (by decide)] at i4
                refine WC.seq ?_
                refine WC.region ?_
                refine WL.rd rfl rfl rfl (Rd.assign rfl rfl) ?_
                refine WL.rd rfl rfl rfl (Rd.assign rfl rfl) ?_
                refine WL.nil ?_
                refine thenQ.normal ?_
                -- ret_10
                refine WC.ret (Ret.two Try.results10 rfl rfl ?_)
                rw [i4] at hk
                exact hk
              · skip
                refine WC.skip ?_
                refine thenQ.normal ?_
                refine WC.seq ?_
                refine WC.region ?_
                refine WL.rd rfl rfl rfl (Rd.assign rfl rfl) ?_
                refine WL.nil ?_
                refine thenQ.normal ?_
                refine WC.seq ?_
                refine WC.seq ?_
                refine WC.region ?_
                refine WL.rd rfl rfl rfl (Rd.move rfl rfl) ?_
                refine WL.rd rfl rfl rfl (Rd.eql rfl rfl rfl) ?_
                refine WL.nil ?_
                refine thenQ.normal ?_
                first | refine WC.ite rfl (fun hc9 => ?_) (fun hc9 => ?_) | refine WC.cond rfl (fun hc9 => ?_) (fun hc9 => ?_)
                · skip
                  exact absurd hc9 hc5
                · skip
                  refine WC.seq ?_
                  refine WC.seq ?_
                  refine WC.region ?_
                  refine WL.rd rfl rfl rfl (Rd.move rfl rfl) ?_
                  refine WL.rd rfl rfl rfl (Rd.move rfl rfl) ?_
                  refine WL.rd rfl rfl rfl (Rd.slen (ts := #[]) (ty := 0) rfl rfl Try.underlying9) ?_
                  refine WL.rd rfl rfl rfl (Rd.move rfl rfl) ?_
                  refine WL.rd rfl rfl rfl (Rd.sub rfl rfl rfl (by omega)) ?_
                  refine WL.rd rfl rfl rfl (Rd.gtr rfl rfl rfl) ?_
                  refine WL.nil ?_
                  refine thenQ.normal ?_
                  first | refine WC.ite rfl (fun hc11 => ?_) (fun hc11 => ?_) | refine WC.cond rfl (fun hc11 => ?_) (fun hc11 => ?_)
                  · skip
                    have e : orderE base c r = ([], [], 3) := by unfold orderE; rw [if_pos h0, if_neg hc7, if_neg (by omega), if_pos (by omega)]
                    rw [e, if_pos (by decide)] at i4
                    refine WC.seq ?_
                    refine WC.region ?_
                    refine WL.rd rfl rfl rfl (Rd.assign rfl rfl) ?_
                    refine WL.rd rfl rfl rfl (Rd.assign rfl rfl) ?_
                    refine WL.nil ?_
                    refine thenQ.normal ?_
                    -- ret_11
                    refine WC.ret (Ret.two Try.results10 rfl rfl ?_)
                    rw [i4] at hk
                    exact hk
                  · skip
                    have e : orderE base c r = ((gR r).take (gN r), (gR r).drop (gN r), 0) := by unfold orderE; rw [if_pos h0, if_neg hc7, if_neg (by omega), if_neg (by omega)]
                    rw [e, if_neg (fun h => h rfl)] at i4
                    have hsl : ((gR r).take (gN r)).length = gN r := by rw [List.length_take]; omega
                    refine WC.skip ?_
                    refine thenQ.normal ?_
                    refine WC.seq ?_
                    refine WC.region ?_
                    refine WL.rd rfl rfl rfl (Rd.move rfl rfl) ?_
                    refine WL.rd rfl rfl rfl (Rd.move rfl rfl) ?_
                    refine WL.rd rfl rfl rfl (Rd.move rfl rfl) ?_
                    refine WL.rd rfl rfl rfl (Rd.move rfl rfl) ?_
                    refine WL.rd rfl rfl rfl (Rd.add rfl rfl rfl (by omega)) ?_
                    refine WL.rd rfl rfl rfl (Rd.scut_lh (lo := at_ + 1 + gK r) (hi := at_ + 1 + gK r + gN r) rfl Try.underlying9 rfl rfl rfl (by omega) (by omega) (by omega) (by omega)) ?_
                    refine WL.say 109 (u := vs ((gR r).take (gN r))) rfl (by rw [List.drop_take]; unfold gR; rw [hr, List.drop_drop]; congr 3; omega) ?_
                    refine WL.rd rfl rfl rfl (Rd.assign rfl rfl) ?_
                    refine WL.nil ?_
                    refine thenQ.normal ?_
                    refine WC.region ?_
                    refine WL.rd rfl rfl rfl (Rd.move rfl rfl) ?_
                    refine WL.rd rfl rfl rfl (Rd.move rfl rfl) ?_
                    refine WL.rd rfl rfl rfl (Rd.add rfl rfl rfl (by omega)) ?_
                    refine WL.rd rfl rfl rfl (Rd.assign rfl rfl) ?_
                    refine WL.nil ?_
                    refine thenQ.normal ?_
                    refine WC.seq ?_
                    refine WC.seq ?_
                    refine WC.region ?_
                    refine WL.rd rfl rfl rfl (Rd.move rfl rfl) ?_
                    refine WL.rd rfl rfl rfl (Rd.slen (ts := #[]) (ty := 0) rfl rfl Try.underlying9) ?_
                    refine WL.rd rfl rfl rfl (Rd.move rfl rfl) ?_
                    refine WL.rd rfl rfl rfl (Rd.slen (ts := #[]) (ty := 0) rfl rfl Try.underlying9) ?_
                    refine WL.rd rfl rfl rfl (Rd.add rfl rfl rfl (by omega)) ?_
                    refine WL.rd rfl rfl rfl (Rd.move rfl rfl) ?_
                    refine WL.rd rfl rfl rfl (Rd.gtr rfl rfl rfl) ?_
                    refine WL.nil ?_
                    refine thenQ.normal ?_
                    first | refine WC.ite rfl (fun hc12 => ?_) (fun hc12 => ?_) | refine WC.cond rfl (fun hc12 => ?_) (fun hc12 => ?_)
                    · skip
                      rw [if_pos (by show to < out.length + ((gR r).take (gN r)).length; omega)] at i4
                      refine WC.seq ?_
                      refine WC.region ?_
                      refine WL.rd rfl rfl rfl (Rd.assign rfl rfl) ?_
                      refine WL.rd rfl rfl rfl (Rd.assign rfl rfl) ?_
                      refine WL.nil ?_
                      refine thenQ.normal ?_
                      -- ret_12
                      refine WC.ret (Ret.two Try.results10 rfl rfl ?_)
                      rw [i4] at hk
                      exact hk
                    · skip
                      rw [if_neg (by show ¬ to < out.length + ((gR r).take (gN r)).length; omega)] at i4
                      refine WC.skip ?_
                      refine thenQ.normal ?_
                      refine WC.region ?_
                      refine WL.rd rfl rfl rfl (Rd.move rfl rfl) ?_
                      refine WL.rd rfl rfl rfl (Rd.move rfl rfl) ?_
                      refine WL.rd rfl rfl rfl (Rd.scat rfl rfl rfl (by omega)) ?_
                      refine WL.rd rfl rfl rfl (Rd.assign rfl rfl) ?_
                      refine WL.nil ?_
                      refine blockQ.normal ?_
                      -- next1_2
                      exact loopQ2.mk (at_ + 1 + gK r + gN r) (out ++ ((gR r).take (gN r))) ⟨by omega, by rw [List.length_append]; omega, by rw [i4]; congr 1; show (gR r).drop (gN r) = _; unfold gR; rw [hr]; simp only [List.drop_drop]⟩ (by omega) (by repeat (first | exact Sub.nil | refine Sub.cons rfl (by first | rfl | (congr 1; omega) | assumption) ?_)) (fun w h => OwnL.sat (by repeat (first | exact OwnL.refl | apply OwnL.take (by repeat (first | exact Take.head _ | apply Take.tail)) | apply OwnL.drop)) w (h.thin (SubL.mem (by repeat (first | exact SubL.refl | refine SubL.cons (by repeat (first | assumption | exact List.mem_cons_self | refine List.mem_cons_of_mem _ ?_)) ?_ | refine SubL.skip ?_)))))
      · skip
        have hdr : d.drop at_ = [] := List.drop_eq_nil_of_le (by omega)
        rw [hdr, goE_nil] at i4
        refine WC.exit ?_
        refine thenQ.exit ?_
        refine loopQ2.exit ?_
        refine blockQ.exit ?_
        refine thenQ.normal ?_
        refine WC.seq ?_
        refine WC.seq ?_
        refine WC.region ?_
        refine WL.rd rfl rfl rfl (Rd.move rfl rfl) ?_
        refine WL.rd rfl rfl rfl (Rd.slen (ts := #[]) (ty := 0) rfl rfl Try.underlying9) ?_
        refine WL.rd rfl rfl rfl (Rd.move rfl rfl) ?_
        refine WL.rd rfl rfl rfl (Rd.lss rfl rfl rfl) ?_
        refine WL.nil ?_
        refine thenQ.normal ?_
        first | refine WC.ite rfl (fun hc13 => ?_) (fun hc13 => ?_) | refine WC.cond rfl (fun hc13 => ?_) (fun hc13 => ?_)
        · skip
          refine WC.seq ?_
          refine WC.region ?_
          refine WL.rd rfl rfl rfl (Rd.assign rfl rfl) ?_
          refine WL.rd rfl rfl rfl (Rd.assign rfl rfl) ?_
          refine WL.nil ?_
          refine thenQ.normal ?_
          -- ret_13
          refine WC.ret (Ret.two Try.results10 rfl rfl ?_)
          rw [if_pos (by omega)] at i4
          rw [i4] at hk
          exact hk
        · skip
          refine WC.skip ?_
          refine thenQ.normal ?_
          refine WC.seq ?_
          refine WC.region ?_
          refine WL.rd rfl rfl rfl (Rd.move rfl rfl) ?_
          refine WL.rd rfl rfl rfl (Rd.assign rfl rfl) ?_
          refine WL.rd rfl rfl rfl (Rd.assign rfl rfl) ?_
          refine WL.nil ?_
          refine thenQ.normal ?_
          -- ret_14
          refine WC.ret (Ret.two Try.results10 rfl rfl ?_)
          rw [if_neg (by omega)] at i4
          rw [i4] at hk
          exact hk
end
end Go.Proofs.Ytnpnjebogmfdkaa
