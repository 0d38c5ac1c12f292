/-
  Layer 4: SectorScripts.
-/
import Derived.Test.YtfflnlieddbabaaSe9
namespace Go.Proofs.Ytfflnlieddbabaa
open Go Go.SL

theorem tmod10 (p : Int) : -10 < p.tmod 10 ∧ p.tmod 10 < 10 := by
  rcases Int.le_total 0 p with h | h
  · rw [Int.tmod_eq_emod_of_nonneg h]; omega
  · have h1 : p.tmod 10 = -((-p) % 10) := by
      rw [← Int.tmod_eq_emod_of_nonneg (by omega : 0 ≤ -p), Int.neg_tmod]; omega
    rw [h1]; omega
def nOf (n : Int) : Int := if 12 < n ∧ n ≤ 4096 then ((land .i64 n 7 : Nat) : Int) + 1 else n
def dataOf (x : List UInt8) : List UInt8 := if 600 < x.length then x.take 513 else x
theorem act_keep {acts : List Act} {i : Nat} {w : World} (hi : i < acts.length) (h : AllQ QA acts w) : SlE (one vi) acts[i]!.2.2.2.1 acts[i]!.2.2.2.2 w := by
  rw [getElem!_pos acts i hi]
  exact (h _ (List.getElem_mem _)).2.2.2.1
theorem act_len {acts : List Act} {i : Nat} {w : World} (hi : i < acts.length) (h : AllQ QA acts w) : acts[i]!.2.2.2.2.length ≤ 17592186043904 ∧ acts[i]!.2.1 ≤ 9223372036854775807 := by
  rw [getElem!_pos acts i hi]
  have := h _ (List.getElem_mem hi)
  exact ⟨this.2.2.2.2, this.2.1.2⟩
section
variable {R : List RO} {O : List Own} {POST : Value → List RO → List Own → Prop}
set_option maxHeartbeats 1000000 in
set_option maxRecDepth 20000 in
theorem scripts_bad {n : Int} {sv : Value} (hbad : nOf n < 1 ∨ 4096 < nOf n) (hk : POST (.bool true) R O) : Fun Try.prog 5 #[.int .i64 n, sv] R O POST := by
  have hland := land_le .i64 n 7
  refine Fun.enter (l := [_, _]) Try.func5 rfl Try.ntmps5 rfl (L0 := [(0, _), (1, _)]) rfl ?_
  refine WC.seq ?_
  refine WC.region ?_
  refine WL.rd rfl rfl rfl (Rd.assign rfl rfl) ?_
  refine WL.nil ?_
  refine thenQ.normal ?_
  refine WC.seq ?_
  refine WC.seq ?_
  refine WC.region ?_
  refine WL.op rfl ?_
  refine OpW.call rfl rfl (by repeat (first | exact Evs.nil | apply Evs.cons rfl)) (by kernel_rfl) rfl rfl rfl ?_
  refine speaks_spec ?_
  refine WL.say 13 (u := .bool (decide True)) rfl (by simp) ?_
  refine WL.rd rfl rfl rfl ((by first | exact Rd.notd rfl rfl | exact Rd.not rfl rfl)) ?_
  refine WL.nil ?_
  refine thenQ.normal ?_
  first | refine WC.ite rfl (fun hc1 => ?_) (fun hc1 => ?_) | refine WC.cond rfl (fun hc1 => ?_) (fun hc1 => ?_)
  · skip
    exact absurd trivial hc1
  · skip
    refine WC.skip ?_
    refine thenQ.normal ?_
    refine WC.cut (α := Unit) (fun _ => [(0, .int .i64 (nOf n)), (1, sv)]) (fun _ => R) (fun _ => O) (fun _ => True) ?_ ?_
    · skip
      refine WC.seq ?_
      refine WC.region ?_
      refine WL.rd rfl rfl rfl (Rd.move rfl rfl) ?_
      refine WL.rd rfl rfl rfl (Rd.gtr rfl rfl rfl) ?_
      refine WL.rd rfl rfl rfl (Rd.move rfl rfl) ?_
      refine WL.case 17 rfl (fun hg17 => ?_) (fun hg17 => ?_)
      · skip
        refine WL.rd_yes rfl rfl rfl rfl rfl rfl (Rd.move rfl rfl) ?_
        refine WL.rd_yes rfl rfl rfl rfl rfl rfl (Rd.leq rfl rfl rfl) ?_
        refine WL.rd rfl rfl rfl (Rd.pick_t rfl rfl rfl) ?_
        refine WL.nil ?_
        refine thenQ.normal ?_
        first | refine WC.ite rfl (fun hc2 => ?_) (fun hc2 => ?_) | refine WC.cond rfl (fun hc2 => ?_) (fun hc2 => ?_)
        · skip
          refine WC.region ?_
          refine WL.rd rfl rfl rfl (Rd.move rfl rfl) ?_
          refine WL.rd rfl rfl rfl (Rd.andm (m := 7) rfl rfl rfl rfl (by decide)) ?_
          refine WL.rd rfl rfl rfl (Rd.add rfl rfl rfl (by omega)) ?_
          refine WL.rd rfl rfl rfl (Rd.assign rfl rfl) ?_
          refine WL.nil ?_
          -- cut_c2 1
          have hn : nOf n = ((land .i64 n 7 : Nat) : Int) + 1 := if_pos ⟨by omega, by omega⟩
          simp only [hn]
          exact ⟨(), trivial, (by repeat (first | exact Sub.nil | refine Sub.cons rfl (by first | rfl | (congr 1; omega) | assumption) ?_)), (fun w h => OwnL.sat (by repeat (first | exact OwnL.refl | apply OwnL.take (by repeat (first | exact Take.head _ | apply Take.tail)) | apply OwnL.drop)) w (h.thin (SubL.mem (by repeat (first | exact SubL.refl | refine SubL.cons (by repeat (first | assumption | exact List.mem_cons_self | refine List.mem_cons_of_mem _ ?_)) ?_ | refine SubL.skip ?_)))))⟩
        · skip
          refine WC.skip ?_
          -- cut_c2 2
          have hn : nOf n = n := if_neg (by omega)
          simp only [hn]
          exact ⟨(), trivial, (by repeat (first | exact Sub.nil | refine Sub.cons rfl (by first | rfl | (congr 1; omega) | assumption) ?_)), (fun w h => OwnL.sat (by repeat (first | exact OwnL.refl | apply OwnL.take (by repeat (first | exact Take.head _ | apply Take.tail)) | apply OwnL.drop)) w (h.thin (SubL.mem (by repeat (first | exact SubL.refl | refine SubL.cons (by repeat (first | assumption | exact List.mem_cons_self | refine List.mem_cons_of_mem _ ?_)) ?_ | refine SubL.skip ?_)))))⟩
      · skip
        refine WL.no rfl rfl rfl rfl rfl rfl ?_
        refine WL.no rfl rfl rfl rfl rfl rfl ?_
        refine WL.rd rfl rfl rfl (Rd.pick_f rfl rfl rfl) ?_
        refine WL.nil ?_
        refine thenQ.normal ?_
        refine WC.no rfl ?_
        refine WC.skip ?_
        -- cut_c2 3
        have hn : nOf n = n := if_neg (by omega)
        simp only [hn]
        exact ⟨(), trivial, (by repeat (first | exact Sub.nil | refine Sub.cons rfl (by first | rfl | (congr 1; omega) | assumption) ?_)), (fun w h => OwnL.sat (by repeat (first | exact OwnL.refl | apply OwnL.take (by repeat (first | exact Take.head _ | apply Take.tail)) | apply OwnL.drop)) w (h.thin (SubL.mem (by repeat (first | exact SubL.refl | refine SubL.cons (by repeat (first | assumption | exact List.mem_cons_self | refine List.mem_cons_of_mem _ ?_)) ?_ | refine SubL.skip ?_)))))⟩
    · skip
      rintro _ -
      refine WC.seq ?_
      refine WC.region ?_
      refine WL.rd rfl rfl rfl (Rd.move rfl rfl) ?_
      refine WL.op rfl ?_
      refine OpW.call rfl rfl (by repeat (first | exact Evs.nil | apply Evs.cons rfl)) (by kernel_rfl) rfl rfl rfl ?_
      refine new_spec (fun _ => ?_) (fun n hn _ _ d V hv => by exfalso; omega)
      refine WL.rd rfl rfl rfl (Rd.move rfl rfl) ?_
      refine WL.rd rfl rfl rfl (Rd.extract rfl rfl rfl) ?_
      refine WL.rd rfl rfl rfl (Rd.extract rfl rfl rfl) ?_
      refine WL.rd rfl rfl rfl (Rd.assign rfl rfl) ?_
      refine WL.rd rfl rfl rfl (Rd.assign rfl rfl) ?_
      refine WL.nil ?_
      refine thenQ.normal ?_
      refine WC.seq ?_
      refine WC.region ?_
      refine WL.rd rfl rfl rfl (Rd.move rfl rfl) ?_
      refine WL.op rfl ?_
      refine OpW.call rfl rfl (by repeat (first | exact Evs.nil | apply Evs.cons rfl)) (by kernel_rfl) rfl rfl rfl ?_
      refine refNew_spec (fun _ => ?_) (fun n hn _ _ d V hv => by exfalso; omega)
      refine WL.rd rfl rfl rfl (Rd.assign rfl rfl) ?_
      refine WL.nil ?_
      refine thenQ.normal ?_
      refine WC.seq ?_
      refine WC.seq ?_
      refine WC.region ?_
      refine WL.rd rfl rfl rfl (Rd.move rfl rfl) ?_
      refine WL.rd rfl rfl rfl (Rd.eql rfl rfl rfl) ?_
      refine WL.rd rfl rfl rfl (Rd.move rfl rfl) ?_
      refine WL.rd rfl rfl rfl (Rd.pneqN rfl Try.underlying44 rfl rfl) ?_
      refine WL.rd rfl rfl rfl (Rd.bneq (b := false) (c' := false) rfl rfl rfl Try.underlying4) ?_
      refine WL.say 35 (u := .bool (decide False)) rfl (by simp) ?_
      refine WL.rd rfl rfl rfl (Rd.move rfl rfl) ?_
      refine WL.case 36 rfl (fun hg36 => ?_) (fun hg36 => ?_)
      · skip
        exact hg36.elim
      · skip
        refine WL.rd_yes rfl rfl rfl rfl rfl rfl (Rd.move rfl rfl) ?_
        refine WL.rd_yes rfl rfl rfl rfl rfl rfl (Rd.pneqN rfl Try.underlying25 rfl rfl) ?_
        refine WL.rd_yes rfl rfl rfl rfl rfl rfl (Rd.move rfl rfl) ?_
        refine WL.rd_yes rfl rfl rfl rfl rfl rfl (Rd.pneqN rfl Try.underlying44 rfl rfl) ?_
        refine WL.rd_yes rfl rfl rfl rfl rfl rfl (Rd.bneq (b := false) (c' := false) rfl rfl rfl Try.underlying4) ?_
        refine WL.say 41 (u := .bool (decide False)) rfl (by simp) ?_
        refine WL.rd rfl rfl rfl (Rd.pick_f rfl rfl rfl) ?_
        refine WL.rd rfl rfl rfl (Rd.move rfl rfl) ?_
        refine WL.case 43 rfl (fun hg43 => ?_) (fun hg43 => ?_)
        · skip
          exact hg43.elim
        · skip
          refine WL.rd_yes rfl rfl rfl rfl rfl rfl (Rd.move rfl rfl) ?_
          refine WL.rd_yes rfl rfl rfl rfl rfl rfl (Rd.neq rfl rfl rfl) ?_
          refine WL.rd_yes rfl rfl rfl rfl rfl rfl (Rd.move rfl rfl) ?_
          refine WL.case 46 rfl (fun hg46 => ?_) (fun hg46 => ?_)
          · skip
            refine WL.rd_yes rfl rfl rfl rfl rfl rfl (Rd.move rfl rfl) ?_
            refine WL.rd_yes rfl rfl rfl rfl rfl rfl (Rd.neq rfl rfl rfl) ?_
            refine WL.rd_yes rfl rfl rfl rfl rfl rfl (Rd.pick_t rfl rfl rfl) ?_
            refine WL.rd rfl rfl rfl (Rd.pick_f rfl rfl rfl) ?_
            refine WL.nil ?_
            refine thenQ.normal ?_
            first | refine WC.ite rfl (fun hc3 => ?_) (fun hc3 => ?_) | refine WC.cond rfl (fun hc3 => ?_) (fun hc3 => ?_)
            · skip
              exact absurd rfl hc3
            · skip
              refine WC.skip ?_
              refine thenQ.normal ?_
              refine WC.seq ?_
              refine WC.seq ?_
              refine WC.region ?_
              refine WL.rd rfl rfl rfl (Rd.move rfl rfl) ?_
              refine WL.rd rfl rfl rfl (Rd.peqN rfl Try.underlying44 rfl rfl) ?_
              refine WL.nil ?_
              refine thenQ.normal ?_
              first | refine WC.ite rfl (fun hc4 => ?_) (fun hc4 => ?_) | refine WC.cond rfl (fun hc4 => ?_) (fun hc4 => ?_)
              · skip
                refine WC.seq ?_
                refine WC.region ?_
                refine WL.rd rfl rfl rfl (Rd.assign rfl rfl) ?_
                refine WL.nil ?_
                refine thenQ.normal ?_
                -- ret_1
                refine WC.ret (Ret.one Try.results5 rfl ?_)
                exact hk
              · skip
                simp at hc4
          · skip
            exact absurd (by decide) hg46
set_option maxHeartbeats 4000000 in
set_option maxRecDepth 20000 in
theorem scripts_good {n : Int} {acts : List Act} {sv : Value} (hgood : 1 ≤ nOf n ∧ nOf n ≤ 4096) (hs : SlE encA sv acts ∈ R) (hq : AllQ QA acts ∈ R) (hk : POST (.bool true) R O) : Fun Try.prog 5 #[.int .i64 n, sv] R O POST := by
  have hland := land_le .i64 n 7
  refine Fun.enter (l := [_, _]) Try.func5 rfl Try.ntmps5 rfl (L0 := [(0, _), (1, _)]) rfl ?_
  refine WC.seq ?_
  refine WC.region ?_
  refine WL.rd rfl rfl rfl (Rd.assign rfl rfl) ?_
  refine WL.nil ?_
  refine thenQ.normal ?_
  refine WC.seq ?_
  refine WC.seq ?_
  refine WC.region ?_
  refine WL.op rfl ?_
  refine OpW.call rfl rfl (by repeat (first | exact Evs.nil | apply Evs.cons rfl)) (by kernel_rfl) rfl rfl rfl ?_
  refine speaks_spec ?_
  refine WL.say 13 (u := .bool (decide True)) rfl (by simp) ?_
  refine WL.rd rfl rfl rfl ((by first | exact Rd.notd rfl rfl | exact Rd.not rfl rfl)) ?_
  refine WL.nil ?_
  refine thenQ.normal ?_
  first | refine WC.ite rfl (fun hc1 => ?_) (fun hc1 => ?_) | refine WC.cond rfl (fun hc1 => ?_) (fun hc1 => ?_)
  · skip
    exact absurd trivial hc1
  · skip
    refine WC.skip ?_
    refine thenQ.normal ?_
    refine WC.cut (α := Unit) (fun _ => [(0, .int .i64 (nOf n)), (1, sv)]) (fun _ => R) (fun _ => O) (fun _ => True) ?_ ?_
    · skip
      refine WC.seq ?_
      refine WC.region ?_
      refine WL.rd rfl rfl rfl (Rd.move rfl rfl) ?_
      refine WL.rd rfl rfl rfl (Rd.gtr rfl rfl rfl) ?_
      refine WL.rd rfl rfl rfl (Rd.move rfl rfl) ?_
      refine WL.case 17 rfl (fun hg17 => ?_) (fun hg17 => ?_)
      · skip
        refine WL.rd_yes rfl rfl rfl rfl rfl rfl (Rd.move rfl rfl) ?_
        refine WL.rd_yes rfl rfl rfl rfl rfl rfl (Rd.leq rfl rfl rfl) ?_
        refine WL.rd rfl rfl rfl (Rd.pick_t rfl rfl rfl) ?_
        refine WL.nil ?_
        refine thenQ.normal ?_
        first | refine WC.ite rfl (fun hc2 => ?_) (fun hc2 => ?_) | refine WC.cond rfl (fun hc2 => ?_) (fun hc2 => ?_)
        · skip
          refine WC.region ?_
          refine WL.rd rfl rfl rfl (Rd.move rfl rfl) ?_
          refine WL.rd rfl rfl rfl (Rd.andm (m := 7) rfl rfl rfl rfl (by decide)) ?_
          refine WL.rd rfl rfl rfl (Rd.add rfl rfl rfl (by omega)) ?_
          refine WL.rd rfl rfl rfl (Rd.assign rfl rfl) ?_
          refine WL.nil ?_
          -- cut_c2 1
          have hn : nOf n = ((land .i64 n 7 : Nat) : Int) + 1 := if_pos ⟨by omega, by omega⟩
          simp only [hn]
          exact ⟨(), trivial, (by repeat (first | exact Sub.nil | refine Sub.cons rfl (by first | rfl | (congr 1; omega) | assumption) ?_)), (fun w h => OwnL.sat (by repeat (first | exact OwnL.refl | apply OwnL.take (by repeat (first | exact Take.head _ | apply Take.tail)) | apply OwnL.drop)) w (h.thin (SubL.mem (by repeat (first | exact SubL.refl | refine SubL.cons (by repeat (first | assumption | exact List.mem_cons_self | refine List.mem_cons_of_mem _ ?_)) ?_ | refine SubL.skip ?_)))))⟩
        · skip
          refine WC.skip ?_
          -- cut_c2 2
          have hn : nOf n = n := if_neg (by omega)
          simp only [hn]
          exact ⟨(), trivial, (by repeat (first | exact Sub.nil | refine Sub.cons rfl (by first | rfl | (congr 1; omega) | assumption) ?_)), (fun w h => OwnL.sat (by repeat (first | exact OwnL.refl | apply OwnL.take (by repeat (first | exact Take.head _ | apply Take.tail)) | apply OwnL.drop)) w (h.thin (SubL.mem (by repeat (first | exact SubL.refl | refine SubL.cons (by repeat (first | assumption | exact List.mem_cons_self | refine List.mem_cons_of_mem _ ?_)) ?_ | refine SubL.skip ?_)))))⟩
      · skip
        refine WL.no rfl rfl rfl rfl rfl rfl ?_
        refine WL.no rfl rfl rfl rfl rfl rfl ?_
        refine WL.rd rfl rfl rfl (Rd.pick_f rfl rfl rfl) ?_
        refine WL.nil ?_
        refine thenQ.normal ?_
        refine WC.no rfl ?_
        refine WC.skip ?_
        -- cut_c2 3
        have hn : nOf n = n := if_neg (by omega)
        simp only [hn]
        exact ⟨(), trivial, (by repeat (first | exact Sub.nil | refine Sub.cons rfl (by first | rfl | (congr 1; omega) | assumption) ?_)), (fun w h => OwnL.sat (by repeat (first | exact OwnL.refl | apply OwnL.take (by repeat (first | exact Take.head _ | apply Take.tail)) | apply OwnL.drop)) w (h.thin (SubL.mem (by repeat (first | exact SubL.refl | refine SubL.cons (by repeat (first | assumption | exact List.mem_cons_self | refine List.mem_cons_of_mem _ ?_)) ?_ | refine SubL.skip ?_)))))⟩
    · skip
      rintro _ -
      refine WC.seq ?_
      refine WC.region ?_
      refine WL.rd rfl rfl rfl (Rd.move rfl rfl) ?_
      refine WL.op rfl ?_
      refine OpW.call rfl rfl (by repeat (first | exact Evs.nil | apply Evs.cons rfl)) (by kernel_rfl) rfl rfl rfl ?_
      refine new_spec (fun _ => by exfalso; omega) (fun N hN hN1 hN2 d V hv => ?_)
      refine WL.rd rfl rfl rfl (Rd.move rfl rfl) ?_
      refine WL.rd rfl rfl rfl (Rd.extract rfl rfl rfl) ?_
      refine WL.rd rfl rfl rfl (Rd.extract rfl rfl rfl) ?_
      refine WL.rd rfl rfl rfl (Rd.assign rfl rfl) ?_
      refine WL.rd rfl rfl rfl (Rd.assign rfl rfl) ?_
      refine WL.nil ?_
      refine thenQ.normal ?_
      refine WC.seq ?_
      refine WC.region ?_
      refine WL.rd rfl rfl rfl (Rd.move rfl rfl) ?_
      refine WL.op rfl ?_
      refine OpW.call rfl rfl (by repeat (first | exact Evs.nil | apply Evs.cons rfl)) (by kernel_rfl) rfl rfl rfl ?_
      refine refNew_spec (fun _ => by exfalso; omega) (fun N' hN' _ _ w V2 hr => ?_); obtain rfl : N' = N := by omega
      refine WL.rd rfl rfl rfl (Rd.assign rfl rfl) ?_
      refine WL.nil ?_
      refine thenQ.normal ?_
      refine WC.seq ?_
      refine WC.seq ?_
      refine WC.region ?_
      refine WL.rd rfl rfl rfl (Rd.move rfl rfl) ?_
      refine WL.rd rfl rfl rfl (Rd.eql rfl rfl rfl) ?_
      refine WL.say 32 (u := .bool true) rfl (by simp) ?_
      refine WL.rd rfl rfl rfl (Rd.move rfl rfl) ?_
      refine WL.rd rfl rfl rfl (Rd.pneqN rfl Try.underlying44 rfl rfl) ?_
      refine WL.rd rfl rfl rfl (Rd.bneq (b := true) (c' := true) rfl rfl rfl Try.underlying4) ?_
      refine WL.say 35 (u := .bool (decide False)) rfl (by simp) ?_
      refine WL.rd rfl rfl rfl (Rd.move rfl rfl) ?_
      refine WL.case 36 rfl (fun hg36 => ?_) (fun hg36 => ?_)
      · skip
        exact hg36.elim
      · skip
        refine WL.rd_yes rfl rfl rfl rfl rfl rfl (Rd.move rfl rfl) ?_
        refine WL.rd_yes rfl rfl rfl rfl rfl rfl (Rd.pneqN rfl Try.underlying25 rfl rfl) ?_
        refine WL.rd_yes rfl rfl rfl rfl rfl rfl (Rd.move rfl rfl) ?_
        refine WL.rd_yes rfl rfl rfl rfl rfl rfl (Rd.pneqN rfl Try.underlying44 rfl rfl) ?_
        refine WL.rd_yes rfl rfl rfl rfl rfl rfl (Rd.bneq (b := true) (c' := true) rfl rfl rfl Try.underlying4) ?_
        refine WL.say 41 (u := .bool (decide False)) rfl (by simp) ?_
        refine WL.rd rfl rfl rfl (Rd.pick_f rfl rfl rfl) ?_
        refine WL.rd rfl rfl rfl (Rd.move rfl rfl) ?_
        refine WL.case 43 rfl (fun hg43 => ?_) (fun hg43 => ?_)
        · skip
          exact hg43.elim
        · skip
          refine WL.rd_yes rfl rfl rfl rfl rfl rfl (Rd.move rfl rfl) ?_
          refine WL.rd_yes rfl rfl rfl rfl rfl rfl (Rd.neq rfl rfl rfl) ?_
          refine WL.rd_yes rfl rfl rfl rfl rfl rfl (Rd.move rfl rfl) ?_
          refine WL.case 46 rfl (fun hg46 => ?_) (fun hg46 => ?_)
          · skip
            exact absurd rfl hg46
          · skip
            refine WL.no rfl rfl rfl rfl rfl rfl ?_
            refine WL.no rfl rfl rfl rfl rfl rfl ?_
            refine WL.rd_yes rfl rfl rfl rfl rfl rfl (Rd.pick_f rfl rfl rfl) ?_
            refine WL.rd rfl rfl rfl (Rd.pick_f rfl rfl rfl) ?_
            refine WL.nil ?_
            refine thenQ.normal ?_
            refine WC.no rfl ?_
            refine WC.skip ?_
            refine thenQ.normal ?_
            refine WC.seq ?_
            refine WC.seq ?_
            refine WC.region ?_
            refine WL.rd rfl rfl rfl (Rd.move rfl rfl) ?_
            refine WL.rd rfl rfl rfl (Rd.peqN rfl Try.underlying44 rfl rfl) ?_
            refine WL.nil ?_
            refine thenQ.normal ?_
            first | refine WC.ite rfl (fun hc4 => ?_) (fun hc4 => ?_) | refine WC.cond rfl (fun hc4 => ?_) (fun hc4 => ?_)
            · skip
              simp at hc4
            · skip
              refine WC.skip ?_
              refine thenQ.normal ?_
              refine WC.seq ?_
              refine WC.seq ?_
              refine WC.region ?_
              refine WL.rd rfl rfl rfl (Rd.assign rfl rfl) ?_
              refine WL.nil ?_
              refine thenQ.normal ?_
              refine WC.block ?_
              refine WC.pick [8, 1, 5, 7] (by repeat (first | exact Pick.nil | apply Pick.cons rfl)) ?_
              refine WC.loop4r 1 (fun (i : Nat) (s : DSt) (V : DV) (V2 : DV) => [(8, .int .i64 (i : Int))]) (fun (i : Nat) (s : DSt) (V : DV) (V2 : DV) => SlE (one vi) V.kv s.keep :: SlE (one vi) V2.kv s.keep :: R) (fun (i : Nat) (s : DSt) (V : DV) (V2 : DV) => dO d V s (rO w V2 s O)) (fun (i : Nat) (s : DSt) (V : DV) (V2 : DV) => i ≤ 60 ∧ DOk s i ∧ VOk V s ∧ ROk V2) (fun (i : Nat) (s : DSt) (V : DV) (V2 : DV) => 60 - i) (0) (newS N') (V) (V2) (by repeat (first | exact Split.zero | apply Split.succ)) ?hinv1 (by repeat (first | exact Sub.nil | refine Sub.cons rfl (by first | rfl | (congr 1; omega) | assumption) ?_)) (fun w h => by exact (fun w h => OwnL.sat (by repeat (first | exact OwnL.refl | apply OwnL.take (by repeat (first | exact Take.head _ | apply Take.tail)) | apply OwnL.drop)) w (h.thin (SubL.mem (by repeat (first | exact SubL.refl | refine SubL.cons (by repeat (first | assumption | exact List.mem_cons_self | refine List.mem_cons_of_mem _ ?_)) ?_ | refine SubL.skip ?_))))) w h) ?_
              case hinv1 =>
                exact ⟨Nat.zero_le _, DOk.new (by omega), hv, hr⟩
              intro i s V V2
              rintro ⟨i1, ok, hv, hr⟩
              refine WC.seq ?_
              refine WC.seq ?_
              refine WC.region ?_
              refine WL.rd rfl rfl rfl (Rd.move rfl rfl) ?_
              refine WL.rd rfl rfl rfl (Rd.move rfl rfl) ?_
              refine WL.rd rfl rfl rfl ((by first | exact Rd.lenE rfl rfl Try.underlying22 (by repeat (first | assumption | exact List.mem_cons_self | refine List.mem_cons_of_mem _ ?_)) | exact Rd.lenA rfl rfl Try.underlying22 (by repeat (first | assumption | exact List.mem_cons_self | refine List.mem_cons_of_mem _ ?_)) | exact Rd.len rfl rfl Try.underlying22)) ?_
              refine WL.rd rfl rfl rfl (Rd.lss rfl rfl rfl) ?_
              refine WL.rd rfl rfl rfl (Rd.move rfl rfl) ?_
              refine WL.case 57 rfl (fun hg57 => ?_) (fun hg57 => ?_)
              · skip
                refine WL.rd_yes rfl rfl rfl rfl rfl rfl (Rd.move rfl rfl) ?_
                refine WL.rd_yes rfl rfl rfl rfl rfl rfl (Rd.lss rfl rfl rfl) ?_
                refine WL.rd rfl rfl rfl (Rd.pick_t rfl rfl rfl) ?_
                refine WL.nil ?_
                refine thenQ.normal ?_
                first | refine WC.ite rfl (fun hc5 => ?_) (fun hc5 => ?_) | refine WC.cond rfl (fun hc5 => ?_) (fun hc5 => ?_)
                · skip
                  refine WC.skip ?_
                  refine thenQ.normal ?_
                  refine WC.seq ?_
                  refine WC.block ?_
                  refine WC.seq ?_
                  have hil : i < acts.length := by omega
                  refine WC.know (p := AllQ QA acts) (by repeat (first | assumption | exact List.mem_cons_self | refine List.mem_cons_of_mem _ ?_)) (fun w h => act_len hil h) fun hal => ?_
                  refine WC.heap (fun w h => h.derive (q := SlE (one vi) acts[i]!.2.2.2.1 acts[i]!.2.2.2.2) (fun w hR => act_keep hil (hR (AllQ QA acts) (by repeat (first | assumption | exact List.mem_cons_self | refine List.mem_cons_of_mem _ ?_))))) ?_
                  obtain ⟨a, ha⟩ : ∃ a, a = acts[i]! := ⟨_, rfl⟩
                  rw [← ha] at hal ⊢
                  obtain ⟨aw, ai, ad, av, ak⟩ := a
                  have hal1 : ai ≤ 9223372036854775807 := hal.2
                  have hal2 : ak.length ≤ 17592186043904 := hal.1
                  refine WC.know (p := SlE (one vi) av ak) (by repeat (first | assumption | exact List.mem_cons_self | refine List.mem_cons_of_mem _ ?_)) (fun w h => h.oneV) fun hav => ?_
                  refine WC.region ?_
                  refine WL.rd rfl rfl rfl (Rd.move rfl rfl) ?_
                  refine WL.rd rfl rfl rfl (Rd.move rfl rfl) ?_
                  refine WL.rd rfl rfl rfl (Rd.idx (k := i) rfl S22 rfl rfl rfl (enc := encA) (xs := acts) (by repeat (first | assumption | exact List.mem_cons_self | refine List.mem_cons_of_mem _ ?_)) (by omega)) ?_
                  refine WL.rd rfl rfl rfl (Rd.getS (k := i) (a := (aw, ai, ad, av, ak)) (cs := [.int .i64 aw, .int .i64 ai, vs ad, av]) (enc := encA) (xs := acts) rfl G31 rfl (by repeat (first | assumption | exact List.mem_cons_self | refine List.mem_cons_of_mem _ ?_)) (fun _ => rfl) (by rw [ha]; exact get!_of_lt (by omega)) (by repeat (first | exact NF.nil | apply NF.cons))) ?_
                  refine WL.op rfl ?_
                  refine OpW.alloc rfl I31 rfl (by repeat (first | exact NF.nil | apply NF.cons)) rfl rfl ?_; intro b9
                  refine WL.op rfl ?_
                  refine OpW.storeS rfl G31 rfl rfl (by repeat (first | exact NF.nil | apply NF.cons)) (by repeat (first | assumption | exact Take.head _ | apply Take.tail)) rfl rfl (by repeat (first | exact NF.nil | apply NF.cons)) rfl (h1 := by have := hav.one; simp only [List.all_cons, List.all_nil, this]; rfl) ?_
                  refine WL.nil ?_
                  refine thenQ.normal ?_
                  refine WC.cut (α := Unit) (fun _ => [(1, sv), (5, dp d), (7, dp w), (8, .int .i64 (i : Int)), (9, dp b9)]) (fun _ => SlE (one vi) av ak :: SlE (one vi) V.kv s.keep :: SlE (one vi) V2.kv s.keep :: R) (fun _ => rowC b9 31 [.int .i64 aw, .int .i64 ai, vs (dataOf ad), av] :: dO d V s (rO w V2 s O)) (fun _ => True) ?_ ?_
                  · skip
                    refine WC.seq ?_
                    refine WC.region ?_
                    refine WL.rd rfl rfl rfl ((by first | exact Rd.field rfl F31_2 rfl rfl | exact Rd.fieldE rfl F31_2 rfl (by repeat (first | assumption | exact List.mem_cons_self | refine List.mem_cons_of_mem _ ?_)) (by omega) | exact Rd.fieldA rfl F31_2 rfl (by repeat (first | assumption | exact List.mem_cons_self | refine List.mem_cons_of_mem _ ?_)) (by omega))) ?_
                    refine WL.rd rfl rfl rfl (Rd.row1 (off := 2) (u := vs ad) rfl C9 rfl (by repeat (first | assumption | exact List.mem_cons_self | refine List.mem_cons_of_mem _ ?_)) rfl) ?_
                    refine WL.rd rfl rfl rfl (Rd.slen (ts := #[]) (ty := 0) rfl rfl Try.underlying9) ?_
                    refine WL.rd rfl rfl rfl (Rd.gtr rfl rfl rfl) ?_
                    refine WL.nil ?_
                    refine thenQ.normal ?_
                    first | refine WC.ite rfl (fun hc6 => ?_) (fun hc6 => ?_) | refine WC.cond rfl (fun hc6 => ?_) (fun hc6 => ?_)
                    · skip
                      refine WC.region ?_
                      refine WL.rd rfl rfl rfl ((by first | exact Rd.field rfl F31_2 rfl rfl | exact Rd.fieldE rfl F31_2 rfl (by repeat (first | assumption | exact List.mem_cons_self | refine List.mem_cons_of_mem _ ?_)) (by omega) | exact Rd.fieldA rfl F31_2 rfl (by repeat (first | assumption | exact List.mem_cons_self | refine List.mem_cons_of_mem _ ?_)) (by omega))) ?_
                      refine WL.rd rfl rfl rfl (Rd.row1 (off := 2) (u := vs ad) rfl C9 rfl (by repeat (first | assumption | exact List.mem_cons_self | refine List.mem_cons_of_mem _ ?_)) rfl) ?_
                      refine WL.rd rfl rfl rfl (Rd.scut_h (hi := 513) rfl Try.underlying9 rfl rfl rfl (by omega)) ?_
                      refine WL.rd rfl rfl rfl ((by first | exact Rd.field rfl F31_2 rfl rfl | exact Rd.fieldE rfl F31_2 rfl (by repeat (first | assumption | exact List.mem_cons_self | refine List.mem_cons_of_mem _ ?_)) (by omega) | exact Rd.fieldA rfl F31_2 rfl (by repeat (first | assumption | exact List.mem_cons_self | refine List.mem_cons_of_mem _ ?_)) (by omega))) ?_
                      refine WL.op rfl ?_
                      refine OpW.store1 rfl Z9 rfl rfl (by first | exact ⟨rfl, rfl⟩ | assumption) (by repeat (first | assumption | exact Take.head _ | apply Take.tail)) (by first | (simp; done) | omega | exact of_decide_eq_true rfl | (simp only [List.length_append, List.length_replicate, List.length_map, List.length_set]; omega)) rfl ?_
                      refine WL.nil ?_
                      -- kut_c6 1
                      exact ⟨(), trivial, (by repeat (first | exact Sub.nil | refine Sub.cons rfl (by first | rfl | (congr 1; omega) | assumption) ?_)), fun w h => by unfold dataOf; rw [if_pos (by omega)]; exact (fun w h => OwnL.sat (by repeat (first | exact OwnL.refl | apply OwnL.take (by repeat (first | exact Take.head _ | apply Take.tail)) | apply OwnL.drop)) w (h.thin (SubL.mem (by repeat (first | exact SubL.refl | refine SubL.cons (by repeat (first | assumption | exact List.mem_cons_self | refine List.mem_cons_of_mem _ ?_)) ?_ | refine SubL.skip ?_))))) w h⟩
                    · skip
                      refine WC.skip ?_
                      -- kut_c6 2
                      exact ⟨(), trivial, (by repeat (first | exact Sub.nil | refine Sub.cons rfl (by first | rfl | (congr 1; omega) | assumption) ?_)), fun w h => by unfold dataOf; rw [if_neg (by omega)]; exact (fun w h => OwnL.sat (by repeat (first | exact OwnL.refl | apply OwnL.take (by repeat (first | exact Take.head _ | apply Take.tail)) | apply OwnL.drop)) w (h.thin (SubL.mem (by repeat (first | exact SubL.refl | refine SubL.cons (by repeat (first | assumption | exact List.mem_cons_self | refine List.mem_cons_of_mem _ ?_)) ?_ | refine SubL.skip ?_))))) w h⟩
                  · skip
                    rintro _ -
                    refine WC.seq ?_
                    refine WC.region ?_
                    refine WL.op rfl ?_
                    refine OpW.buildSl (ps := []) rfl S23 (by repeat (first | exact Evs.nil | apply Evs.cons rfl)) rfl rfl (by repeat (first | exact CellsOf.nil | apply CellsOf.cons rfl)) (by kernel_rfl) rfl rfl rfl ?_; intro b75
                    refine WL.heap (fun w h => Sat.accRow (α := Int) (b := b75) (enc := one vi) (xs := []) (by repeat (first | assumption | exact Take.head _ | apply Take.tail)) rfl rfl (fun _ => rfl) (Nat.zero_le _) h) ?_
                    refine WL.rd rfl rfl rfl ((by first | exact Rd.field rfl F31_3 rfl rfl | exact Rd.fieldE rfl F31_3 rfl (by repeat (first | assumption | exact List.mem_cons_self | refine List.mem_cons_of_mem _ ?_)) (by omega) | exact Rd.fieldA rfl F31_3 rfl (by repeat (first | assumption | exact List.mem_cons_self | refine List.mem_cons_of_mem _ ?_)) (by omega))) ?_
                    refine WL.rd rfl rfl rfl (Rd.row1 (off := 3) (u := av) rfl C23 rfl (by repeat (first | assumption | exact List.mem_cons_self | refine List.mem_cons_of_mem _ ?_)) rfl) ?_
                    refine WL.op rfl ?_
                    refine OpW.appendE (enc := one vi) (ys := ak) (xs := []) rfl S23 Try.underlying23 rfl rfl (by repeat (first | assumption | exact Take.head _ | apply Take.tail)) (by repeat (first | assumption | exact List.mem_cons_self | refine List.mem_cons_of_mem _ ?_)) (by intro x; first | rfl | (cases x; rfl) | (rcases x with ⟨_, _, _⟩; rfl) | (rcases x with ⟨_, _, _, _⟩; rfl)) (by intro x; first | rfl | (cases x; rfl) | (rcases x with ⟨_, _, _⟩; rfl) | (rcases x with ⟨_, _, _, _⟩; rfl)) ⟨by simp only [maxLen, List.length_append, List.length_nil, List.length_cons, List.length_drop, List.length_take, List.length_map]; omega, by first | omega | (simp only [List.length_append, List.length_nil, List.length_cons, List.length_drop, List.length_take, List.length_map]; omega)⟩ rfl rfl ?_; intro v78 hv78
                    rw [List.nil_append]
                    refine WL.heap (fun w h => Sat.shareA (xs := ak) (by repeat (first | assumption | exact Take.head _ | apply Take.tail)) h) ?_
                    refine WL.rd rfl rfl rfl (Rd.assign rfl rfl) ?_
                    refine WL.nil ?_
                    refine thenQ.normal ?_
                    refine WC.seq ?_
                    refine WC.region ?_
                    refine WL.rd rfl rfl rfl (Rd.assign rfl rfl) ?_
                    refine WL.rd rfl rfl rfl (Rd.assign rfl rfl) ?_
                    refine WL.nil ?_
                    refine thenQ.normal ?_
                    refine WC.cut (α := DSt × DV × DV × Int) (fun x => [(1, sv), (5, dp d), (7, dp w), (8, .int .i64 (i : Int)), (11, .int .i64 x.2.2.2), (12, .int .i64 x.2.2.2)]) (fun x => SlE (one vi) x.2.1.kv x.1.keep :: SlE (one vi) x.2.2.1.kv x.1.keep :: R) (fun x => dO d x.2.1 x.1 (rO w x.2.2.1 x.1 O)) (fun x => DOk x.1 (i + 1) ∧ VOk x.2.1 x.1 ∧ ROk x.2.2.1) ?_ ?_
                    · skip
                      refine WC.seq ?_
                      refine WC.region ?_
                      refine WL.rd rfl rfl rfl ((by first | exact Rd.field rfl F31_0 rfl rfl | exact Rd.fieldE rfl F31_0 rfl (by repeat (first | assumption | exact List.mem_cons_self | refine List.mem_cons_of_mem _ ?_)) (by omega) | exact Rd.fieldA rfl F31_0 rfl (by repeat (first | assumption | exact List.mem_cons_self | refine List.mem_cons_of_mem _ ?_)) (by omega))) ?_
                      refine WL.rd rfl rfl rfl (Rd.row1 (off := 0) (u := .int .i64 aw) rfl C3 rfl (by repeat (first | assumption | exact List.mem_cons_self | refine List.mem_cons_of_mem _ ?_)) rfl) ?_
                      refine WL.rd rfl rfl rfl (Rd.remI (b := 10) rfl rfl rfl rfl (by decide)) ?_
                      have ht := tmod10 aw
                      refine WL.rd rfl rfl rfl (Rd.add rfl rfl rfl (by show -9223372036854775808 ≤ aw.tmod 10 + 10 ∧ aw.tmod 10 + 10 ≤ 9223372036854775807; omega)) ?_
                      refine WL.rd rfl rfl rfl (Rd.remI (b := 10) rfl rfl rfl rfl (by decide)) ?_
                      refine WL.nil ?_
                      refine thenQ.normal ?_
                      refine WC.block ?_
                      refine WC.seq ?_
                      refine WC.region ?_
                      refine WL.rd rfl rfl rfl (Rd.eql rfl rfl rfl) ?_
                      refine WL.rd rfl rfl rfl (Rd.assign rfl rfl) ?_
                      refine WL.nil ?_
                      refine thenQ.normal ?_
                      first | refine WC.ite rfl (fun hc7 => ?_) (fun hc7 => ?_) | refine WC.cond rfl (fun hc7 => ?_) (fun hc7 => ?_)
                      · skip
                        refine WC.region ?_
                        refine WL.rd rfl rfl rfl (Rd.move rfl rfl) ?_
                        refine WL.op rfl ?_
                        refine OpW.call rfl rfl (by repeat (first | exact Evs.nil | apply Evs.cons rfl)) (by kernel_rfl) rfl rfl rfl ?_
                        refine Fun.heap (R' := SlE (one vi) V.kv s.keep :: SlE (one vi) V2.kv s.keep :: R) (O' := dO d V s (rO w V2 s O)) (fun w h => OwnL.sat (by repeat (first | exact OwnL.refl | apply OwnL.take (by repeat (first | exact Take.head _ | apply Take.tail)) | apply OwnL.drop)) w (h.thin (SubL.mem (by repeat (first | exact SubL.refl | refine SubL.cons (by repeat (first | assumption | exact List.mem_cons_self | refine List.mem_cons_of_mem _ ?_)) ?_ | refine SubL.skip ?_))))) ?_
                        refine sync_spec ok (by omega) hv (by repeat (first | assumption | exact List.mem_cons_self | refine List.mem_cons_of_mem _ ?_)) ?_; intro V' hv' hkv'
                        refine WL.rd rfl rfl rfl (Rd.move rfl rfl) ?_
                        refine WL.op rfl ?_
                        refine OpW.call rfl rfl (by repeat (first | exact Evs.nil | apply Evs.cons rfl)) (by kernel_rfl) rfl rfl rfl ?_
                        refine Fun.heap (O' := rO w V2 s (dO d V' (syncS s) O)) (fun w h => OwnL.sat (by repeat (first | exact OwnL.refl | apply OwnL.take (by repeat (first | exact Take.head _ | apply Take.tail)) | apply OwnL.drop)) w (h.thin (SubL.mem (by repeat (first | exact SubL.refl | refine SubL.cons (by repeat (first | assumption | exact List.mem_cons_self | refine List.mem_cons_of_mem _ ?_)) ?_ | refine SubL.skip ?_))))) ?_
                        refine refSync_spec ok (by omega) hr (by repeat (first | assumption | exact List.mem_cons_self | refine List.mem_cons_of_mem _ ?_)) ?_; intro V2' hr' hkv2'
                        refine WL.rd rfl rfl rfl (Rd.assign rfl rfl) ?_
                        refine WL.rd rfl rfl rfl (Rd.assign rfl rfl) ?_
                        refine WL.nil ?_
                        refine blockQ.normal ?_
                        -- kut_c7 1
                        exact ⟨(syncS s, V', V2', (stepE s : Nat)), ⟨ok.sync, hv', hr'⟩, (by repeat (first | exact Sub.nil | refine Sub.cons rfl (by first | rfl | (congr 1; omega) | assumption) ?_)), fun w h => by simp only [hkv', hkv2', sync_keep]; exact (fun w h => OwnL.sat (by repeat (first | exact OwnL.refl | apply OwnL.take (by repeat (first | exact Take.head _ | apply Take.tail)) | apply OwnL.drop)) w (h.thin (SubL.mem (by repeat (first | exact SubL.refl | refine SubL.cons (by repeat (first | assumption | exact List.mem_cons_self | refine List.mem_cons_of_mem _ ?_)) ?_ | refine SubL.skip ?_))))) w h⟩
                      · skip
                        refine WC.seq ?_
                        refine WC.region ?_
                        refine WL.rd rfl rfl rfl (Rd.eql rfl rfl rfl) ?_
                        refine WL.rd rfl rfl rfl (Rd.assign rfl rfl) ?_
                        refine WL.nil ?_
                        refine thenQ.normal ?_
                        first | refine WC.ite rfl (fun hc8 => ?_) (fun hc8 => ?_) | refine WC.cond rfl (fun hc8 => ?_) (fun hc8 => ?_)
                        · skip
                          refine WC.skip ?_
                          refine blockQ.normal ?_
                          -- kut_c7 2
                          exact ⟨(s, V, V2, 0), ⟨ok.mono (by omega), hv, hr⟩, (by repeat (first | exact Sub.nil | refine Sub.cons rfl (by first | rfl | (congr 1; omega) | assumption) ?_)), (fun w h => OwnL.sat (by repeat (first | exact OwnL.refl | apply OwnL.take (by repeat (first | exact Take.head _ | apply Take.tail)) | apply OwnL.drop)) w (h.thin (SubL.mem (by repeat (first | exact SubL.refl | refine SubL.cons (by repeat (first | assumption | exact List.mem_cons_self | refine List.mem_cons_of_mem _ ?_)) ?_ | refine SubL.skip ?_)))))⟩
                        · skip
                          refine WC.seq ?_
                          refine WC.region ?_
                          refine WL.rd rfl rfl rfl (Rd.eql rfl rfl rfl) ?_
                          refine WL.rd rfl rfl rfl (Rd.assign rfl rfl) ?_
                          refine WL.nil ?_
                          refine thenQ.normal ?_
                          first | refine WC.ite rfl (fun hc9 => ?_) (fun hc9 => ?_) | refine WC.cond rfl (fun hc9 => ?_) (fun hc9 => ?_)
                          · skip
                            refine WC.seq ?_
                            refine WC.region ?_
                            refine WL.rd rfl rfl rfl (Rd.move rfl rfl) ?_
                            refine WL.rd rfl rfl rfl ((by first | exact Rd.field rfl F31_1 rfl rfl | exact Rd.fieldE rfl F31_1 rfl (by repeat (first | assumption | exact List.mem_cons_self | refine List.mem_cons_of_mem _ ?_)) (by omega) | exact Rd.fieldA rfl F31_1 rfl (by repeat (first | assumption | exact List.mem_cons_self | refine List.mem_cons_of_mem _ ?_)) (by omega))) ?_
                            refine WL.rd rfl rfl rfl (Rd.row1 (off := 1) (u := .int .i64 ai) rfl C3 rfl (by repeat (first | assumption | exact List.mem_cons_self | refine List.mem_cons_of_mem _ ?_)) rfl) ?_
                            refine WL.rd rfl rfl rfl (Rd.move rfl rfl) ?_
                            refine WL.op rfl ?_
                            refine OpW.call rfl rfl (by repeat (first | exact Evs.nil | apply Evs.cons rfl)) (by kernel_rfl) rfl rfl rfl ?_
                            refine Fun.heap (O' := dO d V s (rO w V2 s (rowC b9 31 [.int .i64 aw, .int .i64 ai, vs (dataOf ad), av] :: O))) (fun w h => OwnL.sat (by repeat (first | exact OwnL.refl | apply OwnL.take (by repeat (first | exact Take.head _ | apply Take.tail)) | apply OwnL.drop)) w (h.thin (SubL.mem (by repeat (first | exact SubL.refl | refine SubL.cons (by repeat (first | assumption | exact List.mem_cons_self | refine List.mem_cons_of_mem _ ?_)) ?_ | refine SubL.skip ?_))))) ?_
                            refine cut_spec (keep := ak) hv (by repeat (first | assumption | exact List.mem_cons_self | refine List.mem_cons_of_mem _ ?_)) hal2 ?_; intro V' hv'
                            refine WL.nil ?_
                            refine thenQ.normal ?_
                            refine WC.drawn (rowC b9 31 [.int .i64 aw, .int .i64 ai, vs (dataOf ad), av] :: O) 13 rfl mixed ?_
                            refine WD.take 0 rfl (by kernel_rfl) (Held.mk' (by repeat (first | exact SubL.refl | refine SubL.cons (by repeat (first | assumption | exact List.mem_cons_self | refine List.mem_cons_of_mem _ ?_)) ?_ | refine SubL.skip ?_)) (by repeat (first | exact OwnL.refl | apply OwnL.take (by repeat (first | exact Take.head _ | apply Take.tail)) | apply OwnL.drop))) rfl rfl rfl (Rd.move rfl rfl) ?_
                            refine WD.take 1 rfl (by kernel_rfl) (Held.mk' (by repeat (first | exact SubL.refl | refine SubL.cons (by repeat (first | assumption | exact List.mem_cons_self | refine List.mem_cons_of_mem _ ?_)) ?_ | refine SubL.skip ?_)) (by repeat (first | exact OwnL.refl | apply OwnL.take (by repeat (first | exact Take.head _ | apply Take.tail)) | apply OwnL.drop))) rfl rfl rfl (Rd.move rfl rfl) ?_
                            refine WD.take 2 rfl (by kernel_rfl) (Held.mk' (by repeat (first | exact SubL.refl | refine SubL.cons (by repeat (first | assumption | exact List.mem_cons_self | refine List.mem_cons_of_mem _ ?_)) ?_ | refine SubL.skip ?_)) (by repeat (first | exact OwnL.refl | apply OwnL.take (by repeat (first | exact Take.head _ | apply Take.tail)) | apply OwnL.drop))) rfl rfl rfl ((by first | exact Rd.field rfl F31_1 rfl rfl | exact Rd.fieldE rfl F31_1 rfl (by repeat (first | assumption | exact List.mem_cons_self | refine List.mem_cons_of_mem _ ?_)) (by omega) | exact Rd.fieldA rfl F31_1 rfl (by repeat (first | assumption | exact List.mem_cons_self | refine List.mem_cons_of_mem _ ?_)) (by omega))) ?_
                            refine WD.take 3 rfl (by kernel_rfl) (Held.mk' (by repeat (first | exact SubL.refl | refine SubL.cons (by repeat (first | assumption | exact List.mem_cons_self | refine List.mem_cons_of_mem _ ?_)) ?_ | refine SubL.skip ?_)) (by repeat (first | exact OwnL.refl | apply OwnL.take (by repeat (first | exact Take.head _ | apply Take.tail)) | apply OwnL.drop))) rfl rfl rfl (Rd.row1 (off := 1) (u := .int .i64 ai) rfl C3 rfl (by repeat (first | assumption | exact List.mem_cons_self | refine List.mem_cons_of_mem _ ?_)) rfl) ?_
                            refine WD.take 4 rfl (by kernel_rfl) (Held.mk' (by repeat (first | exact SubL.refl | refine SubL.cons (by repeat (first | assumption | exact List.mem_cons_self | refine List.mem_cons_of_mem _ ?_)) ?_ | refine SubL.skip ?_)) (by repeat (first | exact OwnL.refl | apply OwnL.take (by repeat (first | exact Take.head _ | apply Take.tail)) | apply OwnL.drop))) rfl rfl rfl (Rd.max2 rfl rfl rfl) ?_
                            refine WD.say 115 (u := .int .i64 (((max ai 1).toNat : Nat) : Int)) rfl (by congr 1; split <;> omega) ?_
                            refine WD.take 5 rfl (by kernel_rfl) (Held.mk' (by repeat (first | exact SubL.refl | refine SubL.cons (by repeat (first | assumption | exact List.mem_cons_self | refine List.mem_cons_of_mem _ ?_)) ?_ | refine SubL.skip ?_)) (by repeat (first | exact OwnL.refl | apply OwnL.take (by repeat (first | exact Take.head _ | apply Take.tail)) | apply OwnL.drop))) rfl rfl rfl ((by first | exact Rd.field rfl F31_3 rfl rfl | exact Rd.fieldE rfl F31_3 rfl (by repeat (first | assumption | exact List.mem_cons_self | refine List.mem_cons_of_mem _ ?_)) (by omega) | exact Rd.fieldA rfl F31_3 rfl (by repeat (first | assumption | exact List.mem_cons_self | refine List.mem_cons_of_mem _ ?_)) (by omega))) ?_
                            refine WD.take 6 rfl (by kernel_rfl) (Held.mk' (by repeat (first | exact SubL.refl | refine SubL.cons (by repeat (first | assumption | exact List.mem_cons_self | refine List.mem_cons_of_mem _ ?_)) ?_ | refine SubL.skip ?_)) (by repeat (first | exact OwnL.refl | apply OwnL.take (by repeat (first | exact Take.head _ | apply Take.tail)) | apply OwnL.drop))) rfl rfl rfl (Rd.row1 (off := 3) (u := av) rfl C23 rfl (by repeat (first | assumption | exact List.mem_cons_self | refine List.mem_cons_of_mem _ ?_)) rfl) ?_
                            refine WD.take 7 rfl (by kernel_rfl) (Held.mk' (by repeat (first | exact SubL.refl | refine SubL.cons (by repeat (first | assumption | exact List.mem_cons_self | refine List.mem_cons_of_mem _ ?_)) ?_ | refine SubL.skip ?_)) (by repeat (first | exact OwnL.refl | apply OwnL.take (by repeat (first | exact Take.head _ | apply Take.tail)) | apply OwnL.drop))) rfl rfl rfl (Rd.nilc rfl rfl) ?_
                            refine WD.take 8 rfl (by kernel_rfl) (Held.mk' (by repeat (first | exact SubL.refl | refine SubL.cons (by repeat (first | assumption | exact List.mem_cons_self | refine List.mem_cons_of_mem _ ?_)) ?_ | refine SubL.skip ?_)) (by repeat (first | exact OwnL.refl | apply OwnL.take (by repeat (first | exact Take.head _ | apply Take.tail)) | apply OwnL.drop))) rfl rfl rfl (Rd.field rfl F50_2 rfl rfl) ?_
                            refine WD.one 9 rfl (by kernel_rfl) rfl ?_
                            refine OpW.store1 rfl Z3 rfl rfl (by first | exact ⟨rfl, rfl⟩ | assumption) (by repeat (first | assumption | exact Take.head _ | apply Take.tail)) (by first | (simp; done) | omega | exact of_decide_eq_true rfl | (simp only [List.length_append, List.length_replicate, List.length_map, List.length_set]; omega)) rfl ?_
                            refine ⟨(Held.mk' (by repeat (first | exact SubL.refl | refine SubL.cons (by repeat (first | assumption | exact List.mem_cons_self | refine List.mem_cons_of_mem _ ?_)) ?_ | refine SubL.skip ?_)) (by repeat (first | exact OwnL.refl | apply OwnL.take (by repeat (first | exact Take.head _ | apply Take.tail)) | apply OwnL.drop))), ?_⟩
                            refine WD.take 10 rfl (by kernel_rfl) (Held.mk' (by repeat (first | exact SubL.refl | refine SubL.cons (by repeat (first | assumption | exact List.mem_cons_self | refine List.mem_cons_of_mem _ ?_)) ?_ | refine SubL.skip ?_)) (by repeat (first | exact OwnL.refl | apply OwnL.take (by repeat (first | exact Take.head _ | apply Take.tail)) | apply OwnL.drop))) rfl rfl rfl (Rd.nilc rfl rfl) ?_
                            refine WD.take 11 rfl (by kernel_rfl) (Held.mk' (by repeat (first | exact SubL.refl | refine SubL.cons (by repeat (first | assumption | exact List.mem_cons_self | refine List.mem_cons_of_mem _ ?_)) ?_ | refine SubL.skip ?_)) (by repeat (first | exact OwnL.refl | apply OwnL.take (by repeat (first | exact Take.head _ | apply Take.tail)) | apply OwnL.drop))) rfl rfl rfl (Rd.field rfl F50_3 rfl rfl) ?_
                            refine WD.one 12 rfl (by kernel_rfl) rfl ?_
                            refine OpW.store1 rfl Z23 rfl rfl (by first | exact ⟨rfl, rfl⟩ | assumption) (by repeat (first | assumption | exact Take.head _ | apply Take.tail)) (by first | (simp; done) | omega | exact of_decide_eq_true rfl | (simp only [List.length_append, List.length_replicate, List.length_map, List.length_set]; omega)) rfl ?_
                            refine ⟨(Held.mk' (by repeat (first | exact SubL.refl | refine SubL.cons (by repeat (first | assumption | exact List.mem_cons_self | refine List.mem_cons_of_mem _ ?_)) ?_ | refine SubL.skip ?_)) (by repeat (first | exact OwnL.refl | apply OwnL.take (by repeat (first | exact Take.head _ | apply Take.tail)) | apply OwnL.drop))), ?_⟩
                            refine WD.done (by kernel_rfl) ?_
                            refine blockQ.normal ?_
                            -- kut_c7 3
                            exact ⟨(cutS s ai ak, V', ⟨V2.lv, V2.sv, av, V2.cb⟩, 0), ⟨(ok.cut _ (by omega) _).mono (by omega), hv', ⟨hr.lv, hr.sv, hav⟩⟩, (by repeat (first | exact Sub.nil | refine Sub.cons rfl (by first | rfl | (congr 1; omega) | assumption) ?_)), (fun w h => OwnL.sat (by repeat (first | exact OwnL.refl | apply OwnL.take (by repeat (first | exact Take.head _ | apply Take.tail)) | apply OwnL.drop)) w (h.thin (SubL.mem (by repeat (first | exact SubL.refl | refine SubL.cons (by repeat (first | assumption | exact List.mem_cons_self | refine List.mem_cons_of_mem _ ?_)) ?_ | refine SubL.skip ?_)))))⟩
                          · skip
                            refine WC.seq ?_
                            refine WC.region ?_
                            refine WL.rd rfl rfl rfl (Rd.eql rfl rfl rfl) ?_
                            refine WL.rd rfl rfl rfl (Rd.assign rfl rfl) ?_
                            refine WL.nil ?_
                            refine thenQ.normal ?_
                            first | refine WC.ite rfl (fun hc10 => ?_) (fun hc10 => ?_) | refine WC.cond rfl (fun hc10 => ?_) (fun hc10 => ?_)
                            · skip
                              refine WC.seq ?_
                              refine WC.region ?_
                              refine WL.rd rfl rfl rfl (Rd.move rfl rfl) ?_
                              refine WL.rd rfl rfl rfl (Rd.move rfl rfl) ?_
                              refine WL.op rfl ?_
                              refine OpW.call rfl rfl (by repeat (first | exact Evs.nil | apply Evs.cons rfl)) (by kernel_rfl) rfl rfl rfl ?_
                              refine Fun.heap (O' := dO d V s (rO w V2 s (rowC b9 31 [.int .i64 aw, .int .i64 ai, vs (dataOf ad), av] :: O))) (fun w h => OwnL.sat (by repeat (first | exact OwnL.refl | apply OwnL.take (by repeat (first | exact Take.head _ | apply Take.tail)) | apply OwnL.drop)) w (h.thin (SubL.mem (by repeat (first | exact SubL.refl | refine SubL.cons (by repeat (first | assumption | exact List.mem_cons_self | refine List.mem_cons_of_mem _ ?_)) ?_ | refine SubL.skip ?_))))) ?_
                              refine crash_spec (keep := ak) ok (by omega) hv (by repeat (first | assumption | exact List.mem_cons_self | refine List.mem_cons_of_mem _ ?_)) ?_; intro hv'
                              refine WL.nil ?_
                              refine thenQ.normal ?_
                              refine WC.seq ?_
                              refine WC.region ?_
                              refine WL.rd rfl rfl rfl (Rd.move rfl rfl) ?_
                              refine WL.rd rfl rfl rfl ((by first | exact Rd.field rfl F31_3 rfl rfl | exact Rd.fieldE rfl F31_3 rfl (by repeat (first | assumption | exact List.mem_cons_self | refine List.mem_cons_of_mem _ ?_)) (by omega) | exact Rd.fieldA rfl F31_3 rfl (by repeat (first | assumption | exact List.mem_cons_self | refine List.mem_cons_of_mem _ ?_)) (by omega))) ?_
                              refine WL.rd rfl rfl rfl (Rd.row1 (off := 3) (u := av) rfl C23 rfl (by repeat (first | assumption | exact List.mem_cons_self | refine List.mem_cons_of_mem _ ?_)) rfl) ?_
                              refine WL.op rfl ?_
                              refine OpW.call rfl rfl (by repeat (first | exact Evs.nil | apply Evs.cons rfl)) (by kernel_rfl) rfl rfl rfl ?_
                              refine Fun.heap (O' := rO w V2 s (dO d ⟨V.lv, .slice none 0 0, V.kv, none⟩ (crashS s ak) O)) (fun w h => OwnL.sat (by repeat (first | exact OwnL.refl | apply OwnL.take (by repeat (first | exact Take.head _ | apply Take.tail)) | apply OwnL.drop)) w (h.thin (SubL.mem (by repeat (first | exact SubL.refl | refine SubL.cons (by repeat (first | assumption | exact List.mem_cons_self | refine List.mem_cons_of_mem _ ?_)) ?_ | refine SubL.skip ?_))))) ?_
                              refine refFail_spec (m := i) (keep := ak) ok (by omega) hr (by repeat (first | assumption | exact List.mem_cons_self | refine List.mem_cons_of_mem _ ?_)) ?_
                              refine WL.nil ?_
                              refine thenQ.normal ?_
                              refine WC.region ?_
                              refine WL.rd rfl rfl rfl (Rd.move rfl rfl) ?_
                              refine WL.rd rfl rfl rfl (Rd.nilc rfl rfl) ?_
                              refine WL.rd rfl rfl rfl ((by first | exact Rd.field rfl F50_4 rfl rfl | exact Rd.fieldE rfl F50_4 rfl (by repeat (first | assumption | exact List.mem_cons_self | refine List.mem_cons_of_mem _ ?_)) (by omega) | exact Rd.fieldA rfl F50_4 rfl (by repeat (first | assumption | exact List.mem_cons_self | refine List.mem_cons_of_mem _ ?_)) (by omega))) ?_
                              refine WL.op rfl ?_
                              refine OpW.store1 rfl Z4 rfl rfl (by first | exact ⟨rfl, rfl⟩ | assumption) (by repeat (first | assumption | exact Take.head _ | apply Take.tail)) (by first | (simp; done) | omega | exact of_decide_eq_true rfl | (simp only [List.length_append, List.length_replicate, List.length_map, List.length_set]; omega)) rfl ?_
                              refine WL.nil ?_
                              refine blockQ.normal ?_
                              -- kut_c7 4
                              exact ⟨(crashS s ak, ⟨V.lv, .slice none 0 0, V.kv, none⟩, ⟨V2.lv, .slice none 0 0, V2.kv, none⟩, 0), ⟨(ok.crash _).mono (by omega), hv', ⟨hr.lv, OneV.sl, hr.kv⟩⟩, (by repeat (first | exact Sub.nil | refine Sub.cons rfl (by first | rfl | (congr 1; omega) | assumption) ?_)), (fun w h => OwnL.sat (by repeat (first | exact OwnL.refl | apply OwnL.take (by repeat (first | exact Take.head _ | apply Take.tail)) | apply OwnL.drop)) w (h.thin (SubL.mem (by repeat (first | exact SubL.refl | refine SubL.cons (by repeat (first | assumption | exact List.mem_cons_self | refine List.mem_cons_of_mem _ ?_)) ?_ | refine SubL.skip ?_)))))⟩
                            · skip
                              refine WC.seq ?_
                              refine WC.region ?_
                              refine WL.rd rfl rfl rfl (Rd.eql rfl rfl rfl) ?_
                              refine WL.rd rfl rfl rfl (Rd.assign rfl rfl) ?_
                              refine WL.nil ?_
                              refine thenQ.normal ?_
                              first | refine WC.ite rfl (fun hc11 => ?_) (fun hc11 => ?_) | refine WC.cond rfl (fun hc11 => ?_) (fun hc11 => ?_)
                              · skip
                                refine WC.seq ?_
                                refine WC.region ?_
                                refine WL.rd rfl rfl rfl (Rd.move rfl rfl) ?_
                                refine WL.op rfl ?_
                                refine OpW.call rfl rfl (by repeat (first | exact Evs.nil | apply Evs.cons rfl)) (by kernel_rfl) rfl rfl rfl ?_
                                refine Fun.heap (R' := SlE (one vi) V.kv s.keep :: SlE (one vi) V2.kv s.keep :: R) (O' := dO d V s (rO w V2 s O)) (fun w h => OwnL.sat (by repeat (first | exact OwnL.refl | apply OwnL.take (by repeat (first | exact Take.head _ | apply Take.tail)) | apply OwnL.drop)) w (h.thin (SubL.mem (by repeat (first | exact SubL.refl | refine SubL.cons (by repeat (first | assumption | exact List.mem_cons_self | refine List.mem_cons_of_mem _ ?_)) ?_ | refine SubL.skip ?_))))) ?_
                                refine on_spec hv ?_; intro hv'
                                refine WL.nil ?_
                                refine thenQ.normal ?_
                                refine WC.region ?_
                                refine WL.rd rfl rfl rfl (Rd.move rfl rfl) ?_
                                refine WL.rd rfl rfl rfl (Rd.move rfl rfl) ?_
                                refine WL.rd rfl rfl rfl (Rd.nilc rfl rfl) ?_
                                refine WL.rd rfl rfl rfl ((by first | exact Rd.field rfl F50_4 rfl rfl | exact Rd.fieldE rfl F50_4 rfl (by repeat (first | assumption | exact List.mem_cons_self | refine List.mem_cons_of_mem _ ?_)) (by omega) | exact Rd.fieldA rfl F50_4 rfl (by repeat (first | assumption | exact List.mem_cons_self | refine List.mem_cons_of_mem _ ?_)) (by omega))) ?_
                                refine WL.op rfl ?_
                                refine OpW.store1 rfl Z4 rfl rfl (by first | exact ⟨rfl, rfl⟩ | assumption) (by repeat (first | assumption | exact Take.head _ | apply Take.tail)) (by first | (simp; done) | omega | exact of_decide_eq_true rfl | (simp only [List.length_append, List.length_replicate, List.length_map, List.length_set]; omega)) rfl ?_
                                refine WL.rd rfl rfl rfl (Rd.nilc rfl rfl) ?_
                                refine WL.rd rfl rfl rfl ((by first | exact Rd.field rfl F50_2 rfl rfl | exact Rd.fieldE rfl F50_2 rfl (by repeat (first | assumption | exact List.mem_cons_self | refine List.mem_cons_of_mem _ ?_)) (by omega) | exact Rd.fieldA rfl F50_2 rfl (by repeat (first | assumption | exact List.mem_cons_self | refine List.mem_cons_of_mem _ ?_)) (by omega))) ?_
                                refine WL.op rfl ?_
                                refine OpW.store1 rfl Z3 rfl rfl (by first | exact ⟨rfl, rfl⟩ | assumption) (by repeat (first | assumption | exact Take.head _ | apply Take.tail)) (by first | (simp; done) | omega | exact of_decide_eq_true rfl | (simp only [List.length_append, List.length_replicate, List.length_map, List.length_set]; omega)) rfl ?_
                                refine WL.nil ?_
                                refine blockQ.normal ?_
                                -- kut_c7 5
                                exact ⟨(onS s, ⟨V.lv, V.sv, V.kv, none⟩, V2, 0), ⟨ok.on.mono (by omega), hv', hr⟩, (by repeat (first | exact Sub.nil | refine Sub.cons rfl (by first | rfl | (congr 1; omega) | assumption) ?_)), (fun w h => OwnL.sat (by repeat (first | exact OwnL.refl | apply OwnL.take (by repeat (first | exact Take.head _ | apply Take.tail)) | apply OwnL.drop)) w (h.thin (SubL.mem (by repeat (first | exact SubL.refl | refine SubL.cons (by repeat (first | assumption | exact List.mem_cons_self | refine List.mem_cons_of_mem _ ?_)) ?_ | refine SubL.skip ?_)))))⟩
                              · skip
                                refine WC.seq ?_
                                refine WC.region ?_
                                refine WL.rd rfl rfl rfl (Rd.eql rfl rfl rfl) ?_
                                refine WL.rd rfl rfl rfl (Rd.assign rfl rfl) ?_
                                refine WL.nil ?_
                                refine thenQ.normal ?_
                                first | refine WC.ite rfl (fun hc12 => ?_) (fun hc12 => ?_) | refine WC.cond rfl (fun hc12 => ?_) (fun hc12 => ?_)
                                · skip
                                  refine WC.drawn (rowC b9 31 [.int .i64 aw, .int .i64 ai, vs (dataOf ad), av] :: O) 14 rfl mixed ?_
                                  refine WD.take 0 rfl (by kernel_rfl) (Held.mk' (by repeat (first | exact SubL.refl | refine SubL.cons (by repeat (first | assumption | exact List.mem_cons_self | refine List.mem_cons_of_mem _ ?_)) ?_ | refine SubL.skip ?_)) (by repeat (first | exact OwnL.refl | apply OwnL.take (by repeat (first | exact Take.head _ | apply Take.tail)) | apply OwnL.drop))) rfl rfl rfl (Rd.move rfl rfl) ?_
                                  refine WD.take 1 rfl (by kernel_rfl) (Held.mk' (by repeat (first | exact SubL.refl | refine SubL.cons (by repeat (first | assumption | exact List.mem_cons_self | refine List.mem_cons_of_mem _ ?_)) ?_ | refine SubL.skip ?_)) (by repeat (first | exact OwnL.refl | apply OwnL.take (by repeat (first | exact Take.head _ | apply Take.tail)) | apply OwnL.drop))) rfl rfl rfl ((by first | exact Rd.field rfl F31_1 rfl rfl | exact Rd.fieldE rfl F31_1 rfl (by repeat (first | assumption | exact List.mem_cons_self | refine List.mem_cons_of_mem _ ?_)) (by omega) | exact Rd.fieldA rfl F31_1 rfl (by repeat (first | assumption | exact List.mem_cons_self | refine List.mem_cons_of_mem _ ?_)) (by omega))) ?_
                                  refine WD.take 2 rfl (by kernel_rfl) (Held.mk' (by repeat (first | exact SubL.refl | refine SubL.cons (by repeat (first | assumption | exact List.mem_cons_self | refine List.mem_cons_of_mem _ ?_)) ?_ | refine SubL.skip ?_)) (by repeat (first | exact OwnL.refl | apply OwnL.take (by repeat (first | exact Take.head _ | apply Take.tail)) | apply OwnL.drop))) rfl rfl rfl (Rd.row1 (off := 1) (u := .int .i64 ai) rfl C3 rfl (by repeat (first | assumption | exact List.mem_cons_self | refine List.mem_cons_of_mem _ ?_)) rfl) ?_
                                  refine WD.take 3 rfl (by kernel_rfl) (Held.mk' (by repeat (first | exact SubL.refl | refine SubL.cons (by repeat (first | assumption | exact List.mem_cons_self | refine List.mem_cons_of_mem _ ?_)) ?_ | refine SubL.skip ?_)) (by repeat (first | exact OwnL.refl | apply OwnL.take (by repeat (first | exact Take.head _ | apply Take.tail)) | apply OwnL.drop))) rfl rfl rfl ((by first | exact Rd.field rfl F31_2 rfl rfl | exact Rd.fieldE rfl F31_2 rfl (by repeat (first | assumption | exact List.mem_cons_self | refine List.mem_cons_of_mem _ ?_)) (by omega) | exact Rd.fieldA rfl F31_2 rfl (by repeat (first | assumption | exact List.mem_cons_self | refine List.mem_cons_of_mem _ ?_)) (by omega))) ?_
                                  refine WD.take 4 rfl (by kernel_rfl) (Held.mk' (by repeat (first | exact SubL.refl | refine SubL.cons (by repeat (first | assumption | exact List.mem_cons_self | refine List.mem_cons_of_mem _ ?_)) ?_ | refine SubL.skip ?_)) (by repeat (first | exact OwnL.refl | apply OwnL.take (by repeat (first | exact Take.head _ | apply Take.tail)) | apply OwnL.drop))) rfl rfl rfl (Rd.row1 (off := 2) (u := vs (dataOf ad)) rfl C9 rfl (by repeat (first | assumption | exact List.mem_cons_self | refine List.mem_cons_of_mem _ ?_)) rfl) ?_
                                  refine WD.take 6 rfl (by kernel_rfl) (Held.mk' (by repeat (first | exact SubL.refl | refine SubL.cons (by repeat (first | assumption | exact List.mem_cons_self | refine List.mem_cons_of_mem _ ?_)) ?_ | refine SubL.skip ?_)) (by repeat (first | exact OwnL.refl | apply OwnL.take (by repeat (first | exact Take.head _ | apply Take.tail)) | apply OwnL.drop))) rfl rfl rfl (Rd.move rfl rfl) ?_
                                  refine WD.take 7 rfl (by kernel_rfl) (Held.mk' (by repeat (first | exact SubL.refl | refine SubL.cons (by repeat (first | assumption | exact List.mem_cons_self | refine List.mem_cons_of_mem _ ?_)) ?_ | refine SubL.skip ?_)) (by repeat (first | exact OwnL.refl | apply OwnL.take (by repeat (first | exact Take.head _ | apply Take.tail)) | apply OwnL.drop))) rfl rfl rfl ((by first | exact Rd.field rfl F31_1 rfl rfl | exact Rd.fieldE rfl F31_1 rfl (by repeat (first | assumption | exact List.mem_cons_self | refine List.mem_cons_of_mem _ ?_)) (by omega) | exact Rd.fieldA rfl F31_1 rfl (by repeat (first | assumption | exact List.mem_cons_self | refine List.mem_cons_of_mem _ ?_)) (by omega))) ?_
                                  refine WD.take 8 rfl (by kernel_rfl) (Held.mk' (by repeat (first | exact SubL.refl | refine SubL.cons (by repeat (first | assumption | exact List.mem_cons_self | refine List.mem_cons_of_mem _ ?_)) ?_ | refine SubL.skip ?_)) (by repeat (first | exact OwnL.refl | apply OwnL.take (by repeat (first | exact Take.head _ | apply Take.tail)) | apply OwnL.drop))) rfl rfl rfl (Rd.row1 (off := 1) (u := .int .i64 ai) rfl C3 rfl (by repeat (first | assumption | exact List.mem_cons_self | refine List.mem_cons_of_mem _ ?_)) rfl) ?_
                                  refine WD.take 9 rfl (by kernel_rfl) (Held.mk' (by repeat (first | exact SubL.refl | refine SubL.cons (by repeat (first | assumption | exact List.mem_cons_self | refine List.mem_cons_of_mem _ ?_)) ?_ | refine SubL.skip ?_)) (by repeat (first | exact OwnL.refl | apply OwnL.take (by repeat (first | exact Take.head _ | apply Take.tail)) | apply OwnL.drop))) rfl rfl rfl ((by first | exact Rd.field rfl F31_2 rfl rfl | exact Rd.fieldE rfl F31_2 rfl (by repeat (first | assumption | exact List.mem_cons_self | refine List.mem_cons_of_mem _ ?_)) (by omega) | exact Rd.fieldA rfl F31_2 rfl (by repeat (first | assumption | exact List.mem_cons_self | refine List.mem_cons_of_mem _ ?_)) (by omega))) ?_
                                  refine WD.take 10 rfl (by kernel_rfl) (Held.mk' (by repeat (first | exact SubL.refl | refine SubL.cons (by repeat (first | assumption | exact List.mem_cons_self | refine List.mem_cons_of_mem _ ?_)) ?_ | refine SubL.skip ?_)) (by repeat (first | exact OwnL.refl | apply OwnL.take (by repeat (first | exact Take.head _ | apply Take.tail)) | apply OwnL.drop))) rfl rfl rfl (Rd.row1 (off := 2) (u := vs (dataOf ad)) rfl C9 rfl (by repeat (first | assumption | exact List.mem_cons_self | refine List.mem_cons_of_mem _ ?_)) rfl) ?_
                                  refine WD.one 5 rfl (by kernel_rfl) rfl ?_
                                  refine OpW.call rfl rfl (by repeat (first | exact Evs.nil | apply Evs.cons rfl)) (by kernel_rfl) rfl rfl rfl ?_
                                  refine Fun.heap (O' := dO d V s (rO w V2 s (rowC b9 31 [.int .i64 aw, .int .i64 ai, vs (dataOf ad), av] :: O))) (fun w h => OwnL.sat (by repeat (first | exact OwnL.refl | apply OwnL.take (by repeat (first | exact Take.head _ | apply Take.tail)) | apply OwnL.drop)) w (h.thin (SubL.mem (by repeat (first | exact SubL.refl | refine SubL.cons (by repeat (first | assumption | exact List.mem_cons_self | refine List.mem_cons_of_mem _ ?_)) ?_ | refine SubL.skip ?_))))) ?_
                                  refine spoil_spec ok (by omega) hv ?_; intro V' hv' hkv'
                                  refine ⟨(Held.mk' (by repeat (first | exact SubL.refl | refine SubL.cons (by repeat (first | assumption | exact List.mem_cons_self | refine List.mem_cons_of_mem _ ?_)) ?_ | refine SubL.skip ?_)) (by repeat (first | exact OwnL.refl | apply OwnL.take (by repeat (first | exact Take.head _ | apply Take.tail)) | apply OwnL.drop))), ?_⟩
                                  refine WD.one 11 rfl (by kernel_rfl) rfl ?_
                                  refine OpW.call rfl rfl (by repeat (first | exact Evs.nil | apply Evs.cons rfl)) (by kernel_rfl) rfl rfl rfl ?_
                                  refine Fun.heap (O' := rO w V2 s (dO d V' (spoilS s ai (dataOf ad)) (rowC b9 31 [.int .i64 aw, .int .i64 ai, vs (dataOf ad), av] :: O))) (fun w h => OwnL.sat (by repeat (first | exact OwnL.refl | apply OwnL.take (by repeat (first | exact Take.head _ | apply Take.tail)) | apply OwnL.drop)) w (h.thin (SubL.mem (by repeat (first | exact SubL.refl | refine SubL.cons (by repeat (first | assumption | exact List.mem_cons_self | refine List.mem_cons_of_mem _ ?_)) ?_ | refine SubL.skip ?_))))) ?_
                                  refine refSpoil_spec ok (by omega) hr ?_; intro V2' hr' hkv2'
                                  refine ⟨(Held.mk' (by repeat (first | exact SubL.refl | refine SubL.cons (by repeat (first | assumption | exact List.mem_cons_self | refine List.mem_cons_of_mem _ ?_)) ?_ | refine SubL.skip ?_)) (by repeat (first | exact OwnL.refl | apply OwnL.take (by repeat (first | exact Take.head _ | apply Take.tail)) | apply OwnL.drop))), ?_⟩
                                  refine WD.take 12 rfl (by kernel_rfl) (Held.mk' (by repeat (first | exact SubL.refl | refine SubL.cons (by repeat (first | assumption | exact List.mem_cons_self | refine List.mem_cons_of_mem _ ?_)) ?_ | refine SubL.skip ?_)) (by repeat (first | exact OwnL.refl | apply OwnL.take (by repeat (first | exact Take.head _ | apply Take.tail)) | apply OwnL.drop))) rfl rfl rfl (Rd.assign rfl rfl) ?_
                                  refine WD.take 13 rfl (by kernel_rfl) (Held.mk' (by repeat (first | exact SubL.refl | refine SubL.cons (by repeat (first | assumption | exact List.mem_cons_self | refine List.mem_cons_of_mem _ ?_)) ?_ | refine SubL.skip ?_)) (by repeat (first | exact OwnL.refl | apply OwnL.take (by repeat (first | exact Take.head _ | apply Take.tail)) | apply OwnL.drop))) rfl rfl rfl (Rd.assign rfl rfl) ?_
                                  refine WD.done (by kernel_rfl) ?_
                                  refine blockQ.normal ?_
                                  -- kut_c7 6
                                  exact ⟨(spoilS s ai (dataOf ad), V', V2', (spoilE s ai (dataOf ad) : Nat)), ⟨(ok.spoil _ _).mono (by omega), hv', hr'⟩, (by repeat (first | exact Sub.nil | refine Sub.cons rfl (by first | rfl | (congr 1; omega) | assumption) ?_)), fun w h => by simp only [hkv', hkv2', spoil_keep]; exact (fun w h => OwnL.sat (by repeat (first | exact OwnL.refl | apply OwnL.take (by repeat (first | exact Take.head _ | apply Take.tail)) | apply OwnL.drop)) w (h.thin (SubL.mem (by repeat (first | exact SubL.refl | refine SubL.cons (by repeat (first | assumption | exact List.mem_cons_self | refine List.mem_cons_of_mem _ ?_)) ?_ | refine SubL.skip ?_))))) w h⟩
                                · skip
                                  refine WC.drawn (rowC b9 31 [.int .i64 aw, .int .i64 ai, vs (dataOf ad), av] :: O) 14 rfl mixed ?_
                                  refine WD.take 0 rfl (by kernel_rfl) (Held.mk' (by repeat (first | exact SubL.refl | refine SubL.cons (by repeat (first | assumption | exact List.mem_cons_self | refine List.mem_cons_of_mem _ ?_)) ?_ | refine SubL.skip ?_)) (by repeat (first | exact OwnL.refl | apply OwnL.take (by repeat (first | exact Take.head _ | apply Take.tail)) | apply OwnL.drop))) rfl rfl rfl (Rd.move rfl rfl) ?_
                                  refine WD.take 1 rfl (by kernel_rfl) (Held.mk' (by repeat (first | exact SubL.refl | refine SubL.cons (by repeat (first | assumption | exact List.mem_cons_self | refine List.mem_cons_of_mem _ ?_)) ?_ | refine SubL.skip ?_)) (by repeat (first | exact OwnL.refl | apply OwnL.take (by repeat (first | exact Take.head _ | apply Take.tail)) | apply OwnL.drop))) rfl rfl rfl ((by first | exact Rd.field rfl F31_1 rfl rfl | exact Rd.fieldE rfl F31_1 rfl (by repeat (first | assumption | exact List.mem_cons_self | refine List.mem_cons_of_mem _ ?_)) (by omega) | exact Rd.fieldA rfl F31_1 rfl (by repeat (first | assumption | exact List.mem_cons_self | refine List.mem_cons_of_mem _ ?_)) (by omega))) ?_
                                  refine WD.take 2 rfl (by kernel_rfl) (Held.mk' (by repeat (first | exact SubL.refl | refine SubL.cons (by repeat (first | assumption | exact List.mem_cons_self | refine List.mem_cons_of_mem _ ?_)) ?_ | refine SubL.skip ?_)) (by repeat (first | exact OwnL.refl | apply OwnL.take (by repeat (first | exact Take.head _ | apply Take.tail)) | apply OwnL.drop))) rfl rfl rfl (Rd.row1 (off := 1) (u := .int .i64 ai) rfl C3 rfl (by repeat (first | assumption | exact List.mem_cons_self | refine List.mem_cons_of_mem _ ?_)) rfl) ?_
                                  refine WD.take 3 rfl (by kernel_rfl) (Held.mk' (by repeat (first | exact SubL.refl | refine SubL.cons (by repeat (first | assumption | exact List.mem_cons_self | refine List.mem_cons_of_mem _ ?_)) ?_ | refine SubL.skip ?_)) (by repeat (first | exact OwnL.refl | apply OwnL.take (by repeat (first | exact Take.head _ | apply Take.tail)) | apply OwnL.drop))) rfl rfl rfl ((by first | exact Rd.field rfl F31_2 rfl rfl | exact Rd.fieldE rfl F31_2 rfl (by repeat (first | assumption | exact List.mem_cons_self | refine List.mem_cons_of_mem _ ?_)) (by omega) | exact Rd.fieldA rfl F31_2 rfl (by repeat (first | assumption | exact List.mem_cons_self | refine List.mem_cons_of_mem _ ?_)) (by omega))) ?_
                                  refine WD.take 4 rfl (by kernel_rfl) (Held.mk' (by repeat (first | exact SubL.refl | refine SubL.cons (by repeat (first | assumption | exact List.mem_cons_self | refine List.mem_cons_of_mem _ ?_)) ?_ | refine SubL.skip ?_)) (by repeat (first | exact OwnL.refl | apply OwnL.take (by repeat (first | exact Take.head _ | apply Take.tail)) | apply OwnL.drop))) rfl rfl rfl (Rd.row1 (off := 2) (u := vs (dataOf ad)) rfl C9 rfl (by repeat (first | assumption | exact List.mem_cons_self | refine List.mem_cons_of_mem _ ?_)) rfl) ?_
                                  refine WD.take 6 rfl (by kernel_rfl) (Held.mk' (by repeat (first | exact SubL.refl | refine SubL.cons (by repeat (first | assumption | exact List.mem_cons_self | refine List.mem_cons_of_mem _ ?_)) ?_ | refine SubL.skip ?_)) (by repeat (first | exact OwnL.refl | apply OwnL.take (by repeat (first | exact Take.head _ | apply Take.tail)) | apply OwnL.drop))) rfl rfl rfl (Rd.move rfl rfl) ?_
                                  refine WD.take 7 rfl (by kernel_rfl) (Held.mk' (by repeat (first | exact SubL.refl | refine SubL.cons (by repeat (first | assumption | exact List.mem_cons_self | refine List.mem_cons_of_mem _ ?_)) ?_ | refine SubL.skip ?_)) (by repeat (first | exact OwnL.refl | apply OwnL.take (by repeat (first | exact Take.head _ | apply Take.tail)) | apply OwnL.drop))) rfl rfl rfl ((by first | exact Rd.field rfl F31_1 rfl rfl | exact Rd.fieldE rfl F31_1 rfl (by repeat (first | assumption | exact List.mem_cons_self | refine List.mem_cons_of_mem _ ?_)) (by omega) | exact Rd.fieldA rfl F31_1 rfl (by repeat (first | assumption | exact List.mem_cons_self | refine List.mem_cons_of_mem _ ?_)) (by omega))) ?_
                                  refine WD.take 8 rfl (by kernel_rfl) (Held.mk' (by repeat (first | exact SubL.refl | refine SubL.cons (by repeat (first | assumption | exact List.mem_cons_self | refine List.mem_cons_of_mem _ ?_)) ?_ | refine SubL.skip ?_)) (by repeat (first | exact OwnL.refl | apply OwnL.take (by repeat (first | exact Take.head _ | apply Take.tail)) | apply OwnL.drop))) rfl rfl rfl (Rd.row1 (off := 1) (u := .int .i64 ai) rfl C3 rfl (by repeat (first | assumption | exact List.mem_cons_self | refine List.mem_cons_of_mem _ ?_)) rfl) ?_
                                  refine WD.take 9 rfl (by kernel_rfl) (Held.mk' (by repeat (first | exact SubL.refl | refine SubL.cons (by repeat (first | assumption | exact List.mem_cons_self | refine List.mem_cons_of_mem _ ?_)) ?_ | refine SubL.skip ?_)) (by repeat (first | exact OwnL.refl | apply OwnL.take (by repeat (first | exact Take.head _ | apply Take.tail)) | apply OwnL.drop))) rfl rfl rfl ((by first | exact Rd.field rfl F31_2 rfl rfl | exact Rd.fieldE rfl F31_2 rfl (by repeat (first | assumption | exact List.mem_cons_self | refine List.mem_cons_of_mem _ ?_)) (by omega) | exact Rd.fieldA rfl F31_2 rfl (by repeat (first | assumption | exact List.mem_cons_self | refine List.mem_cons_of_mem _ ?_)) (by omega))) ?_
                                  refine WD.take 10 rfl (by kernel_rfl) (Held.mk' (by repeat (first | exact SubL.refl | refine SubL.cons (by repeat (first | assumption | exact List.mem_cons_self | refine List.mem_cons_of_mem _ ?_)) ?_ | refine SubL.skip ?_)) (by repeat (first | exact OwnL.refl | apply OwnL.take (by repeat (first | exact Take.head _ | apply Take.tail)) | apply OwnL.drop))) rfl rfl rfl (Rd.row1 (off := 2) (u := vs (dataOf ad)) rfl C9 rfl (by repeat (first | assumption | exact List.mem_cons_self | refine List.mem_cons_of_mem _ ?_)) rfl) ?_
                                  refine WD.one 5 rfl (by kernel_rfl) rfl ?_
                                  refine OpW.call rfl rfl (by repeat (first | exact Evs.nil | apply Evs.cons rfl)) (by kernel_rfl) rfl rfl rfl ?_
                                  refine Fun.heap (O' := dO d V s (rO w V2 s (rowC b9 31 [.int .i64 aw, .int .i64 ai, vs (dataOf ad), av] :: O))) (fun w h => OwnL.sat (by repeat (first | exact OwnL.refl | apply OwnL.take (by repeat (first | exact Take.head _ | apply Take.tail)) | apply OwnL.drop)) w (h.thin (SubL.mem (by repeat (first | exact SubL.refl | refine SubL.cons (by repeat (first | assumption | exact List.mem_cons_self | refine List.mem_cons_of_mem _ ?_)) ?_ | refine SubL.skip ?_))))) ?_
                                  refine write_spec ok (by omega) hv (by repeat (first | assumption | exact List.mem_cons_self | refine List.mem_cons_of_mem _ ?_)) ?_; intro V' hv' hkv'
                                  refine ⟨(Held.mk' (by repeat (first | exact SubL.refl | refine SubL.cons (by repeat (first | assumption | exact List.mem_cons_self | refine List.mem_cons_of_mem _ ?_)) ?_ | refine SubL.skip ?_)) (by repeat (first | exact OwnL.refl | apply OwnL.take (by repeat (first | exact Take.head _ | apply Take.tail)) | apply OwnL.drop))), ?_⟩
                                  refine WD.one 11 rfl (by kernel_rfl) rfl ?_
                                  refine OpW.call rfl rfl (by repeat (first | exact Evs.nil | apply Evs.cons rfl)) (by kernel_rfl) rfl rfl rfl ?_
                                  refine Fun.heap (O' := rO w V2 s (dO d V' (putS s ai (dataOf ad)) (rowC b9 31 [.int .i64 aw, .int .i64 ai, vs (dataOf ad), av] :: O))) (fun w h => OwnL.sat (by repeat (first | exact OwnL.refl | apply OwnL.take (by repeat (first | exact Take.head _ | apply Take.tail)) | apply OwnL.drop)) w (h.thin (SubL.mem (by repeat (first | exact SubL.refl | refine SubL.cons (by repeat (first | assumption | exact List.mem_cons_self | refine List.mem_cons_of_mem _ ?_)) ?_ | refine SubL.skip ?_))))) ?_
                                  refine refPut_spec ok (by omega) hr (by repeat (first | assumption | exact List.mem_cons_self | refine List.mem_cons_of_mem _ ?_)) ?_; intro V2' hr' hkv2'
                                  refine ⟨(Held.mk' (by repeat (first | exact SubL.refl | refine SubL.cons (by repeat (first | assumption | exact List.mem_cons_self | refine List.mem_cons_of_mem _ ?_)) ?_ | refine SubL.skip ?_)) (by repeat (first | exact OwnL.refl | apply OwnL.take (by repeat (first | exact Take.head _ | apply Take.tail)) | apply OwnL.drop))), ?_⟩
                                  refine WD.take 12 rfl (by kernel_rfl) (Held.mk' (by repeat (first | exact SubL.refl | refine SubL.cons (by repeat (first | assumption | exact List.mem_cons_self | refine List.mem_cons_of_mem _ ?_)) ?_ | refine SubL.skip ?_)) (by repeat (first | exact OwnL.refl | apply OwnL.take (by repeat (first | exact Take.head _ | apply Take.tail)) | apply OwnL.drop))) rfl rfl rfl (Rd.assign rfl rfl) ?_
                                  refine WD.take 13 rfl (by kernel_rfl) (Held.mk' (by repeat (first | exact SubL.refl | refine SubL.cons (by repeat (first | assumption | exact List.mem_cons_self | refine List.mem_cons_of_mem _ ?_)) ?_ | refine SubL.skip ?_)) (by repeat (first | exact OwnL.refl | apply OwnL.take (by repeat (first | exact Take.head _ | apply Take.tail)) | apply OwnL.drop))) rfl rfl rfl (Rd.assign rfl rfl) ?_
                                  refine WD.done (by kernel_rfl) ?_
                                  refine blockQ.normal ?_
                                  -- kut_c7 7
                                  exact ⟨(putS s ai (dataOf ad), V', V2', (putE s ai (dataOf ad) : Nat)), ⟨ok.put _ _, hv', hr'⟩, (by repeat (first | exact Sub.nil | refine Sub.cons rfl (by first | rfl | (congr 1; omega) | assumption) ?_)), fun w h => by simp only [hkv', hkv2', put_keep]; exact (fun w h => OwnL.sat (by repeat (first | exact OwnL.refl | apply OwnL.take (by repeat (first | exact Take.head _ | apply Take.tail)) | apply OwnL.drop)) w (h.thin (SubL.mem (by repeat (first | exact SubL.refl | refine SubL.cons (by repeat (first | assumption | exact List.mem_cons_self | refine List.mem_cons_of_mem _ ?_)) ?_ | refine SubL.skip ?_))))) w h⟩
                    · skip
                      rintro ⟨s', V', V2', e⟩ ⟨ok', hv', hr'⟩
                      refine WC.seq ?_
                      refine WC.region ?_
                      refine WL.rd rfl rfl rfl (Rd.move rfl rfl) ?_
                      refine WL.rd rfl rfl rfl (Rd.move rfl rfl) ?_
                      refine WL.rd rfl rfl rfl (Rd.neq rfl rfl rfl) ?_
                      refine WL.rd rfl rfl rfl (Rd.move rfl rfl) ?_
                      refine WL.case 161 rfl (fun hg161 => ?_) (fun hg161 => ?_)
                      · skip
                        exact absurd rfl hg161
                      · skip
                        refine WL.rd_yes rfl rfl rfl rfl rfl rfl (Rd.move rfl rfl) ?_
                        refine WL.rd_yes rfl rfl rfl rfl rfl rfl (Rd.move rfl rfl) ?_
                        refine WL.op_yes rfl rfl rfl rfl ?_
                        refine OpW.call rfl rfl (by repeat (first | exact Evs.nil | apply Evs.cons rfl)) (by kernel_rfl) rfl rfl rfl ?_
                        refine same_spec (ok'.mono (by omega)) ?_
                        refine WL.say 164 (u := .bool (decide True)) rfl (by simp) ?_
                        refine WL.rd_yes rfl rfl rfl rfl rfl rfl ((by first | exact Rd.notd rfl rfl | exact Rd.not rfl rfl)) ?_
                        refine WL.rd rfl rfl rfl (Rd.pick_f rfl rfl rfl) ?_
                        refine WL.nil ?_
                        refine thenQ.normal ?_
                        first | refine WC.ite rfl (fun hc13 => ?_) (fun hc13 => ?_) | refine WC.cond rfl (fun hc13 => ?_) (fun hc13 => ?_)
                        · skip
                          exact absurd trivial hc13
                        · skip
                          refine WC.skip ?_
                          refine blockQ.normal ?_
                          refine thenQ.normal ?_
                          refine WC.region ?_
                          refine WL.rd rfl rfl rfl (Rd.move rfl rfl) ?_
                          refine WL.rd rfl rfl rfl (Rd.add rfl rfl rfl (by omega)) ?_
                          refine WL.rd rfl rfl rfl (Rd.assign rfl rfl) ?_
                          refine WL.nil ?_
                          -- next1_1
                          exact loopQ4.mk (i + 1) s' V' V2' ⟨by omega, ok', hv', hr'⟩ (by omega) (by repeat (first | exact Sub.nil | refine Sub.cons rfl (by first | rfl | (congr 1; omega) | assumption) ?_)) (fun w h => OwnL.sat (by repeat (first | exact OwnL.refl | apply OwnL.take (by repeat (first | exact Take.head _ | apply Take.tail)) | apply OwnL.drop)) w (h.thin (SubL.mem (by repeat (first | exact SubL.refl | refine SubL.cons (by repeat (first | assumption | exact List.mem_cons_self | refine List.mem_cons_of_mem _ ?_)) ?_ | refine SubL.skip ?_)))))
                · skip
                  refine WC.exit ?_
                  refine thenQ.exit ?_
                  refine loopQ4.exit ?_
                  refine blockQ.exit ?_
                  refine thenQ.normal ?_
                  refine WC.seq ?_
                  refine WC.region ?_
                  refine WL.rd rfl rfl rfl (Rd.assign rfl rfl) ?_
                  refine WL.nil ?_
                  refine thenQ.normal ?_
                  -- ret_1
                  refine WC.heap (R' := R) (O' := O) (fun w h => OwnL.sat (by repeat (first | exact OwnL.refl | apply OwnL.take (by repeat (first | exact Take.head _ | apply Take.tail)) | apply OwnL.drop)) w (h.thin (SubL.mem (by repeat (first | exact SubL.refl | refine SubL.cons (by repeat (first | assumption | exact List.mem_cons_self | refine List.mem_cons_of_mem _ ?_)) ?_ | refine SubL.skip ?_))))) ?_
                  refine WC.ret (Ret.one Try.results5 rfl ?_)
                  exact hk
              · skip
                refine WL.no rfl rfl rfl rfl rfl rfl ?_
                refine WL.no rfl rfl rfl rfl rfl rfl ?_
                refine WL.rd rfl rfl rfl (Rd.pick_f rfl rfl rfl) ?_
                refine WL.nil ?_
                refine thenQ.normal ?_
                refine WC.no rfl ?_
                refine WC.exit ?_
                refine thenQ.exit ?_
                refine loopQ4.exit ?_
                refine blockQ.exit ?_
                refine thenQ.normal ?_
                refine WC.seq ?_
                refine WC.region ?_
                refine WL.rd rfl rfl rfl (Rd.assign rfl rfl) ?_
                refine WL.nil ?_
                refine thenQ.normal ?_
                -- ret_2
                refine WC.heap (R' := R) (O' := O) (fun w h => OwnL.sat (by repeat (first | exact OwnL.refl | apply OwnL.take (by repeat (first | exact Take.head _ | apply Take.tail)) | apply OwnL.drop)) w (h.thin (SubL.mem (by repeat (first | exact SubL.refl | refine SubL.cons (by repeat (first | assumption | exact List.mem_cons_self | refine List.mem_cons_of_mem _ ?_)) ?_ | refine SubL.skip ?_))))) ?_
                refine WC.ret (Ret.one Try.results5 rfl ?_)
                exact hk
theorem scripts_spec {n : Int} {acts : List Act} {sv : Value} (hs : SlE encA sv acts ∈ R) (hq : AllQ QA acts ∈ R) (hk : POST (.bool true) R O) : Fun Try.prog 5 #[.int .i64 n, sv] R O POST := by
  by_cases h : 1 ≤ nOf n ∧ nOf n ≤ 4096
  · exact scripts_good h hs hq hk
  · exact scripts_bad (by omega) hk
end
end Go.Proofs.Ytfflnlieddbabaa
