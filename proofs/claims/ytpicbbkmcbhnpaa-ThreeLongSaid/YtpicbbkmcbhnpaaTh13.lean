/-
  Layer 21: speaks.
-/
import Derived.Test.YtpicbbkmcbhnpaaTh12
namespace Go.Proofs.Ytpicbbkmcbhnpaa
open Go Go.SL Go.Lcs

theorem speaks_lists : listsE [[97], [98]] [[120], [97], [98]] [[97], [98], [121]] = ([[120], [97], [98], [121]], [], 0) := by
  simp [listsE, oneE, shufR, staysB, shufE]
theorem speaks_m1 : matchE [[97], [98]] [[120], [97], [98]] = [1, 2] := by
  simp [matchE, trace, lcs, row, mat]
theorem speaks_m2 : matchE [[97], [98]] [[97], [98], [121]] = [0, 1] := by
  simp [matchE, trace, lcs, row, mat]
theorem speaks_lines : linesE [[97], [98]] [[120], [97], [98]] [[97], [98], [121]] = ([[120], [97], [98], [121]], []) := by
  have h : lrun [[97], [98]] [[120], [97], [98]] [[97], [98], [121]] 2 = ⟨2, 3, 2, [[120], [97], [98]], []⟩ := by
    rw [lrun_succ, lrun_succ, lrun_zero]
    simp [lstep, speaks_m1, speaks_m2, lpiece, oneE, pieceBad]
  simp [linesE, lfin, h, lpiece, oneE, pieceBad]
set_option maxHeartbeats 2000000 in
theorem speaks_spec {R : List RO} {O : List Own} {POST : Value → List RO → List Own → Prop} (hk : POST (.bool true) R O) : Fun Try.prog 8 #[] R O POST := by
  refine Fun.enter (l := []) Try.func8 rfl Try.ntmps8 rfl (L0 := []) rfl ?_
  refine WC.seq ?_
  refine WC.region ?_
  refine WL.rd rfl rfl rfl (Rd.assign rfl rfl) ?_
  refine WL.nil ?_
  refine thenQ.normal ?_
  refine WC.seq ?_
  refine WC.region ?_
  refine WL.op rfl ?_
  refine OpW.buildSl (ps := [(0, _), (1, _)]) rfl S22 (by repeat (first | exact Evs.nil | apply Evs.cons rfl)) rfl rfl (by repeat (first | exact CellsOf.nil | apply CellsOf.cons rfl)) (by kernel_rfl) rfl rfl rfl ?_; intro b9
  refine WL.heap (fun w h => Sat.shareRow (enc := one vs) (xs := [[97], [98]]) (m := 2) (by repeat (first | assumption | exact Take.head _ | apply Take.tail)) rfl rfl (by decide) h) ?_
  refine WL.op rfl ?_
  refine OpW.buildSl (ps := [(0, _), (1, _), (2, _)]) rfl S22 (by repeat (first | exact Evs.nil | apply Evs.cons rfl)) rfl rfl (by repeat (first | exact CellsOf.nil | apply CellsOf.cons rfl)) (by kernel_rfl) rfl rfl rfl ?_; intro b10
  refine WL.heap (fun w h => Sat.shareRow (enc := one vs) (xs := [[120], [97], [98]]) (m := 3) (by repeat (first | assumption | exact Take.head _ | apply Take.tail)) rfl rfl (by decide) h) ?_
  refine WL.op rfl ?_
  refine OpW.buildSl (ps := [(0, _), (1, _), (2, _)]) rfl S22 (by repeat (first | exact Evs.nil | apply Evs.cons rfl)) rfl rfl (by repeat (first | exact CellsOf.nil | apply CellsOf.cons rfl)) (by kernel_rfl) rfl rfl rfl ?_; intro b11
  refine WL.heap (fun w h => Sat.shareRow (enc := one vs) (xs := [[97], [98], [121]]) (m := 3) (by repeat (first | assumption | exact Take.head _ | apply Take.tail)) rfl rfl (by decide) h) ?_
  refine WL.op rfl ?_
  refine OpW.call rfl rfl (by repeat (first | exact Evs.nil | apply Evs.cons rfl)) (by kernel_rfl) rfl rfl rfl ?_
  refine lists_spec (base := [[97], [98]]) (ours := [[120], [97], [98]]) (theirs := [[97], [98], [121]]) (by repeat (first | assumption | exact List.mem_cons_self | refine List.mem_cons_of_mem _ ?_)) (by repeat (first | assumption | exact List.mem_cons_self | refine List.mem_cons_of_mem _ ?_)) (by repeat (first | assumption | exact List.mem_cons_self | refine List.mem_cons_of_mem _ ?_)) (fun h => by simp at h) ?_; intro _ _ _ lv cv; rw [speaks_lists]
  refine WL.rd rfl rfl rfl (Rd.move rfl rfl) ?_
  refine WL.rd rfl rfl rfl (Rd.extract rfl rfl rfl) ?_
  refine WL.rd rfl rfl rfl (Rd.extract rfl rfl rfl) ?_
  refine WL.rd rfl rfl rfl (Rd.extract rfl rfl rfl) ?_
  refine WL.rd rfl rfl rfl (Rd.assign rfl rfl) ?_
  refine WL.rd rfl rfl rfl (Rd.assign rfl rfl) ?_
  refine WL.rd rfl rfl rfl (Rd.assign rfl rfl) ?_
  refine WL.nil ?_
  refine thenQ.normal ?_
  refine WC.seq ?_
  refine WC.region ?_
  refine WL.op rfl ?_
  refine OpW.buildSl (ps := [(0, _), (1, _)]) rfl S22 (by repeat (first | exact Evs.nil | apply Evs.cons rfl)) rfl rfl (by repeat (first | exact CellsOf.nil | apply CellsOf.cons rfl)) (by kernel_rfl) rfl rfl rfl ?_; intro b17
  refine WL.heap (fun w h => Sat.shareRow (enc := one vs) (xs := [[97], [98]]) (m := 2) (by repeat (first | assumption | exact Take.head _ | apply Take.tail)) rfl rfl (by decide) h) ?_
  refine WL.op rfl ?_
  refine OpW.buildSl (ps := [(0, _), (1, _), (2, _)]) rfl S22 (by repeat (first | exact Evs.nil | apply Evs.cons rfl)) rfl rfl (by repeat (first | exact CellsOf.nil | apply CellsOf.cons rfl)) (by kernel_rfl) rfl rfl rfl ?_; intro b18
  refine WL.heap (fun w h => Sat.shareRow (enc := one vs) (xs := [[120], [97], [98]]) (m := 3) (by repeat (first | assumption | exact Take.head _ | apply Take.tail)) rfl rfl (by decide) h) ?_
  refine WL.op rfl ?_
  refine OpW.buildSl (ps := [(0, _), (1, _), (2, _)]) rfl S22 (by repeat (first | exact Evs.nil | apply Evs.cons rfl)) rfl rfl (by repeat (first | exact CellsOf.nil | apply CellsOf.cons rfl)) (by kernel_rfl) rfl rfl rfl ?_; intro b19
  refine WL.heap (fun w h => Sat.shareRow (enc := one vs) (xs := [[97], [98], [121]]) (m := 3) (by repeat (first | assumption | exact Take.head _ | apply Take.tail)) rfl rfl (by decide) h) ?_
  refine WL.op rfl ?_
  refine OpW.call rfl rfl (by repeat (first | exact Evs.nil | apply Evs.cons rfl)) (by kernel_rfl) rfl rfl rfl ?_
  refine lines_spec (base := [[97], [98]]) (ours := [[120], [97], [98]]) (theirs := [[97], [98], [121]]) (by repeat (first | assumption | exact List.mem_cons_self | refine List.mem_cons_of_mem _ ?_)) (by repeat (first | assumption | exact List.mem_cons_self | refine List.mem_cons_of_mem _ ?_)) (by repeat (first | assumption | exact List.mem_cons_self | refine List.mem_cons_of_mem _ ?_)) (fun h => by simp at h) ?_; intro _ _ _ mv hv vsl; rw [speaks_lines]; intro hvl
  refine WL.rd rfl rfl rfl (Rd.move rfl rfl) ?_
  refine WL.rd rfl rfl rfl (Rd.extract rfl rfl rfl) ?_
  refine WL.rd rfl rfl rfl (Rd.extract rfl rfl rfl) ?_
  refine WL.rd rfl rfl rfl (Rd.extract rfl rfl rfl) ?_
  refine WL.rd rfl rfl rfl (Rd.assign rfl rfl) ?_
  refine WL.rd rfl rfl rfl (Rd.assign rfl rfl) ?_
  refine WL.rd rfl rfl rfl (Rd.assign rfl rfl) ?_
  refine WL.nil ?_
  refine thenQ.normal ?_
  refine WC.seq ?_
  refine WC.region ?_
  refine WL.op rfl ?_
  refine OpW.buildSl (ps := [(0, _), (1, _), (2, _), (3, _)]) rfl S22 (by repeat (first | exact Evs.nil | apply Evs.cons rfl)) rfl rfl (by repeat (first | exact CellsOf.nil | apply CellsOf.cons rfl)) (by kernel_rfl) rfl rfl rfl ?_; intro b24
  refine WL.heap (fun w h => Sat.shareRow (enc := one vs) (xs := [[120], [97], [98], [121]]) (m := 4) (by repeat (first | assumption | exact Take.head _ | apply Take.tail)) rfl rfl (by decide) h) ?_
  refine WL.rd rfl rfl rfl (Rd.assign rfl rfl) ?_
  refine WL.nil ?_
  refine thenQ.normal ?_
  refine WC.seq ?_
  refine WC.region ?_
  refine WL.rd rfl rfl rfl (Rd.move rfl rfl) ?_
  refine WL.rd rfl rfl rfl (Rd.eql rfl rfl rfl) ?_
  refine WL.rd rfl rfl rfl (Rd.move rfl rfl) ?_
  refine WL.case 27 rfl (fun hg27 => ?_) (fun hg27 => ?_)
  · skip
    refine WL.rd_yes rfl rfl rfl rfl rfl rfl (Rd.move rfl rfl) ?_
    refine WL.rd_yes rfl rfl rfl rfl rfl rfl (Rd.lenE (enc := one vs) (xs := []) rfl rfl Try.underlying22 (by repeat (first | assumption | exact List.mem_cons_self | refine List.mem_cons_of_mem _ ?_))) ?_
    refine WL.rd_yes rfl rfl rfl rfl rfl rfl (Rd.eql rfl rfl rfl) ?_
    refine WL.rd rfl rfl rfl (Rd.pick_t rfl rfl rfl) ?_
    refine WL.rd rfl rfl rfl (Rd.move rfl rfl) ?_
    refine WL.case 32 rfl (fun hg32 => ?_) (fun hg32 => ?_)
    · skip
      refine WL.rd_yes rfl rfl rfl rfl rfl rfl (Rd.move rfl rfl) ?_
      refine WL.rd_yes rfl rfl rfl rfl rfl rfl (Rd.move rfl rfl) ?_
      refine WL.op_yes rfl rfl rfl rfl ?_
      refine OpW.call rfl rfl (by repeat (first | exact Evs.nil | apply Evs.cons rfl)) (by kernel_rfl) rfl rfl rfl ?_
      refine alike_spec (xs := [[120], [97], [98], [121]]) (ys := [[120], [97], [98], [121]]) (by repeat (first | assumption | exact List.mem_cons_self | refine List.mem_cons_of_mem _ ?_)) (by repeat (first | assumption | exact List.mem_cons_self | refine List.mem_cons_of_mem _ ?_)) ?_
      refine WL.say 35 (u := .bool (decide True)) rfl (by simp) ?_
      refine WL.rd rfl rfl rfl (Rd.pick_t rfl rfl rfl) ?_
      refine WL.rd rfl rfl rfl (Rd.move rfl rfl) ?_
      refine WL.case 37 rfl (fun hg37 => ?_) (fun hg37 => ?_)
      · skip
        refine WL.rd_yes rfl rfl rfl rfl rfl rfl (Rd.move rfl rfl) ?_
        refine WL.rd_yes rfl rfl rfl rfl rfl rfl (Rd.eql rfl rfl rfl) ?_
        refine WL.rd rfl rfl rfl (Rd.pick_t rfl rfl rfl) ?_
        refine WL.rd rfl rfl rfl (Rd.move rfl rfl) ?_
        refine WL.case 41 rfl (fun hg41 => ?_) (fun hg41 => ?_)
        · skip
          refine WL.rd_yes rfl rfl rfl rfl rfl rfl (Rd.move rfl rfl) ?_
          refine WL.rd_yes rfl rfl rfl rfl rfl rfl (Rd.lenE (enc := encH) (xs := vsl) rfl rfl Try.underlying32 (by repeat (first | assumption | exact List.mem_cons_self | refine List.mem_cons_of_mem _ ?_))) ?_
          refine WL.rd_yes rfl rfl rfl rfl rfl rfl (Rd.eql rfl rfl rfl) ?_
          refine WL.rd rfl rfl rfl (Rd.pick_t rfl rfl rfl) ?_
          refine WL.rd rfl rfl rfl (Rd.move rfl rfl) ?_
          refine WL.case 46 rfl (fun hg46 => ?_) (fun hg46 => ?_)
          · skip
            refine WL.rd_yes rfl rfl rfl rfl rfl rfl (Rd.move rfl rfl) ?_
            refine WL.rd_yes rfl rfl rfl rfl rfl rfl (Rd.move rfl rfl) ?_
            refine WL.op_yes rfl rfl rfl rfl ?_
            refine OpW.call rfl rfl (by repeat (first | exact Evs.nil | apply Evs.cons rfl)) (by kernel_rfl) rfl rfl rfl ?_
            refine alike_spec (xs := [[120], [97], [98], [121]]) (ys := [[120], [97], [98], [121]]) (by repeat (first | assumption | exact List.mem_cons_self | refine List.mem_cons_of_mem _ ?_)) (by repeat (first | assumption | exact List.mem_cons_self | refine List.mem_cons_of_mem _ ?_)) ?_
            refine WL.say 49 (u := .bool true) rfl (by simp) ?_
            refine WL.rd rfl rfl rfl (Rd.pick_t rfl rfl rfl) ?_
            refine WL.rd rfl rfl rfl (Rd.assign rfl rfl) ?_
            refine WL.nil ?_
            refine thenQ.normal ?_
            -- ret_1
            refine WC.heap (R' := R) (O' := O) (fun w h => OwnL.sat (by repeat (first | exact OwnL.refl | apply OwnL.take (by repeat (first | exact Take.head _ | apply Take.tail)) | apply OwnL.drop)) w (h.thin (SubL.mem (by repeat (first | exact SubL.refl | refine SubL.cons (by repeat (first | assumption | exact List.mem_cons_self | refine List.mem_cons_of_mem _ ?_)) ?_ | refine SubL.skip ?_))))) ?_
            refine WC.ret (Ret.one Try.results8 rfl ?_)
            exact hk
          · skip
            (simp at hvl; simp [hvl] at hg46)
        · skip
          exact absurd rfl hg41
      · skip
        exact absurd trivial hg37
    · skip
      exact absurd rfl hg32
  · skip
    exact absurd rfl hg27
end Go.Proofs.Ytpicbbkmcbhnpaa
