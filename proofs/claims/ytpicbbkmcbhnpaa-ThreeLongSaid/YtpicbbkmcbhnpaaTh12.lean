/-
  Layer 21: the document's answer for Lines.
-/
import Derived.Test.YtpicbbkmcbhnpaaTh11
namespace Go.Proofs.Ytpicbbkmcbhnpaa
open Go Go.SL Go.Lcs

theorem oneE_a {b o t : List (List UInt8)} (h : o = t ∨ t = b) : oneE b o t = some o := by unfold oneE; rw [if_pos h]
theorem oneE_b {b o t : List (List UInt8)} (h : ¬ (o = t ∨ t = b)) (h2 : o = b) : oneE b o t = some t := by unfold oneE; rw [if_neg h, if_pos h2]
theorem oneE_c {b o t : List (List UInt8)} (h : ¬ (o = t ∨ t = b)) (h2 : ¬ o = b) : oneE b o t = none := by unfold oneE; rw [if_neg h, if_neg h2]
set_option maxHeartbeats 8000000 in
theorem refLines_spec {R : List RO} {O : List Own} {POST : Value → List RO → List Own → Prop} {base ours theirs : List (List UInt8)} {bv ov tv : Value} (hb : SlE (one vs) bv base ∈ R) (ho : SlE (one vs) ov ours ∈ R) (ht : SlE (one vs) tv theirs ∈ R)
    (l1 : base.length ≤ 4096) (l2 : ours.length ≤ 4096) (l3 : theirs.length ≤ 4096)
    (hk : ∀ u v (vsl : List (V1 × V1 × V1)), vsl.length = (linesE base ours theirs).2.length → POST (.tuple #[u, v]) (SlE (one vs) u (linesE base ours theirs).1 :: SlE encH v vsl :: HunksR vsl (linesE base ours theirs).2 :: R) O) :
    Fun Try.prog 14 #[bv, ov, tv] R O POST := by
  refine Fun.enter (l := [_, _, _]) Try.func14 rfl Try.ntmps14 rfl (L0 := [(0, _), (1, _), (2, _)]) rfl ?_
  refine WC.seq ?_
  refine WC.region ?_
  refine WL.rd rfl rfl rfl (Rd.assign rfl rfl) ?_
  refine WL.rd rfl rfl rfl (Rd.assign rfl rfl) ?_
  refine WL.nil ?_
  refine thenQ.normal ?_
  refine WC.seq ?_
  refine WC.region ?_
  refine WL.rd rfl rfl rfl (Rd.move rfl rfl) ?_
  refine WL.rd rfl rfl rfl (Rd.move rfl rfl) ?_
  refine WL.op rfl ?_
  refine OpW.call rfl rfl (by repeat (first | exact Evs.nil | apply Evs.cons rfl)) (by kernel_rfl) rfl rfl rfl ?_
  refine refMatch_spec hb ho l1 l2 ?_; intro pv
  refine WL.rd rfl rfl rfl (Rd.move rfl rfl) ?_
  refine WL.rd rfl rfl rfl (Rd.move rfl rfl) ?_
  refine WL.op rfl ?_
  refine OpW.call rfl rfl (by repeat (first | exact Evs.nil | apply Evs.cons rfl)) (by kernel_rfl) rfl rfl rfl ?_
  refine refMatch_spec (List.mem_cons_of_mem _ hb) (List.mem_cons_of_mem _ ht) l1 l3 ?_; intro qv
  have mp := matchE_len base ours
  have mq := matchE_len base theirs
  refine WL.rd rfl rfl rfl (Rd.assign rfl rfl) ?_
  refine WL.rd rfl rfl rfl (Rd.assign rfl rfl) ?_
  refine WL.nil ?_
  refine thenQ.normal ?_
  refine WC.seq ?_
  refine WC.region ?_
  refine WL.rd rfl rfl rfl (Rd.assign rfl rfl) ?_
  refine WL.nil ?_
  refine thenQ.normal ?_
  refine WC.seq ?_
  refine WC.region ?_
  refine WL.rd rfl rfl rfl (Rd.assign rfl rfl) ?_
  refine WL.nil ?_
  refine thenQ.normal ?_
  refine WC.seq ?_
  refine WC.region ?_
  refine WL.rd rfl rfl rfl (Rd.assign rfl rfl) ?_
  refine WL.rd rfl rfl rfl (Rd.assign rfl rfl) ?_
  refine WL.rd rfl rfl rfl (Rd.assign rfl rfl) ?_
  refine WL.nil ?_
  refine thenQ.normal ?_
  refine WC.seq ?_
  refine WC.seq ?_
  refine WC.region ?_
  refine WL.rd rfl rfl rfl (Rd.assign rfl rfl) ?_
  refine WL.nil ?_
  refine thenQ.normal ?_
  refine WC.block ?_
  refine WC.pick [15, 12, 13, 14, 10, 11, 0, 1, 2, 8, 9] (by repeat (first | exact Pick.nil | apply Pick.cons rfl)) ?_
  refine WC.loop5r 6 (fun (n : Nat) (u : Value) (hv : Value) (vsl : List (V1 × V1 × V1)) (s : LSt) => [(15, .int .i64 (n : Int)), (12, vn s.i), (13, vn s.j), (14, vn s.k), (10, u), (11, hv)]) (fun (n : Nat) (u : Value) (hv : Value) (vsl : List (V1 × V1 × V1)) (s : LSt) => HunksR vsl s.bad :: SlE (one vi) qv (matchE base theirs) :: SlE (one vi) pv (matchE base ours) :: R) (fun (n : Nat) (u : Value) (hv : Value) (vsl : List (V1 × V1 × V1)) (s : LSt) => accC 9 1 (one vs) u s.out :: accC 40 3 encH hv vsl :: O) (fun (n : Nat) (u : Value) (hv : Value) (vsl : List (V1 × V1 × V1)) (s : LSt) => (n ≤ base.length ∧ s = lrun base ours theirs n) ∨ (n = base.length + 1 ∧ s.out = (lfin base ours theirs).1 ∧ s.bad = (lfin base ours theirs).2)) (fun (n : Nat) (u : Value) (hv : Value) (vsl : List (V1 × V1 × V1)) (s : LSt) => base.length + 1 - n) (0) (.slice none 0 0) (.slice none 0 0) ([]) (⟨0, 0, 0, [], []⟩) (by repeat (first | exact Split.zero | apply Split.succ)) ?hinv1 (by repeat (first | exact Sub.nil | refine Sub.cons rfl (by first | rfl | (congr 1; omega) | assumption) ?_)) (fun w h => by
  have h1 := h.accNil (α := V1 × V1 × V1) (e := 40) (size := 3) (enc := encH)
  have h2 := h1.accNil (α := List UInt8) (e := 9) (size := 1) (enc := one vs)
  have h3 := h2.derive (q := HunksR [] []) (fun _ _ => HunksR.nil)
  exact (fun w h => OwnL.sat (by repeat (first | exact OwnL.refl | apply OwnL.take (by repeat (first | exact Take.head _ | apply Take.tail)) | apply OwnL.drop)) w (h.thin (SubL.mem (by repeat (first | exact SubL.refl | refine SubL.cons (by repeat (first | assumption | exact List.mem_cons_self | refine List.mem_cons_of_mem _ ?_)) ?_ | refine SubL.skip ?_))))) w h3) ?_
  case hinv1 =>
    exact .inl ⟨Nat.zero_le _, rfl⟩
  intro n u hv vsl s
  rintro i1
  refine WC.know (p := HunksR vsl s.bad) List.mem_cons_self (fun w h => h.1) fun hvl => ?_
  refine WC.seq ?_
  refine WC.seq ?_
  refine WC.region ?_
  refine WL.rd rfl rfl rfl (Rd.move rfl rfl) ?_
  refine WL.rd rfl rfl rfl (Rd.move rfl rfl) ?_
  refine WL.rd rfl rfl rfl ((by first | exact Rd.lenE rfl rfl Try.underlying22 (by repeat (first | assumption | exact List.mem_cons_self | refine List.mem_cons_of_mem _ ?_)) | exact Rd.lenA rfl rfl Try.underlying22 (by repeat (first | assumption | exact List.mem_cons_self | refine List.mem_cons_of_mem _ ?_)) | exact Rd.len rfl rfl Try.underlying22)) ?_
  refine WL.rd rfl rfl rfl (Rd.leq rfl rfl rfl) ?_
  refine WL.nil ?_
  refine thenQ.normal ?_
  first | refine WC.ite rfl (fun hc1 => ?_) (fun hc1 => ?_) | refine WC.cond rfl (fun hc1 => ?_) (fun hc1 => ?_)
  · skip
    obtain ⟨i1, i2⟩ : n ≤ base.length ∧ s = lrun base ours theirs n := by
      rcases i1 with h | ⟨h, _⟩
      · exact h
      · omega
    have hs := lrun_ok (base := base) (ours := ours) (theirs := theirs) n i1
    rw [← i2] at hs
    obtain ⟨hs1, hs2, hs3, hs4, hs5, hs6⟩ := hs
    refine WC.skip ?_
    refine thenQ.normal ?_
    refine WC.seq ?_
    refine WC.block ?_
    refine WC.seq ?_
    refine WC.region ?_
    refine WL.rd rfl rfl rfl (Rd.move rfl rfl) ?_
    refine WL.rd rfl rfl rfl ((by first | exact Rd.lenE rfl rfl Try.underlying22 (by repeat (first | assumption | exact List.mem_cons_self | refine List.mem_cons_of_mem _ ?_)) | exact Rd.lenA rfl rfl Try.underlying22 (by repeat (first | assumption | exact List.mem_cons_self | refine List.mem_cons_of_mem _ ?_)) | exact Rd.len rfl rfl Try.underlying22)) ?_
    refine WL.rd rfl rfl rfl (Rd.move rfl rfl) ?_
    refine WL.rd rfl rfl rfl ((by first | exact Rd.lenE rfl rfl Try.underlying22 (by repeat (first | assumption | exact List.mem_cons_self | refine List.mem_cons_of_mem _ ?_)) | exact Rd.lenA rfl rfl Try.underlying22 (by repeat (first | assumption | exact List.mem_cons_self | refine List.mem_cons_of_mem _ ?_)) | exact Rd.len rfl rfl Try.underlying22)) ?_
    refine WL.rd rfl rfl rfl (Rd.assign rfl rfl) ?_
    refine WL.rd rfl rfl rfl (Rd.assign rfl rfl) ?_
    refine WL.nil ?_
    refine thenQ.normal ?_
    refine WC.seq ?_
    refine WC.seq ?_
    refine WC.region ?_
    refine WL.rd rfl rfl rfl (Rd.move rfl rfl) ?_
    refine WL.rd rfl rfl rfl (Rd.move rfl rfl) ?_
    refine WL.rd rfl rfl rfl ((by first | exact Rd.lenE rfl rfl Try.underlying22 (by repeat (first | assumption | exact List.mem_cons_self | refine List.mem_cons_of_mem _ ?_)) | exact Rd.lenA rfl rfl Try.underlying22 (by repeat (first | assumption | exact List.mem_cons_self | refine List.mem_cons_of_mem _ ?_)) | exact Rd.len rfl rfl Try.underlying22)) ?_
    refine WL.rd rfl rfl rfl (Rd.lss rfl rfl rfl) ?_
    refine WL.nil ?_
    refine thenQ.normal ?_
    first | refine WC.ite rfl (fun hc2 => ?_) (fun hc2 => ?_) | refine WC.cond rfl (fun hc2 => ?_) (fun hc2 => ?_)
    · skip
      refine WC.seq ?_
      refine WC.pick [0, 1, 2, 8, 9, 10, 11, 12, 13, 14, 15] (by repeat (first | exact Pick.nil | apply Pick.cons rfl)) ?_
      refine WC.val 52 (.bool (decide (¬ (0 ≤ (matchE base ours)[n]! ∧ 0 ≤ (matchE base theirs)[n]!)))) ?_ ?_
      · skip
        refine WC.region ?_
        refine WL.rd rfl rfl rfl (Rd.move rfl rfl) ?_
        refine WL.rd rfl rfl rfl (Rd.move rfl rfl) ?_
        refine WL.rd rfl rfl rfl ((by first | exact Rd.idx1 rfl S56 rfl rfl rfl (by repeat (first | assumption | exact List.mem_cons_self | refine List.mem_cons_of_mem _ ?_)) (by first | omega | (simp only [List.length_cons, List.length_nil, List.length_append, List.length_map]; omega)) | exact Rd.idxA1 rfl S56 rfl rfl rfl (by repeat (first | assumption | exact List.mem_cons_self | refine List.mem_cons_of_mem _ ?_)) (by first | omega | (simp only [List.length_cons, List.length_nil, List.length_append, List.length_map]; omega)) | exact Rd.idxR1 rfl S56 rfl rfl rfl (by omega))) ?_
        refine WL.rd rfl rfl rfl ((by first | exact Rd.get rfl C3 rfl (by repeat (first | assumption | exact List.mem_cons_self | refine List.mem_cons_of_mem _ ?_)) (by first | assumption | rfl | exact get!_of_lt (by omega)) | exact Rd.getA rfl C3 rfl (by repeat (first | assumption | exact List.mem_cons_self | refine List.mem_cons_of_mem _ ?_)) (by first | assumption | rfl | exact get!_of_lt (by omega)) | exact Rd.row1 rfl C3 rfl (by repeat (first | assumption | exact List.mem_cons_self | refine List.mem_cons_of_mem _ ?_)) (by rfl) | exact Rd.getF rfl C3 rfl (by repeat (first | assumption | exact List.mem_cons_self | refine List.mem_cons_of_mem _ ?_)) (by intro x; first | rfl | (cases x; rfl) | (rcases x with ⟨_, _, _⟩; rfl) | (rcases x with ⟨_, _, _, _⟩; rfl)) rfl (by first | assumption | rfl | exact get!_of_lt (by omega)) (by rfl) | exact Rd.getFA rfl C3 rfl (by repeat (first | assumption | exact List.mem_cons_self | refine List.mem_cons_of_mem _ ?_)) (by intro x; first | rfl | (cases x; rfl) | (rcases x with ⟨_, _, _⟩; rfl) | (rcases x with ⟨_, _, _, _⟩; rfl)) rfl (by first | assumption | rfl | exact get!_of_lt (by omega)) (by rfl))) ?_
        refine WL.rd rfl rfl rfl (Rd.lss rfl rfl rfl) ?_
        refine WL.rd rfl rfl rfl (Rd.move rfl rfl) ?_
        refine WL.case 46 rfl (fun hg46 => ?_) (fun hg46 => ?_)
        · skip
          refine WL.no rfl rfl rfl rfl rfl rfl ?_
          refine WL.no rfl rfl rfl rfl rfl rfl ?_
          refine WL.no rfl rfl rfl rfl rfl rfl ?_
          refine WL.no rfl rfl rfl rfl rfl rfl ?_
          refine WL.no rfl rfl rfl rfl rfl rfl ?_
          refine WL.rd rfl rfl rfl (Rd.pick_t rfl rfl rfl) ?_
          refine WL.nil ?_
          exact ⟨by repeat (first | exact Sub.nil | refine Sub.cons rfl (by first | rfl | (first | rfl | exact vb (by omega) | exact vb_t (by omega) | exact vb_f (by omega) | (simp [*]; done) | (simp_all; done))) ?_), by first | exact (fun _ h => h.thin (SubL.mem (by repeat (first | exact SubL.refl | refine SubL.cons (by repeat (first | assumption | exact List.mem_cons_self | refine List.mem_cons_of_mem _ ?_)) ?_ | refine SubL.skip ?_)))) | exact (fun w h => OwnL.sat (by repeat (first | exact OwnL.refl | apply OwnL.take (by repeat (first | exact Take.head _ | apply Take.tail)) | apply OwnL.drop)) w (h.thin (SubL.mem (by repeat (first | exact SubL.refl | refine SubL.cons (by repeat (first | assumption | exact List.mem_cons_self | refine List.mem_cons_of_mem _ ?_)) ?_ | refine SubL.skip ?_)))))⟩
        · skip
          refine WL.rd_yes rfl rfl rfl rfl rfl rfl (Rd.move rfl rfl) ?_
          refine WL.rd_yes rfl rfl rfl rfl rfl rfl (Rd.move rfl rfl) ?_
          refine WL.rd_yes rfl rfl rfl rfl rfl rfl ((by first | exact Rd.idx1 rfl S56 rfl rfl rfl (by repeat (first | assumption | exact List.mem_cons_self | refine List.mem_cons_of_mem _ ?_)) (by first | omega | (simp only [List.length_cons, List.length_nil, List.length_append, List.length_map]; omega)) | exact Rd.idxA1 rfl S56 rfl rfl rfl (by repeat (first | assumption | exact List.mem_cons_self | refine List.mem_cons_of_mem _ ?_)) (by first | omega | (simp only [List.length_cons, List.length_nil, List.length_append, List.length_map]; omega)) | exact Rd.idxR1 rfl S56 rfl rfl rfl (by omega))) ?_
          refine WL.rd_yes rfl rfl rfl rfl rfl rfl ((by first | exact Rd.get rfl C3 rfl (by repeat (first | assumption | exact List.mem_cons_self | refine List.mem_cons_of_mem _ ?_)) (by first | assumption | rfl | exact get!_of_lt (by omega)) | exact Rd.getA rfl C3 rfl (by repeat (first | assumption | exact List.mem_cons_self | refine List.mem_cons_of_mem _ ?_)) (by first | assumption | rfl | exact get!_of_lt (by omega)) | exact Rd.row1 rfl C3 rfl (by repeat (first | assumption | exact List.mem_cons_self | refine List.mem_cons_of_mem _ ?_)) (by rfl) | exact Rd.getF rfl C3 rfl (by repeat (first | assumption | exact List.mem_cons_self | refine List.mem_cons_of_mem _ ?_)) (by intro x; first | rfl | (cases x; rfl) | (rcases x with ⟨_, _, _⟩; rfl) | (rcases x with ⟨_, _, _, _⟩; rfl)) rfl (by first | assumption | rfl | exact get!_of_lt (by omega)) (by rfl) | exact Rd.getFA rfl C3 rfl (by repeat (first | assumption | exact List.mem_cons_self | refine List.mem_cons_of_mem _ ?_)) (by intro x; first | rfl | (cases x; rfl) | (rcases x with ⟨_, _, _⟩; rfl) | (rcases x with ⟨_, _, _, _⟩; rfl)) rfl (by first | assumption | rfl | exact get!_of_lt (by omega)) (by rfl))) ?_
          refine WL.rd_yes rfl rfl rfl rfl rfl rfl (Rd.lss rfl rfl rfl) ?_
          refine WL.rd rfl rfl rfl (Rd.pick_f rfl rfl rfl) ?_
          refine WL.nil ?_
          exact ⟨by repeat (first | exact Sub.nil | refine Sub.cons rfl (by first | rfl | (first | rfl | exact vb (by omega) | exact vb_t (by omega) | exact vb_f (by omega) | (simp [*]; done) | (simp_all; done))) ?_), by first | exact (fun _ h => h.thin (SubL.mem (by repeat (first | exact SubL.refl | refine SubL.cons (by repeat (first | assumption | exact List.mem_cons_self | refine List.mem_cons_of_mem _ ?_)) ?_ | refine SubL.skip ?_)))) | exact (fun w h => OwnL.sat (by repeat (first | exact OwnL.refl | apply OwnL.take (by repeat (first | exact Take.head _ | apply Take.tail)) | apply OwnL.drop)) w (h.thin (SubL.mem (by repeat (first | exact SubL.refl | refine SubL.cons (by repeat (first | assumption | exact List.mem_cons_self | refine List.mem_cons_of_mem _ ?_)) ?_ | refine SubL.skip ?_)))))⟩
      · skip
        first | refine WC.ite rfl (fun hc3 => ?_) (fun hc3 => ?_) | refine WC.cond rfl (fun hc3 => ?_) (fun hc3 => ?_)
        · skip
          refine WC.exit ?_
          refine thenQ.exit ?_
          refine thenQ.exit ?_
          refine blockQ.exit ?_
          refine thenQ.normal ?_
          refine WC.region ?_
          refine WL.rd rfl rfl rfl (Rd.move rfl rfl) ?_
          refine WL.rd rfl rfl rfl (Rd.add rfl rfl rfl (by omega)) ?_
          refine WL.rd rfl rfl rfl (Rd.assign rfl rfl) ?_
          refine WL.nil ?_
          -- next1_1
          exact loopQ5.mk (n + 1) u hv vsl s (.inl ⟨by omega, by rw [lrun_succ, ← i2, lstep, if_neg hc3]⟩) (by omega) (by repeat (first | exact Sub.nil | refine Sub.cons rfl (by first | rfl | (congr 1; omega) | assumption) ?_)) (fun w h => h)
        · skip
          obtain ⟨m1, m2⟩ := Decidable.not_not.1 hc3
          obtain ⟨j1, hj1⟩ : ∃ j : Nat, (matchE base ours)[n]! = j := ⟨_, (Int.toNat_of_nonneg m1).symm⟩
          obtain ⟨k1, hk1⟩ : ∃ j : Nat, (matchE base theirs)[n]! = j := ⟨_, (Int.toNat_of_nonneg m2).symm⟩
          have nx := hs6 n (Nat.le_refl _) (by omega) m1 m2
          have b1 := matchE_in (y := ours) (n := n) (by omega) m1
          have b2 := matchE_in (y := theirs) (n := n) (by omega) m2
          rw [hj1] at nx b1
          rw [hk1] at nx b2
          have hst : (n = base.length ∧ (lpiece base ours theirs s n j1 k1) = lfin base ours theirs) ∨ (n < base.length ∧ lrun base ours theirs (n + 1) = { i := n + 1, j := j1 + 1, k := k1 + 1, out := (lpiece base ours theirs s n j1 k1).1 ++ [base[n]!], bad := (lpiece base ours theirs s n j1 k1).2 }) := by
            refine .inr ⟨by omega, ?_⟩
            rw [lrun_succ, ← i2, lstep, if_pos ⟨m1, m2⟩, hj1, hk1]; rfl
          refine WC.skip ?_
          refine thenQ.normal ?_
          refine WC.still mixed (by kernel_rfl) ?_
          refine WA.rd rfl rfl rfl (Rd.move rfl rfl) ?_
          refine WA.rd rfl rfl rfl (Rd.move rfl rfl) ?_
          refine WA.rd rfl rfl rfl ((by first | exact Rd.idx1 rfl S56 rfl rfl rfl (by repeat (first | assumption | exact List.mem_cons_self | refine List.mem_cons_of_mem _ ?_)) (by first | omega | (simp only [List.length_cons, List.length_nil, List.length_append, List.length_map]; omega)) | exact Rd.idxA1 rfl S56 rfl rfl rfl (by repeat (first | assumption | exact List.mem_cons_self | refine List.mem_cons_of_mem _ ?_)) (by first | omega | (simp only [List.length_cons, List.length_nil, List.length_append, List.length_map]; omega)) | exact Rd.idxR1 rfl S56 rfl rfl rfl (by omega))) ?_
          refine WA.rd rfl rfl rfl ((by first | exact Rd.get rfl C3 rfl (by repeat (first | assumption | exact List.mem_cons_self | refine List.mem_cons_of_mem _ ?_)) (by first | assumption | rfl | exact get!_of_lt (by omega)) | exact Rd.getA rfl C3 rfl (by repeat (first | assumption | exact List.mem_cons_self | refine List.mem_cons_of_mem _ ?_)) (by first | assumption | rfl | exact get!_of_lt (by omega)) | exact Rd.row1 rfl C3 rfl (by repeat (first | assumption | exact List.mem_cons_self | refine List.mem_cons_of_mem _ ?_)) (by rfl) | exact Rd.getF rfl C3 rfl (by repeat (first | assumption | exact List.mem_cons_self | refine List.mem_cons_of_mem _ ?_)) (by intro x; first | rfl | (cases x; rfl) | (rcases x with ⟨_, _, _⟩; rfl) | (rcases x with ⟨_, _, _, _⟩; rfl)) rfl (by first | assumption | rfl | exact get!_of_lt (by omega)) (by rfl) | exact Rd.getFA rfl C3 rfl (by repeat (first | assumption | exact List.mem_cons_self | refine List.mem_cons_of_mem _ ?_)) (by intro x; first | rfl | (cases x; rfl) | (rcases x with ⟨_, _, _⟩; rfl) | (rcases x with ⟨_, _, _, _⟩; rfl)) rfl (by first | assumption | rfl | exact get!_of_lt (by omega)) (by rfl))) ?_
          refine WA.rd rfl rfl rfl (Rd.move rfl rfl) ?_
          refine WA.rd rfl rfl rfl (Rd.move rfl rfl) ?_
          refine WA.rd rfl rfl rfl ((by first | exact Rd.idx1 rfl S56 rfl rfl rfl (by repeat (first | assumption | exact List.mem_cons_self | refine List.mem_cons_of_mem _ ?_)) (by first | omega | (simp only [List.length_cons, List.length_nil, List.length_append, List.length_map]; omega)) | exact Rd.idxA1 rfl S56 rfl rfl rfl (by repeat (first | assumption | exact List.mem_cons_self | refine List.mem_cons_of_mem _ ?_)) (by first | omega | (simp only [List.length_cons, List.length_nil, List.length_append, List.length_map]; omega)) | exact Rd.idxR1 rfl S56 rfl rfl rfl (by omega))) ?_
          refine WA.rd rfl rfl rfl ((by first | exact Rd.get rfl C3 rfl (by repeat (first | assumption | exact List.mem_cons_self | refine List.mem_cons_of_mem _ ?_)) (by first | assumption | rfl | exact get!_of_lt (by omega)) | exact Rd.getA rfl C3 rfl (by repeat (first | assumption | exact List.mem_cons_self | refine List.mem_cons_of_mem _ ?_)) (by first | assumption | rfl | exact get!_of_lt (by omega)) | exact Rd.row1 rfl C3 rfl (by repeat (first | assumption | exact List.mem_cons_self | refine List.mem_cons_of_mem _ ?_)) (by rfl) | exact Rd.getF rfl C3 rfl (by repeat (first | assumption | exact List.mem_cons_self | refine List.mem_cons_of_mem _ ?_)) (by intro x; first | rfl | (cases x; rfl) | (rcases x with ⟨_, _, _⟩; rfl) | (rcases x with ⟨_, _, _, _⟩; rfl)) rfl (by first | assumption | rfl | exact get!_of_lt (by omega)) (by rfl) | exact Rd.getFA rfl C3 rfl (by repeat (first | assumption | exact List.mem_cons_self | refine List.mem_cons_of_mem _ ?_)) (by intro x; first | rfl | (cases x; rfl) | (rcases x with ⟨_, _, _⟩; rfl) | (rcases x with ⟨_, _, _, _⟩; rfl)) rfl (by first | assumption | rfl | exact get!_of_lt (by omega)) (by rfl))) ?_
          refine WA.rd rfl rfl rfl (Rd.assign rfl rfl) ?_
          refine WA.rd rfl rfl rfl (Rd.assign rfl rfl) ?_
          refine WA.nil ?_
          refine thenQ.normal ?_
          refine WC.seq ?_
          refine WC.say 16 (u := .int .i64 (j1 : Int)) rfl (by rw [hj1]) ?_
          refine WC.say 17 (u := .int .i64 (k1 : Int)) rfl (by rw [hk1]) ?_
          have q1 : s.j ≤ j1 := by omega
          have q2 : j1 ≤ ours.length := by omega
          have q3 : s.k ≤ k1 := by omega
          have q4 : k1 ≤ theirs.length := by omega
          have hlp := lpiece_len (base := base) (ours := ours) (theirs := theirs) (s := s) (i := n) (j := j1) (k := k1) q1 q2 q3 q4 hs4 hs5
          refine WC.still mixed (by kernel_rfl) ?_
          refine WA.rd rfl rfl rfl (Rd.move rfl rfl) ?_
          refine WA.rd rfl rfl rfl (Rd.move rfl rfl) ?_
          refine WA.rd rfl rfl rfl (Rd.move rfl rfl) ?_
          refine WA.rd rfl rfl rfl (Rd.cut_lh (lo := s.i) (hi := n) rfl S22 rfl rfl rfl rfl rfl (xs := base) (by repeat (first | assumption | exact List.mem_cons_self | refine List.mem_cons_of_mem _ ?_)) (by omega) (by omega)) ?_
          refine WA.rd rfl rfl rfl (Rd.move rfl rfl) ?_
          refine WA.rd rfl rfl rfl (Rd.move rfl rfl) ?_
          refine WA.rd rfl rfl rfl (Rd.move rfl rfl) ?_
          refine WA.rd rfl rfl rfl (Rd.cut_lh (lo := s.j) (hi := j1) rfl S22 rfl rfl rfl rfl rfl (xs := ours) (by repeat (first | assumption | exact List.mem_cons_self | refine List.mem_cons_of_mem _ ?_)) (by omega) (by omega)) ?_
          refine WA.rd rfl rfl rfl (Rd.move rfl rfl) ?_
          refine WA.rd rfl rfl rfl (Rd.move rfl rfl) ?_
          refine WA.rd rfl rfl rfl (Rd.move rfl rfl) ?_
          refine WA.rd rfl rfl rfl (Rd.cut_lh (lo := s.k) (hi := k1) rfl S22 rfl rfl rfl rfl rfl (xs := theirs) (by repeat (first | assumption | exact List.mem_cons_self | refine List.mem_cons_of_mem _ ?_)) (by omega) (by omega)) ?_
          refine WA.rd rfl rfl rfl (Rd.assign rfl rfl) ?_
          refine WA.rd rfl rfl rfl (Rd.assign rfl rfl) ?_
          refine WA.rd rfl rfl rfl (Rd.assign rfl rfl) ?_
          refine WA.nil ?_
          refine thenQ.normal ?_
          refine WC.seq ?_
          obtain ⟨B, hB⟩ : ∃ B, B = (base.take n).drop s.i := ⟨_, rfl⟩
          obtain ⟨T1, hT1⟩ : ∃ B, B = (ours.take j1).drop s.j := ⟨_, rfl⟩
          obtain ⟨T2, hT2⟩ : ∃ B, B = (theirs.take k1).drop s.k := ⟨_, rfl⟩
          have lB : B.length ≤ 4096 := by rw [hB]; simp; omega
          have lT1 : T1.length ≤ 4096 := by rw [hT1]; simp; omega
          have lT2 : T2.length ≤ 4096 := by rw [hT2]; simp; omega
          have hlpe : lpiece base ours theirs s n j1 k1 = (s.out ++ (oneE B T1 T2).getD [], s.bad ++ pieceBad B T1 T2) := by rw [hB, hT1, hT2]; rfl
          refine WC.heap (R' := SlE (one vs) (subSl bv 1 s.i n) B :: SlE (one vs) (subSl ov 1 s.j j1) T1 :: SlE (one vs) (subSl tv 1 s.k k1) T2 :: HunksR vsl s.bad :: SlE (one vi) qv (matchE base theirs) :: SlE (one vi) pv (matchE base ours) :: R) (fun w h => by
            have h1 := h.weaken (p := SlE (one vs) tv theirs) (by repeat (first | assumption | exact List.mem_cons_self | refine List.mem_cons_of_mem _ ?_)) (fun w hp => SlE.sub (size := 1) (lo := s.k) (hi := k1) (fun _ => rfl) (by omega) (by omega) hp)
            have h2 := h1.weaken (p := SlE (one vs) ov ours) (by repeat (first | assumption | exact List.mem_cons_self | refine List.mem_cons_of_mem _ ?_)) (fun w hp => SlE.sub (size := 1) (lo := s.j) (hi := j1) (fun _ => rfl) (by omega) (by omega) hp)
            have h3 := h2.weaken (p := SlE (one vs) bv base) (by repeat (first | assumption | exact List.mem_cons_self | refine List.mem_cons_of_mem _ ?_)) (fun w hp => SlE.sub (size := 1) (lo := s.i) (hi := n) (fun _ => rfl) (by omega) (by omega) hp)
            rw [← hB, ← hT1, ← hT2] at h3
            exact h3) ?_
          refine WC.know (p := SlE (one vs) (subSl bv 1 s.i n) B) (by repeat (first | assumption | exact List.mem_cons_self | refine List.mem_cons_of_mem _ ?_)) (fun w h => h.oneV) fun ob => ?_
          refine WC.know (p := SlE (one vs) (subSl ov 1 s.j j1) T1) (by repeat (first | assumption | exact List.mem_cons_self | refine List.mem_cons_of_mem _ ?_)) (fun w h => h.oneV) fun oo => ?_
          refine WC.know (p := SlE (one vs) (subSl tv 1 s.k k1) T2) (by repeat (first | assumption | exact List.mem_cons_self | refine List.mem_cons_of_mem _ ?_)) (fun w h => h.oneV) fun ot => ?_
          generalize subSl bv 1 s.i n = sb at *
          generalize subSl ov 1 s.j j1 = so at *
          generalize subSl tv 1 s.k k1 = st at *
          refine WC.pick [0, 1, 2, 8, 9, 10, 11, 15, 16, 17, 18, 19, 20] (by repeat (first | exact Pick.nil | apply Pick.cons rfl)) ?_
          refine WC.val 80 (.bool (decide (T1 = T2 ∨ T2 = B))) ?_ ?_
          · skip
            refine WC.region ?_
            refine WL.rd rfl rfl rfl (Rd.move rfl rfl) ?_
            refine WL.rd rfl rfl rfl (Rd.move rfl rfl) ?_
            refine WL.op rfl ?_
            refine OpW.call rfl rfl (by repeat (first | exact Evs.nil | apply Evs.cons rfl)) (by kernel_rfl) rfl rfl rfl ?_
            refine alike_spec (xs := T1) (ys := T2) (by repeat (first | assumption | exact List.mem_cons_self | refine List.mem_cons_of_mem _ ?_)) (by repeat (first | assumption | exact List.mem_cons_self | refine List.mem_cons_of_mem _ ?_)) ?_
            refine WL.rd rfl rfl rfl (Rd.move rfl rfl) ?_
            refine WL.case 76 rfl (fun hg76 => ?_) (fun hg76 => ?_)
            · skip
              refine WL.no rfl rfl rfl rfl rfl rfl ?_
              refine WL.no rfl rfl rfl rfl rfl rfl ?_
              refine WL.no rfl rfl rfl rfl rfl rfl ?_
              refine WL.rd rfl rfl rfl (Rd.pick_t rfl rfl rfl) ?_
              refine WL.nil ?_
              exact ⟨by repeat (first | exact Sub.nil | refine Sub.cons rfl (by first | rfl | (first | rfl | exact vb (by omega) | exact vb_t (by omega) | exact vb_f (by omega) | (simp [*]; done) | (simp_all; done))) ?_), by first | exact (fun _ h => h.thin (SubL.mem (by repeat (first | exact SubL.refl | refine SubL.cons (by repeat (first | assumption | exact List.mem_cons_self | refine List.mem_cons_of_mem _ ?_)) ?_ | refine SubL.skip ?_)))) | exact (fun w h => OwnL.sat (by repeat (first | exact OwnL.refl | apply OwnL.take (by repeat (first | exact Take.head _ | apply Take.tail)) | apply OwnL.drop)) w (h.thin (SubL.mem (by repeat (first | exact SubL.refl | refine SubL.cons (by repeat (first | assumption | exact List.mem_cons_self | refine List.mem_cons_of_mem _ ?_)) ?_ | refine SubL.skip ?_)))))⟩
            · skip
              refine WL.rd_yes rfl rfl rfl rfl rfl rfl (Rd.move rfl rfl) ?_
              refine WL.rd_yes rfl rfl rfl rfl rfl rfl (Rd.move rfl rfl) ?_
              refine WL.op_yes rfl rfl rfl rfl ?_
              refine OpW.call rfl rfl (by repeat (first | exact Evs.nil | apply Evs.cons rfl)) (by kernel_rfl) rfl rfl rfl ?_
              refine alike_spec (xs := T2) (ys := B) (by repeat (first | assumption | exact List.mem_cons_self | refine List.mem_cons_of_mem _ ?_)) (by repeat (first | assumption | exact List.mem_cons_self | refine List.mem_cons_of_mem _ ?_)) ?_
              refine WL.rd rfl rfl rfl (Rd.pick_f rfl rfl rfl) ?_
              refine WL.nil ?_
              exact ⟨by repeat (first | exact Sub.nil | refine Sub.cons rfl (by first | rfl | (first | rfl | exact vb (by omega) | exact vb_t (by omega) | exact vb_f (by omega) | (simp [*]; done) | (simp_all; done))) ?_), by first | exact (fun _ h => h.thin (SubL.mem (by repeat (first | exact SubL.refl | refine SubL.cons (by repeat (first | assumption | exact List.mem_cons_self | refine List.mem_cons_of_mem _ ?_)) ?_ | refine SubL.skip ?_)))) | exact (fun w h => OwnL.sat (by repeat (first | exact OwnL.refl | apply OwnL.take (by repeat (first | exact Take.head _ | apply Take.tail)) | apply OwnL.drop)) w (h.thin (SubL.mem (by repeat (first | exact SubL.refl | refine SubL.cons (by repeat (first | assumption | exact List.mem_cons_self | refine List.mem_cons_of_mem _ ?_)) ?_ | refine SubL.skip ?_)))))⟩
          · skip
            first | refine WC.ite rfl (fun hc4 => ?_) (fun hc4 => ?_) | refine WC.cond rfl (fun hc4 => ?_) (fun hc4 => ?_)
            · skip
              refine WC.region ?_
              refine WL.rd rfl rfl rfl (Rd.move rfl rfl) ?_
              refine WL.rd rfl rfl rfl (Rd.move rfl rfl) ?_
              refine WL.op rfl ?_
              refine OpW.appendE (enc := one vs) rfl S22 Try.underlying22 rfl rfl (by repeat (first | assumption | exact Take.head _ | apply Take.tail)) (xs := s.out) (ys := T1) (by repeat (first | assumption | exact List.mem_cons_self | refine List.mem_cons_of_mem _ ?_)) (by intro x; first | rfl | (cases x; rfl) | (rcases x with ⟨_, _, _⟩; rfl) | (rcases x with ⟨_, _, _, _⟩; rfl)) (by intro x; first | rfl | (cases x; rfl) | (rcases x with ⟨_, _, _⟩; rfl) | (rcases x with ⟨_, _, _, _⟩; rfl)) ⟨by simp only [maxLen, List.length_append, List.length_nil, List.length_cons, List.length_drop, List.length_take, List.length_map]; omega, by first | omega | (simp only [List.length_append, List.length_nil, List.length_cons, List.length_drop, List.length_take, List.length_map]; omega)⟩ rfl rfl ?_; intro v83 hv83
              obtain ⟨u2, rfl⟩ : ∃ x, x = v83 := ⟨_, rfl⟩
              obtain ⟨hv2, rfl⟩ : ∃ x, x = hv := ⟨_, rfl⟩
              obtain ⟨vsl2, rfl⟩ : ∃ x, x = vsl := ⟨_, rfl⟩
              rw [oneE_a hc4] at hlpe
              have e1 : s.out ++ T1 = (lpiece base ours theirs s n j1 k1).1 := by rw [hlpe]; rfl
              have e2 : s.bad = (lpiece base ours theirs s n j1 k1).2 := by rw [hlpe, pieceBad, oneE_a hc4]; simp
              refine WL.heap (R' := HunksR vsl2 (lpiece base ours theirs s n j1 k1).2 :: SlE (one vi) qv (matchE base theirs) :: SlE (one vi) pv (matchE base ours) :: R) (O' := accC 9 1 (one vs) u2 (lpiece base ours theirs s n j1 k1).1 :: accC 40 3 encH hv2 vsl2 :: O) (fun w h => by rw [← e1, ← e2]; exact (fun w h => OwnL.sat (by repeat (first | exact OwnL.refl | apply OwnL.take (by repeat (first | exact Take.head _ | apply Take.tail)) | apply OwnL.drop)) w (h.thin (SubL.mem (by repeat (first | exact SubL.refl | refine SubL.cons (by repeat (first | assumption | exact List.mem_cons_self | refine List.mem_cons_of_mem _ ?_)) ?_ | refine SubL.skip ?_))))) w h) ?_
              refine WL.rd rfl rfl rfl (Rd.assign rfl rfl) ?_
              refine WL.nil ?_
              refine thenQ.normal ?_
              refine WC.seq ?_
              refine WC.seq ?_
              refine WC.region ?_
              refine WL.rd rfl rfl rfl (Rd.move rfl rfl) ?_
              refine WL.rd rfl rfl rfl (Rd.move rfl rfl) ?_
              refine WL.rd rfl rfl rfl ((by first | exact Rd.lenE rfl rfl Try.underlying22 (by repeat (first | assumption | exact List.mem_cons_self | refine List.mem_cons_of_mem _ ?_)) | exact Rd.lenA rfl rfl Try.underlying22 (by repeat (first | assumption | exact List.mem_cons_self | refine List.mem_cons_of_mem _ ?_)) | exact Rd.len rfl rfl Try.underlying22)) ?_
              refine WL.rd rfl rfl rfl (Rd.lss rfl rfl rfl) ?_
              refine WL.nil ?_
              refine thenQ.normal ?_
              first | refine WC.ite rfl (fun hc6 => ?_) (fun hc6 => ?_) | refine WC.cond rfl (fun hc6 => ?_) (fun hc6 => ?_)
              · skip
                refine WC.region ?_
                refine WL.rd rfl rfl rfl (Rd.move rfl rfl) ?_
                refine WL.rd rfl rfl rfl (Rd.move rfl rfl) ?_
                refine WL.rd rfl rfl rfl (Rd.move rfl rfl) ?_
                refine WL.rd rfl rfl rfl ((by first | exact Rd.idx1 (k := n) rfl S22 rfl rfl (by omega) (by repeat (first | assumption | exact List.mem_cons_self | refine List.mem_cons_of_mem _ ?_)) (by first | omega | (simp only [List.length_cons, List.length_nil, List.length_append, List.length_map]; omega)) | exact Rd.idxA1 (k := n) rfl S22 rfl rfl (by omega) (by repeat (first | assumption | exact List.mem_cons_self | refine List.mem_cons_of_mem _ ?_)) (by first | omega | (simp only [List.length_cons, List.length_nil, List.length_append, List.length_map]; omega)) | exact Rd.idxR1 (k := n) rfl S22 rfl rfl (by omega) (by omega))) ?_
                refine WL.rd rfl rfl rfl ((by first | exact Rd.get rfl C9 rfl (by repeat (first | assumption | exact List.mem_cons_self | refine List.mem_cons_of_mem _ ?_)) (by first | assumption | rfl | exact get!_of_lt (by omega)) | exact Rd.getA rfl C9 rfl (by repeat (first | assumption | exact List.mem_cons_self | refine List.mem_cons_of_mem _ ?_)) (by first | assumption | rfl | exact get!_of_lt (by omega)) | exact Rd.row1 rfl C9 rfl (by repeat (first | assumption | exact List.mem_cons_self | refine List.mem_cons_of_mem _ ?_)) (by rfl) | exact Rd.getF rfl C9 rfl (by repeat (first | assumption | exact List.mem_cons_self | refine List.mem_cons_of_mem _ ?_)) (by intro x; first | rfl | (cases x; rfl) | (rcases x with ⟨_, _, _⟩; rfl) | (rcases x with ⟨_, _, _, _⟩; rfl)) rfl (by first | assumption | rfl | exact get!_of_lt (by omega)) (by rfl) | exact Rd.getFA rfl C9 rfl (by repeat (first | assumption | exact List.mem_cons_self | refine List.mem_cons_of_mem _ ?_)) (by intro x; first | rfl | (cases x; rfl) | (rcases x with ⟨_, _, _⟩; rfl) | (rcases x with ⟨_, _, _, _⟩; rfl)) rfl (by first | assumption | rfl | exact get!_of_lt (by omega)) (by rfl))) ?_
                refine WL.op rfl ?_
                refine OpW.buildSl (ps := [(0, _)]) rfl S22 (by repeat (first | exact Evs.nil | apply Evs.cons rfl)) rfl rfl (by repeat (first | exact CellsOf.nil | apply CellsOf.cons rfl)) (by kernel_rfl) rfl rfl rfl ?_; intro b106
                refine WL.op rfl ?_
                refine OpW.appendRow (enc := one vs) rfl S22 rfl rfl (by repeat (first | assumption | exact Take.head _ | apply Take.tail)) (by repeat (first | assumption | exact Take.head _ | apply Take.tail)) [base[n]!] rfl (by rfl) rfl (by intro x; first | rfl | (cases x; rfl) | (rcases x with ⟨_, _, _⟩; rfl) | (rcases x with ⟨_, _, _, _⟩; rfl)) (by intro x; first | rfl | (cases x; rfl) | (rcases x with ⟨_, _, _⟩; rfl) | (rcases x with ⟨_, _, _, _⟩; rfl)) ⟨by simp only [maxLen, List.length_append, List.length_nil, List.length_cons, List.length_drop, List.length_take, List.length_map]; omega, by first | omega | (simp only [List.length_append, List.length_nil, List.length_cons, List.length_drop, List.length_take, List.length_map]; omega)⟩ rfl rfl ?_; intro u3 hu3
                refine WL.rd rfl rfl rfl (Rd.assign rfl rfl) ?_
                refine WL.nil ?_
                refine thenQ.normal ?_
                refine WC.region ?_
                refine WL.rd rfl rfl rfl (Rd.move rfl rfl) ?_
                refine WL.rd rfl rfl rfl (Rd.add rfl rfl rfl (by omega)) ?_
                refine WL.rd rfl rfl rfl (Rd.move rfl rfl) ?_
                refine WL.rd rfl rfl rfl (Rd.add rfl rfl rfl (by omega)) ?_
                refine WL.rd rfl rfl rfl (Rd.move rfl rfl) ?_
                refine WL.rd rfl rfl rfl (Rd.add rfl rfl rfl (by omega)) ?_
                refine WL.rd rfl rfl rfl (Rd.assign rfl rfl) ?_
                refine WL.rd rfl rfl rfl (Rd.assign rfl rfl) ?_
                refine WL.rd rfl rfl rfl (Rd.assign rfl rfl) ?_
                refine WL.nil ?_
                refine blockQ.normal ?_
                refine thenQ.normal ?_
                refine WC.region ?_
                refine WL.rd rfl rfl rfl (Rd.move rfl rfl) ?_
                refine WL.rd rfl rfl rfl (Rd.add rfl rfl rfl (by omega)) ?_
                refine WL.rd rfl rfl rfl (Rd.assign rfl rfl) ?_
                refine WL.nil ?_
                -- next1_2
                first
                  | (exfalso; rcases hst with ⟨h1, _⟩ | ⟨h1, _⟩ <;> omega)
                  | (obtain ⟨_, hst⟩ : n < base.length ∧ _ := by
                       rcases hst with ⟨h1, _⟩ | h
                       · exfalso; omega
                       · exact h
                     exact loopQ5.mk (n + 1) u3 hv2 vsl2 _ (.inl ⟨by omega, hst.symm⟩) (by omega) (by repeat (first | exact Sub.nil | refine Sub.cons rfl (by first | rfl | (congr 1; omega) | assumption) ?_)) (fun w h => h))
                  | (obtain ⟨_, hst⟩ : n = base.length ∧ _ := by
                       rcases hst with h | ⟨h1, _⟩
                       · exact h
                       · exfalso; omega
                     exact loopQ5.mk (n + 1) u3 hv2 vsl2 ⟨n + 1, j1 + 1, k1 + 1, (lpiece base ours theirs s n j1 k1).1, (lpiece base ours theirs s n j1 k1).2⟩ (.inr ⟨by omega, by rw [hst], by rw [hst]⟩) (by omega) (by repeat (first | exact Sub.nil | refine Sub.cons rfl (by first | rfl | (congr 1; omega) | assumption) ?_)) (fun w h => h))
              · skip
                obtain ⟨u3, rfl⟩ : ∃ x, x = u2 := ⟨_, rfl⟩
                refine WC.skip ?_
                refine thenQ.normal ?_
                refine WC.region ?_
                refine WL.rd rfl rfl rfl (Rd.move rfl rfl) ?_
                refine WL.rd rfl rfl rfl (Rd.add rfl rfl rfl (by omega)) ?_
                refine WL.rd rfl rfl rfl (Rd.move rfl rfl) ?_
                refine WL.rd rfl rfl rfl (Rd.add rfl rfl rfl (by omega)) ?_
                refine WL.rd rfl rfl rfl (Rd.move rfl rfl) ?_
                refine WL.rd rfl rfl rfl (Rd.add rfl rfl rfl (by omega)) ?_
                refine WL.rd rfl rfl rfl (Rd.assign rfl rfl) ?_
                refine WL.rd rfl rfl rfl (Rd.assign rfl rfl) ?_
                refine WL.rd rfl rfl rfl (Rd.assign rfl rfl) ?_
                refine WL.nil ?_
                refine blockQ.normal ?_
                refine thenQ.normal ?_
                refine WC.region ?_
                refine WL.rd rfl rfl rfl (Rd.move rfl rfl) ?_
                refine WL.rd rfl rfl rfl (Rd.add rfl rfl rfl (by omega)) ?_
                refine WL.rd rfl rfl rfl (Rd.assign rfl rfl) ?_
                refine WL.nil ?_
                -- next1_3
                first
                  | (exfalso; rcases hst with ⟨h1, _⟩ | ⟨h1, _⟩ <;> omega)
                  | (obtain ⟨_, hst⟩ : n < base.length ∧ _ := by
                       rcases hst with ⟨h1, _⟩ | h
                       · exfalso; omega
                       · exact h
                     exact loopQ5.mk (n + 1) u3 hv2 vsl2 _ (.inl ⟨by omega, hst.symm⟩) (by omega) (by repeat (first | exact Sub.nil | refine Sub.cons rfl (by first | rfl | (congr 1; omega) | assumption) ?_)) (fun w h => h))
                  | (obtain ⟨_, hst⟩ : n = base.length ∧ _ := by
                       rcases hst with h | ⟨h1, _⟩
                       · exact h
                       · exfalso; omega
                     exact loopQ5.mk (n + 1) u3 hv2 vsl2 ⟨n + 1, j1 + 1, k1 + 1, (lpiece base ours theirs s n j1 k1).1, (lpiece base ours theirs s n j1 k1).2⟩ (.inr ⟨by omega, by rw [hst], by rw [hst]⟩) (by omega) (by repeat (first | exact Sub.nil | refine Sub.cons rfl (by first | rfl | (congr 1; omega) | assumption) ?_)) (fun w h => h))
            · skip
              refine WC.seq ?_
              refine WC.region ?_
              refine WL.rd rfl rfl rfl (Rd.move rfl rfl) ?_
              refine WL.rd rfl rfl rfl (Rd.move rfl rfl) ?_
              refine WL.op rfl ?_
              refine OpW.call rfl rfl (by repeat (first | exact Evs.nil | apply Evs.cons rfl)) (by kernel_rfl) rfl rfl rfl ?_
              refine alike_spec (xs := T1) (ys := B) (by repeat (first | assumption | exact List.mem_cons_self | refine List.mem_cons_of_mem _ ?_)) (by repeat (first | assumption | exact List.mem_cons_self | refine List.mem_cons_of_mem _ ?_)) ?_
              refine WL.nil ?_
              refine thenQ.normal ?_
              first | refine WC.ite rfl (fun hc5 => ?_) (fun hc5 => ?_) | refine WC.cond rfl (fun hc5 => ?_) (fun hc5 => ?_)
              · skip
                refine WC.region ?_
                refine WL.rd rfl rfl rfl (Rd.move rfl rfl) ?_
                refine WL.rd rfl rfl rfl (Rd.move rfl rfl) ?_
                refine WL.op rfl ?_
                refine OpW.appendE (enc := one vs) rfl S22 Try.underlying22 rfl rfl (by repeat (first | assumption | exact Take.head _ | apply Take.tail)) (xs := s.out) (ys := T2) (by repeat (first | assumption | exact List.mem_cons_self | refine List.mem_cons_of_mem _ ?_)) (by intro x; first | rfl | (cases x; rfl) | (rcases x with ⟨_, _, _⟩; rfl) | (rcases x with ⟨_, _, _, _⟩; rfl)) (by intro x; first | rfl | (cases x; rfl) | (rcases x with ⟨_, _, _⟩; rfl) | (rcases x with ⟨_, _, _, _⟩; rfl)) ⟨by simp only [maxLen, List.length_append, List.length_nil, List.length_cons, List.length_drop, List.length_take, List.length_map]; omega, by first | omega | (simp only [List.length_append, List.length_nil, List.length_cons, List.length_drop, List.length_take, List.length_map]; omega)⟩ rfl rfl ?_; intro v89 hv89
                obtain ⟨u2, rfl⟩ : ∃ x, x = v89 := ⟨_, rfl⟩
                obtain ⟨hv2, rfl⟩ : ∃ x, x = hv := ⟨_, rfl⟩
                obtain ⟨vsl2, rfl⟩ : ∃ x, x = vsl := ⟨_, rfl⟩
                rw [oneE_b hc4 hc5] at hlpe
                have e1 : s.out ++ T2 = (lpiece base ours theirs s n j1 k1).1 := by rw [hlpe]; rfl
                have e2 : s.bad = (lpiece base ours theirs s n j1 k1).2 := by rw [hlpe, pieceBad, oneE_b hc4 hc5]; simp
                refine WL.heap (R' := HunksR vsl2 (lpiece base ours theirs s n j1 k1).2 :: SlE (one vi) qv (matchE base theirs) :: SlE (one vi) pv (matchE base ours) :: R) (O' := accC 9 1 (one vs) u2 (lpiece base ours theirs s n j1 k1).1 :: accC 40 3 encH hv2 vsl2 :: O) (fun w h => by rw [← e1, ← e2]; exact (fun w h => OwnL.sat (by repeat (first | exact OwnL.refl | apply OwnL.take (by repeat (first | exact Take.head _ | apply Take.tail)) | apply OwnL.drop)) w (h.thin (SubL.mem (by repeat (first | exact SubL.refl | refine SubL.cons (by repeat (first | assumption | exact List.mem_cons_self | refine List.mem_cons_of_mem _ ?_)) ?_ | refine SubL.skip ?_))))) w h) ?_
                refine WL.rd rfl rfl rfl (Rd.assign rfl rfl) ?_
                refine WL.nil ?_
                refine thenQ.normal ?_
                refine WC.seq ?_
                refine WC.seq ?_
                refine WC.region ?_
                refine WL.rd rfl rfl rfl (Rd.move rfl rfl) ?_
                refine WL.rd rfl rfl rfl (Rd.move rfl rfl) ?_
                refine WL.rd rfl rfl rfl ((by first | exact Rd.lenE rfl rfl Try.underlying22 (by repeat (first | assumption | exact List.mem_cons_self | refine List.mem_cons_of_mem _ ?_)) | exact Rd.lenA rfl rfl Try.underlying22 (by repeat (first | assumption | exact List.mem_cons_self | refine List.mem_cons_of_mem _ ?_)) | exact Rd.len rfl rfl Try.underlying22)) ?_
                refine WL.rd rfl rfl rfl (Rd.lss rfl rfl rfl) ?_
                refine WL.nil ?_
                refine thenQ.normal ?_
                first | refine WC.ite rfl (fun hc6 => ?_) (fun hc6 => ?_) | refine WC.cond rfl (fun hc6 => ?_) (fun hc6 => ?_)
                · skip
                  refine WC.region ?_
                  refine WL.rd rfl rfl rfl (Rd.move rfl rfl) ?_
                  refine WL.rd rfl rfl rfl (Rd.move rfl rfl) ?_
                  refine WL.rd rfl rfl rfl (Rd.move rfl rfl) ?_
                  refine WL.rd rfl rfl rfl ((by first | exact Rd.idx1 (k := n) rfl S22 rfl rfl (by omega) (by repeat (first | assumption | exact List.mem_cons_self | refine List.mem_cons_of_mem _ ?_)) (by first | omega | (simp only [List.length_cons, List.length_nil, List.length_append, List.length_map]; omega)) | exact Rd.idxA1 (k := n) rfl S22 rfl rfl (by omega) (by repeat (first | assumption | exact List.mem_cons_self | refine List.mem_cons_of_mem _ ?_)) (by first | omega | (simp only [List.length_cons, List.length_nil, List.length_append, List.length_map]; omega)) | exact Rd.idxR1 (k := n) rfl S22 rfl rfl (by omega) (by omega))) ?_
                  refine WL.rd rfl rfl rfl ((by first | exact Rd.get rfl C9 rfl (by repeat (first | assumption | exact List.mem_cons_self | refine List.mem_cons_of_mem _ ?_)) (by first | assumption | rfl | exact get!_of_lt (by omega)) | exact Rd.getA rfl C9 rfl (by repeat (first | assumption | exact List.mem_cons_self | refine List.mem_cons_of_mem _ ?_)) (by first | assumption | rfl | exact get!_of_lt (by omega)) | exact Rd.row1 rfl C9 rfl (by repeat (first | assumption | exact List.mem_cons_self | refine List.mem_cons_of_mem _ ?_)) (by rfl) | exact Rd.getF rfl C9 rfl (by repeat (first | assumption | exact List.mem_cons_self | refine List.mem_cons_of_mem _ ?_)) (by intro x; first | rfl | (cases x; rfl) | (rcases x with ⟨_, _, _⟩; rfl) | (rcases x with ⟨_, _, _, _⟩; rfl)) rfl (by first | assumption | rfl | exact get!_of_lt (by omega)) (by rfl) | exact Rd.getFA rfl C9 rfl (by repeat (first | assumption | exact List.mem_cons_self | refine List.mem_cons_of_mem _ ?_)) (by intro x; first | rfl | (cases x; rfl) | (rcases x with ⟨_, _, _⟩; rfl) | (rcases x with ⟨_, _, _, _⟩; rfl)) rfl (by first | assumption | rfl | exact get!_of_lt (by omega)) (by rfl))) ?_
                  refine WL.op rfl ?_
                  refine OpW.buildSl (ps := [(0, _)]) rfl S22 (by repeat (first | exact Evs.nil | apply Evs.cons rfl)) rfl rfl (by repeat (first | exact CellsOf.nil | apply CellsOf.cons rfl)) (by kernel_rfl) rfl rfl rfl ?_; intro b106
                  refine WL.op rfl ?_
                  refine OpW.appendRow (enc := one vs) rfl S22 rfl rfl (by repeat (first | assumption | exact Take.head _ | apply Take.tail)) (by repeat (first | assumption | exact Take.head _ | apply Take.tail)) [base[n]!] rfl (by rfl) rfl (by intro x; first | rfl | (cases x; rfl) | (rcases x with ⟨_, _, _⟩; rfl) | (rcases x with ⟨_, _, _, _⟩; rfl)) (by intro x; first | rfl | (cases x; rfl) | (rcases x with ⟨_, _, _⟩; rfl) | (rcases x with ⟨_, _, _, _⟩; rfl)) ⟨by simp only [maxLen, List.length_append, List.length_nil, List.length_cons, List.length_drop, List.length_take, List.length_map]; omega, by first | omega | (simp only [List.length_append, List.length_nil, List.length_cons, List.length_drop, List.length_take, List.length_map]; omega)⟩ rfl rfl ?_; intro u3 hu3
                  refine WL.rd rfl rfl rfl (Rd.assign rfl rfl) ?_
                  refine WL.nil ?_
                  refine thenQ.normal ?_
                  refine WC.region ?_
                  refine WL.rd rfl rfl rfl (Rd.move rfl rfl) ?_
                  refine WL.rd rfl rfl rfl (Rd.add rfl rfl rfl (by omega)) ?_
                  refine WL.rd rfl rfl rfl (Rd.move rfl rfl) ?_
                  refine WL.rd rfl rfl rfl (Rd.add rfl rfl rfl (by omega)) ?_
                  refine WL.rd rfl rfl rfl (Rd.move rfl rfl) ?_
                  refine WL.rd rfl rfl rfl (Rd.add rfl rfl rfl (by omega)) ?_
                  refine WL.rd rfl rfl rfl (Rd.assign rfl rfl) ?_
                  refine WL.rd rfl rfl rfl (Rd.assign rfl rfl) ?_
                  refine WL.rd rfl rfl rfl (Rd.assign rfl rfl) ?_
                  refine WL.nil ?_
                  refine blockQ.normal ?_
                  refine thenQ.normal ?_
                  refine WC.region ?_
                  refine WL.rd rfl rfl rfl (Rd.move rfl rfl) ?_
                  refine WL.rd rfl rfl rfl (Rd.add rfl rfl rfl (by omega)) ?_
                  refine WL.rd rfl rfl rfl (Rd.assign rfl rfl) ?_
                  refine WL.nil ?_
                  -- next1_4
                  first
                    | (exfalso; rcases hst with ⟨h1, _⟩ | ⟨h1, _⟩ <;> omega)
                    | (obtain ⟨_, hst⟩ : n < base.length ∧ _ := by
                         rcases hst with ⟨h1, _⟩ | h
                         · exfalso; omega
                         · exact h
                       exact loopQ5.mk (n + 1) u3 hv2 vsl2 _ (.inl ⟨by omega, hst.symm⟩) (by omega) (by repeat (first | exact Sub.nil | refine Sub.cons rfl (by first | rfl | (congr 1; omega) | assumption) ?_)) (fun w h => h))
                    | (obtain ⟨_, hst⟩ : n = base.length ∧ _ := by
                         rcases hst with h | ⟨h1, _⟩
                         · exact h
                         · exfalso; omega
                       exact loopQ5.mk (n + 1) u3 hv2 vsl2 ⟨n + 1, j1 + 1, k1 + 1, (lpiece base ours theirs s n j1 k1).1, (lpiece base ours theirs s n j1 k1).2⟩ (.inr ⟨by omega, by rw [hst], by rw [hst]⟩) (by omega) (by repeat (first | exact Sub.nil | refine Sub.cons rfl (by first | rfl | (congr 1; omega) | assumption) ?_)) (fun w h => h))
                · skip
                  obtain ⟨u3, rfl⟩ : ∃ x, x = u2 := ⟨_, rfl⟩
                  refine WC.skip ?_
                  refine thenQ.normal ?_
                  refine WC.region ?_
                  refine WL.rd rfl rfl rfl (Rd.move rfl rfl) ?_
                  refine WL.rd rfl rfl rfl (Rd.add rfl rfl rfl (by omega)) ?_
                  refine WL.rd rfl rfl rfl (Rd.move rfl rfl) ?_
                  refine WL.rd rfl rfl rfl (Rd.add rfl rfl rfl (by omega)) ?_
                  refine WL.rd rfl rfl rfl (Rd.move rfl rfl) ?_
                  refine WL.rd rfl rfl rfl (Rd.add rfl rfl rfl (by omega)) ?_
                  refine WL.rd rfl rfl rfl (Rd.assign rfl rfl) ?_
                  refine WL.rd rfl rfl rfl (Rd.assign rfl rfl) ?_
                  refine WL.rd rfl rfl rfl (Rd.assign rfl rfl) ?_
                  refine WL.nil ?_
                  refine blockQ.normal ?_
                  refine thenQ.normal ?_
                  refine WC.region ?_
                  refine WL.rd rfl rfl rfl (Rd.move rfl rfl) ?_
                  refine WL.rd rfl rfl rfl (Rd.add rfl rfl rfl (by omega)) ?_
                  refine WL.rd rfl rfl rfl (Rd.assign rfl rfl) ?_
                  refine WL.nil ?_
                  -- next1_5
                  first
                    | (exfalso; rcases hst with ⟨h1, _⟩ | ⟨h1, _⟩ <;> omega)
                    | (obtain ⟨_, hst⟩ : n < base.length ∧ _ := by
                         rcases hst with ⟨h1, _⟩ | h
                         · exfalso; omega
                         · exact h
                       exact loopQ5.mk (n + 1) u3 hv2 vsl2 _ (.inl ⟨by omega, hst.symm⟩) (by omega) (by repeat (first | exact Sub.nil | refine Sub.cons rfl (by first | rfl | (congr 1; omega) | assumption) ?_)) (fun w h => h))
                    | (obtain ⟨_, hst⟩ : n = base.length ∧ _ := by
                         rcases hst with h | ⟨h1, _⟩
                         · exact h
                         · exfalso; omega
                       exact loopQ5.mk (n + 1) u3 hv2 vsl2 ⟨n + 1, j1 + 1, k1 + 1, (lpiece base ours theirs s n j1 k1).1, (lpiece base ours theirs s n j1 k1).2⟩ (.inr ⟨by omega, by rw [hst], by rw [hst]⟩) (by omega) (by repeat (first | exact Sub.nil | refine Sub.cons rfl (by first | rfl | (congr 1; omega) | assumption) ?_)) (fun w h => h))
              · skip
                refine WC.region ?_
                refine WL.rd rfl rfl rfl (Rd.move rfl rfl) ?_
                refine WL.rd rfl rfl rfl (Rd.move rfl rfl) ?_
                refine WL.rd rfl rfl rfl (Rd.move rfl rfl) ?_
                refine WL.rd rfl rfl rfl (Rd.move rfl rfl) ?_
                refine WL.rd rfl rfl rfl (Rd.buildN (ps := [(0, _), (1, _), (2, _)]) (cells := [sb, so, st]) rfl Bs40 I40 rfl (by repeat (first | exact Evs.nil | apply Evs.cons rfl)) (CellsOf.cons ob.cells (CellsOf.cons oo.cells (CellsOf.cons ot.cells CellsOf.nil))) (NFo.mk (by repeat (first | exact NF.nil | apply NF.cons)))) ?_
                refine WL.op rfl ?_
                refine OpW.buildSl (ps := [(0, _)]) rfl S35 (by repeat (first | exact Evs.nil | apply Evs.cons rfl)) rfl rfl (by repeat (first | exact CellsOf.nil | apply CellsOf.cons rfl)) (by kernel_rfl) rfl rfl rfl ?_; intro b95
                refine WL.op rfl ?_
                refine OpW.appendRow (enc := encH) rfl S35 rfl rfl (by repeat (first | assumption | exact Take.head _ | apply Take.tail)) (by repeat (first | assumption | exact Take.head _ | apply Take.tail)) [(⟨sb, ob.one⟩, ⟨so, oo.one⟩, ⟨st, ot.one⟩)] rfl (by rfl) rfl (fun _ => rfl) encH_one ⟨by simp only [maxLen, List.length_append, List.length_nil, List.length_cons, List.length_drop, List.length_take, List.length_map]; omega, by first | omega | (simp only [List.length_append, List.length_nil, List.length_cons, List.length_drop, List.length_take, List.length_map]; omega)⟩ rfl rfl ?_; intro v96 hv96
                obtain ⟨u2, rfl⟩ : ∃ x, x = u := ⟨_, rfl⟩
                obtain ⟨hv2, rfl⟩ : ∃ x, x = v96 := ⟨_, rfl⟩
                obtain ⟨vsl2, hvsl2⟩ : ∃ x : List (V1 × V1 × V1), x = vsl ++ [(⟨sb, ob.one⟩, ⟨so, oo.one⟩, ⟨st, ot.one⟩)] := ⟨_, rfl⟩
                rw [oneE_c hc4 hc5] at hlpe
                have e1 : s.out = (lpiece base ours theirs s n j1 k1).1 := by rw [hlpe]; simp
                have e2 : s.bad ++ [(B, T1, T2)] = (lpiece base ours theirs s n j1 k1).2 := by rw [hlpe, pieceBad, oneE_c hc4 hc5]; simp
                refine WL.heap (R' := HunksR vsl2 (lpiece base ours theirs s n j1 k1).2 :: SlE (one vi) qv (matchE base theirs) :: SlE (one vi) pv (matchE base ours) :: R) (O' := accC 9 1 (one vs) u2 (lpiece base ours theirs s n j1 k1).1 :: accC 40 3 encH hv2 vsl2 :: O) (fun w h => by
                  have h1 := h.derive (q := HunksR vsl2 (s.bad ++ [(B, T1, T2)])) (fun w hR => by rw [hvsl2]; exact HunksR.snoc (hR (HunksR vsl s.bad) (by repeat (first | assumption | exact List.mem_cons_self | refine List.mem_cons_of_mem _ ?_))) (hR (SlE (one vs) sb B) (by repeat (first | assumption | exact List.mem_cons_self | refine List.mem_cons_of_mem _ ?_))) (hR (SlE (one vs) so T1) (by repeat (first | assumption | exact List.mem_cons_self | refine List.mem_cons_of_mem _ ?_))) (hR (SlE (one vs) st T2) (by repeat (first | assumption | exact List.mem_cons_self | refine List.mem_cons_of_mem _ ?_))))
                  rw [← e1, ← e2, hvsl2]
                  rw [hvsl2] at h1
                  exact (fun w h => OwnL.sat (by repeat (first | exact OwnL.refl | apply OwnL.take (by repeat (first | exact Take.head _ | apply Take.tail)) | apply OwnL.drop)) w (h.thin (SubL.mem (by repeat (first | exact SubL.refl | refine SubL.cons (by repeat (first | assumption | exact List.mem_cons_self | refine List.mem_cons_of_mem _ ?_)) ?_ | refine SubL.skip ?_))))) w h1) ?_
                refine WL.rd rfl rfl rfl (Rd.assign rfl rfl) ?_
                refine WL.nil ?_
                refine thenQ.normal ?_
                refine WC.seq ?_
                refine WC.seq ?_
                refine WC.region ?_
                refine WL.rd rfl rfl rfl (Rd.move rfl rfl) ?_
                refine WL.rd rfl rfl rfl (Rd.move rfl rfl) ?_
                refine WL.rd rfl rfl rfl ((by first | exact Rd.lenE rfl rfl Try.underlying22 (by repeat (first | assumption | exact List.mem_cons_self | refine List.mem_cons_of_mem _ ?_)) | exact Rd.lenA rfl rfl Try.underlying22 (by repeat (first | assumption | exact List.mem_cons_self | refine List.mem_cons_of_mem _ ?_)) | exact Rd.len rfl rfl Try.underlying22)) ?_
                refine WL.rd rfl rfl rfl (Rd.lss rfl rfl rfl) ?_
                refine WL.nil ?_
                refine thenQ.normal ?_
                first | refine WC.ite rfl (fun hc6 => ?_) (fun hc6 => ?_) | refine WC.cond rfl (fun hc6 => ?_) (fun hc6 => ?_)
                · skip
                  refine WC.region ?_
                  refine WL.rd rfl rfl rfl (Rd.move rfl rfl) ?_
                  refine WL.rd rfl rfl rfl (Rd.move rfl rfl) ?_
                  refine WL.rd rfl rfl rfl (Rd.move rfl rfl) ?_
                  refine WL.rd rfl rfl rfl ((by first | exact Rd.idx1 (k := n) rfl S22 rfl rfl (by omega) (by repeat (first | assumption | exact List.mem_cons_self | refine List.mem_cons_of_mem _ ?_)) (by first | omega | (simp only [List.length_cons, List.length_nil, List.length_append, List.length_map]; omega)) | exact Rd.idxA1 (k := n) rfl S22 rfl rfl (by omega) (by repeat (first | assumption | exact List.mem_cons_self | refine List.mem_cons_of_mem _ ?_)) (by first | omega | (simp only [List.length_cons, List.length_nil, List.length_append, List.length_map]; omega)) | exact Rd.idxR1 (k := n) rfl S22 rfl rfl (by omega) (by omega))) ?_
                  refine WL.rd rfl rfl rfl ((by first | exact Rd.get rfl C9 rfl (by repeat (first | assumption | exact List.mem_cons_self | refine List.mem_cons_of_mem _ ?_)) (by first | assumption | rfl | exact get!_of_lt (by omega)) | exact Rd.getA rfl C9 rfl (by repeat (first | assumption | exact List.mem_cons_self | refine List.mem_cons_of_mem _ ?_)) (by first | assumption | rfl | exact get!_of_lt (by omega)) | exact Rd.row1 rfl C9 rfl (by repeat (first | assumption | exact List.mem_cons_self | refine List.mem_cons_of_mem _ ?_)) (by rfl) | exact Rd.getF rfl C9 rfl (by repeat (first | assumption | exact List.mem_cons_self | refine List.mem_cons_of_mem _ ?_)) (by intro x; first | rfl | (cases x; rfl) | (rcases x with ⟨_, _, _⟩; rfl) | (rcases x with ⟨_, _, _, _⟩; rfl)) rfl (by first | assumption | rfl | exact get!_of_lt (by omega)) (by rfl) | exact Rd.getFA rfl C9 rfl (by repeat (first | assumption | exact List.mem_cons_self | refine List.mem_cons_of_mem _ ?_)) (by intro x; first | rfl | (cases x; rfl) | (rcases x with ⟨_, _, _⟩; rfl) | (rcases x with ⟨_, _, _, _⟩; rfl)) rfl (by first | assumption | rfl | exact get!_of_lt (by omega)) (by rfl))) ?_
                  refine WL.op rfl ?_
                  refine OpW.buildSl (ps := [(0, _)]) rfl S22 (by repeat (first | exact Evs.nil | apply Evs.cons rfl)) rfl rfl (by repeat (first | exact CellsOf.nil | apply CellsOf.cons rfl)) (by kernel_rfl) rfl rfl rfl ?_; intro b106
                  refine WL.op rfl ?_
                  refine OpW.appendRow (enc := one vs) rfl S22 rfl rfl (by repeat (first | assumption | exact Take.head _ | apply Take.tail)) (by repeat (first | assumption | exact Take.head _ | apply Take.tail)) [base[n]!] rfl (by rfl) rfl (by intro x; first | rfl | (cases x; rfl) | (rcases x with ⟨_, _, _⟩; rfl) | (rcases x with ⟨_, _, _, _⟩; rfl)) (by intro x; first | rfl | (cases x; rfl) | (rcases x with ⟨_, _, _⟩; rfl) | (rcases x with ⟨_, _, _, _⟩; rfl)) ⟨by simp only [maxLen, List.length_append, List.length_nil, List.length_cons, List.length_drop, List.length_take, List.length_map]; omega, by first | omega | (simp only [List.length_append, List.length_nil, List.length_cons, List.length_drop, List.length_take, List.length_map]; omega)⟩ rfl rfl ?_; intro u3 hu3
                  refine WL.rd rfl rfl rfl (Rd.assign rfl rfl) ?_
                  refine WL.nil ?_
                  refine thenQ.normal ?_
                  refine WC.region ?_
                  refine WL.rd rfl rfl rfl (Rd.move rfl rfl) ?_
                  refine WL.rd rfl rfl rfl (Rd.add rfl rfl rfl (by omega)) ?_
                  refine WL.rd rfl rfl rfl (Rd.move rfl rfl) ?_
                  refine WL.rd rfl rfl rfl (Rd.add rfl rfl rfl (by omega)) ?_
                  refine WL.rd rfl rfl rfl (Rd.move rfl rfl) ?_
                  refine WL.rd rfl rfl rfl (Rd.add rfl rfl rfl (by omega)) ?_
                  refine WL.rd rfl rfl rfl (Rd.assign rfl rfl) ?_
                  refine WL.rd rfl rfl rfl (Rd.assign rfl rfl) ?_
                  refine WL.rd rfl rfl rfl (Rd.assign rfl rfl) ?_
                  refine WL.nil ?_
                  refine blockQ.normal ?_
                  refine thenQ.normal ?_
                  refine WC.region ?_
                  refine WL.rd rfl rfl rfl (Rd.move rfl rfl) ?_
                  refine WL.rd rfl rfl rfl (Rd.add rfl rfl rfl (by omega)) ?_
                  refine WL.rd rfl rfl rfl (Rd.assign rfl rfl) ?_
                  refine WL.nil ?_
                  -- next1_6
                  first
                    | (exfalso; rcases hst with ⟨h1, _⟩ | ⟨h1, _⟩ <;> omega)
                    | (obtain ⟨_, hst⟩ : n < base.length ∧ _ := by
                         rcases hst with ⟨h1, _⟩ | h
                         · exfalso; omega
                         · exact h
                       exact loopQ5.mk (n + 1) u3 hv2 vsl2 _ (.inl ⟨by omega, hst.symm⟩) (by omega) (by repeat (first | exact Sub.nil | refine Sub.cons rfl (by first | rfl | (congr 1; omega) | assumption) ?_)) (fun w h => h))
                    | (obtain ⟨_, hst⟩ : n = base.length ∧ _ := by
                         rcases hst with h | ⟨h1, _⟩
                         · exact h
                         · exfalso; omega
                       exact loopQ5.mk (n + 1) u3 hv2 vsl2 ⟨n + 1, j1 + 1, k1 + 1, (lpiece base ours theirs s n j1 k1).1, (lpiece base ours theirs s n j1 k1).2⟩ (.inr ⟨by omega, by rw [hst], by rw [hst]⟩) (by omega) (by repeat (first | exact Sub.nil | refine Sub.cons rfl (by first | rfl | (congr 1; omega) | assumption) ?_)) (fun w h => h))
                · skip
                  obtain ⟨u3, rfl⟩ : ∃ x, x = u2 := ⟨_, rfl⟩
                  refine WC.skip ?_
                  refine thenQ.normal ?_
                  refine WC.region ?_
                  refine WL.rd rfl rfl rfl (Rd.move rfl rfl) ?_
                  refine WL.rd rfl rfl rfl (Rd.add rfl rfl rfl (by omega)) ?_
                  refine WL.rd rfl rfl rfl (Rd.move rfl rfl) ?_
                  refine WL.rd rfl rfl rfl (Rd.add rfl rfl rfl (by omega)) ?_
                  refine WL.rd rfl rfl rfl (Rd.move rfl rfl) ?_
                  refine WL.rd rfl rfl rfl (Rd.add rfl rfl rfl (by omega)) ?_
                  refine WL.rd rfl rfl rfl (Rd.assign rfl rfl) ?_
                  refine WL.rd rfl rfl rfl (Rd.assign rfl rfl) ?_
                  refine WL.rd rfl rfl rfl (Rd.assign rfl rfl) ?_
                  refine WL.nil ?_
                  refine blockQ.normal ?_
                  refine thenQ.normal ?_
                  refine WC.region ?_
                  refine WL.rd rfl rfl rfl (Rd.move rfl rfl) ?_
                  refine WL.rd rfl rfl rfl (Rd.add rfl rfl rfl (by omega)) ?_
                  refine WL.rd rfl rfl rfl (Rd.assign rfl rfl) ?_
                  refine WL.nil ?_
                  -- next1_7
                  first
                    | (exfalso; rcases hst with ⟨h1, _⟩ | ⟨h1, _⟩ <;> omega)
                    | (obtain ⟨_, hst⟩ : n < base.length ∧ _ := by
                         rcases hst with ⟨h1, _⟩ | h
                         · exfalso; omega
                         · exact h
                       exact loopQ5.mk (n + 1) u3 hv2 vsl2 _ (.inl ⟨by omega, hst.symm⟩) (by omega) (by repeat (first | exact Sub.nil | refine Sub.cons rfl (by first | rfl | (congr 1; omega) | assumption) ?_)) (fun w h => h))
                    | (obtain ⟨_, hst⟩ : n = base.length ∧ _ := by
                         rcases hst with h | ⟨h1, _⟩
                         · exact h
                         · exfalso; omega
                       exact loopQ5.mk (n + 1) u3 hv2 vsl2 ⟨n + 1, j1 + 1, k1 + 1, (lpiece base ours theirs s n j1 k1).1, (lpiece base ours theirs s n j1 k1).2⟩ (.inr ⟨by omega, by rw [hst], by rw [hst]⟩) (by omega) (by repeat (first | exact Sub.nil | refine Sub.cons rfl (by first | rfl | (congr 1; omega) | assumption) ?_)) (fun w h => h))
    · skip
      obtain ⟨j1, hj1⟩ : ∃ j : Nat, (ours.length : Int) = j := ⟨_, rfl⟩
      obtain ⟨k1, hk1⟩ : ∃ j : Nat, (theirs.length : Int) = j := ⟨_, rfl⟩
      have hst : (n = base.length ∧ (lpiece base ours theirs s n j1 k1) = lfin base ours theirs) ∨ (n < base.length ∧ lrun base ours theirs (n + 1) = { i := n + 1, j := j1 + 1, k := k1 + 1, out := (lpiece base ours theirs s n j1 k1).1 ++ [base[n]!], bad := (lpiece base ours theirs s n j1 k1).2 }) := by
        obtain rfl : n = base.length := by omega
        obtain rfl : j1 = ours.length := by omega
        obtain rfl : k1 = theirs.length := by omega
        refine .inl ⟨rfl, ?_⟩
        unfold lfin; rw [← i2]
      refine WC.skip ?_
      refine thenQ.normal ?_
      refine WC.seq ?_
      refine WC.say 16 (u := .int .i64 (j1 : Int)) rfl (by rw [hj1]) ?_
      refine WC.say 17 (u := .int .i64 (k1 : Int)) rfl (by rw [hk1]) ?_
      have q1 : s.j ≤ j1 := by omega
      have q2 : j1 ≤ ours.length := by omega
      have q3 : s.k ≤ k1 := by omega
      have q4 : k1 ≤ theirs.length := by omega
      have hlp := lpiece_len (base := base) (ours := ours) (theirs := theirs) (s := s) (i := n) (j := j1) (k := k1) q1 q2 q3 q4 hs4 hs5
      refine WC.still mixed (by kernel_rfl) ?_
      refine WA.rd rfl rfl rfl (Rd.move rfl rfl) ?_
      refine WA.rd rfl rfl rfl (Rd.move rfl rfl) ?_
      refine WA.rd rfl rfl rfl (Rd.move rfl rfl) ?_
      refine WA.rd rfl rfl rfl (Rd.cut_lh (lo := s.i) (hi := n) rfl S22 rfl rfl rfl rfl rfl (xs := base) (by repeat (first | assumption | exact List.mem_cons_self | refine List.mem_cons_of_mem _ ?_)) (by omega) (by omega)) ?_
      refine WA.rd rfl rfl rfl (Rd.move rfl rfl) ?_
      refine WA.rd rfl rfl rfl (Rd.move rfl rfl) ?_
      refine WA.rd rfl rfl rfl (Rd.move rfl rfl) ?_
      refine WA.rd rfl rfl rfl (Rd.cut_lh (lo := s.j) (hi := j1) rfl S22 rfl rfl rfl rfl rfl (xs := ours) (by repeat (first | assumption | exact List.mem_cons_self | refine List.mem_cons_of_mem _ ?_)) (by omega) (by omega)) ?_
      refine WA.rd rfl rfl rfl (Rd.move rfl rfl) ?_
      refine WA.rd rfl rfl rfl (Rd.move rfl rfl) ?_
      refine WA.rd rfl rfl rfl (Rd.move rfl rfl) ?_
      refine WA.rd rfl rfl rfl (Rd.cut_lh (lo := s.k) (hi := k1) rfl S22 rfl rfl rfl rfl rfl (xs := theirs) (by repeat (first | assumption | exact List.mem_cons_self | refine List.mem_cons_of_mem _ ?_)) (by omega) (by omega)) ?_
      refine WA.rd rfl rfl rfl (Rd.assign rfl rfl) ?_
      refine WA.rd rfl rfl rfl (Rd.assign rfl rfl) ?_
      refine WA.rd rfl rfl rfl (Rd.assign rfl rfl) ?_
      refine WA.nil ?_
      refine thenQ.normal ?_
      refine WC.seq ?_
      obtain ⟨B, hB⟩ : ∃ B, B = (base.take n).drop s.i := ⟨_, rfl⟩
      obtain ⟨T1, hT1⟩ : ∃ B, B = (ours.take j1).drop s.j := ⟨_, rfl⟩
      obtain ⟨T2, hT2⟩ : ∃ B, B = (theirs.take k1).drop s.k := ⟨_, rfl⟩
      have lB : B.length ≤ 4096 := by rw [hB]; simp; omega
      have lT1 : T1.length ≤ 4096 := by rw [hT1]; simp; omega
      have lT2 : T2.length ≤ 4096 := by rw [hT2]; simp; omega
      have hlpe : lpiece base ours theirs s n j1 k1 = (s.out ++ (oneE B T1 T2).getD [], s.bad ++ pieceBad B T1 T2) := by rw [hB, hT1, hT2]; rfl
      refine WC.heap (R' := SlE (one vs) (subSl bv 1 s.i n) B :: SlE (one vs) (subSl ov 1 s.j j1) T1 :: SlE (one vs) (subSl tv 1 s.k k1) T2 :: HunksR vsl s.bad :: SlE (one vi) qv (matchE base theirs) :: SlE (one vi) pv (matchE base ours) :: R) (fun w h => by
        have h1 := h.weaken (p := SlE (one vs) tv theirs) (by repeat (first | assumption | exact List.mem_cons_self | refine List.mem_cons_of_mem _ ?_)) (fun w hp => SlE.sub (size := 1) (lo := s.k) (hi := k1) (fun _ => rfl) (by omega) (by omega) hp)
        have h2 := h1.weaken (p := SlE (one vs) ov ours) (by repeat (first | assumption | exact List.mem_cons_self | refine List.mem_cons_of_mem _ ?_)) (fun w hp => SlE.sub (size := 1) (lo := s.j) (hi := j1) (fun _ => rfl) (by omega) (by omega) hp)
        have h3 := h2.weaken (p := SlE (one vs) bv base) (by repeat (first | assumption | exact List.mem_cons_self | refine List.mem_cons_of_mem _ ?_)) (fun w hp => SlE.sub (size := 1) (lo := s.i) (hi := n) (fun _ => rfl) (by omega) (by omega) hp)
        rw [← hB, ← hT1, ← hT2] at h3
        exact h3) ?_
      refine WC.know (p := SlE (one vs) (subSl bv 1 s.i n) B) (by repeat (first | assumption | exact List.mem_cons_self | refine List.mem_cons_of_mem _ ?_)) (fun w h => h.oneV) fun ob => ?_
      refine WC.know (p := SlE (one vs) (subSl ov 1 s.j j1) T1) (by repeat (first | assumption | exact List.mem_cons_self | refine List.mem_cons_of_mem _ ?_)) (fun w h => h.oneV) fun oo => ?_
      refine WC.know (p := SlE (one vs) (subSl tv 1 s.k k1) T2) (by repeat (first | assumption | exact List.mem_cons_self | refine List.mem_cons_of_mem _ ?_)) (fun w h => h.oneV) fun ot => ?_
      generalize subSl bv 1 s.i n = sb at *
      generalize subSl ov 1 s.j j1 = so at *
      generalize subSl tv 1 s.k k1 = st at *
      refine WC.pick [0, 1, 2, 8, 9, 10, 11, 15, 16, 17, 18, 19, 20] (by repeat (first | exact Pick.nil | apply Pick.cons rfl)) ?_
      refine WC.val 80 (.bool (decide (T1 = T2 ∨ T2 = B))) ?_ ?_
      · skip
        refine WC.region ?_
        refine WL.rd rfl rfl rfl (Rd.move rfl rfl) ?_
        refine WL.rd rfl rfl rfl (Rd.move rfl rfl) ?_
        refine WL.op rfl ?_
        refine OpW.call rfl rfl (by repeat (first | exact Evs.nil | apply Evs.cons rfl)) (by kernel_rfl) rfl rfl rfl ?_
        refine alike_spec (xs := T1) (ys := T2) (by repeat (first | assumption | exact List.mem_cons_self | refine List.mem_cons_of_mem _ ?_)) (by repeat (first | assumption | exact List.mem_cons_self | refine List.mem_cons_of_mem _ ?_)) ?_
        refine WL.rd rfl rfl rfl (Rd.move rfl rfl) ?_
        refine WL.case 76 rfl (fun hg76 => ?_) (fun hg76 => ?_)
        · skip
          refine WL.no rfl rfl rfl rfl rfl rfl ?_
          refine WL.no rfl rfl rfl rfl rfl rfl ?_
          refine WL.no rfl rfl rfl rfl rfl rfl ?_
          refine WL.rd rfl rfl rfl (Rd.pick_t rfl rfl rfl) ?_
          refine WL.nil ?_
          exact ⟨by repeat (first | exact Sub.nil | refine Sub.cons rfl (by first | rfl | (first | rfl | exact vb (by omega) | exact vb_t (by omega) | exact vb_f (by omega) | (simp [*]; done) | (simp_all; done))) ?_), by first | exact (fun _ h => h.thin (SubL.mem (by repeat (first | exact SubL.refl | refine SubL.cons (by repeat (first | assumption | exact List.mem_cons_self | refine List.mem_cons_of_mem _ ?_)) ?_ | refine SubL.skip ?_)))) | exact (fun w h => OwnL.sat (by repeat (first | exact OwnL.refl | apply OwnL.take (by repeat (first | exact Take.head _ | apply Take.tail)) | apply OwnL.drop)) w (h.thin (SubL.mem (by repeat (first | exact SubL.refl | refine SubL.cons (by repeat (first | assumption | exact List.mem_cons_self | refine List.mem_cons_of_mem _ ?_)) ?_ | refine SubL.skip ?_)))))⟩
        · skip
          refine WL.rd_yes rfl rfl rfl rfl rfl rfl (Rd.move rfl rfl) ?_
          refine WL.rd_yes rfl rfl rfl rfl rfl rfl (Rd.move rfl rfl) ?_
          refine WL.op_yes rfl rfl rfl rfl ?_
          refine OpW.call rfl rfl (by repeat (first | exact Evs.nil | apply Evs.cons rfl)) (by kernel_rfl) rfl rfl rfl ?_
          refine alike_spec (xs := T2) (ys := B) (by repeat (first | assumption | exact List.mem_cons_self | refine List.mem_cons_of_mem _ ?_)) (by repeat (first | assumption | exact List.mem_cons_self | refine List.mem_cons_of_mem _ ?_)) ?_
          refine WL.rd rfl rfl rfl (Rd.pick_f rfl rfl rfl) ?_
          refine WL.nil ?_
          exact ⟨by repeat (first | exact Sub.nil | refine Sub.cons rfl (by first | rfl | (first | rfl | exact vb (by omega) | exact vb_t (by omega) | exact vb_f (by omega) | (simp [*]; done) | (simp_all; done))) ?_), by first | exact (fun _ h => h.thin (SubL.mem (by repeat (first | exact SubL.refl | refine SubL.cons (by repeat (first | assumption | exact List.mem_cons_self | refine List.mem_cons_of_mem _ ?_)) ?_ | refine SubL.skip ?_)))) | exact (fun w h => OwnL.sat (by repeat (first | exact OwnL.refl | apply OwnL.take (by repeat (first | exact Take.head _ | apply Take.tail)) | apply OwnL.drop)) w (h.thin (SubL.mem (by repeat (first | exact SubL.refl | refine SubL.cons (by repeat (first | assumption | exact List.mem_cons_self | refine List.mem_cons_of_mem _ ?_)) ?_ | refine SubL.skip ?_)))))⟩
      · skip
        first | refine WC.ite rfl (fun hc4 => ?_) (fun hc4 => ?_) | refine WC.cond rfl (fun hc4 => ?_) (fun hc4 => ?_)
        · skip
          refine WC.region ?_
          refine WL.rd rfl rfl rfl (Rd.move rfl rfl) ?_
          refine WL.rd rfl rfl rfl (Rd.move rfl rfl) ?_
          refine WL.op rfl ?_
          refine OpW.appendE (enc := one vs) rfl S22 Try.underlying22 rfl rfl (by repeat (first | assumption | exact Take.head _ | apply Take.tail)) (xs := s.out) (ys := T1) (by repeat (first | assumption | exact List.mem_cons_self | refine List.mem_cons_of_mem _ ?_)) (by intro x; first | rfl | (cases x; rfl) | (rcases x with ⟨_, _, _⟩; rfl) | (rcases x with ⟨_, _, _, _⟩; rfl)) (by intro x; first | rfl | (cases x; rfl) | (rcases x with ⟨_, _, _⟩; rfl) | (rcases x with ⟨_, _, _, _⟩; rfl)) ⟨by simp only [maxLen, List.length_append, List.length_nil, List.length_cons, List.length_drop, List.length_take, List.length_map]; omega, by first | omega | (simp only [List.length_append, List.length_nil, List.length_cons, List.length_drop, List.length_take, List.length_map]; omega)⟩ rfl rfl ?_; intro v83 hv83
          obtain ⟨u2, rfl⟩ : ∃ x, x = v83 := ⟨_, rfl⟩
          obtain ⟨hv2, rfl⟩ : ∃ x, x = hv := ⟨_, rfl⟩
          obtain ⟨vsl2, rfl⟩ : ∃ x, x = vsl := ⟨_, rfl⟩
          rw [oneE_a hc4] at hlpe
          have e1 : s.out ++ T1 = (lpiece base ours theirs s n j1 k1).1 := by rw [hlpe]; rfl
          have e2 : s.bad = (lpiece base ours theirs s n j1 k1).2 := by rw [hlpe, pieceBad, oneE_a hc4]; simp
          refine WL.heap (R' := HunksR vsl2 (lpiece base ours theirs s n j1 k1).2 :: SlE (one vi) qv (matchE base theirs) :: SlE (one vi) pv (matchE base ours) :: R) (O' := accC 9 1 (one vs) u2 (lpiece base ours theirs s n j1 k1).1 :: accC 40 3 encH hv2 vsl2 :: O) (fun w h => by rw [← e1, ← e2]; exact (fun w h => OwnL.sat (by repeat (first | exact OwnL.refl | apply OwnL.take (by repeat (first | exact Take.head _ | apply Take.tail)) | apply OwnL.drop)) w (h.thin (SubL.mem (by repeat (first | exact SubL.refl | refine SubL.cons (by repeat (first | assumption | exact List.mem_cons_self | refine List.mem_cons_of_mem _ ?_)) ?_ | refine SubL.skip ?_))))) w h) ?_
          refine WL.rd rfl rfl rfl (Rd.assign rfl rfl) ?_
          refine WL.nil ?_
          refine thenQ.normal ?_
          refine WC.seq ?_
          refine WC.seq ?_
          refine WC.region ?_
          refine WL.rd rfl rfl rfl (Rd.move rfl rfl) ?_
          refine WL.rd rfl rfl rfl (Rd.move rfl rfl) ?_
          refine WL.rd rfl rfl rfl ((by first | exact Rd.lenE rfl rfl Try.underlying22 (by repeat (first | assumption | exact List.mem_cons_self | refine List.mem_cons_of_mem _ ?_)) | exact Rd.lenA rfl rfl Try.underlying22 (by repeat (first | assumption | exact List.mem_cons_self | refine List.mem_cons_of_mem _ ?_)) | exact Rd.len rfl rfl Try.underlying22)) ?_
          refine WL.rd rfl rfl rfl (Rd.lss rfl rfl rfl) ?_
          refine WL.nil ?_
          refine thenQ.normal ?_
          first | refine WC.ite rfl (fun hc6 => ?_) (fun hc6 => ?_) | refine WC.cond rfl (fun hc6 => ?_) (fun hc6 => ?_)
          · skip
            refine WC.region ?_
            refine WL.rd rfl rfl rfl (Rd.move rfl rfl) ?_
            refine WL.rd rfl rfl rfl (Rd.move rfl rfl) ?_
            refine WL.rd rfl rfl rfl (Rd.move rfl rfl) ?_
            refine WL.rd rfl rfl rfl ((by first | exact Rd.idx1 (k := n) rfl S22 rfl rfl (by omega) (by repeat (first | assumption | exact List.mem_cons_self | refine List.mem_cons_of_mem _ ?_)) (by first | omega | (simp only [List.length_cons, List.length_nil, List.length_append, List.length_map]; omega)) | exact Rd.idxA1 (k := n) rfl S22 rfl rfl (by omega) (by repeat (first | assumption | exact List.mem_cons_self | refine List.mem_cons_of_mem _ ?_)) (by first | omega | (simp only [List.length_cons, List.length_nil, List.length_append, List.length_map]; omega)) | exact Rd.idxR1 (k := n) rfl S22 rfl rfl (by omega) (by omega))) ?_
            refine WL.rd rfl rfl rfl ((by first | exact Rd.get rfl C9 rfl (by repeat (first | assumption | exact List.mem_cons_self | refine List.mem_cons_of_mem _ ?_)) (by first | assumption | rfl | exact get!_of_lt (by omega)) | exact Rd.getA rfl C9 rfl (by repeat (first | assumption | exact List.mem_cons_self | refine List.mem_cons_of_mem _ ?_)) (by first | assumption | rfl | exact get!_of_lt (by omega)) | exact Rd.row1 rfl C9 rfl (by repeat (first | assumption | exact List.mem_cons_self | refine List.mem_cons_of_mem _ ?_)) (by rfl) | exact Rd.getF rfl C9 rfl (by repeat (first | assumption | exact List.mem_cons_self | refine List.mem_cons_of_mem _ ?_)) (by intro x; first | rfl | (cases x; rfl) | (rcases x with ⟨_, _, _⟩; rfl) | (rcases x with ⟨_, _, _, _⟩; rfl)) rfl (by first | assumption | rfl | exact get!_of_lt (by omega)) (by rfl) | exact Rd.getFA rfl C9 rfl (by repeat (first | assumption | exact List.mem_cons_self | refine List.mem_cons_of_mem _ ?_)) (by intro x; first | rfl | (cases x; rfl) | (rcases x with ⟨_, _, _⟩; rfl) | (rcases x with ⟨_, _, _, _⟩; rfl)) rfl (by first | assumption | rfl | exact get!_of_lt (by omega)) (by rfl))) ?_
            refine WL.op rfl ?_
            refine OpW.buildSl (ps := [(0, _)]) rfl S22 (by repeat (first | exact Evs.nil | apply Evs.cons rfl)) rfl rfl (by repeat (first | exact CellsOf.nil | apply CellsOf.cons rfl)) (by kernel_rfl) rfl rfl rfl ?_; intro b106
            refine WL.op rfl ?_
            refine OpW.appendRow (enc := one vs) rfl S22 rfl rfl (by repeat (first | assumption | exact Take.head _ | apply Take.tail)) (by repeat (first | assumption | exact Take.head _ | apply Take.tail)) [base[n]!] rfl (by rfl) rfl (by intro x; first | rfl | (cases x; rfl) | (rcases x with ⟨_, _, _⟩; rfl) | (rcases x with ⟨_, _, _, _⟩; rfl)) (by intro x; first | rfl | (cases x; rfl) | (rcases x with ⟨_, _, _⟩; rfl) | (rcases x with ⟨_, _, _, _⟩; rfl)) ⟨by simp only [maxLen, List.length_append, List.length_nil, List.length_cons, List.length_drop, List.length_take, List.length_map]; omega, by first | omega | (simp only [List.length_append, List.length_nil, List.length_cons, List.length_drop, List.length_take, List.length_map]; omega)⟩ rfl rfl ?_; intro u3 hu3
            refine WL.rd rfl rfl rfl (Rd.assign rfl rfl) ?_
            refine WL.nil ?_
            refine thenQ.normal ?_
            refine WC.region ?_
            refine WL.rd rfl rfl rfl (Rd.move rfl rfl) ?_
            refine WL.rd rfl rfl rfl (Rd.add rfl rfl rfl (by omega)) ?_
            refine WL.rd rfl rfl rfl (Rd.move rfl rfl) ?_
            refine WL.rd rfl rfl rfl (Rd.add rfl rfl rfl (by omega)) ?_
            refine WL.rd rfl rfl rfl (Rd.move rfl rfl) ?_
            refine WL.rd rfl rfl rfl (Rd.add rfl rfl rfl (by omega)) ?_
            refine WL.rd rfl rfl rfl (Rd.assign rfl rfl) ?_
            refine WL.rd rfl rfl rfl (Rd.assign rfl rfl) ?_
            refine WL.rd rfl rfl rfl (Rd.assign rfl rfl) ?_
            refine WL.nil ?_
            refine blockQ.normal ?_
            refine thenQ.normal ?_
            refine WC.region ?_
            refine WL.rd rfl rfl rfl (Rd.move rfl rfl) ?_
            refine WL.rd rfl rfl rfl (Rd.add rfl rfl rfl (by omega)) ?_
            refine WL.rd rfl rfl rfl (Rd.assign rfl rfl) ?_
            refine WL.nil ?_
            -- next1_8
            first
              | (exfalso; rcases hst with ⟨h1, _⟩ | ⟨h1, _⟩ <;> omega)
              | (obtain ⟨_, hst⟩ : n < base.length ∧ _ := by
                   rcases hst with ⟨h1, _⟩ | h
                   · exfalso; omega
                   · exact h
                 exact loopQ5.mk (n + 1) u3 hv2 vsl2 _ (.inl ⟨by omega, hst.symm⟩) (by omega) (by repeat (first | exact Sub.nil | refine Sub.cons rfl (by first | rfl | (congr 1; omega) | assumption) ?_)) (fun w h => h))
              | (obtain ⟨_, hst⟩ : n = base.length ∧ _ := by
                   rcases hst with h | ⟨h1, _⟩
                   · exact h
                   · exfalso; omega
                 exact loopQ5.mk (n + 1) u3 hv2 vsl2 ⟨n + 1, j1 + 1, k1 + 1, (lpiece base ours theirs s n j1 k1).1, (lpiece base ours theirs s n j1 k1).2⟩ (.inr ⟨by omega, by rw [hst], by rw [hst]⟩) (by omega) (by repeat (first | exact Sub.nil | refine Sub.cons rfl (by first | rfl | (congr 1; omega) | assumption) ?_)) (fun w h => h))
          · skip
            obtain ⟨u3, rfl⟩ : ∃ x, x = u2 := ⟨_, rfl⟩
            refine WC.skip ?_
            refine thenQ.normal ?_
            refine WC.region ?_
            refine WL.rd rfl rfl rfl (Rd.move rfl rfl) ?_
            refine WL.rd rfl rfl rfl (Rd.add rfl rfl rfl (by omega)) ?_
            refine WL.rd rfl rfl rfl (Rd.move rfl rfl) ?_
            refine WL.rd rfl rfl rfl (Rd.add rfl rfl rfl (by omega)) ?_
            refine WL.rd rfl rfl rfl (Rd.move rfl rfl) ?_
            refine WL.rd rfl rfl rfl (Rd.add rfl rfl rfl (by omega)) ?_
            refine WL.rd rfl rfl rfl (Rd.assign rfl rfl) ?_
            refine WL.rd rfl rfl rfl (Rd.assign rfl rfl) ?_
            refine WL.rd rfl rfl rfl (Rd.assign rfl rfl) ?_
            refine WL.nil ?_
            refine blockQ.normal ?_
            refine thenQ.normal ?_
            refine WC.region ?_
            refine WL.rd rfl rfl rfl (Rd.move rfl rfl) ?_
            refine WL.rd rfl rfl rfl (Rd.add rfl rfl rfl (by omega)) ?_
            refine WL.rd rfl rfl rfl (Rd.assign rfl rfl) ?_
            refine WL.nil ?_
            -- next1_9
            first
              | (exfalso; rcases hst with ⟨h1, _⟩ | ⟨h1, _⟩ <;> omega)
              | (obtain ⟨_, hst⟩ : n < base.length ∧ _ := by
                   rcases hst with ⟨h1, _⟩ | h
                   · exfalso; omega
                   · exact h
                 exact loopQ5.mk (n + 1) u3 hv2 vsl2 _ (.inl ⟨by omega, hst.symm⟩) (by omega) (by repeat (first | exact Sub.nil | refine Sub.cons rfl (by first | rfl | (congr 1; omega) | assumption) ?_)) (fun w h => h))
              | (obtain ⟨_, hst⟩ : n = base.length ∧ _ := by
                   rcases hst with h | ⟨h1, _⟩
                   · exact h
                   · exfalso; omega
                 exact loopQ5.mk (n + 1) u3 hv2 vsl2 ⟨n + 1, j1 + 1, k1 + 1, (lpiece base ours theirs s n j1 k1).1, (lpiece base ours theirs s n j1 k1).2⟩ (.inr ⟨by omega, by rw [hst], by rw [hst]⟩) (by omega) (by repeat (first | exact Sub.nil | refine Sub.cons rfl (by first | rfl | (congr 1; omega) | assumption) ?_)) (fun w h => h))
        · skip
          refine WC.seq ?_
          refine WC.region ?_
          refine WL.rd rfl rfl rfl (Rd.move rfl rfl) ?_
          refine WL.rd rfl rfl rfl (Rd.move rfl rfl) ?_
          refine WL.op rfl ?_
          refine OpW.call rfl rfl (by repeat (first | exact Evs.nil | apply Evs.cons rfl)) (by kernel_rfl) rfl rfl rfl ?_
          refine alike_spec (xs := T1) (ys := B) (by repeat (first | assumption | exact List.mem_cons_self | refine List.mem_cons_of_mem _ ?_)) (by repeat (first | assumption | exact List.mem_cons_self | refine List.mem_cons_of_mem _ ?_)) ?_
          refine WL.nil ?_
          refine thenQ.normal ?_
          first | refine WC.ite rfl (fun hc5 => ?_) (fun hc5 => ?_) | refine WC.cond rfl (fun hc5 => ?_) (fun hc5 => ?_)
          · skip
            refine WC.region ?_
            refine WL.rd rfl rfl rfl (Rd.move rfl rfl) ?_
            refine WL.rd rfl rfl rfl (Rd.move rfl rfl) ?_
            refine WL.op rfl ?_
            refine OpW.appendE (enc := one vs) rfl S22 Try.underlying22 rfl rfl (by repeat (first | assumption | exact Take.head _ | apply Take.tail)) (xs := s.out) (ys := T2) (by repeat (first | assumption | exact List.mem_cons_self | refine List.mem_cons_of_mem _ ?_)) (by intro x; first | rfl | (cases x; rfl) | (rcases x with ⟨_, _, _⟩; rfl) | (rcases x with ⟨_, _, _, _⟩; rfl)) (by intro x; first | rfl | (cases x; rfl) | (rcases x with ⟨_, _, _⟩; rfl) | (rcases x with ⟨_, _, _, _⟩; rfl)) ⟨by simp only [maxLen, List.length_append, List.length_nil, List.length_cons, List.length_drop, List.length_take, List.length_map]; omega, by first | omega | (simp only [List.length_append, List.length_nil, List.length_cons, List.length_drop, List.length_take, List.length_map]; omega)⟩ rfl rfl ?_; intro v89 hv89
            obtain ⟨u2, rfl⟩ : ∃ x, x = v89 := ⟨_, rfl⟩
            obtain ⟨hv2, rfl⟩ : ∃ x, x = hv := ⟨_, rfl⟩
            obtain ⟨vsl2, rfl⟩ : ∃ x, x = vsl := ⟨_, rfl⟩
            rw [oneE_b hc4 hc5] at hlpe
            have e1 : s.out ++ T2 = (lpiece base ours theirs s n j1 k1).1 := by rw [hlpe]; rfl
            have e2 : s.bad = (lpiece base ours theirs s n j1 k1).2 := by rw [hlpe, pieceBad, oneE_b hc4 hc5]; simp
            refine WL.heap (R' := HunksR vsl2 (lpiece base ours theirs s n j1 k1).2 :: SlE (one vi) qv (matchE base theirs) :: SlE (one vi) pv (matchE base ours) :: R) (O' := accC 9 1 (one vs) u2 (lpiece base ours theirs s n j1 k1).1 :: accC 40 3 encH hv2 vsl2 :: O) (fun w h => by rw [← e1, ← e2]; exact (fun w h => OwnL.sat (by repeat (first | exact OwnL.refl | apply OwnL.take (by repeat (first | exact Take.head _ | apply Take.tail)) | apply OwnL.drop)) w (h.thin (SubL.mem (by repeat (first | exact SubL.refl | refine SubL.cons (by repeat (first | assumption | exact List.mem_cons_self | refine List.mem_cons_of_mem _ ?_)) ?_ | refine SubL.skip ?_))))) w h) ?_
            refine WL.rd rfl rfl rfl (Rd.assign rfl rfl) ?_
            refine WL.nil ?_
            refine thenQ.normal ?_
            refine WC.seq ?_
            refine WC.seq ?_
            refine WC.region ?_
            refine WL.rd rfl rfl rfl (Rd.move rfl rfl) ?_
            refine WL.rd rfl rfl rfl (Rd.move rfl rfl) ?_
            refine WL.rd rfl rfl rfl ((by first | exact Rd.lenE rfl rfl Try.underlying22 (by repeat (first | assumption | exact List.mem_cons_self | refine List.mem_cons_of_mem _ ?_)) | exact Rd.lenA rfl rfl Try.underlying22 (by repeat (first | assumption | exact List.mem_cons_self | refine List.mem_cons_of_mem _ ?_)) | exact Rd.len rfl rfl Try.underlying22)) ?_
            refine WL.rd rfl rfl rfl (Rd.lss rfl rfl rfl) ?_
            refine WL.nil ?_
            refine thenQ.normal ?_
            first | refine WC.ite rfl (fun hc6 => ?_) (fun hc6 => ?_) | refine WC.cond rfl (fun hc6 => ?_) (fun hc6 => ?_)
            · skip
              refine WC.region ?_
              refine WL.rd rfl rfl rfl (Rd.move rfl rfl) ?_
              refine WL.rd rfl rfl rfl (Rd.move rfl rfl) ?_
              refine WL.rd rfl rfl rfl (Rd.move rfl rfl) ?_
              refine WL.rd rfl rfl rfl ((by first | exact Rd.idx1 (k := n) rfl S22 rfl rfl (by omega) (by repeat (first | assumption | exact List.mem_cons_self | refine List.mem_cons_of_mem _ ?_)) (by first | omega | (simp only [List.length_cons, List.length_nil, List.length_append, List.length_map]; omega)) | exact Rd.idxA1 (k := n) rfl S22 rfl rfl (by omega) (by repeat (first | assumption | exact List.mem_cons_self | refine List.mem_cons_of_mem _ ?_)) (by first | omega | (simp only [List.length_cons, List.length_nil, List.length_append, List.length_map]; omega)) | exact Rd.idxR1 (k := n) rfl S22 rfl rfl (by omega) (by omega))) ?_
              refine WL.rd rfl rfl rfl ((by first | exact Rd.get rfl C9 rfl (by repeat (first | assumption | exact List.mem_cons_self | refine List.mem_cons_of_mem _ ?_)) (by first | assumption | rfl | exact get!_of_lt (by omega)) | exact Rd.getA rfl C9 rfl (by repeat (first | assumption | exact List.mem_cons_self | refine List.mem_cons_of_mem _ ?_)) (by first | assumption | rfl | exact get!_of_lt (by omega)) | exact Rd.row1 rfl C9 rfl (by repeat (first | assumption | exact List.mem_cons_self | refine List.mem_cons_of_mem _ ?_)) (by rfl) | exact Rd.getF rfl C9 rfl (by repeat (first | assumption | exact List.mem_cons_self | refine List.mem_cons_of_mem _ ?_)) (by intro x; first | rfl | (cases x; rfl) | (rcases x with ⟨_, _, _⟩; rfl) | (rcases x with ⟨_, _, _, _⟩; rfl)) rfl (by first | assumption | rfl | exact get!_of_lt (by omega)) (by rfl) | exact Rd.getFA rfl C9 rfl (by repeat (first | assumption | exact List.mem_cons_self | refine List.mem_cons_of_mem _ ?_)) (by intro x; first | rfl | (cases x; rfl) | (rcases x with ⟨_, _, _⟩; rfl) | (rcases x with ⟨_, _, _, _⟩; rfl)) rfl (by first | assumption | rfl | exact get!_of_lt (by omega)) (by rfl))) ?_
              refine WL.op rfl ?_
              refine OpW.buildSl (ps := [(0, _)]) rfl S22 (by repeat (first | exact Evs.nil | apply Evs.cons rfl)) rfl rfl (by repeat (first | exact CellsOf.nil | apply CellsOf.cons rfl)) (by kernel_rfl) rfl rfl rfl ?_; intro b106
              refine WL.op rfl ?_
              refine OpW.appendRow (enc := one vs) rfl S22 rfl rfl (by repeat (first | assumption | exact Take.head _ | apply Take.tail)) (by repeat (first | assumption | exact Take.head _ | apply Take.tail)) [base[n]!] rfl (by rfl) rfl (by intro x; first | rfl | (cases x; rfl) | (rcases x with ⟨_, _, _⟩; rfl) | (rcases x with ⟨_, _, _, _⟩; rfl)) (by intro x; first | rfl | (cases x; rfl) | (rcases x with ⟨_, _, _⟩; rfl) | (rcases x with ⟨_, _, _, _⟩; rfl)) ⟨by simp only [maxLen, List.length_append, List.length_nil, List.length_cons, List.length_drop, List.length_take, List.length_map]; omega, by first | omega | (simp only [List.length_append, List.length_nil, List.length_cons, List.length_drop, List.length_take, List.length_map]; omega)⟩ rfl rfl ?_; intro u3 hu3
              refine WL.rd rfl rfl rfl (Rd.assign rfl rfl) ?_
              refine WL.nil ?_
              refine thenQ.normal ?_
              refine WC.region ?_
              refine WL.rd rfl rfl rfl (Rd.move rfl rfl) ?_
              refine WL.rd rfl rfl rfl (Rd.add rfl rfl rfl (by omega)) ?_
              refine WL.rd rfl rfl rfl (Rd.move rfl rfl) ?_
              refine WL.rd rfl rfl rfl (Rd.add rfl rfl rfl (by omega)) ?_
              refine WL.rd rfl rfl rfl (Rd.move rfl rfl) ?_
              refine WL.rd rfl rfl rfl (Rd.add rfl rfl rfl (by omega)) ?_
              refine WL.rd rfl rfl rfl (Rd.assign rfl rfl) ?_
              refine WL.rd rfl rfl rfl (Rd.assign rfl rfl) ?_
              refine WL.rd rfl rfl rfl (Rd.assign rfl rfl) ?_
              refine WL.nil ?_
              refine blockQ.normal ?_
              refine thenQ.normal ?_
              refine WC.region ?_
              refine WL.rd rfl rfl rfl (Rd.move rfl rfl) ?_
              refine WL.rd rfl rfl rfl (Rd.add rfl rfl rfl (by omega)) ?_
              refine WL.rd rfl rfl rfl (Rd.assign rfl rfl) ?_
              refine WL.nil ?_
              -- next1_10
              first
                | (exfalso; rcases hst with ⟨h1, _⟩ | ⟨h1, _⟩ <;> omega)
                | (obtain ⟨_, hst⟩ : n < base.length ∧ _ := by
                     rcases hst with ⟨h1, _⟩ | h
                     · exfalso; omega
                     · exact h
                   exact loopQ5.mk (n + 1) u3 hv2 vsl2 _ (.inl ⟨by omega, hst.symm⟩) (by omega) (by repeat (first | exact Sub.nil | refine Sub.cons rfl (by first | rfl | (congr 1; omega) | assumption) ?_)) (fun w h => h))
                | (obtain ⟨_, hst⟩ : n = base.length ∧ _ := by
                     rcases hst with h | ⟨h1, _⟩
                     · exact h
                     · exfalso; omega
                   exact loopQ5.mk (n + 1) u3 hv2 vsl2 ⟨n + 1, j1 + 1, k1 + 1, (lpiece base ours theirs s n j1 k1).1, (lpiece base ours theirs s n j1 k1).2⟩ (.inr ⟨by omega, by rw [hst], by rw [hst]⟩) (by omega) (by repeat (first | exact Sub.nil | refine Sub.cons rfl (by first | rfl | (congr 1; omega) | assumption) ?_)) (fun w h => h))
            · skip
              obtain ⟨u3, rfl⟩ : ∃ x, x = u2 := ⟨_, rfl⟩
              refine WC.skip ?_
              refine thenQ.normal ?_
              refine WC.region ?_
              refine WL.rd rfl rfl rfl (Rd.move rfl rfl) ?_
              refine WL.rd rfl rfl rfl (Rd.add rfl rfl rfl (by omega)) ?_
              refine WL.rd rfl rfl rfl (Rd.move rfl rfl) ?_
              refine WL.rd rfl rfl rfl (Rd.add rfl rfl rfl (by omega)) ?_
              refine WL.rd rfl rfl rfl (Rd.move rfl rfl) ?_
              refine WL.rd rfl rfl rfl (Rd.add rfl rfl rfl (by omega)) ?_
              refine WL.rd rfl rfl rfl (Rd.assign rfl rfl) ?_
              refine WL.rd rfl rfl rfl (Rd.assign rfl rfl) ?_
              refine WL.rd rfl rfl rfl (Rd.assign rfl rfl) ?_
              refine WL.nil ?_
              refine blockQ.normal ?_
              refine thenQ.normal ?_
              refine WC.region ?_
              refine WL.rd rfl rfl rfl (Rd.move rfl rfl) ?_
              refine WL.rd rfl rfl rfl (Rd.add rfl rfl rfl (by omega)) ?_
              refine WL.rd rfl rfl rfl (Rd.assign rfl rfl) ?_
              refine WL.nil ?_
              -- next1_11
              first
                | (exfalso; rcases hst with ⟨h1, _⟩ | ⟨h1, _⟩ <;> omega)
                | (obtain ⟨_, hst⟩ : n < base.length ∧ _ := by
                     rcases hst with ⟨h1, _⟩ | h
                     · exfalso; omega
                     · exact h
                   exact loopQ5.mk (n + 1) u3 hv2 vsl2 _ (.inl ⟨by omega, hst.symm⟩) (by omega) (by repeat (first | exact Sub.nil | refine Sub.cons rfl (by first | rfl | (congr 1; omega) | assumption) ?_)) (fun w h => h))
                | (obtain ⟨_, hst⟩ : n = base.length ∧ _ := by
                     rcases hst with h | ⟨h1, _⟩
                     · exact h
                     · exfalso; omega
                   exact loopQ5.mk (n + 1) u3 hv2 vsl2 ⟨n + 1, j1 + 1, k1 + 1, (lpiece base ours theirs s n j1 k1).1, (lpiece base ours theirs s n j1 k1).2⟩ (.inr ⟨by omega, by rw [hst], by rw [hst]⟩) (by omega) (by repeat (first | exact Sub.nil | refine Sub.cons rfl (by first | rfl | (congr 1; omega) | assumption) ?_)) (fun w h => h))
          · skip
            refine WC.region ?_
            refine WL.rd rfl rfl rfl (Rd.move rfl rfl) ?_
            refine WL.rd rfl rfl rfl (Rd.move rfl rfl) ?_
            refine WL.rd rfl rfl rfl (Rd.move rfl rfl) ?_
            refine WL.rd rfl rfl rfl (Rd.move rfl rfl) ?_
            refine WL.rd rfl rfl rfl (Rd.buildN (ps := [(0, _), (1, _), (2, _)]) (cells := [sb, so, st]) rfl Bs40 I40 rfl (by repeat (first | exact Evs.nil | apply Evs.cons rfl)) (CellsOf.cons ob.cells (CellsOf.cons oo.cells (CellsOf.cons ot.cells CellsOf.nil))) (NFo.mk (by repeat (first | exact NF.nil | apply NF.cons)))) ?_
            refine WL.op rfl ?_
            refine OpW.buildSl (ps := [(0, _)]) rfl S35 (by repeat (first | exact Evs.nil | apply Evs.cons rfl)) rfl rfl (by repeat (first | exact CellsOf.nil | apply CellsOf.cons rfl)) (by kernel_rfl) rfl rfl rfl ?_; intro b95
            refine WL.op rfl ?_
            refine OpW.appendRow (enc := encH) rfl S35 rfl rfl (by repeat (first | assumption | exact Take.head _ | apply Take.tail)) (by repeat (first | assumption | exact Take.head _ | apply Take.tail)) [(⟨sb, ob.one⟩, ⟨so, oo.one⟩, ⟨st, ot.one⟩)] rfl (by rfl) rfl (fun _ => rfl) encH_one ⟨by simp only [maxLen, List.length_append, List.length_nil, List.length_cons, List.length_drop, List.length_take, List.length_map]; omega, by first | omega | (simp only [List.length_append, List.length_nil, List.length_cons, List.length_drop, List.length_take, List.length_map]; omega)⟩ rfl rfl ?_; intro v96 hv96
            obtain ⟨u2, rfl⟩ : ∃ x, x = u := ⟨_, rfl⟩
            obtain ⟨hv2, rfl⟩ : ∃ x, x = v96 := ⟨_, rfl⟩
            obtain ⟨vsl2, hvsl2⟩ : ∃ x : List (V1 × V1 × V1), x = vsl ++ [(⟨sb, ob.one⟩, ⟨so, oo.one⟩, ⟨st, ot.one⟩)] := ⟨_, rfl⟩
            rw [oneE_c hc4 hc5] at hlpe
            have e1 : s.out = (lpiece base ours theirs s n j1 k1).1 := by rw [hlpe]; simp
            have e2 : s.bad ++ [(B, T1, T2)] = (lpiece base ours theirs s n j1 k1).2 := by rw [hlpe, pieceBad, oneE_c hc4 hc5]; simp
            refine WL.heap (R' := HunksR vsl2 (lpiece base ours theirs s n j1 k1).2 :: SlE (one vi) qv (matchE base theirs) :: SlE (one vi) pv (matchE base ours) :: R) (O' := accC 9 1 (one vs) u2 (lpiece base ours theirs s n j1 k1).1 :: accC 40 3 encH hv2 vsl2 :: O) (fun w h => by
              have h1 := h.derive (q := HunksR vsl2 (s.bad ++ [(B, T1, T2)])) (fun w hR => by rw [hvsl2]; exact HunksR.snoc (hR (HunksR vsl s.bad) (by repeat (first | assumption | exact List.mem_cons_self | refine List.mem_cons_of_mem _ ?_))) (hR (SlE (one vs) sb B) (by repeat (first | assumption | exact List.mem_cons_self | refine List.mem_cons_of_mem _ ?_))) (hR (SlE (one vs) so T1) (by repeat (first | assumption | exact List.mem_cons_self | refine List.mem_cons_of_mem _ ?_))) (hR (SlE (one vs) st T2) (by repeat (first | assumption | exact List.mem_cons_self | refine List.mem_cons_of_mem _ ?_))))
              rw [← e1, ← e2, hvsl2]
              rw [hvsl2] at h1
              exact (fun w h => OwnL.sat (by repeat (first | exact OwnL.refl | apply OwnL.take (by repeat (first | exact Take.head _ | apply Take.tail)) | apply OwnL.drop)) w (h.thin (SubL.mem (by repeat (first | exact SubL.refl | refine SubL.cons (by repeat (first | assumption | exact List.mem_cons_self | refine List.mem_cons_of_mem _ ?_)) ?_ | refine SubL.skip ?_))))) w h1) ?_
            refine WL.rd rfl rfl rfl (Rd.assign rfl rfl) ?_
            refine WL.nil ?_
            refine thenQ.normal ?_
            refine WC.seq ?_
            refine WC.seq ?_
            refine WC.region ?_
            refine WL.rd rfl rfl rfl (Rd.move rfl rfl) ?_
            refine WL.rd rfl rfl rfl (Rd.move rfl rfl) ?_
            refine WL.rd rfl rfl rfl ((by first | exact Rd.lenE rfl rfl Try.underlying22 (by repeat (first | assumption | exact List.mem_cons_self | refine List.mem_cons_of_mem _ ?_)) | exact Rd.lenA rfl rfl Try.underlying22 (by repeat (first | assumption | exact List.mem_cons_self | refine List.mem_cons_of_mem _ ?_)) | exact Rd.len rfl rfl Try.underlying22)) ?_
            refine WL.rd rfl rfl rfl (Rd.lss rfl rfl rfl) ?_
            refine WL.nil ?_
            refine thenQ.normal ?_
            first | refine WC.ite rfl (fun hc6 => ?_) (fun hc6 => ?_) | refine WC.cond rfl (fun hc6 => ?_) (fun hc6 => ?_)
            · skip
              refine WC.region ?_
              refine WL.rd rfl rfl rfl (Rd.move rfl rfl) ?_
              refine WL.rd rfl rfl rfl (Rd.move rfl rfl) ?_
              refine WL.rd rfl rfl rfl (Rd.move rfl rfl) ?_
              refine WL.rd rfl rfl rfl ((by first | exact Rd.idx1 (k := n) rfl S22 rfl rfl (by omega) (by repeat (first | assumption | exact List.mem_cons_self | refine List.mem_cons_of_mem _ ?_)) (by first | omega | (simp only [List.length_cons, List.length_nil, List.length_append, List.length_map]; omega)) | exact Rd.idxA1 (k := n) rfl S22 rfl rfl (by omega) (by repeat (first | assumption | exact List.mem_cons_self | refine List.mem_cons_of_mem _ ?_)) (by first | omega | (simp only [List.length_cons, List.length_nil, List.length_append, List.length_map]; omega)) | exact Rd.idxR1 (k := n) rfl S22 rfl rfl (by omega) (by omega))) ?_
              refine WL.rd rfl rfl rfl ((by first | exact Rd.get rfl C9 rfl (by repeat (first | assumption | exact List.mem_cons_self | refine List.mem_cons_of_mem _ ?_)) (by first | assumption | rfl | exact get!_of_lt (by omega)) | exact Rd.getA rfl C9 rfl (by repeat (first | assumption | exact List.mem_cons_self | refine List.mem_cons_of_mem _ ?_)) (by first | assumption | rfl | exact get!_of_lt (by omega)) | exact Rd.row1 rfl C9 rfl (by repeat (first | assumption | exact List.mem_cons_self | refine List.mem_cons_of_mem _ ?_)) (by rfl) | exact Rd.getF rfl C9 rfl (by repeat (first | assumption | exact List.mem_cons_self | refine List.mem_cons_of_mem _ ?_)) (by intro x; first | rfl | (cases x; rfl) | (rcases x with ⟨_, _, _⟩; rfl) | (rcases x with ⟨_, _, _, _⟩; rfl)) rfl (by first | assumption | rfl | exact get!_of_lt (by omega)) (by rfl) | exact Rd.getFA rfl C9 rfl (by repeat (first | assumption | exact List.mem_cons_self | refine List.mem_cons_of_mem _ ?_)) (by intro x; first | rfl | (cases x; rfl) | (rcases x with ⟨_, _, _⟩; rfl) | (rcases x with ⟨_, _, _, _⟩; rfl)) rfl (by first | assumption | rfl | exact get!_of_lt (by omega)) (by rfl))) ?_
              refine WL.op rfl ?_
              refine OpW.buildSl (ps := [(0, _)]) rfl S22 (by repeat (first | exact Evs.nil | apply Evs.cons rfl)) rfl rfl (by repeat (first | exact CellsOf.nil | apply CellsOf.cons rfl)) (by kernel_rfl) rfl rfl rfl ?_; intro b106
              refine WL.op rfl ?_
              refine OpW.appendRow (enc := one vs) rfl S22 rfl rfl (by repeat (first | assumption | exact Take.head _ | apply Take.tail)) (by repeat (first | assumption | exact Take.head _ | apply Take.tail)) [base[n]!] rfl (by rfl) rfl (by intro x; first | rfl | (cases x; rfl) | (rcases x with ⟨_, _, _⟩; rfl) | (rcases x with ⟨_, _, _, _⟩; rfl)) (by intro x; first | rfl | (cases x; rfl) | (rcases x with ⟨_, _, _⟩; rfl) | (rcases x with ⟨_, _, _, _⟩; rfl)) ⟨by simp only [maxLen, List.length_append, List.length_nil, List.length_cons, List.length_drop, List.length_take, List.length_map]; omega, by first | omega | (simp only [List.length_append, List.length_nil, List.length_cons, List.length_drop, List.length_take, List.length_map]; omega)⟩ rfl rfl ?_; intro u3 hu3
              refine WL.rd rfl rfl rfl (Rd.assign rfl rfl) ?_
              refine WL.nil ?_
              refine thenQ.normal ?_
              refine WC.region ?_
              refine WL.rd rfl rfl rfl (Rd.move rfl rfl) ?_
              refine WL.rd rfl rfl rfl (Rd.add rfl rfl rfl (by omega)) ?_
              refine WL.rd rfl rfl rfl (Rd.move rfl rfl) ?_
              refine WL.rd rfl rfl rfl (Rd.add rfl rfl rfl (by omega)) ?_
              refine WL.rd rfl rfl rfl (Rd.move rfl rfl) ?_
              refine WL.rd rfl rfl rfl (Rd.add rfl rfl rfl (by omega)) ?_
              refine WL.rd rfl rfl rfl (Rd.assign rfl rfl) ?_
              refine WL.rd rfl rfl rfl (Rd.assign rfl rfl) ?_
              refine WL.rd rfl rfl rfl (Rd.assign rfl rfl) ?_
              refine WL.nil ?_
              refine blockQ.normal ?_
              refine thenQ.normal ?_
              refine WC.region ?_
              refine WL.rd rfl rfl rfl (Rd.move rfl rfl) ?_
              refine WL.rd rfl rfl rfl (Rd.add rfl rfl rfl (by omega)) ?_
              refine WL.rd rfl rfl rfl (Rd.assign rfl rfl) ?_
              refine WL.nil ?_
              -- next1_12
              first
                | (exfalso; rcases hst with ⟨h1, _⟩ | ⟨h1, _⟩ <;> omega)
                | (obtain ⟨_, hst⟩ : n < base.length ∧ _ := by
                     rcases hst with ⟨h1, _⟩ | h
                     · exfalso; omega
                     · exact h
                   exact loopQ5.mk (n + 1) u3 hv2 vsl2 _ (.inl ⟨by omega, hst.symm⟩) (by omega) (by repeat (first | exact Sub.nil | refine Sub.cons rfl (by first | rfl | (congr 1; omega) | assumption) ?_)) (fun w h => h))
                | (obtain ⟨_, hst⟩ : n = base.length ∧ _ := by
                     rcases hst with h | ⟨h1, _⟩
                     · exact h
                     · exfalso; omega
                   exact loopQ5.mk (n + 1) u3 hv2 vsl2 ⟨n + 1, j1 + 1, k1 + 1, (lpiece base ours theirs s n j1 k1).1, (lpiece base ours theirs s n j1 k1).2⟩ (.inr ⟨by omega, by rw [hst], by rw [hst]⟩) (by omega) (by repeat (first | exact Sub.nil | refine Sub.cons rfl (by first | rfl | (congr 1; omega) | assumption) ?_)) (fun w h => h))
            · skip
              obtain ⟨u3, rfl⟩ : ∃ x, x = u2 := ⟨_, rfl⟩
              refine WC.skip ?_
              refine thenQ.normal ?_
              refine WC.region ?_
              refine WL.rd rfl rfl rfl (Rd.move rfl rfl) ?_
              refine WL.rd rfl rfl rfl (Rd.add rfl rfl rfl (by omega)) ?_
              refine WL.rd rfl rfl rfl (Rd.move rfl rfl) ?_
              refine WL.rd rfl rfl rfl (Rd.add rfl rfl rfl (by omega)) ?_
              refine WL.rd rfl rfl rfl (Rd.move rfl rfl) ?_
              refine WL.rd rfl rfl rfl (Rd.add rfl rfl rfl (by omega)) ?_
              refine WL.rd rfl rfl rfl (Rd.assign rfl rfl) ?_
              refine WL.rd rfl rfl rfl (Rd.assign rfl rfl) ?_
              refine WL.rd rfl rfl rfl (Rd.assign rfl rfl) ?_
              refine WL.nil ?_
              refine blockQ.normal ?_
              refine thenQ.normal ?_
              refine WC.region ?_
              refine WL.rd rfl rfl rfl (Rd.move rfl rfl) ?_
              refine WL.rd rfl rfl rfl (Rd.add rfl rfl rfl (by omega)) ?_
              refine WL.rd rfl rfl rfl (Rd.assign rfl rfl) ?_
              refine WL.nil ?_
              -- next1_13
              first
                | (exfalso; rcases hst with ⟨h1, _⟩ | ⟨h1, _⟩ <;> omega)
                | (obtain ⟨_, hst⟩ : n < base.length ∧ _ := by
                     rcases hst with ⟨h1, _⟩ | h
                     · exfalso; omega
                     · exact h
                   exact loopQ5.mk (n + 1) u3 hv2 vsl2 _ (.inl ⟨by omega, hst.symm⟩) (by omega) (by repeat (first | exact Sub.nil | refine Sub.cons rfl (by first | rfl | (congr 1; omega) | assumption) ?_)) (fun w h => h))
                | (obtain ⟨_, hst⟩ : n = base.length ∧ _ := by
                     rcases hst with h | ⟨h1, _⟩
                     · exact h
                     · exfalso; omega
                   exact loopQ5.mk (n + 1) u3 hv2 vsl2 ⟨n + 1, j1 + 1, k1 + 1, (lpiece base ours theirs s n j1 k1).1, (lpiece base ours theirs s n j1 k1).2⟩ (.inr ⟨by omega, by rw [hst], by rw [hst]⟩) (by omega) (by repeat (first | exact Sub.nil | refine Sub.cons rfl (by first | rfl | (congr 1; omega) | assumption) ?_)) (fun w h => h))
  · skip
    obtain ⟨i1, i2, i3⟩ : n = base.length + 1 ∧ s.out = (lfin base ours theirs).1 ∧ s.bad = (lfin base ours theirs).2 := by
      rcases i1 with h | h
      · omega
      · exact h
    rw [i3] at hvl
    refine WC.exit ?_
    refine thenQ.exit ?_
    refine loopQ5.exit ?_
    refine blockQ.exit ?_
    refine thenQ.normal ?_
    refine WC.seq ?_
    refine WC.seq ?_
    refine WC.region ?_
    refine WL.rd rfl rfl rfl (Rd.move rfl rfl) ?_
    refine WL.rd rfl rfl rfl ((by first | exact Rd.lenE rfl rfl Try.underlying35 (by repeat (first | assumption | exact List.mem_cons_self | refine List.mem_cons_of_mem _ ?_)) | exact Rd.lenA rfl rfl Try.underlying35 (by repeat (first | assumption | exact List.mem_cons_self | refine List.mem_cons_of_mem _ ?_)) | exact Rd.len rfl rfl Try.underlying35)) ?_
    refine WL.rd rfl rfl rfl (Rd.gtr rfl rfl rfl) ?_
    refine WL.nil ?_
    refine thenQ.normal ?_
    first | refine WC.ite rfl (fun hc7 => ?_) (fun hc7 => ?_) | refine WC.cond rfl (fun hc7 => ?_) (fun hc7 => ?_)
    · skip
      have hfe : linesE base ours theirs = ([], (lfin base ours theirs).2) := by unfold linesE; rw [if_pos (by omega)]
      rw [hfe] at hk
      refine WC.seq ?_
      refine WC.region ?_
      refine WL.rd rfl rfl rfl (Rd.move rfl rfl) ?_
      refine WL.rd rfl rfl rfl (Rd.assign rfl rfl) ?_
      refine WL.rd rfl rfl rfl (Rd.assign rfl rfl) ?_
      refine WL.nil ?_
      refine thenQ.normal ?_
      -- ret_1
      refine WC.heap (R' := SlE (one vs) (.slice none 0 0) [] :: SlE encH hv vsl :: HunksR vsl (lfin base ours theirs).2 :: R) (O' := O) (fun w h => by
      rw [i3] at h
      have h1 := Sat.shareA (e := 40) (size := 3) (enc := encH) (v := hv) (xs := vsl) (by repeat (first | assumption | exact Take.head _ | apply Take.tail)) h
      exact (fun w h => OwnL.sat (by repeat (first | exact OwnL.refl | apply OwnL.take (by repeat (first | exact Take.head _ | apply Take.tail)) | apply OwnL.drop)) w (h.thin (SubL.mem (by repeat (first | exact SubL.refl | refine SubL.cons (by repeat (first | assumption | exact List.mem_cons_self | refine List.mem_cons_of_mem _ ?_)) ?_ | refine SubL.skip ?_))))) w (h1.nilE (α := List UInt8) (enc := one vs))) ?_
      refine WC.ret (Ret.two Try.results14 rfl rfl ?_)
      exact hk _ _ _ hvl
    · skip
      have hfe : linesE base ours theirs = ((lfin base ours theirs).1, []) := by unfold linesE; rw [if_neg (by omega)]
      rw [hfe] at hk
      refine WC.skip ?_
      refine thenQ.normal ?_
      refine WC.seq ?_
      refine WC.region ?_
      refine WL.rd rfl rfl rfl (Rd.move rfl rfl) ?_
      refine WL.rd rfl rfl rfl (Rd.assign rfl rfl) ?_
      refine WL.rd rfl rfl rfl (Rd.assign rfl rfl) ?_
      refine WL.nil ?_
      refine thenQ.normal ?_
      -- ret_2
      refine WC.heap (R' := SlE (one vs) u (lfin base ours theirs).1 :: SlE encH (.slice none 0 0) [] :: HunksR [] [] :: R) (O' := O) (fun w h => by
      rw [i2] at h
      have h1 := Sat.shareA (e := 9) (size := 1) (enc := one vs) (v := u) (xs := (lfin base ours theirs).1) (by repeat (first | assumption | exact Take.head _ | apply Take.tail)) h
      have h2 := h1.derive (q := HunksR [] []) (fun _ _ => HunksR.nil)
      exact (fun w h => OwnL.sat (by repeat (first | exact OwnL.refl | apply OwnL.take (by repeat (first | exact Take.head _ | apply Take.tail)) | apply OwnL.drop)) w (h.thin (SubL.mem (by repeat (first | exact SubL.refl | refine SubL.cons (by repeat (first | assumption | exact List.mem_cons_self | refine List.mem_cons_of_mem _ ?_)) ?_ | refine SubL.skip ?_))))) w (h2.nilE (α := V1 × V1 × V1) (enc := encH))) ?_
      refine WC.ret (Ret.two Try.results14 rfl rfl ?_)
      exact hk _ _ _ rfl
end Go.Proofs.Ytpicbbkmcbhnpaa
