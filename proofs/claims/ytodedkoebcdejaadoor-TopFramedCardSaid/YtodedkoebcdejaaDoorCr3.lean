/-
  Layer 3: how many frames stand at the beginning of bytes; CrcSums and CrcNexts.
-/
import Derived.Test.YtodedkoebcdejaaDoorCr2
namespace Go.Proofs.YtodedkoebcdejaaDoor
open Go Go.SL

theorem nextF_ok : ∀ {s : List UInt8}, (nextF s).2.2.2 = 0 → ∃ n : Nat, (nextF s).2.2.1 = n ∧ 5 ≤ n ∧ n ≤ s.length
  | [], h => by simp [nextF] at h
  | k :: s, h => by
    rw [nextF] at h ⊢
    by_cases h1 : (nextE s).2.2 ≠ 0
    · rw [if_pos h1] at h; exact absurd h h1
    · rw [if_neg h1] at h ⊢
      obtain ⟨n, hn, hn1, hn2⟩ := nextE_pos (Decidable.not_not.1 h1)
      by_cases h2 : (s.length : Int) + 1 < (nextE s).2.1 + 5
      · rw [if_pos h2] at h; simp at h
      · rw [if_neg h2] at h ⊢
        split at h
        · simp at h
        · next h3 =>
          rw [if_neg h3]
          exact ⟨n + 5, by simp only [hn]; omega, by omega, by rw [List.length_cons]; omega⟩
/-- How far the whole frames go, and how many there are. -/
def wholeF : Nat → List UInt8 → Nat → Nat → Nat × Nat
  | 0, _, a, c => (a, c)
  | f + 1, s, a, c => if (nextF (s.drop a)).2.2.2 ≠ 0 then (a, c) else wholeF f s (a + (nextF (s.drop a)).2.2.1.toNat) (c + 1)
def wholeE (s : List UInt8) : Nat × Nat := wholeF (s.length + 1) s 0 0
theorem wholeF_stop {f : Nat} {s : List UInt8} {a c : Nat} (hf : 0 < f) (h : (nextF (s.drop a)).2.2.2 ≠ 0) : wholeF f s a c = (a, c) := by
  obtain ⟨f, rfl⟩ : ∃ g, f = g + 1 := ⟨f - 1, by omega⟩
  rw [wholeF, if_pos h]
theorem wholeF_step {f : Nat} {s : List UInt8} {a c n : Nat} (hf : 0 < f) (h : ¬ (nextF (s.drop a)).2.2.2 ≠ 0) (hn : (nextF (s.drop a)).2.2.1 = n) : wholeF f s a c = wholeF (f - 1) s (a + n) (c + 1) := by
  obtain ⟨f, rfl⟩ : ∃ g, f = g + 1 := ⟨f - 1, by omega⟩
  rw [wholeF, if_neg h, hn, Int.toNat_natCast]; rfl

set_option maxRecDepth 20000 in
set_option maxHeartbeats 1000000 in
theorem crcWhole_spec {R : List RO} {O : List Own} {POST : Value → List RO → List Own → Prop} {s : List UInt8} (ht : tabR ∈ R) (hs : s.length ≤ 9223372036854775000)
    (hk : POST (.tuple #[.int .i64 (wholeE s).1, .int .i64 (wholeE s).2]) R O) : Fun Tryd.prog 12 #[vs s] R O POST := by
  refine Fun.enter (l := [_]) Tryd.func12 rfl Tryd.ntmps12 rfl (L0 := [(0, _)]) rfl ?_
  refine WC.seq ?_
  refine WC.region ?_
  refine WL.rd rfl rfl rfl (Rd.assign rfl rfl) ?_
  refine WL.rd rfl rfl rfl (Rd.assign rfl rfl) ?_
  refine WL.nil ?_
  refine thenQ.normal ?_
  refine WC.seq ?_
  refine WC.region ?_
  refine WL.rd rfl rfl rfl (Rd.assign rfl rfl) ?_
  refine WL.rd rfl rfl rfl (Rd.assign rfl rfl) ?_
  refine WL.nil ?_
  refine thenQ.normal ?_
  refine WC.block ?_
  refine WC.pick [4, 5, 0] (by repeat (first | exact Pick.nil | apply Pick.cons rfl)) ?_
  refine WC.loop3o 2 (fun (f : Nat) (a : Nat) (c : Nat) => [(4, .int .i64 (a : Int)), (5, .int .i64 (c : Int))]) (fun (f : Nat) (a : Nat) (c : Nat) => a ≤ s.length ∧ s.length < a + f ∧ c ≤ a ∧ wholeF f s a c = wholeE s) (fun (f : Nat) (a : Nat) (c : Nat) => s.length - a) (s.length + 1) (0) (0) (by repeat (first | exact Split.zero | apply Split.succ)) ?hinv1 (by repeat (first | exact Sub.nil | refine Sub.cons rfl (by first | rfl | (congr 1; omega) | assumption) ?_)) (fun _ h => h) ?_
  case hinv1 =>
    exact ⟨Nat.zero_le _, by omega, Nat.le_refl _, rfl⟩
  intro f a c
  rintro ⟨h1, h2, h3, h4⟩
  refine WC.block ?_
  refine WC.seq ?_
  refine WC.region ?_
  refine WL.rd rfl rfl rfl (Rd.move rfl rfl) ?_
  refine WL.rd rfl rfl rfl (Rd.move rfl rfl) ?_
  refine WL.rd rfl rfl rfl (Rd.scut_l (lo := a) rfl Tryd.underlying9 rfl rfl (by omega) (by omega)) ?_
  refine WL.op rfl ?_
  refine OpW.call rfl rfl (by repeat (first | exact Evs.nil | apply Evs.cons rfl)) (by kernel_rfl) rfl rfl rfl ?_
  refine crcNext_spec (s := s.drop a) ht (by rw [List.length_drop]; omega) ?_
  refine WL.rd rfl rfl rfl (Rd.move rfl rfl) ?_
  refine WL.rd rfl rfl rfl (Rd.extract rfl rfl rfl) ?_
  refine WL.rd rfl rfl rfl (Rd.extract rfl rfl rfl) ?_
  refine WL.rd rfl rfl rfl (Rd.extract rfl rfl rfl) ?_
  refine WL.rd rfl rfl rfl (Rd.extract rfl rfl rfl) ?_
  refine WL.rd rfl rfl rfl (Rd.assign rfl rfl) ?_
  refine WL.rd rfl rfl rfl (Rd.assign rfl rfl) ?_
  refine WL.rd rfl rfl rfl (Rd.assign rfl rfl) ?_
  refine WL.rd rfl rfl rfl (Rd.assign rfl rfl) ?_
  refine WL.nil ?_
  refine thenQ.normal ?_
  refine WC.seq ?_
  refine WC.seq ?_
  refine WC.region ?_
  refine WL.rd rfl rfl rfl (Rd.move rfl rfl) ?_
  refine WL.rd rfl rfl rfl (Rd.neq rfl rfl rfl) ?_
  refine WL.nil ?_
  refine thenQ.normal ?_
  first | refine WC.ite rfl (fun hc1 => ?_) (fun hc1 => ?_) | refine WC.cond rfl (fun hc1 => ?_) (fun hc1 => ?_)
  · skip
    refine WC.seq ?_
    refine WC.region ?_
    refine WL.rd rfl rfl rfl (Rd.move rfl rfl) ?_
    refine WL.rd rfl rfl rfl (Rd.move rfl rfl) ?_
    refine WL.rd rfl rfl rfl (Rd.assign rfl rfl) ?_
    refine WL.rd rfl rfl rfl (Rd.assign rfl rfl) ?_
    refine WL.nil ?_
    refine thenQ.normal ?_
    -- ret_1
    refine WC.ret (Ret.two Tryd.results12 rfl rfl ?_)
    rw [← h4, wholeF_stop (by omega) hc1] at hk
    exact hk
  · skip
    obtain ⟨n, hn, hn5, hnl⟩ := nextF_ok (Decidable.not_not.1 hc1)
    rw [List.length_drop] at hnl
    rw [hn]
    refine WC.skip ?_
    refine thenQ.normal ?_
    refine WC.region ?_
    refine WL.rd rfl rfl rfl (Rd.move rfl rfl) ?_
    refine WL.rd rfl rfl rfl (Rd.move rfl rfl) ?_
    refine WL.rd rfl rfl rfl (Rd.add rfl rfl rfl (by omega)) ?_
    refine WL.rd rfl rfl rfl (Rd.move rfl rfl) ?_
    refine WL.rd rfl rfl rfl (Rd.add rfl rfl rfl (by omega)) ?_
    refine WL.rd rfl rfl rfl (Rd.assign rfl rfl) ?_
    refine WL.rd rfl rfl rfl (Rd.assign rfl rfl) ?_
    refine WL.nil ?_
    refine blockQ.normal ?_
    -- next1_1
    exact loopQ3.mk (f - 1) (a + n) (c + 1) ⟨by omega, by omega, by omega, by rw [← h4, wholeF_step (by omega) hc1 hn]⟩ (by omega) (by repeat (first | exact Sub.nil | refine Sub.cons rfl (by first | rfl | (congr 1; omega) | assumption) ?_)) (fun w h => OwnL.sat (by repeat (first | exact OwnL.refl | apply OwnL.take (by repeat (first | exact Take.head _ | apply Take.tail)) | apply OwnL.drop)) w (h.thin (SubL.mem (by repeat (first | exact SubL.refl | refine SubL.cons (by repeat (first | assumption | exact List.mem_cons_self | refine List.mem_cons_of_mem _ ?_)) ?_ | refine SubL.skip ?_)))))

end Go.Proofs.YtodedkoebcdejaaDoor
