/-
  Layer 3: how many frames stand at the beginning of bytes; CrcSums and CrcNexts.
-/
import Derived.Test.YtcgaolaahhedmaaDoorCr2
namespace Go.Proofs.YtcgaolaahhedmaaDoor
open Go Go.SL

theorem nextF_ok : ∀ {s : List UInt8}, (nextF s).2.2.2 = 0 → ∃ n : Nat, (nextF s).2.2.1 = n ∧ 5 ≤ n ∧ n ≤ s.length
  | [], h => by simp [nextF] at h
  | k :: s, h => by
    rw [nextF] at h ⊢
    by_cases h1 : (nextE s).2.2 ≠ 0
    · rw [if_pos h1] at h; exact absurd h h1
    · rw [if_neg h1] at h ⊢
      obtain ⟨n, hn, hn1, hn2⟩ := nextE_pos (Decidable.not_not.1 h1)
      by_cases h2 : (s.length : Int) + 1 < (nextE s).2.1 + 5
      · rw [if_pos h2] at h; simp at h
      · rw [if_neg h2] at h ⊢
        split at h
        · simp at h
        · next h3 =>
          rw [if_neg h3]
          exact ⟨n + 5, by simp only [hn]; omega, by omega, by rw [List.length_cons]; omega⟩
/-- How far the whole frames go, and how many there are. -/
def wholeF : Nat → List UInt8 → Nat → Nat → Nat × Nat
  | 0, _, a, c => (a, c)
  | f + 1, s, a, c => if (nextF (s.drop a)).2.2.2 ≠ 0 then (a, c) else wholeF f s (a + (nextF (s.drop a)).2.2.1.toNat) (c + 1)
def wholeE (s : List UInt8) : Nat × Nat := wholeF (s.length + 1) s 0 0
theorem wholeF_stop {f : Nat} {s : List UInt8} {a c : Nat} (hf : 0 < f) (h : (nextF (s.drop a)).2.2.2 ≠ 0) : wholeF f s a c = (a, c) := by
  obtain ⟨f, rfl⟩ : ∃ g, f = g + 1 := ⟨f - 1, by omega⟩
  rw [wholeF, if_pos h]
theorem wholeF_step {f : Nat} {s : List UInt8} {a c n : Nat} (hf : 0 < f) (h : ¬ (nextF (s.drop a)).2.2.2 ≠ 0) (hn : (nextF (s.drop a)).2.2.1 = n) : wholeF f s a c = wholeF (f - 1) s (a + n) (c + 1) := by
  obtain ⟨f, rfl⟩ : ∃ g, f = g + 1 := ⟨f - 1, by omega⟩
  rw [wholeF, if_neg h, hn, Int.toNat_natCast]; rfl

set_option maxHeartbeats 1000000 in
theorem crcWhole_spec {R : List RO} {O : List Own} {POST : Value → List RO → List Own → Prop} {s : List UInt8} (ht : tabR ∈ R) (hs : s.length ≤ 9223372036854775000)
    (hk : POST (.tuple #[.int .i64 (wholeE s).1, .int .i64 (wholeE s).2]) R O) : Fun Tryd.prog 15 #[vs s] R O POST := by
  refine Fun.enter (l := [_]) Tryd.func15 rfl Tryd.ntmps15 rfl (L0 := [(0, _)]) rfl ?_
  refine WC.seq ?_
  refine WC.region ?_
  refine WL.rd rfl rfl rfl (Rd.assign rfl rfl) ?_
  refine WL.rd rfl rfl rfl (Rd.assign rfl rfl) ?_
  refine WL.nil ?_
  refine thenQ.normal ?_
  refine WC.seq ?_
  refine WC.region ?_
  refine WL.rd rfl rfl rfl (Rd.assign rfl rfl) ?_
  refine WL.rd rfl rfl rfl (Rd.assign rfl rfl) ?_
  refine WL.nil ?_
  refine thenQ.normal ?_
  refine WC.block ?_
  refine WC.pick [4, 5, 0] (by repeat (first | exact Pick.nil | apply Pick.cons rfl)) ?_
  refine WC.loop3o 2 (fun (f : Nat) (a : Nat) (c : Nat) => [(4, .int .i64 (a : Int)), (5, .int .i64 (c : Int))]) (fun (f : Nat) (a : Nat) (c : Nat) => a ≤ s.length ∧ s.length < a + f ∧ c ≤ a ∧ wholeF f s a c = wholeE s) (fun (f : Nat) (a : Nat) (c : Nat) => s.length - a) (s.length + 1) (0) (0) (by repeat (first | exact Split.zero | apply Split.succ)) ?hinv1 (by repeat (first | exact Sub.nil | refine Sub.cons rfl (by first | rfl | (congr 1; omega) | assumption) ?_)) (fun _ h => h) ?_
  case hinv1 =>
    exact ⟨Nat.zero_le _, by omega, Nat.le_refl _, rfl⟩
  intro f a c
  rintro ⟨h1, h2, h3, h4⟩
  refine WC.block ?_
  refine WC.seq ?_
  refine WC.region ?_
  refine WL.rd rfl rfl rfl (Rd.move rfl rfl) ?_
  refine WL.rd rfl rfl rfl (Rd.move rfl rfl) ?_
  refine WL.rd rfl rfl rfl (Rd.scut_l (lo := a) rfl Tryd.underlying9 rfl rfl (by omega) (by omega)) ?_
  refine WL.op rfl ?_
  refine OpW.call rfl rfl (by repeat (first | exact Evs.nil | apply Evs.cons rfl)) (by kernel_rfl) rfl rfl rfl ?_
  refine crcNext_spec (s := s.drop a) ht (by rw [List.length_drop]; omega) ?_
  refine WL.rd rfl rfl rfl (Rd.move rfl rfl) ?_
  refine WL.rd rfl rfl rfl (Rd.extract rfl rfl rfl) ?_
  refine WL.rd rfl rfl rfl (Rd.extract rfl rfl rfl) ?_
  refine WL.rd rfl rfl rfl (Rd.extract rfl rfl rfl) ?_
  refine WL.rd rfl rfl rfl (Rd.extract rfl rfl rfl) ?_
  refine WL.rd rfl rfl rfl (Rd.assign rfl rfl) ?_
  refine WL.rd rfl rfl rfl (Rd.assign rfl rfl) ?_
  refine WL.rd rfl rfl rfl (Rd.assign rfl rfl) ?_
  refine WL.rd rfl rfl rfl (Rd.assign rfl rfl) ?_
  refine WL.nil ?_
  refine thenQ.normal ?_
  refine WC.seq ?_
  refine WC.seq ?_
  refine WC.region ?_
  refine WL.rd rfl rfl rfl (Rd.move rfl rfl) ?_
  refine WL.rd rfl rfl rfl (Rd.neq rfl rfl rfl) ?_
  refine WL.nil ?_
  refine thenQ.normal ?_
  first | refine WC.ite rfl (fun hc1 => ?_) (fun hc1 => ?_) | refine WC.cond rfl (fun hc1 => ?_) (fun hc1 => ?_)
  · skip
    refine WC.seq ?_
    refine WC.region ?_
    refine WL.rd rfl rfl rfl (Rd.move rfl rfl) ?_
    refine WL.rd rfl rfl rfl (Rd.move rfl rfl) ?_
    refine WL.rd rfl rfl rfl (Rd.assign rfl rfl) ?_
    refine WL.rd rfl rfl rfl (Rd.assign rfl rfl) ?_
    refine WL.nil ?_
    refine thenQ.normal ?_
    -- ret_1
    refine WC.ret (Ret.two Tryd.results15 rfl rfl ?_)
    rw [← h4, wholeF_stop (by omega) hc1] at hk
    exact hk
  · skip
    obtain ⟨n, hn, hn5, hnl⟩ := nextF_ok (Decidable.not_not.1 hc1)
    rw [List.length_drop] at hnl
    rw [hn]
    refine WC.skip ?_
    refine thenQ.normal ?_
    refine WC.region ?_
    refine WL.rd rfl rfl rfl (Rd.move rfl rfl) ?_
    refine WL.rd rfl rfl rfl (Rd.move rfl rfl) ?_
    refine WL.rd rfl rfl rfl (Rd.add rfl rfl rfl (by omega)) ?_
    refine WL.rd rfl rfl rfl (Rd.move rfl rfl) ?_
    refine WL.rd rfl rfl rfl (Rd.add rfl rfl rfl (by omega)) ?_
    refine WL.rd rfl rfl rfl (Rd.assign rfl rfl) ?_
    refine WL.rd rfl rfl rfl (Rd.assign rfl rfl) ?_
    refine WL.nil ?_
    refine blockQ.normal ?_
    -- next1_1
    exact loopQ3.mk (f - 1) (a + n) (c + 1) ⟨by omega, by omega, by omega, by rw [← h4, wholeF_step (by omega) hc1 hn]⟩ (by omega) (by repeat (first | exact Sub.nil | refine Sub.cons rfl (by first | rfl | (congr 1; omega) | assumption) ?_)) (fun w h => OwnL.sat (by repeat (first | exact OwnL.refl | apply OwnL.take (by repeat (first | exact Take.head _ | apply Take.tail)) | apply OwnL.drop)) w (h.thin (SubL.mem (by repeat (first | exact SubL.refl | refine SubL.cons (by repeat (first | assumption | exact List.mem_cons_self | refine List.mem_cons_of_mem _ ?_)) ?_ | refine SubL.skip ?_)))))

theorem say_next : nextF (frameE 7 [97, 98]) = (7, [97, 98], 8, 0) := by decide +kernel
theorem say_sum : sumE [49, 50, 51, 52, 53, 54, 55, 56, 57] = 3421780262 := by decide +kernel
theorem say_len : (frameE 7 [97, 98]).length = 8 := by decide +kernel
theorem speaks_spec {R : List RO} {O : List Own} {POST : Value → List RO → List Own → Prop} (ht : tabR ∈ R) (hk : POST (.bool true) R O) : Fun Tryd.prog 8 #[] R O POST := by
  refine Fun.enter (l := []) Tryd.func8 rfl Tryd.ntmps8 rfl (L0 := []) rfl ?_
  refine WC.seq ?_
  refine WC.region ?_
  refine WL.rd rfl rfl rfl (Rd.assign rfl rfl) ?_
  refine WL.nil ?_
  refine thenQ.normal ?_
  refine WC.seq ?_
  refine WC.region ?_
  refine WL.op rfl ?_
  refine OpW.call rfl rfl (by repeat (first | exact Evs.nil | apply Evs.cons rfl)) (by kernel_rfl) rfl rfl rfl ?_
  refine frame_spec (k := 7) (b := [97, 98]) ht ?_
  refine WL.op rfl ?_
  refine OpW.call rfl rfl (by repeat (first | exact Evs.nil | apply Evs.cons rfl)) (by kernel_rfl) rfl rfl rfl ?_
  refine crcNext_spec (s := frameE 7 [97, 98]) ht (by rw [say_len]; decide) ?_
  rw [say_next]
  refine WL.rd rfl rfl rfl (Rd.move rfl rfl) ?_
  refine WL.rd rfl rfl rfl (Rd.extract rfl rfl rfl) ?_
  refine WL.rd rfl rfl rfl (Rd.extract rfl rfl rfl) ?_
  refine WL.rd rfl rfl rfl (Rd.extract rfl rfl rfl) ?_
  refine WL.rd rfl rfl rfl (Rd.extract rfl rfl rfl) ?_
  refine WL.rd rfl rfl rfl (Rd.assign rfl rfl) ?_
  refine WL.rd rfl rfl rfl (Rd.assign rfl rfl) ?_
  refine WL.rd rfl rfl rfl (Rd.assign rfl rfl) ?_
  refine WL.rd rfl rfl rfl (Rd.assign rfl rfl) ?_
  refine WL.nil ?_
  refine thenQ.normal ?_
  refine WC.seq ?_
  refine WC.region ?_
  refine WL.op rfl ?_
  refine OpW.call rfl rfl (by repeat (first | exact Evs.nil | apply Evs.cons rfl)) (by kernel_rfl) rfl rfl rfl ?_
  refine crcSum_spec (s := [49, 50, 51, 52, 53, 54, 55, 56, 57]) ht (by decide) ?_
  rw [say_sum]
  refine WL.rd rfl rfl rfl (Rd.eql rfl rfl rfl) ?_
  refine WL.rd rfl rfl rfl (Rd.move rfl rfl) ?_
  refine WL.case 14 rfl (fun hg14 => ?_) (fun hg14 => ?_)
  · skip
    refine WL.rd_yes rfl rfl rfl rfl rfl rfl (Rd.move rfl rfl) ?_
    refine WL.rd_yes rfl rfl rfl rfl rfl rfl (Rd.eql rfl rfl rfl) ?_
    refine WL.rd rfl rfl rfl (Rd.pick_t rfl rfl rfl) ?_
    refine WL.rd rfl rfl rfl (Rd.move rfl rfl) ?_
    refine WL.case 18 rfl (fun hg18 => ?_) (fun hg18 => ?_)
    · skip
      refine WL.rd_yes rfl rfl rfl rfl rfl rfl (Rd.move rfl rfl) ?_
      refine WL.rd_yes rfl rfl rfl rfl rfl rfl (Rd.seql rfl rfl rfl) ?_
      refine WL.rd rfl rfl rfl (Rd.pick_t rfl rfl rfl) ?_
      refine WL.rd rfl rfl rfl (Rd.move rfl rfl) ?_
      refine WL.case 22 rfl (fun hg22 => ?_) (fun hg22 => ?_)
      · skip
        refine WL.rd_yes rfl rfl rfl rfl rfl rfl (Rd.move rfl rfl) ?_
        refine WL.rd_yes rfl rfl rfl rfl rfl rfl (Rd.eql rfl rfl rfl) ?_
        refine WL.rd rfl rfl rfl (Rd.pick_t rfl rfl rfl) ?_
        refine WL.rd rfl rfl rfl (Rd.move rfl rfl) ?_
        refine WL.case 26 rfl (fun hg26 => ?_) (fun hg26 => ?_)
        · skip
          refine WL.rd_yes rfl rfl rfl rfl rfl rfl (Rd.move rfl rfl) ?_
          refine WL.rd_yes rfl rfl rfl rfl rfl rfl (Rd.eql rfl rfl rfl) ?_
          refine WL.rd rfl rfl rfl (Rd.pick_t rfl rfl rfl) ?_
          refine WL.rd rfl rfl rfl (Rd.assign rfl rfl) ?_
          refine WL.nil ?_
          refine thenQ.normal ?_
          -- ret_1
          refine WC.ret (Ret.one Tryd.results8 rfl ?_)
          simpa using hk
        · skip
          simp at hg26
      · skip
        simp at hg22
    · skip
      simp at hg18
  · skip
    simp at hg14
theorem byte_of {p : Int} (h : (Lit.int .u8 p).wf = true) : ∃ k : UInt8, p = (k.toNat : Int) := by
  have hx : 0 ≤ p ∧ p ≤ 255 := by simpa [Lit.wf, IntKind.min, IntKind.max, IntKind.signed, IntKind.bits] using h
  exact ⟨UInt8.ofNat p.toNat, by rw [u8_toNat (by omega)]; omega⟩
theorem sums_spec {R : List RO} {O : List Own} {POST : Value → List RO → List Own → Prop} {s : List UInt8} {p : Int} (hp : (Lit.int .u8 p).wf = true) (ht : tabR ∈ R) (hs : s.length ≤ 9223372036854775807) (hk : POST (.bool true) R O) : Fun Tryd.prog 3 #[vs s, .int .u8 p] R O POST := by
  obtain ⟨k, rfl⟩ := byte_of hp
  refine Fun.enter (l := [_, _]) Tryd.func3 rfl Tryd.ntmps3 rfl (L0 := [(0, _), (1, _)]) rfl ?_
  refine WC.seq ?_
  refine WC.region ?_
  refine WL.rd rfl rfl rfl (Rd.assign rfl rfl) ?_
  refine WL.nil ?_
  refine thenQ.normal ?_
  refine WC.seq ?_
  refine WC.seq ?_
  refine WC.region ?_
  refine WL.op rfl ?_
  refine OpW.call rfl rfl (by repeat (first | exact Evs.nil | apply Evs.cons rfl)) (by kernel_rfl) rfl rfl rfl ?_
  refine speaks_spec ht ?_
  refine WL.rd rfl rfl rfl ((by first | exact Rd.notd rfl rfl | exact Rd.not rfl rfl)) ?_
  refine WL.nil ?_
  refine thenQ.normal ?_
  first | refine WC.ite rfl (fun hc1 => ?_) (fun hc1 => ?_) | refine WC.cond rfl (fun hc1 => ?_) (fun hc1 => ?_)
  · skip
    simp at hc1
  · skip
    refine WC.skip ?_
    refine thenQ.normal ?_
    refine WC.seq ?_
    refine WC.seq ?_
    refine WC.region ?_
    refine WL.rd rfl rfl rfl (Rd.move rfl rfl) ?_
    refine WL.rd rfl rfl rfl (Rd.slen (ts := #[]) (ty := 0) rfl rfl Tryd.underlying9) ?_
    refine WL.rd rfl rfl rfl (Rd.gtr rfl rfl rfl) ?_
    refine WL.nil ?_
    refine thenQ.normal ?_
    first | refine WC.ite rfl (fun hc2 => ?_) (fun hc2 => ?_) | refine WC.cond rfl (fun hc2 => ?_) (fun hc2 => ?_)
    · skip
      refine WC.seq ?_
      refine WC.region ?_
      refine WL.rd rfl rfl rfl (Rd.assign rfl rfl) ?_
      refine WL.nil ?_
      refine thenQ.normal ?_
      -- ret_1
      refine WC.ret (Ret.one Tryd.results3 rfl ?_)
      exact hk
    · skip
      refine WC.skip ?_
      refine thenQ.normal ?_
      refine WC.seq ?_
      refine WC.region ?_
      refine WL.rd rfl rfl rfl (Rd.move rfl rfl) ?_
      refine WL.op rfl ?_
      refine OpW.call rfl rfl (by repeat (first | exact Evs.nil | apply Evs.cons rfl)) (by kernel_rfl) rfl rfl rfl ?_
      refine crcSum_spec ht hs ?_
      refine WL.rd rfl rfl rfl (Rd.move rfl rfl) ?_
      refine WL.op rfl ?_
      refine OpW.call rfl rfl (by repeat (first | exact Evs.nil | apply Evs.cons rfl)) (by kernel_rfl) rfl rfl rfl ?_
      refine refSum_spec hs ?_
      refine WL.rd rfl rfl rfl (Rd.eql rfl rfl rfl) ?_
      refine WL.rd rfl rfl rfl (Rd.move rfl rfl) ?_
      refine WL.case 15 rfl (fun hg15 => ?_) (fun hg15 => ?_)
      · skip
        refine WL.rd_yes rfl rfl rfl rfl rfl rfl (Rd.move rfl rfl) ?_
        refine WL.rd_yes rfl rfl rfl rfl rfl rfl (Rd.move rfl rfl) ?_
        refine WL.op_yes rfl rfl rfl rfl ?_
        refine OpW.call rfl rfl (by repeat (first | exact Evs.nil | apply Evs.cons rfl)) (by kernel_rfl) rfl rfl rfl ?_
        refine frame_spec ht ?_
        refine WL.rd_yes rfl rfl rfl rfl rfl rfl (Rd.move rfl rfl) ?_
        refine WL.rd_yes rfl rfl rfl rfl rfl rfl (Rd.move rfl rfl) ?_
        refine WL.op_yes rfl rfl rfl rfl ?_
        refine OpW.call rfl rfl (by repeat (first | exact Evs.nil | apply Evs.cons rfl)) (by kernel_rfl) rfl rfl rfl ?_
        refine rframe_spec ?_
        refine WL.rd_yes rfl rfl rfl rfl rfl rfl (Rd.seql rfl rfl rfl) ?_
        refine WL.rd rfl rfl rfl (Rd.pick_t rfl rfl rfl) ?_
        refine WL.rd rfl rfl rfl (Rd.assign rfl rfl) ?_
        refine WL.nil ?_
        refine thenQ.normal ?_
        -- ret_2
        refine WC.ret (Ret.one Tryd.results3 rfl ?_)
        simpa using hk
      · skip
        simp at hg15
set_option maxHeartbeats 1000000 in
theorem nexts_spec {R : List RO} {O : List Own} {POST : Value → List RO → List Own → Prop} {s : List UInt8} (ht : tabR ∈ R) (hs : s.length ≤ 9223372036854775807) (hk : POST (.bool true) R O) : Fun Tryd.prog 6 #[vs s] R O POST := by
  refine Fun.enter (l := [_]) Tryd.func6 rfl Tryd.ntmps6 rfl (L0 := [(0, _)]) rfl ?_
  refine WC.seq ?_
  refine WC.region ?_
  refine WL.rd rfl rfl rfl (Rd.assign rfl rfl) ?_
  refine WL.nil ?_
  refine thenQ.normal ?_
  refine WC.seq ?_
  refine WC.seq ?_
  refine WC.region ?_
  refine WL.op rfl ?_
  refine OpW.call rfl rfl (by repeat (first | exact Evs.nil | apply Evs.cons rfl)) (by kernel_rfl) rfl rfl rfl ?_
  refine speaks_spec ht ?_
  refine WL.rd rfl rfl rfl ((by first | exact Rd.notd rfl rfl | exact Rd.not rfl rfl)) ?_
  refine WL.nil ?_
  refine thenQ.normal ?_
  first | refine WC.ite rfl (fun hc1 => ?_) (fun hc1 => ?_) | refine WC.cond rfl (fun hc1 => ?_) (fun hc1 => ?_)
  · skip
    simp at hc1
  · skip
    refine WC.skip ?_
    refine thenQ.normal ?_
    refine WC.seq ?_
    refine WC.seq ?_
    refine WC.region ?_
    refine WL.rd rfl rfl rfl (Rd.move rfl rfl) ?_
    refine WL.rd rfl rfl rfl (Rd.slen (ts := #[]) (ty := 0) rfl rfl Tryd.underlying9) ?_
    refine WL.rd rfl rfl rfl (Rd.gtr rfl rfl rfl) ?_
    refine WL.nil ?_
    refine thenQ.normal ?_
    first | refine WC.ite rfl (fun hc2 => ?_) (fun hc2 => ?_) | refine WC.cond rfl (fun hc2 => ?_) (fun hc2 => ?_)
    · skip
      refine WC.seq ?_
      refine WC.region ?_
      refine WL.rd rfl rfl rfl (Rd.assign rfl rfl) ?_
      refine WL.nil ?_
      refine thenQ.normal ?_
      -- ret_1
      refine WC.ret (Ret.one Tryd.results6 rfl ?_)
      exact hk
    · skip
      refine WC.skip ?_
      refine thenQ.normal ?_
      refine WC.seq ?_
      refine WC.region ?_
      refine WL.rd rfl rfl rfl (Rd.move rfl rfl) ?_
      refine WL.op rfl ?_
      refine OpW.call rfl rfl (by repeat (first | exact Evs.nil | apply Evs.cons rfl)) (by kernel_rfl) rfl rfl rfl ?_
      refine crcNext_spec ht (by omega) ?_
      refine WL.rd rfl rfl rfl (Rd.move rfl rfl) ?_
      refine WL.rd rfl rfl rfl (Rd.extract rfl rfl rfl) ?_
      refine WL.rd rfl rfl rfl (Rd.extract rfl rfl rfl) ?_
      refine WL.rd rfl rfl rfl (Rd.extract rfl rfl rfl) ?_
      refine WL.rd rfl rfl rfl (Rd.extract rfl rfl rfl) ?_
      refine WL.rd rfl rfl rfl (Rd.assign rfl rfl) ?_
      refine WL.rd rfl rfl rfl (Rd.assign rfl rfl) ?_
      refine WL.rd rfl rfl rfl (Rd.assign rfl rfl) ?_
      refine WL.rd rfl rfl rfl (Rd.assign rfl rfl) ?_
      refine WL.nil ?_
      refine thenQ.normal ?_
      refine WC.seq ?_
      refine WC.region ?_
      refine WL.rd rfl rfl rfl (Rd.move rfl rfl) ?_
      refine WL.op rfl ?_
      refine OpW.call rfl rfl (by repeat (first | exact Evs.nil | apply Evs.cons rfl)) (by kernel_rfl) rfl rfl rfl ?_
      refine rcrcNext_spec (by omega) ?_
      refine WL.rd rfl rfl rfl (Rd.move rfl rfl) ?_
      refine WL.rd rfl rfl rfl (Rd.extract rfl rfl rfl) ?_
      refine WL.rd rfl rfl rfl (Rd.extract rfl rfl rfl) ?_
      refine WL.rd rfl rfl rfl (Rd.extract rfl rfl rfl) ?_
      refine WL.rd rfl rfl rfl (Rd.extract rfl rfl rfl) ?_
      refine WL.rd rfl rfl rfl (Rd.assign rfl rfl) ?_
      refine WL.rd rfl rfl rfl (Rd.assign rfl rfl) ?_
      refine WL.rd rfl rfl rfl (Rd.assign rfl rfl) ?_
      refine WL.rd rfl rfl rfl (Rd.assign rfl rfl) ?_
      refine WL.nil ?_
      refine thenQ.normal ?_
      refine WC.seq ?_
      refine WC.seq ?_
      refine WC.region ?_
      refine WL.rd rfl rfl rfl (Rd.move rfl rfl) ?_
      refine WL.rd rfl rfl rfl (Rd.move rfl rfl) ?_
      refine WL.rd rfl rfl rfl (Rd.neq rfl rfl rfl) ?_
      refine WL.rd rfl rfl rfl (Rd.move rfl rfl) ?_
      refine WL.case 37 rfl (fun hg37 => ?_) (fun hg37 => ?_)
      · skip
        simp at hg37
      · skip
        refine WL.rd_yes rfl rfl rfl rfl rfl rfl (Rd.move rfl rfl) ?_
        refine WL.rd_yes rfl rfl rfl rfl rfl rfl (Rd.move rfl rfl) ?_
        refine WL.rd_yes rfl rfl rfl rfl rfl rfl (Rd.sneq rfl rfl rfl) ?_
        refine WL.rd rfl rfl rfl (Rd.pick_f rfl rfl rfl) ?_
        refine WL.rd rfl rfl rfl (Rd.move rfl rfl) ?_
        refine WL.case 42 rfl (fun hg42 => ?_) (fun hg42 => ?_)
        · skip
          simp at hg42
        · skip
          refine WL.rd_yes rfl rfl rfl rfl rfl rfl (Rd.move rfl rfl) ?_
          refine WL.rd_yes rfl rfl rfl rfl rfl rfl (Rd.move rfl rfl) ?_
          refine WL.rd_yes rfl rfl rfl rfl rfl rfl (Rd.neq rfl rfl rfl) ?_
          refine WL.rd rfl rfl rfl (Rd.pick_f rfl rfl rfl) ?_
          refine WL.rd rfl rfl rfl (Rd.move rfl rfl) ?_
          refine WL.case 47 rfl (fun hg47 => ?_) (fun hg47 => ?_)
          · skip
            simp at hg47
          · skip
            refine WL.rd_yes rfl rfl rfl rfl rfl rfl (Rd.move rfl rfl) ?_
            refine WL.rd_yes rfl rfl rfl rfl rfl rfl (Rd.move rfl rfl) ?_
            refine WL.rd_yes rfl rfl rfl rfl rfl rfl (Rd.neq rfl rfl rfl) ?_
            refine WL.rd rfl rfl rfl (Rd.pick_f rfl rfl rfl) ?_
            refine WL.nil ?_
            refine thenQ.normal ?_
            first | refine WC.ite rfl (fun hc3 => ?_) (fun hc3 => ?_) | refine WC.cond rfl (fun hc3 => ?_) (fun hc3 => ?_)
            · skip
              simp at hc3
            · skip
              refine WC.skip ?_
              refine thenQ.normal ?_
              refine WC.seq ?_
              refine WC.region ?_
              refine WL.rd rfl rfl rfl (Rd.assign rfl rfl) ?_
              refine WL.rd rfl rfl rfl (Rd.assign rfl rfl) ?_
              refine WL.nil ?_
              refine thenQ.normal ?_
              refine WC.seq ?_
              refine WC.block ?_
              refine WC.pick [11, 12, 0] (by repeat (first | exact Pick.nil | apply Pick.cons rfl)) ?_
              refine WC.loop3o 2 (fun (f : Nat) (a : Nat) (c : Nat) => [(11, .int .i64 (a : Int)), (12, .int .i64 (c : Int))]) (fun (f : Nat) (a : Nat) (c : Nat) => a ≤ s.length ∧ s.length < a + f ∧ c ≤ a ∧ wholeF f s a c = wholeE s) (fun (f : Nat) (a : Nat) (c : Nat) => s.length - a) (s.length + 1) (0) (0) (by repeat (first | exact Split.zero | apply Split.succ)) ?hinv1 (by repeat (first | exact Sub.nil | refine Sub.cons rfl (by first | rfl | (congr 1; omega) | assumption) ?_)) (fun _ h => h) ?_
              case hinv1 =>
                exact ⟨Nat.zero_le _, by omega, Nat.le_refl _, rfl⟩
              intro f a c
              rintro ⟨h1, h2, h3, h4⟩
              refine WC.block ?_
              refine WC.seq ?_
              refine WC.region ?_
              refine WL.rd rfl rfl rfl (Rd.move rfl rfl) ?_
              refine WL.rd rfl rfl rfl (Rd.move rfl rfl) ?_
              refine WL.rd rfl rfl rfl (Rd.scut_l (lo := a) rfl Tryd.underlying9 rfl rfl (by omega) (by omega)) ?_
              refine WL.op rfl ?_
              refine OpW.call rfl rfl (by repeat (first | exact Evs.nil | apply Evs.cons rfl)) (by kernel_rfl) rfl rfl rfl ?_
              refine rcrcNext_spec (s := s.drop a) (by rw [List.length_drop]; omega) ?_
              refine WL.rd rfl rfl rfl (Rd.move rfl rfl) ?_
              refine WL.rd rfl rfl rfl (Rd.extract rfl rfl rfl) ?_
              refine WL.rd rfl rfl rfl (Rd.extract rfl rfl rfl) ?_
              refine WL.rd rfl rfl rfl (Rd.extract rfl rfl rfl) ?_
              refine WL.rd rfl rfl rfl (Rd.extract rfl rfl rfl) ?_
              refine WL.rd rfl rfl rfl (Rd.assign rfl rfl) ?_
              refine WL.rd rfl rfl rfl (Rd.assign rfl rfl) ?_
              refine WL.nil ?_
              refine thenQ.normal ?_
              refine WC.seq ?_
              refine WC.seq ?_
              refine WC.region ?_
              refine WL.rd rfl rfl rfl (Rd.move rfl rfl) ?_
              refine WL.rd rfl rfl rfl (Rd.neq rfl rfl rfl) ?_
              refine WL.nil ?_
              refine thenQ.normal ?_
              first | refine WC.ite rfl (fun hc4 => ?_) (fun hc4 => ?_) | refine WC.cond rfl (fun hc4 => ?_) (fun hc4 => ?_)
              · skip
                refine WC.exit ?_
                refine thenQ.exit ?_
                refine blockQ.pass rfl ?_
                refine loopQ3.exit ?_
                refine blockQ.exit ?_
                refine thenQ.normal ?_
                refine WC.seq ?_
                refine WC.region ?_
                refine WL.rd rfl rfl rfl (Rd.move rfl rfl) ?_
                refine WL.op rfl ?_
                refine OpW.call rfl rfl (by repeat (first | exact Evs.nil | apply Evs.cons rfl)) (by kernel_rfl) rfl rfl rfl ?_
                refine crcWhole_spec ht (by omega) ?_
                rw [← h4, wholeF_stop (by omega) hc4]
                refine WL.rd rfl rfl rfl (Rd.move rfl rfl) ?_
                refine WL.rd rfl rfl rfl (Rd.extract rfl rfl rfl) ?_
                refine WL.rd rfl rfl rfl (Rd.extract rfl rfl rfl) ?_
                refine WL.rd rfl rfl rfl (Rd.assign rfl rfl) ?_
                refine WL.rd rfl rfl rfl (Rd.assign rfl rfl) ?_
                refine WL.nil ?_
                refine thenQ.normal ?_
                refine WC.seq ?_
                refine WC.region ?_
                refine WL.rd rfl rfl rfl (Rd.move rfl rfl) ?_
                refine WL.rd rfl rfl rfl (Rd.move rfl rfl) ?_
                refine WL.rd rfl rfl rfl (Rd.eql rfl rfl rfl) ?_
                refine WL.rd rfl rfl rfl (Rd.move rfl rfl) ?_
                refine WL.case 76 rfl (fun hg76 => ?_) (fun hg76 => ?_)
                · skip
                  refine WL.rd_yes rfl rfl rfl rfl rfl rfl (Rd.move rfl rfl) ?_
                  refine WL.rd_yes rfl rfl rfl rfl rfl rfl (Rd.move rfl rfl) ?_
                  refine WL.rd_yes rfl rfl rfl rfl rfl rfl (Rd.eql rfl rfl rfl) ?_
                  refine WL.rd rfl rfl rfl (Rd.pick_t rfl rfl rfl) ?_
                  refine WL.rd rfl rfl rfl (Rd.assign rfl rfl) ?_
                  refine WL.nil ?_
                  refine thenQ.normal ?_
                  -- ret_2
                  refine WC.ret (Ret.one Tryd.results6 rfl ?_)
                  simpa using hk
                · skip
                  simp at hg76
              · skip
                obtain ⟨n, hn, hn5, hnl⟩ := nextF_ok (Decidable.not_not.1 hc4)
                rw [List.length_drop] at hnl
                rw [hn]
                refine WC.skip ?_
                refine thenQ.normal ?_
                refine WC.region ?_
                refine WL.rd rfl rfl rfl (Rd.move rfl rfl) ?_
                refine WL.rd rfl rfl rfl (Rd.move rfl rfl) ?_
                refine WL.rd rfl rfl rfl (Rd.add rfl rfl rfl (by omega)) ?_
                refine WL.rd rfl rfl rfl (Rd.move rfl rfl) ?_
                refine WL.rd rfl rfl rfl (Rd.add rfl rfl rfl (by omega)) ?_
                refine WL.rd rfl rfl rfl (Rd.assign rfl rfl) ?_
                refine WL.rd rfl rfl rfl (Rd.assign rfl rfl) ?_
                refine WL.nil ?_
                refine blockQ.normal ?_
                -- next1_1
                exact loopQ3.mk (f - 1) (a + n) (c + 1) ⟨by omega, by omega, by omega, by rw [← h4, wholeF_step (by omega) hc4 hn]⟩ (by omega) (by repeat (first | exact Sub.nil | refine Sub.cons rfl (by first | rfl | (congr 1; omega) | assumption) ?_)) (fun w h => OwnL.sat (by repeat (first | exact OwnL.refl | apply OwnL.take (by repeat (first | exact Take.head _ | apply Take.tail)) | apply OwnL.drop)) w (h.thin (SubL.mem (by repeat (first | exact SubL.refl | refine SubL.cons (by repeat (first | assumption | exact List.mem_cons_self | refine List.mem_cons_of_mem _ ?_)) ?_ | refine SubL.skip ?_)))))
end Go.Proofs.YtcgaolaahhedmaaDoor
