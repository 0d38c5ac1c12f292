/-
  Layer 4: Read, fail, step, Write, Sync.
-/
import Derived.Test.YtaalegffcjbglaaDoorSe3
namespace Go.Proofs.YtaalegffcjbglaaDoor
open Go Go.SL

section
variable {R : List RO} {O : List Own} {POST : Value → List RO → List Own → Prop} {d m : Nat} {V : DV} {s : DSt}
set_option maxHeartbeats 1000000 in
set_option maxRecDepth 20000 in
theorem read_spec {i : Int} (ok : DOk s 4294967296) (hk : POST (.tuple #[vs (readE s i).1, .int .i64 ((readE s i).2 : Nat)]) R (dO d V s O)) : Fun Tryd.prog 23 #[dp d, .int .i64 i] R (dO d V s O) POST := by
  have hsl := ok.since
  have hll := ok.lasts
  refine Fun.enter (l := [_, _]) Tryd.func23 rfl Tryd.ntmps23 rfl (L0 := [(0, _), (1, _)]) rfl ?_
  refine WC.seq ?_
  refine WC.region ?_
  refine WL.rd rfl rfl rfl (Rd.assign rfl rfl) ?_
  refine WL.rd rfl rfl rfl (Rd.assign rfl rfl) ?_
  refine WL.nil ?_
  refine thenQ.normal ?_
  refine WC.seq ?_
  refine WC.block ?_
  refine WC.seq ?_
  refine WC.region ?_
  refine WL.rd rfl rfl rfl (Rd.move rfl rfl) ?_
  refine WL.rd rfl rfl rfl (Rd.move rfl rfl) ?_
  refine WL.op rfl ?_
  refine OpW.call rfl rfl (by repeat (first | exact Evs.nil | apply Evs.cons rfl)) (by kernel_rfl) rfl rfl rfl ?_
  refine has_spec ?_
  refine WL.say 10 (u := .bool (decide (hasB s i = true))) rfl (by simp) ?_
  refine WL.rd rfl rfl rfl ((by first | exact Rd.notd rfl rfl | exact Rd.not rfl rfl)) ?_
  refine WL.rd rfl rfl rfl (Rd.assign rfl rfl) ?_
  refine WL.nil ?_
  refine thenQ.normal ?_
  first | refine WC.ite rfl (fun hc1 => ?_) (fun hc1 => ?_) | refine WC.cond rfl (fun hc1 => ?_) (fun hc1 => ?_)
  · skip
    refine WC.seq ?_
    refine WC.region ?_
    refine WL.rd rfl rfl rfl (Rd.assign rfl rfl) ?_
    refine WL.rd rfl rfl rfl (Rd.assign rfl rfl) ?_
    refine WL.nil ?_
    refine thenQ.normal ?_
    -- ret_1
    refine WC.ret (Ret.two Tryd.results23 rfl rfl ?_)
    unfold readE at hk
    rw [if_pos hc1] at hk
    exact hk
  · skip
    refine WC.seq ?_
    refine WC.region ?_
    refine WL.rd rfl rfl rfl (Rd.move rfl rfl) ?_
    refine WL.rd rfl rfl rfl (Rd.nilc rfl rfl) ?_
    refine WL.rd rfl rfl rfl ((by first | exact Rd.field rfl F81_3 rfl rfl | exact Rd.fieldE rfl F81_3 rfl (by repeat (first | assumption | exact List.mem_cons_self | refine List.mem_cons_of_mem _ ?_)) (by omega) | exact Rd.fieldA rfl F81_3 rfl (by repeat (first | assumption | exact List.mem_cons_self | refine List.mem_cons_of_mem _ ?_)) (by omega))) ?_
    refine WL.rd rfl rfl rfl (Rd.row1 (off := 3) rfl C4 rfl List.mem_cons_self rfl) ?_
    refine WL.rd rfl rfl rfl (Rd.assign rfl rfl) ?_
    refine WL.nil ?_
    refine thenQ.normal ?_
    first | refine WC.ite rfl (fun hc2 => ?_) (fun hc2 => ?_) | refine WC.cond rfl (fun hc2 => ?_) (fun hc2 => ?_)
    · skip
      refine WC.seq ?_
      refine WC.region ?_
      refine WL.rd rfl rfl rfl (Rd.assign rfl rfl) ?_
      refine WL.rd rfl rfl rfl (Rd.assign rfl rfl) ?_
      refine WL.nil ?_
      refine thenQ.normal ?_
      -- ret_2
      refine WC.ret (Ret.two Tryd.results23 rfl rfl ?_)
      unfold readE at hk
      rw [if_neg hc1, if_pos hc2] at hk
      exact hk
    · skip
      obtain ⟨h1, h2⟩ := has_iff (Decidable.not_not.1 hc1)
      have hfin : readE s i = (lookN s i.toNat s.since.length, 0) := by
        unfold readE
        rw [if_neg hc1, if_neg (by rw [hc2]; simp)]
      rw [hfin] at hk
      refine WC.skip ?_
      refine blockQ.normal ?_
      refine thenQ.normal ?_
      refine WC.seq ?_
      refine WC.seq ?_
      refine WC.region ?_
      refine WL.rd rfl rfl rfl (Rd.move rfl rfl) ?_
      refine WL.rd rfl rfl rfl (Rd.nilc rfl rfl) ?_
      refine WL.rd rfl rfl rfl ((by first | exact Rd.field rfl F81_1 rfl rfl | exact Rd.fieldE rfl F81_1 rfl (by repeat (first | assumption | exact List.mem_cons_self | refine List.mem_cons_of_mem _ ?_)) (by omega) | exact Rd.fieldA rfl F81_1 rfl (by repeat (first | assumption | exact List.mem_cons_self | refine List.mem_cons_of_mem _ ?_)) (by omega))) ?_
      refine WL.rd rfl rfl rfl (Rd.row1 (off := 1) rfl C73 rfl List.mem_cons_self rfl) ?_
      refine WL.rd rfl rfl rfl (Rd.lenA (enc := encW) rfl rfl Tryd.underlying73 (xs := s.since) (e' := 105) (by repeat (first | assumption | exact List.mem_cons_self | refine List.mem_cons_of_mem _ ?_))) ?_
      refine WL.rd rfl rfl rfl (Rd.sub rfl rfl rfl (by omega)) ?_
      refine WL.rd rfl rfl rfl (Rd.assign rfl rfl) ?_
      refine WL.nil ?_
      refine thenQ.normal ?_
      refine WC.block ?_
      refine WC.pick [6, 0, 1] (by repeat (first | exact Pick.nil | apply Pick.cons rfl)) ?_
      refine WC.loop1o 1 (fun (k : Nat) => [(6, .int .i64 ((k : Int) - 1))]) (fun (k : Nat) => k ≤ s.since.length ∧ lookN s i.toNat s.since.length = lookN s i.toNat k) (fun (k : Nat) => k) (s.since.length) (by repeat (first | exact Split.zero | apply Split.succ)) ?hinv1 (by repeat (first | exact Sub.nil | refine Sub.cons rfl (by first | rfl | (congr 1; omega) | assumption) ?_)) (fun _ h => h) ?_
      case hinv1 =>
        exact ⟨Nat.le_refl _, rfl⟩
      intro k
      rintro ⟨i1, i2⟩
      refine WC.seq ?_
      refine WC.seq ?_
      refine WC.region ?_
      refine WL.rd rfl rfl rfl (Rd.move rfl rfl) ?_
      refine WL.rd rfl rfl rfl (Rd.geq rfl rfl rfl) ?_
      refine WL.nil ?_
      refine thenQ.normal ?_
      first | refine WC.ite rfl (fun hc3 => ?_) (fun hc3 => ?_) | refine WC.cond rfl (fun hc3 => ?_) (fun hc3 => ?_)
      · skip
        obtain ⟨j, rfl⟩ : ∃ j, k = j + 1 := ⟨k - 1, by omega⟩
        rw [lookN_succ] at i2
        refine WC.skip ?_
        refine thenQ.normal ?_
        refine WC.seq ?_
        refine WC.block ?_
        refine WC.seq ?_
        refine WC.region ?_
        refine WL.rd rfl rfl rfl (Rd.move rfl rfl) ?_
        refine WL.rd rfl rfl rfl (Rd.nilc rfl rfl) ?_
        refine WL.rd rfl rfl rfl ((by first | exact Rd.field rfl F81_1 rfl rfl | exact Rd.fieldE rfl F81_1 rfl (by repeat (first | assumption | exact List.mem_cons_self | refine List.mem_cons_of_mem _ ?_)) (by omega) | exact Rd.fieldA rfl F81_1 rfl (by repeat (first | assumption | exact List.mem_cons_self | refine List.mem_cons_of_mem _ ?_)) (by omega))) ?_
        refine WL.rd rfl rfl rfl (Rd.row1 (off := 1) rfl C73 rfl List.mem_cons_self rfl) ?_
        refine WL.rd rfl rfl rfl (Rd.move rfl rfl) ?_
        refine WL.rd rfl rfl rfl (Rd.idxA (k := j) rfl S73 rfl rfl (by omega) (enc := encW) (xs := s.since) (e' := 105) (by repeat (first | assumption | exact List.mem_cons_self | refine List.mem_cons_of_mem _ ?_)) (by omega)) ?_
        refine WL.rd rfl rfl rfl (Rd.fieldA (enc := encW) (xs := s.since) (e' := 105) rfl F105_0 rfl (by repeat (first | assumption | exact List.mem_cons_self | refine List.mem_cons_of_mem _ ?_)) (by omega)) ?_
        refine WL.rd rfl rfl rfl (Rd.getFA (k := j) (f := 0) (enc := encW) (xs := s.since) (e' := 105) rfl C3 rfl (by repeat (first | assumption | exact List.mem_cons_self | refine List.mem_cons_of_mem _ ?_)) (fun _ => rfl) rfl (get!_of_lt (by omega)) rfl) ?_
        refine WL.rd rfl rfl rfl (Rd.move rfl rfl) ?_
        refine WL.rd rfl rfl rfl (Rd.eql rfl rfl rfl) ?_
        refine WL.nil ?_
        refine thenQ.normal ?_
        first | refine WC.ite rfl (fun hc4 => ?_) (fun hc4 => ?_) | refine WC.cond rfl (fun hc4 => ?_) (fun hc4 => ?_)
        · skip
          refine WC.seq ?_
          refine WC.region ?_
          refine WL.rd rfl rfl rfl (Rd.move rfl rfl) ?_
          refine WL.rd rfl rfl rfl (Rd.nilc rfl rfl) ?_
          refine WL.rd rfl rfl rfl ((by first | exact Rd.field rfl F81_1 rfl rfl | exact Rd.fieldE rfl F81_1 rfl (by repeat (first | assumption | exact List.mem_cons_self | refine List.mem_cons_of_mem _ ?_)) (by omega) | exact Rd.fieldA rfl F81_1 rfl (by repeat (first | assumption | exact List.mem_cons_self | refine List.mem_cons_of_mem _ ?_)) (by omega))) ?_
          refine WL.rd rfl rfl rfl (Rd.row1 (off := 1) rfl C73 rfl List.mem_cons_self rfl) ?_
          refine WL.rd rfl rfl rfl (Rd.move rfl rfl) ?_
          refine WL.rd rfl rfl rfl (Rd.idxA (k := j) rfl S73 rfl rfl (by omega) (enc := encW) (xs := s.since) (e' := 105) (by repeat (first | assumption | exact List.mem_cons_self | refine List.mem_cons_of_mem _ ?_)) (by omega)) ?_
          refine WL.rd rfl rfl rfl (Rd.fieldA (enc := encW) (xs := s.since) (e' := 105) rfl F105_1 rfl (by repeat (first | assumption | exact List.mem_cons_self | refine List.mem_cons_of_mem _ ?_)) (by omega)) ?_
          refine WL.rd rfl rfl rfl (Rd.getFA (k := j) (f := 1) (enc := encW) (xs := s.since) (e' := 105) rfl C9 rfl (by repeat (first | assumption | exact List.mem_cons_self | refine List.mem_cons_of_mem _ ?_)) (fun _ => rfl) rfl (get!_of_lt (by omega)) rfl) ?_
          refine WL.rd rfl rfl rfl (Rd.assign rfl rfl) ?_
          refine WL.rd rfl rfl rfl (Rd.assign rfl rfl) ?_
          refine WL.nil ?_
          refine thenQ.normal ?_
          -- ret_3
          refine WC.ret (Ret.two Tryd.results23 rfl rfl ?_)
          rw [if_pos (by omega)] at i2
          rw [i2] at hk
          exact hk
        · skip
          refine WC.skip ?_
          refine blockQ.normal ?_
          refine thenQ.normal ?_
          refine WC.region ?_
          refine WL.rd rfl rfl rfl (Rd.move rfl rfl) ?_
          refine WL.rd rfl rfl rfl (Rd.sub rfl rfl rfl (by omega)) ?_
          refine WL.rd rfl rfl rfl (Rd.assign rfl rfl) ?_
          refine WL.nil ?_
          -- next1_1
          exact loopQ1.mk j ⟨by omega, by rw [if_neg (by omega)] at i2; exact i2⟩ (by omega) (by repeat (first | exact Sub.nil | refine Sub.cons rfl (by first | rfl | (congr 1; omega) | assumption) ?_)) (fun w h => OwnL.sat (by repeat (first | exact OwnL.refl | apply OwnL.take (by repeat (first | exact Take.head _ | apply Take.tail)) | apply OwnL.drop)) w (h.thin (SubL.mem (by repeat (first | exact SubL.refl | refine SubL.cons (by repeat (first | assumption | exact List.mem_cons_self | refine List.mem_cons_of_mem _ ?_)) ?_ | refine SubL.skip ?_)))))
      · skip
        obtain rfl : k = 0 := by omega
        have i3 : lookN s i.toNat s.since.length = s.lasts[i.toNat]! := i2
        refine WC.exit ?_
        refine thenQ.exit ?_
        refine loopQ1.exit ?_
        refine blockQ.exit ?_
        refine thenQ.normal ?_
        refine WC.seq ?_
        refine WC.region ?_
        refine WL.rd rfl rfl rfl (Rd.move rfl rfl) ?_
        refine WL.rd rfl rfl rfl (Rd.nilc rfl rfl) ?_
        refine WL.rd rfl rfl rfl ((by first | exact Rd.field rfl F81_0 rfl rfl | exact Rd.fieldE rfl F81_0 rfl (by repeat (first | assumption | exact List.mem_cons_self | refine List.mem_cons_of_mem _ ?_)) (by omega) | exact Rd.fieldA rfl F81_0 rfl (by repeat (first | assumption | exact List.mem_cons_self | refine List.mem_cons_of_mem _ ?_)) (by omega))) ?_
        refine WL.rd rfl rfl rfl (Rd.row1 (off := 0) rfl C48 rfl List.mem_cons_self rfl) ?_
        refine WL.rd rfl rfl rfl (Rd.move rfl rfl) ?_
        refine WL.rd rfl rfl rfl (Rd.idxA1 (k := i.toNat) rfl S48 rfl rfl h2.symm (enc := one vs) (xs := s.lasts) (e' := 9) (by repeat (first | assumption | exact List.mem_cons_self | refine List.mem_cons_of_mem _ ?_)) h1) ?_
        refine WL.rd rfl rfl rfl (Rd.getA (k := i.toNat) (g := vs) (xs := s.lasts) (e' := 9) rfl C9 rfl (by repeat (first | assumption | exact List.mem_cons_self | refine List.mem_cons_of_mem _ ?_)) (get!_of_lt h1)) ?_
        refine WL.rd rfl rfl rfl (Rd.assign rfl rfl) ?_
        refine WL.rd rfl rfl rfl (Rd.assign rfl rfl) ?_
        refine WL.nil ?_
        refine thenQ.normal ?_
        -- ret_4
        refine WC.ret (Ret.two Tryd.results23 rfl rfl ?_)
        rw [i3] at hk
        exact hk
set_option maxRecDepth 20000 in
theorem read_nil {i : Int} (hk : POST (.tuple #[vs [], .int .i64 1]) R O) : Fun Tryd.prog 23 #[.pointer none, .int .i64 i] R O POST := by
  refine Fun.enter (l := [_, _]) Tryd.func23 rfl Tryd.ntmps23 rfl (L0 := [(0, _), (1, _)]) rfl ?_
  refine WC.seq ?_
  refine WC.region ?_
  refine WL.rd rfl rfl rfl (Rd.assign rfl rfl) ?_
  refine WL.rd rfl rfl rfl (Rd.assign rfl rfl) ?_
  refine WL.nil ?_
  refine thenQ.normal ?_
  refine WC.seq ?_
  refine WC.block ?_
  refine WC.seq ?_
  refine WC.region ?_
  refine WL.rd rfl rfl rfl (Rd.move rfl rfl) ?_
  refine WL.rd rfl rfl rfl (Rd.move rfl rfl) ?_
  refine WL.op rfl ?_
  refine OpW.call rfl rfl (by repeat (first | exact Evs.nil | apply Evs.cons rfl)) (by kernel_rfl) rfl rfl rfl ?_
  refine has_nil ?_
  refine WL.say 10 (u := .bool (decide False)) rfl (by simp) ?_
  refine WL.rd rfl rfl rfl ((by first | exact Rd.notd rfl rfl | exact Rd.not rfl rfl)) ?_
  refine WL.rd rfl rfl rfl (Rd.assign rfl rfl) ?_
  refine WL.nil ?_
  refine thenQ.normal ?_
  first | refine WC.ite rfl (fun hc1 => ?_) (fun hc1 => ?_) | refine WC.cond rfl (fun hc1 => ?_) (fun hc1 => ?_)
  · skip
    refine WC.seq ?_
    refine WC.region ?_
    refine WL.rd rfl rfl rfl (Rd.assign rfl rfl) ?_
    refine WL.rd rfl rfl rfl (Rd.assign rfl rfl) ?_
    refine WL.nil ?_
    refine thenQ.normal ?_
    -- ret_1
    refine WC.ret (Ret.two Tryd.results23 rfl rfl ?_)
    exact hk
  · skip
    exact absurd (fun h => h) hc1
set_option maxHeartbeats 1000000 in
set_option maxRecDepth 20000 in
theorem fail_spec {keep : List Int} {kv : Value} (ok : DOk s m) (hm : m ≤ 4294967296) (hvl : OneV V.lv) (hvk : OneV V.kv) (hkeep : SlE (one vi) kv keep ∈ R)
    (hk : VOk ⟨V.lv, .slice none 0 0, V.kv, none⟩ (failS s keep) → POST (.tuple #[]) R (dO d ⟨V.lv, .slice none 0 0, V.kv, none⟩ (failS s keep) O)) : Fun Tryd.prog 38 #[dp d, kv] R (dO d V s O) POST := by
  refine Fun.len hkeep fun hkl => ?_
  have hsl := ok.since
  have hat : ∀ k, k < s.since.length → s.since[k]!.1 < s.lasts.length := fun k hk => by
    rw [getElem!_pos s.since k hk]; exact ok.at_ _ (List.getElem_mem _)
  refine Fun.enter (l := [_, _]) Tryd.func38 rfl Tryd.ntmps38 rfl (L0 := [(0, _), (1, _)]) rfl ?_
  refine WC.seq ?_
  refine WC.seq ?_
  refine WC.region ?_
  refine WL.rd rfl rfl rfl (Rd.move rfl rfl) ?_
  refine WL.rd rfl rfl rfl (Rd.nilc rfl rfl) ?_
  refine WL.rd rfl rfl rfl ((by first | exact Rd.field rfl F81_1 rfl rfl | exact Rd.fieldE rfl F81_1 rfl (by repeat (first | assumption | exact List.mem_cons_self | refine List.mem_cons_of_mem _ ?_)) (by omega) | exact Rd.fieldA rfl F81_1 rfl (by repeat (first | assumption | exact List.mem_cons_self | refine List.mem_cons_of_mem _ ?_)) (by omega))) ?_
  refine WL.rd rfl rfl rfl (Rd.row1 (off := 1) rfl C73 rfl List.mem_cons_self rfl) ?_
  refine WL.rd rfl rfl rfl (Rd.lenA (enc := encW) rfl rfl Tryd.underlying73 (xs := s.since) (e' := 105) (by repeat (first | assumption | exact List.mem_cons_self | refine List.mem_cons_of_mem _ ?_))) ?_
  refine WL.rd rfl rfl rfl (Rd.move rfl rfl) ?_
  refine WL.nil ?_
  refine thenQ.normal ?_
  refine WC.block ?_
  refine WC.pick [11, 0, 1, 9, 10] (by repeat (first | exact Pick.nil | apply Pick.cons rfl)) ?_
  refine WC.loop1 1 (fun (k : Nat) => [(11, .int .i64 (k : Int))]) (fun (k : Nat) => dRow d V s :: accC 9 1 (one vs) V.lv (failN s.since keep s.lasts k) :: accC 105 2 encW V.sv s.since :: cutC V.cb s.left V.kv :: O) (fun (k : Nat) => k ≤ s.since.length) (fun (k : Nat) => s.since.length - k) (0) (by repeat (first | exact Split.zero | apply Split.succ)) ?hinv1 (by repeat (first | exact Sub.nil | refine Sub.cons rfl (by first | rfl | (congr 1; omega) | assumption) ?_)) (fun _ h => h) ?_
  case hinv1 =>
    exact Nat.zero_le _
  intro k
  rintro i1
  refine WC.seq ?_
  refine WC.region ?_
  refine WL.rd rfl rfl rfl (Rd.lss rfl rfl rfl) ?_
  refine WL.nil ?_
  refine thenQ.normal ?_
  refine WC.seq ?_
  first | refine WC.ite rfl (fun hc1 => ?_) (fun hc1 => ?_) | refine WC.cond rfl (fun hc1 => ?_) (fun hc1 => ?_)
  · skip
    have hatk := hat k (by omega)
    have hfl := failN_len s.since keep s.lasts k
    have hfs := failN_succ s.since keep s.lasts k
    refine WC.skip ?_
    refine thenQ.normal ?_
    refine WC.seq ?_
    refine WC.block ?_
    refine WC.seq ?_
    refine WC.region ?_
    refine WL.rd rfl rfl rfl (Rd.move rfl rfl) ?_
    refine WL.rd rfl rfl rfl (Rd.idxA (k := k) rfl S73 rfl rfl rfl (enc := encW) (xs := s.since) (e' := 105) (by repeat (first | assumption | exact List.mem_cons_self | refine List.mem_cons_of_mem _ ?_)) (by omega)) ?_
    refine WL.rd rfl rfl rfl (Rd.getSA (k := k) (cs := [.int .i64 (s.since[k]!.1 : Int), vs s.since[k]!.2]) (enc := encW) (xs := s.since) (e' := 105) rfl G105 rfl (by repeat (first | assumption | exact List.mem_cons_self | refine List.mem_cons_of_mem _ ?_)) (fun _ => rfl) (get!_of_lt (by omega)) (by repeat (first | exact NF.nil | apply NF.cons))) ?_
    refine WL.op rfl ?_
    refine OpW.alloc rfl I105 rfl (by repeat (first | exact NF.nil | apply NF.cons)) rfl rfl ?_; intro b5
    refine WL.rd rfl rfl rfl (Rd.assign rfl rfl) ?_
    refine WL.op rfl ?_
    refine OpW.storeS rfl G105 rfl rfl (by repeat (first | exact NF.nil | apply NF.cons)) (by repeat (first | assumption | exact Take.head _ | apply Take.tail)) rfl rfl (by repeat (first | exact NF.nil | apply NF.cons)) rfl ?_
    refine WL.nil ?_
    refine thenQ.normal ?_
    refine WC.pick [0, 1, 4, 5, 9, 10, 11] (by repeat (first | exact Pick.nil | apply Pick.cons rfl)) ?_
    refine WC.val 29 (.bool (decide (oddB keep k = true))) ?_ ?_
    · skip
      refine WC.region ?_
      refine WL.rd rfl rfl rfl (Rd.move rfl rfl) ?_
      refine WL.rd rfl rfl rfl ((by first | exact Rd.lenE rfl rfl Tryd.underlying39 (by repeat (first | assumption | exact List.mem_cons_self | refine List.mem_cons_of_mem _ ?_)) | exact Rd.lenA rfl rfl Tryd.underlying39 (by repeat (first | assumption | exact List.mem_cons_self | refine List.mem_cons_of_mem _ ?_)) | exact Rd.len rfl rfl Tryd.underlying39)) ?_
      refine WL.rd rfl rfl rfl (Rd.gtr rfl rfl rfl) ?_
      refine WL.rd rfl rfl rfl (Rd.move rfl rfl) ?_
      refine WL.case 19 rfl (fun hg19 => ?_) (fun hg19 => ?_)
      · skip
        refine WL.rd_yes rfl rfl rfl rfl rfl rfl (Rd.move rfl rfl) ?_
        refine WL.rd_yes rfl rfl rfl rfl rfl rfl (Rd.move rfl rfl) ?_
        refine WL.rd_yes rfl rfl rfl rfl rfl rfl (Rd.move rfl rfl) ?_
        refine WL.rd_yes rfl rfl rfl rfl rfl rfl ((by first | exact Rd.lenE rfl rfl Tryd.underlying39 (by repeat (first | assumption | exact List.mem_cons_self | refine List.mem_cons_of_mem _ ?_)) | exact Rd.lenA rfl rfl Tryd.underlying39 (by repeat (first | assumption | exact List.mem_cons_self | refine List.mem_cons_of_mem _ ?_)) | exact Rd.len rfl rfl Tryd.underlying39)) ?_
        refine WL.rd_yes rfl rfl rfl rfl rfl rfl (Rd.remN (a := k) (b := keep.length) rfl rfl rfl rfl rfl (by omega)) ?_
        refine WL.rd_yes rfl rfl rfl rfl rfl rfl (Rd.idx1 (k := k % keep.length) rfl S39 rfl rfl rfl hkeep (Nat.mod_lt _ (by omega))) ?_
        refine WL.rd_yes rfl rfl rfl rfl rfl rfl (Rd.get (k := k % keep.length) rfl C3 rfl hkeep (get!_of_lt (Nat.mod_lt _ (by omega)))) ?_
        refine WL.rd_yes rfl rfl rfl rfl rfl rfl (Rd.andm (m := 1) rfl rfl rfl rfl (by decide)) ?_
        refine WL.rd_yes rfl rfl rfl rfl rfl rfl (Rd.eql rfl rfl rfl) ?_
        refine WL.say 28 (u := .bool (decide (keep[k % keep.length]! % 2 = 1))) rfl (by rw [land1]; congr 1; rw [decide_eq_decide]; omega) ?_
        refine WL.rd rfl rfl rfl (Rd.pick_t rfl rfl rfl) ?_
        refine WL.nil ?_
        exact ⟨by repeat (first | exact Sub.nil | refine Sub.cons rfl (by first | rfl | (first | (have h9 : 0 < keep.length := by omega); simp [oddB, h9] | (have h9 : keep.length = 0 := by omega); simp [oddB, h9])) ?_), by first | exact (fun _ h => h.thin (SubL.mem (by repeat (first | exact SubL.refl | refine SubL.cons (by repeat (first | assumption | exact List.mem_cons_self | refine List.mem_cons_of_mem _ ?_)) ?_ | refine SubL.skip ?_)))) | exact (fun w h => OwnL.sat (by repeat (first | exact OwnL.refl | apply OwnL.take (by repeat (first | exact Take.head _ | apply Take.tail)) | apply OwnL.drop)) w (h.thin (SubL.mem (by repeat (first | exact SubL.refl | refine SubL.cons (by repeat (first | assumption | exact List.mem_cons_self | refine List.mem_cons_of_mem _ ?_)) ?_ | refine SubL.skip ?_)))))⟩
      · skip
        refine WL.no rfl rfl rfl rfl rfl rfl ?_
        refine WL.no rfl rfl rfl rfl rfl rfl ?_
        refine WL.no rfl rfl rfl rfl rfl rfl ?_
        refine WL.no rfl rfl rfl rfl rfl rfl ?_
        refine WL.no rfl rfl rfl rfl rfl rfl ?_
        refine WL.no rfl rfl rfl rfl rfl rfl ?_
        refine WL.no rfl rfl rfl rfl rfl rfl ?_
        refine WL.no rfl rfl rfl rfl rfl rfl ?_
        refine WL.no rfl rfl rfl rfl rfl rfl ?_
        refine WL.rd rfl rfl rfl (Rd.pick_f rfl rfl rfl) ?_
        refine WL.nil ?_
        exact ⟨by repeat (first | exact Sub.nil | refine Sub.cons rfl (by first | rfl | (first | (have h9 : 0 < keep.length := by omega); simp [oddB, h9] | (have h9 : keep.length = 0 := by omega); simp [oddB, h9])) ?_), by first | exact (fun _ h => h.thin (SubL.mem (by repeat (first | exact SubL.refl | refine SubL.cons (by repeat (first | assumption | exact List.mem_cons_self | refine List.mem_cons_of_mem _ ?_)) ?_ | refine SubL.skip ?_)))) | exact (fun w h => OwnL.sat (by repeat (first | exact OwnL.refl | apply OwnL.take (by repeat (first | exact Take.head _ | apply Take.tail)) | apply OwnL.drop)) w (h.thin (SubL.mem (by repeat (first | exact SubL.refl | refine SubL.cons (by repeat (first | assumption | exact List.mem_cons_self | refine List.mem_cons_of_mem _ ?_)) ?_ | refine SubL.skip ?_)))))⟩
    · skip
      first | refine WC.ite rfl (fun hc2 => ?_) (fun hc2 => ?_) | refine WC.cond rfl (fun hc2 => ?_) (fun hc2 => ?_)
      · skip
        refine WC.tail 9 mixed (by kernel_rfl) ?_
        refine WS.rd rfl rfl rfl (Rd.move rfl rfl) ?_
        refine WS.rd rfl rfl rfl (Rd.nilc rfl rfl) ?_
        refine WS.rd rfl rfl rfl ((by first | exact Rd.field rfl F81_0 rfl rfl | exact Rd.fieldE rfl F81_0 rfl (by repeat (first | assumption | exact List.mem_cons_self | refine List.mem_cons_of_mem _ ?_)) (by omega) | exact Rd.fieldA rfl F81_0 rfl (by repeat (first | assumption | exact List.mem_cons_self | refine List.mem_cons_of_mem _ ?_)) (by omega))) ?_
        refine WS.rd rfl rfl rfl (Rd.row1 (off := 0) rfl C48 rfl (by repeat (first | assumption | exact List.mem_cons_self | refine List.mem_cons_of_mem _ ?_)) rfl) ?_
        refine WS.rd rfl rfl rfl ((by first | exact Rd.field rfl F105_0 rfl rfl | exact Rd.fieldE rfl F105_0 rfl (by repeat (first | assumption | exact List.mem_cons_self | refine List.mem_cons_of_mem _ ?_)) (by omega) | exact Rd.fieldA rfl F105_0 rfl (by repeat (first | assumption | exact List.mem_cons_self | refine List.mem_cons_of_mem _ ?_)) (by omega))) ?_
        refine WS.rd rfl rfl rfl (Rd.row1 (off := 0) rfl C3 rfl List.mem_cons_self rfl) ?_
        refine WS.rd rfl rfl rfl ((by first | exact Rd.field rfl F105_1 rfl rfl | exact Rd.fieldE rfl F105_1 rfl (by repeat (first | assumption | exact List.mem_cons_self | refine List.mem_cons_of_mem _ ?_)) (by omega) | exact Rd.fieldA rfl F105_1 rfl (by repeat (first | assumption | exact List.mem_cons_self | refine List.mem_cons_of_mem _ ?_)) (by omega))) ?_
        refine WS.rd rfl rfl rfl (Rd.row1 (off := 1) rfl C9 rfl List.mem_cons_self rfl) ?_
        refine WS.rd rfl rfl rfl (Rd.idxA1 (k := s.since[k]!.1) rfl S48 rfl rfl rfl (enc := one vs) (xs := failN s.since keep s.lasts k) (e' := 9) (by repeat (first | assumption | exact List.mem_cons_self | refine List.mem_cons_of_mem _ ?_)) (by omega)) ?_
        refine WS.switch ?_
        refine WL.op rfl ?_
        refine OpW.storeAcc (k := s.since[k]!.1) (a := s.since[k]!.2) (g := vs) rfl Z9 rfl rfl rfl rfl (by repeat (first | assumption | exact Take.head _ | apply Take.tail)) (by omega) rfl ?_
        refine WL.nil ?_
        refine blockQ.normal ?_
        refine thenQ.normal ?_
        refine WC.region ?_
        refine WL.rd rfl rfl rfl (Rd.add rfl rfl rfl (by omega)) ?_
        refine WL.rd rfl rfl rfl (Rd.move rfl rfl) ?_
        refine WL.nil ?_
        -- next1_1
        exact loopQ1.mk (k + 1) (by omega) (by omega) (by repeat (first | exact Sub.nil | refine Sub.cons rfl (by first | rfl | (congr 1; omega) | assumption) ?_)) (fun w h => by rw [hfs, if_pos hc2]; exact (fun w h => OwnL.sat (by repeat (first | exact OwnL.refl | apply OwnL.take (by repeat (first | exact Take.head _ | apply Take.tail)) | apply OwnL.drop)) w (h.thin (SubL.mem (by repeat (first | exact SubL.refl | refine SubL.cons (by repeat (first | assumption | exact List.mem_cons_self | refine List.mem_cons_of_mem _ ?_)) ?_ | refine SubL.skip ?_))))) w h)
      · skip
        refine WC.skip ?_
        refine blockQ.normal ?_
        refine thenQ.normal ?_
        refine WC.region ?_
        refine WL.rd rfl rfl rfl (Rd.add rfl rfl rfl (by omega)) ?_
        refine WL.rd rfl rfl rfl (Rd.move rfl rfl) ?_
        refine WL.nil ?_
        -- next1_2
        exact loopQ1.mk (k + 1) (by omega) (by omega) (by repeat (first | exact Sub.nil | refine Sub.cons rfl (by first | rfl | (congr 1; omega) | assumption) ?_)) (fun w h => by rw [hfs, if_neg hc2]; exact (fun w h => OwnL.sat (by repeat (first | exact OwnL.refl | apply OwnL.take (by repeat (first | exact Take.head _ | apply Take.tail)) | apply OwnL.drop)) w (h.thin (SubL.mem (by repeat (first | exact SubL.refl | refine SubL.cons (by repeat (first | assumption | exact List.mem_cons_self | refine List.mem_cons_of_mem _ ?_)) ?_ | refine SubL.skip ?_))))) w h)
  · skip
    refine WC.exit ?_
    refine thenQ.exit ?_
    refine loopQ1.exit ?_
    refine blockQ.exit ?_
    refine thenQ.normal ?_
    refine WC.region ?_
    refine WL.rd rfl rfl rfl (Rd.move rfl rfl) ?_
    refine WL.rd rfl rfl rfl (Rd.move rfl rfl) ?_
    refine WL.rd rfl rfl rfl (Rd.move rfl rfl) ?_
    refine WL.rd rfl rfl rfl (Rd.nilc rfl rfl) ?_
    refine WL.rd rfl rfl rfl ((by first | exact Rd.field rfl F81_1 rfl rfl | exact Rd.fieldE rfl F81_1 rfl (by repeat (first | assumption | exact List.mem_cons_self | refine List.mem_cons_of_mem _ ?_)) (by omega) | exact Rd.fieldA rfl F81_1 rfl (by repeat (first | assumption | exact List.mem_cons_self | refine List.mem_cons_of_mem _ ?_)) (by omega))) ?_
    refine WL.op rfl ?_
    refine OpW.store1 rfl Z73 rfl rfl (by first | exact ⟨rfl, rfl⟩ | assumption) (by repeat (first | assumption | exact Take.head _ | apply Take.tail)) (by first | (simp; done) | omega | exact of_decide_eq_true rfl | (simp only [List.length_append, List.length_replicate, List.length_map, List.length_set]; omega)) rfl ?_
    refine WL.rd rfl rfl rfl (Rd.nilc rfl rfl) ?_
    refine WL.rd rfl rfl rfl ((by first | exact Rd.field rfl F81_2 rfl rfl | exact Rd.fieldE rfl F81_2 rfl (by repeat (first | assumption | exact List.mem_cons_self | refine List.mem_cons_of_mem _ ?_)) (by omega) | exact Rd.fieldA rfl F81_2 rfl (by repeat (first | assumption | exact List.mem_cons_self | refine List.mem_cons_of_mem _ ?_)) (by omega))) ?_
    refine WL.op rfl ?_
    refine OpW.store1 rfl Z74 rfl rfl (by first | exact ⟨rfl, rfl⟩ | assumption) (by repeat (first | assumption | exact Take.head _ | apply Take.tail)) (by first | (simp; done) | omega | exact of_decide_eq_true rfl | (simp only [List.length_append, List.length_replicate, List.length_map, List.length_set]; omega)) rfl ?_
    refine WL.rd rfl rfl rfl (Rd.nilc rfl rfl) ?_
    refine WL.rd rfl rfl rfl ((by first | exact Rd.field rfl F81_3 rfl rfl | exact Rd.fieldE rfl F81_3 rfl (by repeat (first | assumption | exact List.mem_cons_self | refine List.mem_cons_of_mem _ ?_)) (by omega) | exact Rd.fieldA rfl F81_3 rfl (by repeat (first | assumption | exact List.mem_cons_self | refine List.mem_cons_of_mem _ ?_)) (by omega))) ?_
    refine WL.op rfl ?_
    refine OpW.store1 rfl Z4 rfl rfl (by first | exact ⟨rfl, rfl⟩ | assumption) (by repeat (first | assumption | exact Take.head _ | apply Take.tail)) (by first | (simp; done) | omega | exact of_decide_eq_true rfl | (simp only [List.length_append, List.length_replicate, List.length_map, List.length_set]; omega)) rfl ?_
    obtain rfl : k = s.since.length := by omega
    refine WL.heap (R' := R) (O' := dO d ⟨V.lv, .slice none 0 0, V.kv, none⟩ (failS s keep) O) (fun w h => by
      have g1 := h.emp (cutC none 0 V.kv) rfl (fun _ => trivial)
      have g2 := g1.accNil (α := Nat × List UInt8) (e := 105) (size := 2) (enc := encW)
      exact (fun w h => OwnL.sat (by repeat (first | exact OwnL.refl | apply OwnL.take (by repeat (first | exact Take.head _ | apply Take.tail)) | apply OwnL.drop)) w (h.thin (SubL.mem (by repeat (first | exact SubL.refl | refine SubL.cons (by repeat (first | assumption | exact List.mem_cons_self | refine List.mem_cons_of_mem _ ?_)) ?_ | refine SubL.skip ?_))))) w g2) ?_
    refine WL.nil ?_
    -- ret_1
    refine Ret.normal (Ret.zero Tryd.results38 ?_)
    exact hk ⟨⟨fun _ => rfl, fun _ => rfl⟩, hvl, OneV.sl, hvk⟩
end
end Go.Proofs.YtaalegffcjbglaaDoor
