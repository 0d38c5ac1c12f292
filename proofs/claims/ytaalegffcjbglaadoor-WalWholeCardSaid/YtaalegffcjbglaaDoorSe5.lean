/-
  Layer 4: step, Write, Sync, Cut, Crash.
-/
import Derived.Test.YtaalegffcjbglaaDoorSe4
namespace Go.Proofs.YtaalegffcjbglaaDoor
open Go Go.SL

theorem stepE_off {s : DSt} (h : s.off = true) : stepE s = 7 ∧ stepS s = s := by unfold stepE stepS; rw [if_pos h, if_pos h]; exact ⟨rfl, rfl⟩
theorem stepE_fail {s : DSt} (h : ¬ s.off = true) (h1 : s.left = 1) : stepE s = 7 ∧ stepS s = failS s s.keep := by unfold stepE stepS; rw [if_neg h, if_neg h, if_pos h1, if_pos h1]; exact ⟨rfl, rfl⟩
theorem stepE_on {s : DSt} (h : ¬ s.off = true) (h1 : ¬ s.left = 1) : stepE s = 0 ∧ stepS s = { s with left := s.left - 1, done := s.done + 1 } := by unfold stepE stepS; rw [if_neg h, if_neg h, if_neg h1, if_neg h1]; exact ⟨rfl, rfl⟩
theorem step_keep (s : DSt) : (stepS s).keep = s.keep := by
  unfold stepS
  split
  · rfl
  · split <;> rfl
section
variable {R : List RO} {O : List Own} {POST : Value → List RO → List Own → Prop} {d m : Nat} {V : DV} {s : DSt}
set_option maxRecDepth 20000 in
theorem add_spec {O' : List Own} {b off : Nat} {e : TypeId} {cs : List Value} {p : Int} (hT : Take (rowC b e cs) O O') (hc : cs[off]? = some (.int .i64 p)) (hr : 0 ≤ p ∧ p ≤ 4294967296) (hk : POST (.int .i64 (p + 1)) R (rowC b e (cs.set off (.int .i64 (p + 1))) :: O')) : Fun Tryd.prog 52 #[.pointer (some ⟨b, off, none⟩), .int .i64 1] R O POST := by
  refine Fun.enter (l := [_, _]) Tryd.func52 rfl Tryd.ntmps52 rfl (L0 := [(0, _), (1, _)]) rfl ?_
  refine WC.seq ?_
  refine WC.region ?_
  refine WL.rd rfl rfl rfl (Rd.assign rfl rfl) ?_
  refine WL.nil ?_
  refine thenQ.normal ?_
  refine WC.seq ?_
  refine WC.region ?_
  refine WL.rd rfl rfl rfl (Rd.move rfl rfl) ?_
  refine WL.rd rfl rfl rfl (Rd.nilc rfl rfl) ?_
  refine WL.rd rfl rfl rfl ((by first | exact Rd.field rfl F79_2 rfl rfl | exact Rd.fieldE rfl F79_2 rfl (by repeat (first | assumption | exact List.mem_cons_self | refine List.mem_cons_of_mem _ ?_)) (by omega) | exact Rd.fieldA rfl F79_2 rfl (by repeat (first | assumption | exact List.mem_cons_self | refine List.mem_cons_of_mem _ ?_)) (by omega))) ?_
  refine WL.rd rfl rfl rfl (Rd.move rfl rfl) ?_
  refine WL.op rfl ?_
  refine OpW.atomicAdd (off := off) (p := p) (k := 1) rfl rfl rfl rfl Tryd.func62 (by kernel_rfl) (by kernel_rfl) (by kernel_rfl) (by kernel_rfl) hT hc (by omega) rfl rfl ?_
  refine WL.rd rfl rfl rfl (Rd.assign rfl rfl) ?_
  refine WL.nil ?_
  refine thenQ.normal ?_
  -- ret_1
  refine WC.ret (Ret.one Tryd.results52 rfl ?_)
  exact hk
set_option maxHeartbeats 1000000 in
set_option maxRecDepth 20000 in
theorem step_spec (ok : DOk s m) (hm : m ≤ 4294967295) (hv : VOk V s) (hkeep : SlE (one vi) V.kv s.keep ∈ R)
    (hk : ∀ V', VOk V' (stepS s) → V'.kv = V.kv → POST (.int .i64 (stepE s : Nat)) R (dO d V' (stepS s) O)) : Fun Tryd.prog 41 #[dp d] R (dO d V s O) POST := by
  obtain ⟨lv, sv, kv, cb⟩ := V
  have hdone := ok.done
  refine Fun.enter (l := [_]) Tryd.func41 rfl Tryd.ntmps41 rfl (L0 := [(0, _)]) rfl ?_
  refine WC.seq ?_
  refine WC.region ?_
  refine WL.rd rfl rfl rfl (Rd.assign rfl rfl) ?_
  refine WL.nil ?_
  refine thenQ.normal ?_
  refine WC.seq ?_
  refine WC.seq ?_
  refine WC.region ?_
  refine WL.rd rfl rfl rfl (Rd.move rfl rfl) ?_
  refine WL.rd rfl rfl rfl (Rd.nilc rfl rfl) ?_
  refine WL.rd rfl rfl rfl ((by first | exact Rd.field rfl F81_3 rfl rfl | exact Rd.fieldE rfl F81_3 rfl (by repeat (first | assumption | exact List.mem_cons_self | refine List.mem_cons_of_mem _ ?_)) (by omega) | exact Rd.fieldA rfl F81_3 rfl (by repeat (first | assumption | exact List.mem_cons_self | refine List.mem_cons_of_mem _ ?_)) (by omega))) ?_
  refine WL.rd rfl rfl rfl (Rd.row1 (off := 3) rfl C4 rfl List.mem_cons_self rfl) ?_
  refine WL.nil ?_
  refine thenQ.normal ?_
  first | refine WC.ite rfl (fun hc1 => ?_) (fun hc1 => ?_) | refine WC.cond rfl (fun hc1 => ?_) (fun hc1 => ?_)
  · skip
    refine WC.seq ?_
    refine WC.region ?_
    refine WL.rd rfl rfl rfl (Rd.assign rfl rfl) ?_
    refine WL.nil ?_
    refine thenQ.normal ?_
    -- ret_1
    refine WC.ret (Ret.one Tryd.results41 rfl ?_)
    rw [(stepE_off hc1).1, (stepE_off hc1).2] at hk
    exact hk _ hv rfl
  · skip
    replace hc1 : ¬ s.off = true := by rw [hc1]; simp
    refine WC.skip ?_
    refine thenQ.normal ?_
    refine WC.seq ?_
    refine WC.seq ?_
    refine WC.region ?_
    refine WL.rd rfl rfl rfl (Rd.move rfl rfl) ?_
    refine WL.rd rfl rfl rfl (Rd.nilc rfl rfl) ?_
    refine WL.rd rfl rfl rfl ((by first | exact Rd.field rfl F81_2 rfl rfl | exact Rd.fieldE rfl F81_2 rfl (by repeat (first | assumption | exact List.mem_cons_self | refine List.mem_cons_of_mem _ ?_)) (by omega) | exact Rd.fieldA rfl F81_2 rfl (by repeat (first | assumption | exact List.mem_cons_self | refine List.mem_cons_of_mem _ ?_)) (by omega))) ?_
    refine WL.rd rfl rfl rfl (Rd.row1 (off := 2) rfl C74 rfl List.mem_cons_self rfl) ?_
    refine WL.rd rfl rfl rfl (Rd.pneqN rfl Tryd.underlying74 rfl rfl) ?_
    refine WL.nil ?_
    refine thenQ.normal ?_
    first | refine WC.ite rfl (fun hc2 => ?_) (fun hc2 => ?_) | refine WC.cond rfl (fun hc2 => ?_) (fun hc2 => ?_)
    · skip
      obtain ⟨b, rfl⟩ : ∃ b, cb = some b := by
        cases cb with
        | none => simp at hc2
        | some b => exact ⟨b, rfl⟩
      have hl0 : s.left ≠ 0 := fun h => by have := hv.cb.2 h; cases this
      have hll := ok.left
      refine WC.heap (R' := R) (O' := dRow d ⟨lv, sv, kv, some b⟩ s :: accC 9 1 (one vs) lv s.lasts :: accC 105 2 encW sv s.since :: rowC b 101 [.int .i64 (s.left : Int), kv] :: O) (fun w h => h) ?_
      refine WC.seq ?_
      refine WC.region ?_
      refine WL.rd rfl rfl rfl (Rd.move rfl rfl) ?_
      refine WL.rd rfl rfl rfl (Rd.nilc rfl rfl) ?_
      refine WL.rd rfl rfl rfl ((by first | exact Rd.field rfl F81_2 rfl rfl | exact Rd.fieldE rfl F81_2 rfl (by repeat (first | assumption | exact List.mem_cons_self | refine List.mem_cons_of_mem _ ?_)) (by omega) | exact Rd.fieldA rfl F81_2 rfl (by repeat (first | assumption | exact List.mem_cons_self | refine List.mem_cons_of_mem _ ?_)) (by omega))) ?_
      refine WL.rd rfl rfl rfl (Rd.row1 (off := 2) (u := dp b) rfl C74 rfl List.mem_cons_self rfl) ?_
      refine WL.rd rfl rfl rfl (Rd.nilc rfl rfl) ?_
      refine WL.rd rfl rfl rfl ((by first | exact Rd.field rfl F101_0 rfl rfl | exact Rd.fieldE rfl F101_0 rfl (by repeat (first | assumption | exact List.mem_cons_self | refine List.mem_cons_of_mem _ ?_)) (by omega) | exact Rd.fieldA rfl F101_0 rfl (by repeat (first | assumption | exact List.mem_cons_self | refine List.mem_cons_of_mem _ ?_)) (by omega))) ?_
      refine WL.rd rfl rfl rfl (Rd.row1 (b := b) (off := 0) rfl C3 rfl (by repeat (first | assumption | exact List.mem_cons_self | refine List.mem_cons_of_mem _ ?_)) rfl) ?_
      refine WL.rd rfl rfl rfl (Rd.sub rfl rfl rfl (by omega)) ?_
      refine WL.say 19 (u := .int .i64 ((s.left - 1 : Nat) : Int)) rfl (by congr 1; omega) ?_
      refine WL.rd rfl rfl rfl (Rd.nilc rfl rfl) ?_
      refine WL.rd rfl rfl rfl ((by first | exact Rd.field rfl F101_0 rfl rfl | exact Rd.fieldE rfl F101_0 rfl (by repeat (first | assumption | exact List.mem_cons_self | refine List.mem_cons_of_mem _ ?_)) (by omega) | exact Rd.fieldA rfl F101_0 rfl (by repeat (first | assumption | exact List.mem_cons_self | refine List.mem_cons_of_mem _ ?_)) (by omega))) ?_
      refine WL.op rfl ?_
      refine OpW.store1 rfl Z3 rfl rfl (by first | exact ⟨rfl, rfl⟩ | assumption) (by repeat (first | assumption | exact Take.head _ | apply Take.tail)) (by first | (simp; done) | omega | exact of_decide_eq_true rfl | (simp only [List.length_append, List.length_replicate, List.length_map, List.length_set]; omega)) rfl ?_
      refine WL.nil ?_
      refine thenQ.normal ?_
      refine WC.seq ?_
      refine WC.region ?_
      refine WL.rd rfl rfl rfl (Rd.move rfl rfl) ?_
      refine WL.rd rfl rfl rfl (Rd.nilc rfl rfl) ?_
      refine WL.rd rfl rfl rfl ((by first | exact Rd.field rfl F81_2 rfl rfl | exact Rd.fieldE rfl F81_2 rfl (by repeat (first | assumption | exact List.mem_cons_self | refine List.mem_cons_of_mem _ ?_)) (by omega) | exact Rd.fieldA rfl F81_2 rfl (by repeat (first | assumption | exact List.mem_cons_self | refine List.mem_cons_of_mem _ ?_)) (by omega))) ?_
      refine WL.rd rfl rfl rfl (Rd.row1 (off := 2) (u := dp b) rfl C74 rfl (by repeat (first | assumption | exact List.mem_cons_self | refine List.mem_cons_of_mem _ ?_)) rfl) ?_
      refine WL.rd rfl rfl rfl (Rd.nilc rfl rfl) ?_
      refine WL.rd rfl rfl rfl ((by first | exact Rd.field rfl F101_0 rfl rfl | exact Rd.fieldE rfl F101_0 rfl (by repeat (first | assumption | exact List.mem_cons_self | refine List.mem_cons_of_mem _ ?_)) (by omega) | exact Rd.fieldA rfl F101_0 rfl (by repeat (first | assumption | exact List.mem_cons_self | refine List.mem_cons_of_mem _ ?_)) (by omega))) ?_
      refine WL.rd rfl rfl rfl (Rd.row1 (b := b) (off := 0) rfl C3 rfl (by repeat (first | assumption | exact List.mem_cons_self | refine List.mem_cons_of_mem _ ?_)) rfl) ?_
      refine WL.rd rfl rfl rfl (Rd.eql rfl rfl rfl) ?_
      refine WL.nil ?_
      refine thenQ.normal ?_
      first | refine WC.ite rfl (fun hc3 => ?_) (fun hc3 => ?_) | refine WC.cond rfl (fun hc3 => ?_) (fun hc3 => ?_)
      · skip
        refine WC.seq ?_
        refine WC.region ?_
        refine WL.rd rfl rfl rfl (Rd.move rfl rfl) ?_
        refine WL.rd rfl rfl rfl (Rd.move rfl rfl) ?_
        refine WL.rd rfl rfl rfl (Rd.nilc rfl rfl) ?_
        refine WL.rd rfl rfl rfl ((by first | exact Rd.field rfl F81_2 rfl rfl | exact Rd.fieldE rfl F81_2 rfl (by repeat (first | assumption | exact List.mem_cons_self | refine List.mem_cons_of_mem _ ?_)) (by omega) | exact Rd.fieldA rfl F81_2 rfl (by repeat (first | assumption | exact List.mem_cons_self | refine List.mem_cons_of_mem _ ?_)) (by omega))) ?_
        refine WL.rd rfl rfl rfl (Rd.row1 (off := 2) (u := dp b) rfl C74 rfl (by repeat (first | assumption | exact List.mem_cons_self | refine List.mem_cons_of_mem _ ?_)) rfl) ?_
        refine WL.rd rfl rfl rfl (Rd.nilc rfl rfl) ?_
        refine WL.rd rfl rfl rfl ((by first | exact Rd.field rfl F101_1 rfl rfl | exact Rd.fieldE rfl F101_1 rfl (by repeat (first | assumption | exact List.mem_cons_self | refine List.mem_cons_of_mem _ ?_)) (by omega) | exact Rd.fieldA rfl F101_1 rfl (by repeat (first | assumption | exact List.mem_cons_self | refine List.mem_cons_of_mem _ ?_)) (by omega))) ?_
        refine WL.rd rfl rfl rfl (Rd.row1 (b := b) (off := 1) rfl C39 rfl (by repeat (first | assumption | exact List.mem_cons_self | refine List.mem_cons_of_mem _ ?_)) rfl) ?_
        refine WL.op rfl ?_
        refine OpW.call rfl rfl (by repeat (first | exact Evs.nil | apply Evs.cons rfl)) (by kernel_rfl) rfl rfl rfl ?_
        refine Fun.heap (R' := R) (O' := dO d ⟨lv, sv, kv, some b⟩ { s with left := s.left - 1 } O) (fun w h => OwnL.sat (by repeat (first | exact OwnL.refl | apply OwnL.take (by repeat (first | exact Take.head _ | apply Take.tail)) | apply OwnL.drop)) w (h.thin (SubL.mem (by repeat (first | exact SubL.refl | refine SubL.cons (by repeat (first | assumption | exact List.mem_cons_self | refine List.mem_cons_of_mem _ ?_)) ?_ | refine SubL.skip ?_))))) ?_
        refine fail_spec (s := { s with left := s.left - 1 }) (m := m) (keep := s.keep) ⟨ok.at_, ok.lasts, by show s.left - 1 ≤ _; omega, ok.since, ok.done⟩ (by omega) hv.lv hv.kv hkeep ?_; intro hv2
        refine WL.nil ?_
        refine thenQ.normal ?_
        refine WC.seq ?_
        refine WC.region ?_
        refine WL.rd rfl rfl rfl (Rd.assign rfl rfl) ?_
        refine WL.nil ?_
        refine thenQ.normal ?_
        -- ret_2
        refine WC.ret (Ret.one Tryd.results41 rfl ?_)
        rw [(stepE_fail hc1 (by omega)).1, (stepE_fail hc1 (by omega)).2] at hk
        exact hk ⟨lv, .slice none 0 0, kv, none⟩ hv2 rfl
      · skip
        refine WC.skip ?_
        refine thenQ.normal ?_
        refine WC.seq ?_
        refine WC.region ?_
        refine WL.rd rfl rfl rfl (Rd.move rfl rfl) ?_
        refine WL.rd rfl rfl rfl (Rd.nilc rfl rfl) ?_
        refine WL.rd rfl rfl rfl ((by first | exact Rd.field rfl F81_4 rfl rfl | exact Rd.fieldE rfl F81_4 rfl (by repeat (first | assumption | exact List.mem_cons_self | refine List.mem_cons_of_mem _ ?_)) (by omega) | exact Rd.fieldA rfl F81_4 rfl (by repeat (first | assumption | exact List.mem_cons_self | refine List.mem_cons_of_mem _ ?_)) (by omega))) ?_
        refine WL.op rfl ?_
        refine OpW.call rfl rfl (by repeat (first | exact Evs.nil | apply Evs.cons rfl)) (by kernel_rfl) rfl rfl rfl ?_
        refine add_spec (b := d) (off := 4) (p := s.done) (by repeat (first | assumption | exact Take.head _ | apply Take.tail)) rfl (by omega) ?_
        first
          | refine WL.heap (R' := R) (O' := dO d ⟨lv, sv, kv, some b⟩ { s with left := s.left - 1, done := s.done + 1 } O) (fun w h => OwnL.sat (by repeat (first | exact OwnL.refl | apply OwnL.take (by repeat (first | exact Take.head _ | apply Take.tail)) | apply OwnL.drop)) w (h.thin (SubL.mem (by repeat (first | exact SubL.refl | refine SubL.cons (by repeat (first | assumption | exact List.mem_cons_self | refine List.mem_cons_of_mem _ ?_)) ?_ | refine SubL.skip ?_))))) ?_
          | refine WL.heap (R' := R) (O' := dO d ⟨lv, sv, kv, none⟩ { s with left := s.left - 1, done := s.done + 1 } O) (fun w h => OwnL.sat (by repeat (first | exact OwnL.refl | apply OwnL.take (by repeat (first | exact Take.head _ | apply Take.tail)) | apply OwnL.drop)) w (h.thin (SubL.mem (by repeat (first | exact SubL.refl | refine SubL.cons (by repeat (first | assumption | exact List.mem_cons_self | refine List.mem_cons_of_mem _ ?_)) ?_ | refine SubL.skip ?_))))) ?_
        refine WL.nil ?_
        refine thenQ.normal ?_
        refine WC.seq ?_
        refine WC.region ?_
        refine WL.rd rfl rfl rfl (Rd.assign rfl rfl) ?_
        refine WL.nil ?_
        refine thenQ.normal ?_
        -- ret_3
        refine WC.ret (Ret.one Tryd.results41 rfl ?_)
        rw [(stepE_on hc1 (by omega)).1, (stepE_on hc1 (by omega)).2] at hk
        exact hk ⟨lv, sv, kv, some b⟩ ⟨⟨fun h => (nomatch h), fun h => by exfalso; have h2 : s.left - 1 = 0 := h; omega⟩, hv.lv, hv.sv, hv.kv⟩ rfl
    · skip
      obtain rfl : cb = none := by
        cases cb with
        | none => rfl
        | some b => simp at hc2
      have hl0 : s.left = 0 := hv.cb.1 rfl
      refine WC.skip ?_
      refine thenQ.normal ?_
      refine WC.seq ?_
      refine WC.region ?_
      refine WL.rd rfl rfl rfl (Rd.move rfl rfl) ?_
      refine WL.rd rfl rfl rfl (Rd.nilc rfl rfl) ?_
      refine WL.rd rfl rfl rfl ((by first | exact Rd.field rfl F81_4 rfl rfl | exact Rd.fieldE rfl F81_4 rfl (by repeat (first | assumption | exact List.mem_cons_self | refine List.mem_cons_of_mem _ ?_)) (by omega) | exact Rd.fieldA rfl F81_4 rfl (by repeat (first | assumption | exact List.mem_cons_self | refine List.mem_cons_of_mem _ ?_)) (by omega))) ?_
      refine WL.op rfl ?_
      refine OpW.call rfl rfl (by repeat (first | exact Evs.nil | apply Evs.cons rfl)) (by kernel_rfl) rfl rfl rfl ?_
      refine add_spec (b := d) (off := 4) (p := s.done) (by repeat (first | assumption | exact Take.head _ | apply Take.tail)) rfl (by omega) ?_
      first
        | refine WL.heap (R' := R) (O' := dO d ⟨lv, sv, kv, some b⟩ { s with left := s.left - 1, done := s.done + 1 } O) (fun w h => OwnL.sat (by repeat (first | exact OwnL.refl | apply OwnL.take (by repeat (first | exact Take.head _ | apply Take.tail)) | apply OwnL.drop)) w (h.thin (SubL.mem (by repeat (first | exact SubL.refl | refine SubL.cons (by repeat (first | assumption | exact List.mem_cons_self | refine List.mem_cons_of_mem _ ?_)) ?_ | refine SubL.skip ?_))))) ?_
        | refine WL.heap (R' := R) (O' := dO d ⟨lv, sv, kv, none⟩ { s with left := s.left - 1, done := s.done + 1 } O) (fun w h => OwnL.sat (by repeat (first | exact OwnL.refl | apply OwnL.take (by repeat (first | exact Take.head _ | apply Take.tail)) | apply OwnL.drop)) w (h.thin (SubL.mem (by repeat (first | exact SubL.refl | refine SubL.cons (by repeat (first | assumption | exact List.mem_cons_self | refine List.mem_cons_of_mem _ ?_)) ?_ | refine SubL.skip ?_))))) ?_
      refine WL.nil ?_
      refine thenQ.normal ?_
      refine WC.seq ?_
      refine WC.region ?_
      refine WL.rd rfl rfl rfl (Rd.assign rfl rfl) ?_
      refine WL.nil ?_
      refine thenQ.normal ?_
      -- ret_4
      refine WC.ret (Ret.one Tryd.results41 rfl ?_)
      rw [(stepE_on hc1 (by omega)).1, (stepE_on hc1 (by omega)).2] at hk
      exact hk ⟨lv, sv, kv, none⟩ ⟨⟨fun _ => by show s.left - 1 = 0; omega, fun _ => rfl⟩, hv.lv, hv.sv, hv.kv⟩ rfl
set_option maxHeartbeats 1000000 in
set_option maxRecDepth 20000 in
theorem write_spec {i : Int} {dd : List UInt8} (ok : DOk s m) (hm : m ≤ 4294967294) (hv : VOk V s) (hkeep : SlE (one vi) V.kv s.keep ∈ R)
    (hk : ∀ V', VOk V' (putS s i dd) → V'.kv = V.kv → POST (.int .i64 (dputE s i dd : Nat)) R (dO d V' (putS s i dd) O)) : Fun Tryd.prog 15 #[dp d, .int .i64 i, vs dd] R (dO d V s O) POST := by
  have okp := ok.step
  have hsl := ok.since
  have hsl2 := okp.since
  refine Fun.enter (l := [_, _, _]) Tryd.func15 rfl Tryd.ntmps15 rfl (L0 := [(0, _), (1, _), (2, _)]) rfl ?_
  refine WC.seq ?_
  refine WC.region ?_
  refine WL.rd rfl rfl rfl (Rd.assign rfl rfl) ?_
  refine WL.nil ?_
  refine thenQ.normal ?_
  refine WC.seq ?_
  refine WC.pick [0, 1, 2] (by repeat (first | exact Pick.nil | apply Pick.cons rfl)) ?_
  refine WC.val 16 (.bool (decide (badB s i dd = true))) ?_ ?_
  · skip
    refine WC.region ?_
    refine WL.rd rfl rfl rfl (Rd.move rfl rfl) ?_
    refine WL.rd rfl rfl rfl (Rd.move rfl rfl) ?_
    refine WL.op rfl ?_
    refine OpW.call rfl rfl (by repeat (first | exact Evs.nil | apply Evs.cons rfl)) (by kernel_rfl) rfl rfl rfl ?_
    refine has_spec ?_
    refine WL.say 10 (u := .bool (decide (hasB s i = true))) rfl (by simp) ?_
    refine WL.rd rfl rfl rfl ((by first | exact Rd.notd rfl rfl | exact Rd.not rfl rfl)) ?_
    refine WL.rd rfl rfl rfl (Rd.move rfl rfl) ?_
    refine WL.case 12 rfl (fun hg12 => ?_) (fun hg12 => ?_)
    · skip
      refine WL.no rfl rfl rfl rfl rfl rfl ?_
      refine WL.no rfl rfl rfl rfl rfl rfl ?_
      refine WL.no rfl rfl rfl rfl rfl rfl ?_
      refine WL.rd rfl rfl rfl (Rd.pick_t rfl rfl rfl) ?_
      refine WL.nil ?_
      exact ⟨by repeat (first | exact Sub.nil | refine Sub.cons rfl (by first | rfl | (first | (simp [badB, *]; done) | (simp [badB, *]; omega))) ?_), by first | exact (fun _ h => h.thin (SubL.mem (by repeat (first | exact SubL.refl | refine SubL.cons (by repeat (first | assumption | exact List.mem_cons_self | refine List.mem_cons_of_mem _ ?_)) ?_ | refine SubL.skip ?_)))) | exact (fun w h => OwnL.sat (by repeat (first | exact OwnL.refl | apply OwnL.take (by repeat (first | exact Take.head _ | apply Take.tail)) | apply OwnL.drop)) w (h.thin (SubL.mem (by repeat (first | exact SubL.refl | refine SubL.cons (by repeat (first | assumption | exact List.mem_cons_self | refine List.mem_cons_of_mem _ ?_)) ?_ | refine SubL.skip ?_)))))⟩
    · skip
      refine WL.rd_yes rfl rfl rfl rfl rfl rfl (Rd.move rfl rfl) ?_
      refine WL.rd_yes rfl rfl rfl rfl rfl rfl (Rd.slen (ts := #[]) (ty := 0) rfl rfl Tryd.underlying9) ?_
      refine WL.rd_yes rfl rfl rfl rfl rfl rfl (Rd.gtr rfl rfl rfl) ?_
      refine WL.rd rfl rfl rfl (Rd.pick_f rfl rfl rfl) ?_
      refine WL.nil ?_
      exact ⟨by repeat (first | exact Sub.nil | refine Sub.cons rfl (by first | rfl | (first | (simp [badB, *]; done) | (simp [badB, *]; omega))) ?_), by first | exact (fun _ h => h.thin (SubL.mem (by repeat (first | exact SubL.refl | refine SubL.cons (by repeat (first | assumption | exact List.mem_cons_self | refine List.mem_cons_of_mem _ ?_)) ?_ | refine SubL.skip ?_)))) | exact (fun w h => OwnL.sat (by repeat (first | exact OwnL.refl | apply OwnL.take (by repeat (first | exact Take.head _ | apply Take.tail)) | apply OwnL.drop)) w (h.thin (SubL.mem (by repeat (first | exact SubL.refl | refine SubL.cons (by repeat (first | assumption | exact List.mem_cons_self | refine List.mem_cons_of_mem _ ?_)) ?_ | refine SubL.skip ?_)))))⟩
  · skip
    first | refine WC.ite rfl (fun hc1 => ?_) (fun hc1 => ?_) | refine WC.cond rfl (fun hc1 => ?_) (fun hc1 => ?_)
    · skip
      refine WC.seq ?_
      refine WC.region ?_
      refine WL.rd rfl rfl rfl (Rd.assign rfl rfl) ?_
      refine WL.nil ?_
      refine thenQ.normal ?_
      -- ret_1
      refine WC.ret (Ret.one Tryd.results15 rfl ?_)
      unfold putS dputE at hk
      rw [if_pos hc1, if_pos hc1] at hk
      exact hk V hv rfl
    · skip
      obtain ⟨hb1, hb2⟩ := bad_not hc1
      obtain ⟨hb3, hb4⟩ := has_iff hb1
      obtain ⟨n, rfl⟩ : ∃ n : Nat, i = n := ⟨_, hb4.symm⟩
      unfold putS dputE at hk
      rw [if_neg hc1, if_neg hc1] at hk
      refine WC.skip ?_
      refine thenQ.normal ?_
      refine WC.seq ?_
      refine WC.seq ?_
      refine WC.region ?_
      refine WL.rd rfl rfl rfl (Rd.move rfl rfl) ?_
      refine WL.op rfl ?_
      refine OpW.call rfl rfl (by repeat (first | exact Evs.nil | apply Evs.cons rfl)) (by kernel_rfl) rfl rfl rfl ?_
      refine step_spec ok (by omega) hv hkeep ?_; intro V1 hv1 hkv1
      refine WL.rd rfl rfl rfl (Rd.assign rfl rfl) ?_
      refine WL.nil ?_
      refine thenQ.normal ?_
      refine WC.seq ?_
      refine WC.region ?_
      refine WL.rd rfl rfl rfl (Rd.move rfl rfl) ?_
      refine WL.rd rfl rfl rfl (Rd.neq rfl rfl rfl) ?_
      refine WL.nil ?_
      refine thenQ.normal ?_
      first | refine WC.ite rfl (fun hc2 => ?_) (fun hc2 => ?_) | refine WC.cond rfl (fun hc2 => ?_) (fun hc2 => ?_)
      · skip
        refine WC.seq ?_
        refine WC.region ?_
        refine WL.rd rfl rfl rfl (Rd.move rfl rfl) ?_
        refine WL.rd rfl rfl rfl (Rd.assign rfl rfl) ?_
        refine WL.nil ?_
        refine thenQ.normal ?_
        -- ret_2
        refine WC.ret (Ret.one Tryd.results15 rfl ?_)
        rw [if_neg (by omega)] at hk
        exact hk V1 hv1 hkv1
      · skip
        rw [if_pos (by omega)] at hk
        refine WC.skip ?_
        refine thenQ.normal ?_
        refine WC.seq ?_
        refine WC.drawn (O) 14 rfl mixed ?_
        refine WD.take 0 rfl (by kernel_rfl) (Held.mk' (by repeat (first | exact SubL.refl | refine SubL.cons (by repeat (first | assumption | exact List.mem_cons_self | refine List.mem_cons_of_mem _ ?_)) ?_ | refine SubL.skip ?_)) (by repeat (first | exact OwnL.refl | apply OwnL.take (by repeat (first | exact Take.head _ | apply Take.tail)) | apply OwnL.drop))) rfl rfl rfl (Rd.move rfl rfl) ?_
        refine WD.take 1 rfl (by kernel_rfl) (Held.mk' (by repeat (first | exact SubL.refl | refine SubL.cons (by repeat (first | assumption | exact List.mem_cons_self | refine List.mem_cons_of_mem _ ?_)) ?_ | refine SubL.skip ?_)) (by repeat (first | exact OwnL.refl | apply OwnL.take (by repeat (first | exact Take.head _ | apply Take.tail)) | apply OwnL.drop))) rfl rfl rfl (Rd.move rfl rfl) ?_
        refine WD.take 2 rfl (by kernel_rfl) (Held.mk' (by repeat (first | exact SubL.refl | refine SubL.cons (by repeat (first | assumption | exact List.mem_cons_self | refine List.mem_cons_of_mem _ ?_)) ?_ | refine SubL.skip ?_)) (by repeat (first | exact OwnL.refl | apply OwnL.take (by repeat (first | exact Take.head _ | apply Take.tail)) | apply OwnL.drop))) rfl rfl rfl (Rd.nilc rfl rfl) ?_
        refine WD.take 3 rfl (by kernel_rfl) (Held.mk' (by repeat (first | exact SubL.refl | refine SubL.cons (by repeat (first | assumption | exact List.mem_cons_self | refine List.mem_cons_of_mem _ ?_)) ?_ | refine SubL.skip ?_)) (by repeat (first | exact OwnL.refl | apply OwnL.take (by repeat (first | exact Take.head _ | apply Take.tail)) | apply OwnL.drop))) rfl rfl rfl ((by first | exact Rd.field rfl F81_1 rfl rfl | exact Rd.fieldE rfl F81_1 rfl (by repeat (first | assumption | exact List.mem_cons_self | refine List.mem_cons_of_mem _ ?_)) (by omega) | exact Rd.fieldA rfl F81_1 rfl (by repeat (first | assumption | exact List.mem_cons_self | refine List.mem_cons_of_mem _ ?_)) (by omega))) ?_
        refine WD.take 5 rfl (by kernel_rfl) (Held.mk' (by repeat (first | exact SubL.refl | refine SubL.cons (by repeat (first | assumption | exact List.mem_cons_self | refine List.mem_cons_of_mem _ ?_)) ?_ | refine SubL.skip ?_)) (by repeat (first | exact OwnL.refl | apply OwnL.take (by repeat (first | exact Take.head _ | apply Take.tail)) | apply OwnL.drop))) rfl rfl rfl (Rd.move rfl rfl) ?_
        refine WD.take 6 rfl (by kernel_rfl) (Held.mk' (by repeat (first | exact SubL.refl | refine SubL.cons (by repeat (first | assumption | exact List.mem_cons_self | refine List.mem_cons_of_mem _ ?_)) ?_ | refine SubL.skip ?_)) (by repeat (first | exact OwnL.refl | apply OwnL.take (by repeat (first | exact Take.head _ | apply Take.tail)) | apply OwnL.drop))) rfl rfl rfl (Rd.move rfl rfl) ?_
        refine WD.two 4 7 rfl rfl (by kernel_rfl) rfl rfl ?_ ?_
        · skip
          refine OpW.rd rfl rfl (Rd.row1 (off := 1) rfl C73 rfl (by repeat (first | assumption | exact List.mem_cons_self | refine List.mem_cons_of_mem _ ?_)) rfl) ?_
          refine ⟨(Held.mk' (by repeat (first | exact SubL.refl | refine SubL.cons (by repeat (first | assumption | exact List.mem_cons_self | refine List.mem_cons_of_mem _ ?_)) ?_ | refine SubL.skip ?_)) (by repeat (first | exact OwnL.refl | apply OwnL.take (by repeat (first | exact Take.head _ | apply Take.tail)) | apply OwnL.drop))), ?_⟩
          refine WD.one 7 rfl (by kernel_rfl) rfl ?_
          refine OpW.call rfl rfl (by repeat (first | exact Evs.nil | apply Evs.cons rfl)) (by kernel_rfl) rfl rfl rfl ?_
          refine full_spec hb2 ?_
          refine ⟨(Held.mk' (by repeat (first | exact SubL.refl | refine SubL.cons (by repeat (first | assumption | exact List.mem_cons_self | refine List.mem_cons_of_mem _ ?_)) ?_ | refine SubL.skip ?_)) (by repeat (first | exact OwnL.refl | apply OwnL.take (by repeat (first | exact Take.head _ | apply Take.tail)) | apply OwnL.drop))), ?_⟩
          refine WD.take 8 rfl (by kernel_rfl) (Held.mk' (by repeat (first | exact SubL.refl | refine SubL.cons (by repeat (first | assumption | exact List.mem_cons_self | refine List.mem_cons_of_mem _ ?_)) ?_ | refine SubL.skip ?_)) (by repeat (first | exact OwnL.refl | apply OwnL.take (by repeat (first | exact Take.head _ | apply Take.tail)) | apply OwnL.drop))) rfl rfl rfl (Rd.buildN (ps := [(0, _), (1, _)]) rfl Bs105 I105 rfl (by repeat (first | exact Evs.nil | apply Evs.cons rfl)) (by repeat (first | exact CellsOf.nil | apply CellsOf.cons rfl)) (by apply NFo.mk; repeat (first | exact NF.nil | apply NF.cons))) ?_
          refine WD.one 9 rfl (by kernel_rfl) rfl ?_
          refine OpW.buildSl (ps := [(0, _)]) rfl S73 (by repeat (first | exact Evs.nil | apply Evs.cons rfl)) rfl rfl (by repeat (first | exact CellsOf.nil | apply CellsOf.cons rfl)) (by kernel_rfl) rfl rfl rfl ?_; intro b31
          refine ⟨(Held.mk' (by repeat (first | exact SubL.refl | refine SubL.cons (by repeat (first | assumption | exact List.mem_cons_self | refine List.mem_cons_of_mem _ ?_)) ?_ | refine SubL.skip ?_)) (by repeat (first | exact OwnL.refl | apply OwnL.take (by repeat (first | exact Take.head _ | apply Take.tail)) | apply OwnL.drop))), ?_⟩
          refine WD.one 10 rfl (by kernel_rfl) rfl ?_
          refine OpW.appendRow (enc := encW) rfl S73 rfl rfl (by repeat (first | assumption | exact Take.head _ | apply Take.tail)) (by repeat (first | assumption | exact Take.head _ | apply Take.tail)) [(n, fullE dd)] rfl (by rfl) rfl (by intro x; first | rfl | (cases x; rfl) | (rcases x with ⟨_, _, _⟩; rfl) | (rcases x with ⟨_, _, _, _⟩; rfl)) (by intro x; first | rfl | (cases x; rfl) | (rcases x with ⟨_, _, _⟩; rfl) | (rcases x with ⟨_, _, _, _⟩; rfl)) ⟨by simp only [maxLen, List.length_append, List.length_nil, List.length_cons, List.length_drop, List.length_take, List.length_map]; omega, by first | omega | (simp only [List.length_append, List.length_nil, List.length_cons, List.length_drop, List.length_take, List.length_map]; omega)⟩ rfl rfl ?_; intro v32 hv32
          refine ⟨(Held.mk' (by repeat (first | exact SubL.refl | refine SubL.cons (by repeat (first | assumption | exact List.mem_cons_self | refine List.mem_cons_of_mem _ ?_)) ?_ | refine SubL.skip ?_)) (by repeat (first | exact OwnL.refl | apply OwnL.take (by repeat (first | exact Take.head _ | apply Take.tail)) | apply OwnL.drop))), ?_⟩
          refine WD.take 11 rfl (by kernel_rfl) (Held.mk' (by repeat (first | exact SubL.refl | refine SubL.cons (by repeat (first | assumption | exact List.mem_cons_self | refine List.mem_cons_of_mem _ ?_)) ?_ | refine SubL.skip ?_)) (by repeat (first | exact OwnL.refl | apply OwnL.take (by repeat (first | exact Take.head _ | apply Take.tail)) | apply OwnL.drop))) rfl rfl rfl (Rd.nilc rfl rfl) ?_
          refine WD.take 12 rfl (by kernel_rfl) (Held.mk' (by repeat (first | exact SubL.refl | refine SubL.cons (by repeat (first | assumption | exact List.mem_cons_self | refine List.mem_cons_of_mem _ ?_)) ?_ | refine SubL.skip ?_)) (by repeat (first | exact OwnL.refl | apply OwnL.take (by repeat (first | exact Take.head _ | apply Take.tail)) | apply OwnL.drop))) rfl rfl rfl ((by first | exact Rd.field rfl F81_1 rfl rfl | exact Rd.fieldE rfl F81_1 rfl (by repeat (first | assumption | exact List.mem_cons_self | refine List.mem_cons_of_mem _ ?_)) (by omega) | exact Rd.fieldA rfl F81_1 rfl (by repeat (first | assumption | exact List.mem_cons_self | refine List.mem_cons_of_mem _ ?_)) (by omega))) ?_
          refine WD.one 13 rfl (by kernel_rfl) rfl ?_
          refine OpW.store1 rfl Z73 rfl rfl (by first | exact ⟨rfl, rfl⟩ | assumption) (by repeat (first | assumption | exact Take.head _ | apply Take.tail)) (by first | (simp; done) | omega | exact of_decide_eq_true rfl | (simp only [List.length_append, List.length_replicate, List.length_map, List.length_set]; omega)) rfl ?_
          refine ⟨(Held.mk' (by repeat (first | exact SubL.refl | refine SubL.cons (by repeat (first | assumption | exact List.mem_cons_self | refine List.mem_cons_of_mem _ ?_)) ?_ | refine SubL.skip ?_)) (by repeat (first | exact OwnL.refl | apply OwnL.take (by repeat (first | exact Take.head _ | apply Take.tail)) | apply OwnL.drop))), ?_⟩
          refine WD.heap (R' := R) (O' := dO d ⟨V1.lv, v32, V1.kv, V1.cb⟩ { stepS s with since := (stepS s).since ++ [(n, fullE dd)] } O) (fun w h => OwnL.sat (by repeat (first | exact OwnL.refl | apply OwnL.take (by repeat (first | exact Take.head _ | apply Take.tail)) | apply OwnL.drop)) w (h.thin (SubL.mem (by repeat (first | exact SubL.refl | refine SubL.cons (by repeat (first | assumption | exact List.mem_cons_self | refine List.mem_cons_of_mem _ ?_)) ?_ | refine SubL.skip ?_))))) ?_
          refine WD.done (by kernel_rfl) ?_
          refine thenQ.normal ?_
          refine WC.seq ?_
          refine WC.region ?_
          refine WL.rd rfl rfl rfl (Rd.assign rfl rfl) ?_
          refine WL.nil ?_
          refine thenQ.normal ?_
          -- ret_3
          refine WC.ret (Ret.one Tryd.results15 rfl ?_)
          rw [show stepE s = 0 from by omega] at hk
          exact hk ⟨V1.lv, v32, V1.kv, V1.cb⟩ ⟨hv1.cb, hv1.lv, hv32, hv1.kv⟩ hkv1
        · skip
          refine OpW.call rfl rfl (by repeat (first | exact Evs.nil | apply Evs.cons rfl)) (by kernel_rfl) rfl rfl rfl ?_
          refine full_spec hb2 ?_
          refine ⟨(Held.mk' (by repeat (first | exact SubL.refl | refine SubL.cons (by repeat (first | assumption | exact List.mem_cons_self | refine List.mem_cons_of_mem _ ?_)) ?_ | refine SubL.skip ?_)) (by repeat (first | exact OwnL.refl | apply OwnL.take (by repeat (first | exact Take.head _ | apply Take.tail)) | apply OwnL.drop))), ?_⟩
          refine WD.take 8 rfl (by kernel_rfl) (Held.mk' (by repeat (first | exact SubL.refl | refine SubL.cons (by repeat (first | assumption | exact List.mem_cons_self | refine List.mem_cons_of_mem _ ?_)) ?_ | refine SubL.skip ?_)) (by repeat (first | exact OwnL.refl | apply OwnL.take (by repeat (first | exact Take.head _ | apply Take.tail)) | apply OwnL.drop))) rfl rfl rfl (Rd.buildN (ps := [(0, _), (1, _)]) rfl Bs105 I105 rfl (by repeat (first | exact Evs.nil | apply Evs.cons rfl)) (by repeat (first | exact CellsOf.nil | apply CellsOf.cons rfl)) (by apply NFo.mk; repeat (first | exact NF.nil | apply NF.cons))) ?_
          refine WD.two 4 9 rfl rfl (by kernel_rfl) rfl rfl ?_ ?_
          · skip
            refine OpW.rd rfl rfl (Rd.row1 (off := 1) rfl C73 rfl (by repeat (first | assumption | exact List.mem_cons_self | refine List.mem_cons_of_mem _ ?_)) rfl) ?_
            refine ⟨(Held.mk' (by repeat (first | exact SubL.refl | refine SubL.cons (by repeat (first | assumption | exact List.mem_cons_self | refine List.mem_cons_of_mem _ ?_)) ?_ | refine SubL.skip ?_)) (by repeat (first | exact OwnL.refl | apply OwnL.take (by repeat (first | exact Take.head _ | apply Take.tail)) | apply OwnL.drop))), ?_⟩
            refine WD.one 9 rfl (by kernel_rfl) rfl ?_
            refine OpW.buildSl (ps := [(0, _)]) rfl S73 (by repeat (first | exact Evs.nil | apply Evs.cons rfl)) rfl rfl (by repeat (first | exact CellsOf.nil | apply CellsOf.cons rfl)) (by kernel_rfl) rfl rfl rfl ?_; intro b31
            refine ⟨(Held.mk' (by repeat (first | exact SubL.refl | refine SubL.cons (by repeat (first | assumption | exact List.mem_cons_self | refine List.mem_cons_of_mem _ ?_)) ?_ | refine SubL.skip ?_)) (by repeat (first | exact OwnL.refl | apply OwnL.take (by repeat (first | exact Take.head _ | apply Take.tail)) | apply OwnL.drop))), ?_⟩
            refine WD.one 10 rfl (by kernel_rfl) rfl ?_
            refine OpW.appendRow (enc := encW) rfl S73 rfl rfl (by repeat (first | assumption | exact Take.head _ | apply Take.tail)) (by repeat (first | assumption | exact Take.head _ | apply Take.tail)) [(n, fullE dd)] rfl (by rfl) rfl (by intro x; first | rfl | (cases x; rfl) | (rcases x with ⟨_, _, _⟩; rfl) | (rcases x with ⟨_, _, _, _⟩; rfl)) (by intro x; first | rfl | (cases x; rfl) | (rcases x with ⟨_, _, _⟩; rfl) | (rcases x with ⟨_, _, _, _⟩; rfl)) ⟨by simp only [maxLen, List.length_append, List.length_nil, List.length_cons, List.length_drop, List.length_take, List.length_map]; omega, by first | omega | (simp only [List.length_append, List.length_nil, List.length_cons, List.length_drop, List.length_take, List.length_map]; omega)⟩ rfl rfl ?_; intro v32 hv32
            refine ⟨(Held.mk' (by repeat (first | exact SubL.refl | refine SubL.cons (by repeat (first | assumption | exact List.mem_cons_self | refine List.mem_cons_of_mem _ ?_)) ?_ | refine SubL.skip ?_)) (by repeat (first | exact OwnL.refl | apply OwnL.take (by repeat (first | exact Take.head _ | apply Take.tail)) | apply OwnL.drop))), ?_⟩
            refine WD.take 11 rfl (by kernel_rfl) (Held.mk' (by repeat (first | exact SubL.refl | refine SubL.cons (by repeat (first | assumption | exact List.mem_cons_self | refine List.mem_cons_of_mem _ ?_)) ?_ | refine SubL.skip ?_)) (by repeat (first | exact OwnL.refl | apply OwnL.take (by repeat (first | exact Take.head _ | apply Take.tail)) | apply OwnL.drop))) rfl rfl rfl (Rd.nilc rfl rfl) ?_
            refine WD.take 12 rfl (by kernel_rfl) (Held.mk' (by repeat (first | exact SubL.refl | refine SubL.cons (by repeat (first | assumption | exact List.mem_cons_self | refine List.mem_cons_of_mem _ ?_)) ?_ | refine SubL.skip ?_)) (by repeat (first | exact OwnL.refl | apply OwnL.take (by repeat (first | exact Take.head _ | apply Take.tail)) | apply OwnL.drop))) rfl rfl rfl ((by first | exact Rd.field rfl F81_1 rfl rfl | exact Rd.fieldE rfl F81_1 rfl (by repeat (first | assumption | exact List.mem_cons_self | refine List.mem_cons_of_mem _ ?_)) (by omega) | exact Rd.fieldA rfl F81_1 rfl (by repeat (first | assumption | exact List.mem_cons_self | refine List.mem_cons_of_mem _ ?_)) (by omega))) ?_
            refine WD.one 13 rfl (by kernel_rfl) rfl ?_
            refine OpW.store1 rfl Z73 rfl rfl (by first | exact ⟨rfl, rfl⟩ | assumption) (by repeat (first | assumption | exact Take.head _ | apply Take.tail)) (by first | (simp; done) | omega | exact of_decide_eq_true rfl | (simp only [List.length_append, List.length_replicate, List.length_map, List.length_set]; omega)) rfl ?_
            refine ⟨(Held.mk' (by repeat (first | exact SubL.refl | refine SubL.cons (by repeat (first | assumption | exact List.mem_cons_self | refine List.mem_cons_of_mem _ ?_)) ?_ | refine SubL.skip ?_)) (by repeat (first | exact OwnL.refl | apply OwnL.take (by repeat (first | exact Take.head _ | apply Take.tail)) | apply OwnL.drop))), ?_⟩
            refine WD.heap (R' := R) (O' := dO d ⟨V1.lv, v32, V1.kv, V1.cb⟩ { stepS s with since := (stepS s).since ++ [(n, fullE dd)] } O) (fun w h => OwnL.sat (by repeat (first | exact OwnL.refl | apply OwnL.take (by repeat (first | exact Take.head _ | apply Take.tail)) | apply OwnL.drop)) w (h.thin (SubL.mem (by repeat (first | exact SubL.refl | refine SubL.cons (by repeat (first | assumption | exact List.mem_cons_self | refine List.mem_cons_of_mem _ ?_)) ?_ | refine SubL.skip ?_))))) ?_
            refine WD.done (by kernel_rfl) ?_
            refine thenQ.normal ?_
            refine WC.seq ?_
            refine WC.region ?_
            refine WL.rd rfl rfl rfl (Rd.assign rfl rfl) ?_
            refine WL.nil ?_
            refine thenQ.normal ?_
            -- ret_4
            refine WC.ret (Ret.one Tryd.results15 rfl ?_)
            rw [show stepE s = 0 from by omega] at hk
            exact hk ⟨V1.lv, v32, V1.kv, V1.cb⟩ ⟨hv1.cb, hv1.lv, hv32, hv1.kv⟩ hkv1
          · skip
            refine OpW.buildSl (ps := [(0, _)]) rfl S73 (by repeat (first | exact Evs.nil | apply Evs.cons rfl)) rfl rfl (by repeat (first | exact CellsOf.nil | apply CellsOf.cons rfl)) (by kernel_rfl) rfl rfl rfl ?_; intro b31
            refine ⟨(Held.mk' (by repeat (first | exact SubL.refl | refine SubL.cons (by repeat (first | assumption | exact List.mem_cons_self | refine List.mem_cons_of_mem _ ?_)) ?_ | refine SubL.skip ?_)) (by repeat (first | exact OwnL.refl | apply OwnL.take (by repeat (first | exact Take.head _ | apply Take.tail)) | apply OwnL.drop))), ?_⟩
            refine WD.one 4 rfl (by kernel_rfl) rfl ?_
            refine OpW.rd rfl rfl (Rd.row1 (off := 1) rfl C73 rfl (by repeat (first | assumption | exact List.mem_cons_self | refine List.mem_cons_of_mem _ ?_)) rfl) ?_
            refine ⟨(Held.mk' (by repeat (first | exact SubL.refl | refine SubL.cons (by repeat (first | assumption | exact List.mem_cons_self | refine List.mem_cons_of_mem _ ?_)) ?_ | refine SubL.skip ?_)) (by repeat (first | exact OwnL.refl | apply OwnL.take (by repeat (first | exact Take.head _ | apply Take.tail)) | apply OwnL.drop))), ?_⟩
            refine WD.one 10 rfl (by kernel_rfl) rfl ?_
            refine OpW.appendRow (enc := encW) rfl S73 rfl rfl (by repeat (first | assumption | exact Take.head _ | apply Take.tail)) (by repeat (first | assumption | exact Take.head _ | apply Take.tail)) [(n, fullE dd)] rfl (by rfl) rfl (by intro x; first | rfl | (cases x; rfl) | (rcases x with ⟨_, _, _⟩; rfl) | (rcases x with ⟨_, _, _, _⟩; rfl)) (by intro x; first | rfl | (cases x; rfl) | (rcases x with ⟨_, _, _⟩; rfl) | (rcases x with ⟨_, _, _, _⟩; rfl)) ⟨by simp only [maxLen, List.length_append, List.length_nil, List.length_cons, List.length_drop, List.length_take, List.length_map]; omega, by first | omega | (simp only [List.length_append, List.length_nil, List.length_cons, List.length_drop, List.length_take, List.length_map]; omega)⟩ rfl rfl ?_; intro v32 hv32
            refine ⟨(Held.mk' (by repeat (first | exact SubL.refl | refine SubL.cons (by repeat (first | assumption | exact List.mem_cons_self | refine List.mem_cons_of_mem _ ?_)) ?_ | refine SubL.skip ?_)) (by repeat (first | exact OwnL.refl | apply OwnL.take (by repeat (first | exact Take.head _ | apply Take.tail)) | apply OwnL.drop))), ?_⟩
            refine WD.take 11 rfl (by kernel_rfl) (Held.mk' (by repeat (first | exact SubL.refl | refine SubL.cons (by repeat (first | assumption | exact List.mem_cons_self | refine List.mem_cons_of_mem _ ?_)) ?_ | refine SubL.skip ?_)) (by repeat (first | exact OwnL.refl | apply OwnL.take (by repeat (first | exact Take.head _ | apply Take.tail)) | apply OwnL.drop))) rfl rfl rfl (Rd.nilc rfl rfl) ?_
            refine WD.take 12 rfl (by kernel_rfl) (Held.mk' (by repeat (first | exact SubL.refl | refine SubL.cons (by repeat (first | assumption | exact List.mem_cons_self | refine List.mem_cons_of_mem _ ?_)) ?_ | refine SubL.skip ?_)) (by repeat (first | exact OwnL.refl | apply OwnL.take (by repeat (first | exact Take.head _ | apply Take.tail)) | apply OwnL.drop))) rfl rfl rfl ((by first | exact Rd.field rfl F81_1 rfl rfl | exact Rd.fieldE rfl F81_1 rfl (by repeat (first | assumption | exact List.mem_cons_self | refine List.mem_cons_of_mem _ ?_)) (by omega) | exact Rd.fieldA rfl F81_1 rfl (by repeat (first | assumption | exact List.mem_cons_self | refine List.mem_cons_of_mem _ ?_)) (by omega))) ?_
            refine WD.one 13 rfl (by kernel_rfl) rfl ?_
            refine OpW.store1 rfl Z73 rfl rfl (by first | exact ⟨rfl, rfl⟩ | assumption) (by repeat (first | assumption | exact Take.head _ | apply Take.tail)) (by first | (simp; done) | omega | exact of_decide_eq_true rfl | (simp only [List.length_append, List.length_replicate, List.length_map, List.length_set]; omega)) rfl ?_
            refine ⟨(Held.mk' (by repeat (first | exact SubL.refl | refine SubL.cons (by repeat (first | assumption | exact List.mem_cons_self | refine List.mem_cons_of_mem _ ?_)) ?_ | refine SubL.skip ?_)) (by repeat (first | exact OwnL.refl | apply OwnL.take (by repeat (first | exact Take.head _ | apply Take.tail)) | apply OwnL.drop))), ?_⟩
            refine WD.heap (R' := R) (O' := dO d ⟨V1.lv, v32, V1.kv, V1.cb⟩ { stepS s with since := (stepS s).since ++ [(n, fullE dd)] } O) (fun w h => OwnL.sat (by repeat (first | exact OwnL.refl | apply OwnL.take (by repeat (first | exact Take.head _ | apply Take.tail)) | apply OwnL.drop)) w (h.thin (SubL.mem (by repeat (first | exact SubL.refl | refine SubL.cons (by repeat (first | assumption | exact List.mem_cons_self | refine List.mem_cons_of_mem _ ?_)) ?_ | refine SubL.skip ?_))))) ?_
            refine WD.done (by kernel_rfl) ?_
            refine thenQ.normal ?_
            refine WC.seq ?_
            refine WC.region ?_
            refine WL.rd rfl rfl rfl (Rd.assign rfl rfl) ?_
            refine WL.nil ?_
            refine thenQ.normal ?_
            -- ret_5
            refine WC.ret (Ret.one Tryd.results15 rfl ?_)
            rw [show stepE s = 0 from by omega] at hk
            exact hk ⟨V1.lv, v32, V1.kv, V1.cb⟩ ⟨hv1.cb, hv1.lv, hv32, hv1.kv⟩ hkv1
set_option maxRecDepth 20000 in
theorem write_nil {i : Int} {dd : List UInt8} (hk : POST (.int .i64 1) R O) : Fun Tryd.prog 15 #[.pointer none, .int .i64 i, vs dd] R O POST := by
  refine Fun.enter (l := [_, _, _]) Tryd.func15 rfl Tryd.ntmps15 rfl (L0 := [(0, _), (1, _), (2, _)]) rfl ?_
  refine WC.seq ?_
  refine WC.region ?_
  refine WL.rd rfl rfl rfl (Rd.assign rfl rfl) ?_
  refine WL.nil ?_
  refine thenQ.normal ?_
  refine WC.seq ?_
  refine WC.seq ?_
  refine WC.region ?_
  refine WL.rd rfl rfl rfl (Rd.move rfl rfl) ?_
  refine WL.rd rfl rfl rfl (Rd.move rfl rfl) ?_
  refine WL.op rfl ?_
  refine OpW.call rfl rfl (by repeat (first | exact Evs.nil | apply Evs.cons rfl)) (by kernel_rfl) rfl rfl rfl ?_
  refine has_nil ?_
  refine WL.say 10 (u := .bool (decide False)) rfl (by simp) ?_
  refine WL.rd rfl rfl rfl ((by first | exact Rd.notd rfl rfl | exact Rd.not rfl rfl)) ?_
  refine WL.rd rfl rfl rfl (Rd.move rfl rfl) ?_
  refine WL.case 12 rfl (fun hg12 => ?_) (fun hg12 => ?_)
  · skip
    refine WL.no rfl rfl rfl rfl rfl rfl ?_
    refine WL.no rfl rfl rfl rfl rfl rfl ?_
    refine WL.no rfl rfl rfl rfl rfl rfl ?_
    refine WL.rd rfl rfl rfl (Rd.pick_t rfl rfl rfl) ?_
    refine WL.nil ?_
    refine thenQ.normal ?_
    refine WC.yes rfl ?_
    refine WC.seq ?_
    refine WC.region ?_
    refine WL.rd rfl rfl rfl (Rd.assign rfl rfl) ?_
    refine WL.nil ?_
    refine thenQ.normal ?_
    -- ret_1
    refine WC.ret (Ret.one Tryd.results15 rfl ?_)
    exact hk
  · skip
    exact absurd (fun h => h) hg12
set_option maxHeartbeats 1000000 in
set_option maxRecDepth 20000 in
theorem sync_spec (ok : DOk s m) (hm : m ≤ 4294967294) (hv : VOk V s) (hkeep : SlE (one vi) V.kv s.keep ∈ R)
    (hk : ∀ V', VOk V' (syncS s) → V'.kv = V.kv → POST (.int .i64 (stepE s : Nat)) R (dO d V' (syncS s) O)) : Fun Tryd.prog 45 #[dp d] R (dO d V s O) POST := by
  have okp := ok.step
  have hsl2 := okp.since
  have hat : ∀ k, k < (stepS s).since.length → (stepS s).since[k]!.1 < (stepS s).lasts.length := fun k hk => by
    rw [getElem!_pos _ k hk]; exact okp.at_ _ (List.getElem_mem _)
  obtain ⟨s2, hs2⟩ : ∃ s2, s2 = stepS s := ⟨_, rfl⟩
  rw [← hs2] at hat
  refine Fun.enter (l := [_]) Tryd.func45 rfl Tryd.ntmps45 rfl (L0 := [(0, _)]) rfl ?_
  refine WC.seq ?_
  refine WC.region ?_
  refine WL.rd rfl rfl rfl (Rd.assign rfl rfl) ?_
  refine WL.nil ?_
  refine thenQ.normal ?_
  refine WC.seq ?_
  refine WC.seq ?_
  refine WC.region ?_
  refine WL.rd rfl rfl rfl (Rd.move rfl rfl) ?_
  refine WL.rd rfl rfl rfl (Rd.peqN rfl Tryd.underlying25 rfl rfl) ?_
  refine WL.nil ?_
  refine thenQ.normal ?_
  first | refine WC.ite rfl (fun hc1 => ?_) (fun hc1 => ?_) | refine WC.cond rfl (fun hc1 => ?_) (fun hc1 => ?_)
  · skip
    simp at hc1
  · skip
    refine WC.skip ?_
    refine thenQ.normal ?_
    refine WC.seq ?_
    refine WC.seq ?_
    refine WC.region ?_
    refine WL.rd rfl rfl rfl (Rd.move rfl rfl) ?_
    refine WL.op rfl ?_
    refine OpW.call rfl rfl (by repeat (first | exact Evs.nil | apply Evs.cons rfl)) (by kernel_rfl) rfl rfl rfl ?_
    refine step_spec ok (by omega) hv hkeep ?_; intro V1 hv1 hkv1
    refine WL.rd rfl rfl rfl (Rd.assign rfl rfl) ?_
    refine WL.nil ?_
    refine thenQ.normal ?_
    refine WC.seq ?_
    refine WC.region ?_
    refine WL.rd rfl rfl rfl (Rd.move rfl rfl) ?_
    refine WL.rd rfl rfl rfl (Rd.neq rfl rfl rfl) ?_
    refine WL.nil ?_
    refine thenQ.normal ?_
    first | refine WC.ite rfl (fun hc2 => ?_) (fun hc2 => ?_) | refine WC.cond rfl (fun hc2 => ?_) (fun hc2 => ?_)
    · skip
      refine WC.seq ?_
      refine WC.region ?_
      refine WL.rd rfl rfl rfl (Rd.move rfl rfl) ?_
      refine WL.rd rfl rfl rfl (Rd.assign rfl rfl) ?_
      refine WL.nil ?_
      refine thenQ.normal ?_
      -- ret_1
      refine WC.ret (Ret.one Tryd.results45 rfl ?_)
      unfold syncS at hk
      rw [if_neg (by omega)] at hk
      exact hk V1 hv1 hkv1
    · skip
      unfold syncS at hk
      rw [if_pos (by omega)] at hk
      rw [← hs2] at hk hsl2 hv1
      rw [← hs2]
      refine WC.skip ?_
      refine thenQ.normal ?_
      refine WC.seq ?_
      refine WC.seq ?_
      refine WC.region ?_
      refine WL.rd rfl rfl rfl (Rd.move rfl rfl) ?_
      refine WL.rd rfl rfl rfl (Rd.nilc rfl rfl) ?_
      refine WL.rd rfl rfl rfl ((by first | exact Rd.field rfl F81_1 rfl rfl | exact Rd.fieldE rfl F81_1 rfl (by repeat (first | assumption | exact List.mem_cons_self | refine List.mem_cons_of_mem _ ?_)) (by omega) | exact Rd.fieldA rfl F81_1 rfl (by repeat (first | assumption | exact List.mem_cons_self | refine List.mem_cons_of_mem _ ?_)) (by omega))) ?_
      refine WL.rd rfl rfl rfl (Rd.row1 (off := 1) rfl C73 rfl List.mem_cons_self rfl) ?_
      refine WL.rd rfl rfl rfl (Rd.lenA (enc := encW) rfl rfl Tryd.underlying73 (xs := s2.since) (e' := 105) (by repeat (first | assumption | exact List.mem_cons_self | refine List.mem_cons_of_mem _ ?_))) ?_
      refine WL.rd rfl rfl rfl (Rd.move rfl rfl) ?_
      refine WL.nil ?_
      refine thenQ.normal ?_
      refine WC.block ?_
      refine WC.pick [18, 0, 16, 17] (by repeat (first | exact Pick.nil | apply Pick.cons rfl)) ?_
      refine WC.loop1 1 (fun (k : Nat) => [(18, .int .i64 (k : Int))]) (fun (k : Nat) => dRow d V1 s2 :: accC 9 1 (one vs) V1.lv (failN s2.since [1] s2.lasts k) :: accC 105 2 encW V1.sv s2.since :: cutC V1.cb s2.left V1.kv :: O) (fun (k : Nat) => k ≤ s2.since.length) (fun (k : Nat) => s2.since.length - k) (0) (by repeat (first | exact Split.zero | apply Split.succ)) ?hinv1 (by repeat (first | exact Sub.nil | refine Sub.cons rfl (by first | rfl | (congr 1; omega) | assumption) ?_)) (fun _ h => h) ?_
      case hinv1 =>
        exact Nat.zero_le _
      intro k
      rintro i1
      refine WC.seq ?_
      refine WC.region ?_
      refine WL.rd rfl rfl rfl (Rd.lss rfl rfl rfl) ?_
      refine WL.nil ?_
      refine thenQ.normal ?_
      refine WC.seq ?_
      first | refine WC.ite rfl (fun hc3 => ?_) (fun hc3 => ?_) | refine WC.cond rfl (fun hc3 => ?_) (fun hc3 => ?_)
      · skip
        have hatk := hat k (by omega)
        have hfl := failN_len s2.since [1] s2.lasts k
        have hfs := failN_succ s2.since [1] s2.lasts k
        rw [if_pos (odd_one k)] at hfs
        refine WC.skip ?_
        refine thenQ.normal ?_
        refine WC.seq ?_
        refine WC.block ?_
        refine WC.seq ?_
        refine WC.region ?_
        refine WL.rd rfl rfl rfl (Rd.idxA (k := k) rfl S73 rfl rfl rfl (enc := encW) (xs := s2.since) (e' := 105) (by repeat (first | assumption | exact List.mem_cons_self | refine List.mem_cons_of_mem _ ?_)) (by omega)) ?_
        refine WL.rd rfl rfl rfl (Rd.getSA (k := k) (cs := [.int .i64 (s2.since[k]!.1 : Int), vs s2.since[k]!.2]) (enc := encW) (xs := s2.since) (e' := 105) rfl G105 rfl (by repeat (first | assumption | exact List.mem_cons_self | refine List.mem_cons_of_mem _ ?_)) (fun _ => rfl) (get!_of_lt (by omega)) (by repeat (first | exact NF.nil | apply NF.cons))) ?_
        refine WL.op rfl ?_
        refine OpW.alloc rfl I105 rfl (by repeat (first | exact NF.nil | apply NF.cons)) rfl rfl ?_; intro b5
        refine WL.op rfl ?_
        refine OpW.storeS rfl G105 rfl rfl (by repeat (first | exact NF.nil | apply NF.cons)) (by repeat (first | assumption | exact Take.head _ | apply Take.tail)) rfl rfl (by repeat (first | exact NF.nil | apply NF.cons)) rfl ?_
        refine WL.nil ?_
        refine thenQ.normal ?_
        refine WC.tail 9 mixed (by kernel_rfl) ?_
        refine WS.rd rfl rfl rfl (Rd.move rfl rfl) ?_
        refine WS.rd rfl rfl rfl (Rd.nilc rfl rfl) ?_
        refine WS.rd rfl rfl rfl ((by first | exact Rd.field rfl F81_0 rfl rfl | exact Rd.fieldE rfl F81_0 rfl (by repeat (first | assumption | exact List.mem_cons_self | refine List.mem_cons_of_mem _ ?_)) (by omega) | exact Rd.fieldA rfl F81_0 rfl (by repeat (first | assumption | exact List.mem_cons_self | refine List.mem_cons_of_mem _ ?_)) (by omega))) ?_
        refine WS.rd rfl rfl rfl (Rd.row1 (off := 0) rfl C48 rfl (by repeat (first | assumption | exact List.mem_cons_self | refine List.mem_cons_of_mem _ ?_)) rfl) ?_
        refine WS.rd rfl rfl rfl ((by first | exact Rd.field rfl F105_0 rfl rfl | exact Rd.fieldE rfl F105_0 rfl (by repeat (first | assumption | exact List.mem_cons_self | refine List.mem_cons_of_mem _ ?_)) (by omega) | exact Rd.fieldA rfl F105_0 rfl (by repeat (first | assumption | exact List.mem_cons_self | refine List.mem_cons_of_mem _ ?_)) (by omega))) ?_
        refine WS.rd rfl rfl rfl (Rd.row1 (off := 0) rfl C3 rfl List.mem_cons_self rfl) ?_
        refine WS.rd rfl rfl rfl ((by first | exact Rd.field rfl F105_1 rfl rfl | exact Rd.fieldE rfl F105_1 rfl (by repeat (first | assumption | exact List.mem_cons_self | refine List.mem_cons_of_mem _ ?_)) (by omega) | exact Rd.fieldA rfl F105_1 rfl (by repeat (first | assumption | exact List.mem_cons_self | refine List.mem_cons_of_mem _ ?_)) (by omega))) ?_
        refine WS.rd rfl rfl rfl (Rd.row1 (off := 1) rfl C9 rfl List.mem_cons_self rfl) ?_
        refine WS.rd rfl rfl rfl (Rd.idxA1 (k := s2.since[k]!.1) rfl S48 rfl rfl rfl (enc := one vs) (xs := failN s2.since [1] s2.lasts k) (e' := 9) (by repeat (first | assumption | exact List.mem_cons_self | refine List.mem_cons_of_mem _ ?_)) (by omega)) ?_
        refine WS.switch ?_
        refine WL.op rfl ?_
        refine OpW.storeAcc (k := s2.since[k]!.1) (a := s2.since[k]!.2) (g := vs) rfl Z9 rfl rfl rfl rfl (by repeat (first | assumption | exact Take.head _ | apply Take.tail)) (by omega) rfl ?_
        refine WL.nil ?_
        refine blockQ.normal ?_
        refine thenQ.normal ?_
        refine WC.region ?_
        refine WL.rd rfl rfl rfl (Rd.add rfl rfl rfl (by omega)) ?_
        refine WL.rd rfl rfl rfl (Rd.move rfl rfl) ?_
        refine WL.nil ?_
        -- next1_1
        exact loopQ1.mk (k + 1) (by omega) (by omega) (by repeat (first | exact Sub.nil | refine Sub.cons rfl (by first | rfl | (congr 1; omega) | assumption) ?_)) (fun w h => by rw [hfs]; exact (fun w h => OwnL.sat (by repeat (first | exact OwnL.refl | apply OwnL.take (by repeat (first | exact Take.head _ | apply Take.tail)) | apply OwnL.drop)) w (h.thin (SubL.mem (by repeat (first | exact SubL.refl | refine SubL.cons (by repeat (first | assumption | exact List.mem_cons_self | refine List.mem_cons_of_mem _ ?_)) ?_ | refine SubL.skip ?_))))) w h)
      · skip
        refine WC.exit ?_
        refine thenQ.exit ?_
        refine loopQ1.exit ?_
        refine blockQ.exit ?_
        refine thenQ.normal ?_
        refine WC.seq ?_
        refine WC.region ?_
        refine WL.rd rfl rfl rfl (Rd.move rfl rfl) ?_
        refine WL.rd rfl rfl rfl (Rd.nilc rfl rfl) ?_
        refine WL.rd rfl rfl rfl ((by first | exact Rd.field rfl F81_1 rfl rfl | exact Rd.fieldE rfl F81_1 rfl (by repeat (first | assumption | exact List.mem_cons_self | refine List.mem_cons_of_mem _ ?_)) (by omega) | exact Rd.fieldA rfl F81_1 rfl (by repeat (first | assumption | exact List.mem_cons_self | refine List.mem_cons_of_mem _ ?_)) (by omega))) ?_
        refine WL.op rfl ?_
        refine OpW.store1 rfl Z73 rfl rfl (by first | exact ⟨rfl, rfl⟩ | assumption) (by repeat (first | assumption | exact Take.head _ | apply Take.tail)) (by first | (simp; done) | omega | exact of_decide_eq_true rfl | (simp only [List.length_append, List.length_replicate, List.length_map, List.length_set]; omega)) rfl ?_
        obtain rfl : k = s2.since.length := by omega
        refine WL.heap (R' := R) (O' := dO d ⟨V1.lv, .slice none 0 0, V1.kv, V1.cb⟩ { s2 with lasts := failN s2.since [1] s2.lasts s2.since.length, since := [] } O) (fun w h => by
          have g2 := h.accNil (α := Nat × List UInt8) (e := 105) (size := 2) (enc := encW)
          exact (fun w h => OwnL.sat (by repeat (first | exact OwnL.refl | apply OwnL.take (by repeat (first | exact Take.head _ | apply Take.tail)) | apply OwnL.drop)) w (h.thin (SubL.mem (by repeat (first | exact SubL.refl | refine SubL.cons (by repeat (first | assumption | exact List.mem_cons_self | refine List.mem_cons_of_mem _ ?_)) ?_ | refine SubL.skip ?_))))) w g2) ?_
        refine WL.nil ?_
        refine thenQ.normal ?_
        refine WC.seq ?_
        refine WC.region ?_
        refine WL.rd rfl rfl rfl (Rd.assign rfl rfl) ?_
        refine WL.nil ?_
        refine thenQ.normal ?_
        -- ret_2
        refine WC.ret (Ret.one Tryd.results45 rfl ?_)
        rw [show stepE s = 0 from by omega] at hk
        exact hk ⟨V1.lv, .slice none 0 0, V1.kv, V1.cb⟩ ⟨hv1.cb, hv1.lv, OneV.sl, hv1.kv⟩ hkv1
set_option maxRecDepth 20000 in
theorem sync_nil (hk : POST (.int .i64 1) R O) : Fun Tryd.prog 45 #[.pointer none] R O POST := by
  refine Fun.enter (l := [_]) Tryd.func45 rfl Tryd.ntmps45 rfl (L0 := [(0, _)]) rfl ?_
  refine WC.seq ?_
  refine WC.region ?_
  refine WL.rd rfl rfl rfl (Rd.assign rfl rfl) ?_
  refine WL.nil ?_
  refine thenQ.normal ?_
  refine WC.seq ?_
  refine WC.seq ?_
  refine WC.region ?_
  refine WL.rd rfl rfl rfl (Rd.move rfl rfl) ?_
  refine WL.rd rfl rfl rfl (Rd.peqN rfl Tryd.underlying25 rfl rfl) ?_
  refine WL.nil ?_
  refine thenQ.normal ?_
  first | refine WC.ite rfl (fun hc1 => ?_) (fun hc1 => ?_) | refine WC.cond rfl (fun hc1 => ?_) (fun hc1 => ?_)
  · skip
    refine WC.seq ?_
    refine WC.region ?_
    refine WL.rd rfl rfl rfl (Rd.assign rfl rfl) ?_
    refine WL.nil ?_
    refine thenQ.normal ?_
    -- ret_1
    refine WC.ret (Ret.one Tryd.results45 rfl ?_)
    exact hk
  · skip
    simp at hc1
set_option maxRecDepth 20000 in
theorem clonei_spec {xs : List Int} {av : Value} (ha : SlE (one vi) av xs ∈ R) (hb : xs.length ≤ 17592186043904) (hk : ∀ v, OneV v → POST v R (accC 3 1 (one vi) v xs :: O)) : Fun Tryd.prog 39 #[av] R O POST := by
  refine Fun.know (φ := ∃ a c, av = .slice a xs.length c ∧ (a = none → xs.length = 0)) ha (fun w h => by
    obtain ⟨a, c, h1, _, _, h2, _⟩ := h
    exact ⟨a, c, h1, h2⟩) ?_
  rintro ⟨a, c, rfl, hn⟩
  refine Fun.enter (l := [_]) Tryd.func39 rfl Tryd.ntmps39 rfl (L0 := [(0, _)]) rfl ?_
  refine WC.seq ?_
  refine WC.region ?_
  refine WL.rd rfl rfl rfl (Rd.assign rfl rfl) ?_
  refine WL.nil ?_
  refine thenQ.normal ?_
  refine WC.seq ?_
  refine WC.seq ?_
  refine WC.region ?_
  refine WL.rd rfl rfl rfl (Rd.move rfl rfl) ?_
  refine WL.rd rfl rfl rfl (Rd.eqNil' rfl Tryd.underlying39 rfl rfl) ?_
  refine WL.nil ?_
  refine thenQ.normal ?_
  first | refine WC.ite rfl (fun hc1 => ?_) (fun hc1 => ?_) | refine WC.cond rfl (fun hc1 => ?_) (fun hc1 => ?_)
  · skip
    refine WC.seq ?_
    refine WC.region ?_
    refine WL.rd rfl rfl rfl (Rd.assign rfl rfl) ?_
    refine WL.nil ?_
    refine thenQ.normal ?_
    -- ret_1
    obtain rfl : xs = [] := List.length_eq_zero_iff.1 (hn (by simpa using hc1))
    refine WC.heap (fun w h => h.accNil (α := Int) (e := 3) (size := 1) (enc := one vi)) ?_
    refine WC.ret (Ret.one Tryd.results39 rfl ?_)
    exact hk _ OneV.sl
  · skip
    refine WC.skip ?_
    refine thenQ.normal ?_
    refine WC.seq ?_
    refine WC.region ?_
    refine WL.op rfl ?_
    refine OpW.buildSl (ps := []) rfl S39 (by repeat (first | exact Evs.nil | apply Evs.cons rfl)) rfl rfl (by repeat (first | exact CellsOf.nil | apply CellsOf.cons rfl)) (by kernel_rfl) rfl rfl rfl ?_; intro b5
    refine WL.rd rfl rfl rfl (Rd.move rfl rfl) ?_
    refine WL.heap (fun w h => h.accRow (α := Int) (enc := one vi) (xs := []) (by repeat (first | assumption | exact Take.head _ | apply Take.tail)) rfl rfl (fun _ => rfl) (Nat.zero_le _)) ?_
    refine WL.op rfl ?_
    refine OpW.appendE (enc := one vi) rfl S39 Tryd.underlying39 rfl rfl (by repeat (first | assumption | exact Take.head _ | apply Take.tail)) (by repeat (first | assumption | exact List.mem_cons_self | refine List.mem_cons_of_mem _ ?_)) (by intro x; first | rfl | (cases x; rfl) | (rcases x with ⟨_, _, _⟩; rfl) | (rcases x with ⟨_, _, _, _⟩; rfl)) (by intro x; first | rfl | (cases x; rfl) | (rcases x with ⟨_, _, _⟩; rfl) | (rcases x with ⟨_, _, _, _⟩; rfl)) ⟨by simp only [maxLen, List.length_append, List.length_nil, List.length_cons, List.length_drop, List.length_take, List.length_map]; omega, by first | omega | (simp only [List.length_append, List.length_nil, List.length_cons, List.length_drop, List.length_take, List.length_map]; omega)⟩ rfl rfl ?_; intro v7 hv7
    refine WL.rd rfl rfl rfl (Rd.assign rfl rfl) ?_
    refine WL.nil ?_
    refine thenQ.normal ?_
    -- ret_2
    refine WC.ret (Ret.one Tryd.results39 rfl ?_)
    exact hk _ hv7
set_option maxRecDepth 20000 in
set_option maxHeartbeats 1000000 in
theorem cut_spec {n : Int} {keep : List Int} {kv : Value} (hv : VOk V s) (hkeep : SlE (one vi) kv keep ∈ R) (hkl : keep.length ≤ 17592186043904)
    (hk : ∀ V', VOk V' (cutS s n keep) → POST (.tuple #[]) (SlE (one vi) V'.kv keep :: R) (dO d V' (cutS s n keep) O)) : Fun Tryd.prog 14 #[dp d, .int .i64 n, kv] R (dO d V s O) POST := by
  refine Fun.enter (l := [_, _, _]) Tryd.func14 rfl Tryd.ntmps14 rfl (L0 := [(0, _), (1, _), (2, _)]) rfl ?_
  refine WC.seq ?_
  refine WC.region ?_
  refine WL.rd rfl rfl rfl (Rd.move rfl rfl) ?_
  refine WL.rd rfl rfl rfl (Rd.pneqN rfl Tryd.underlying25 rfl rfl) ?_
  refine WL.nil ?_
  refine thenQ.normal ?_
  first | refine WC.ite rfl (fun hc1 => ?_) (fun hc1 => ?_) | refine WC.cond rfl (fun hc1 => ?_) (fun hc1 => ?_)
  · skip
    refine WC.region ?_
    refine WL.rd rfl rfl rfl (Rd.move rfl rfl) ?_
    refine WL.rd rfl rfl rfl (Rd.move rfl rfl) ?_
    refine WL.rd rfl rfl rfl (Rd.max2 rfl rfl rfl) ?_
    refine WL.say 10 (u := .int .i64 (((max n 1).toNat : Nat) : Int)) rfl (by congr 1; split <;> omega) ?_
    refine WL.rd rfl rfl rfl (Rd.move rfl rfl) ?_
    refine WL.op rfl ?_
    refine OpW.call rfl rfl (by repeat (first | exact Evs.nil | apply Evs.cons rfl)) (by kernel_rfl) rfl rfl rfl ?_
    refine clonei_spec (xs := keep) hkeep hkl ?_; intro v12 hv12
    refine WL.heap (fun w h => Sat.shareA (Take.head _) h) ?_
    refine WL.rd rfl rfl rfl (Rd.buildN (ps := [(0, _), (1, _)]) (cells := [.int .i64 (((max n 1).toNat : Nat) : Int), v12]) rfl Bs101 I101 rfl (by repeat (first | exact Evs.nil | apply Evs.cons rfl)) (by exact CellsOf.cons rfl (CellsOf.cons hv12.cells CellsOf.nil)) (by apply NFo.mk; repeat (first | exact NF.nil | apply NF.cons))) ?_
    refine WL.op rfl ?_
    refine OpW.box rfl rfl (by repeat (first | exact NF.nil | apply NF.cons)) rfl rfl ?_; intro b14
    refine WL.rd rfl rfl rfl (Rd.nilc rfl rfl) ?_
    refine WL.rd rfl rfl rfl ((by first | exact Rd.field rfl F81_2 rfl rfl | exact Rd.fieldE rfl F81_2 rfl (by repeat (first | assumption | exact List.mem_cons_self | refine List.mem_cons_of_mem _ ?_)) (by omega) | exact Rd.fieldA rfl F81_2 rfl (by repeat (first | assumption | exact List.mem_cons_self | refine List.mem_cons_of_mem _ ?_)) (by omega))) ?_
    refine WL.op rfl ?_
    refine OpW.store1 rfl Z74 rfl rfl (by first | exact ⟨rfl, rfl⟩ | assumption) (by repeat (first | assumption | exact Take.head _ | apply Take.tail)) (by first | (simp; done) | omega | exact of_decide_eq_true rfl | (simp only [List.length_append, List.length_replicate, List.length_map, List.length_set]; omega)) rfl ?_
    refine WL.heap (R' := SlE (one vi) v12 keep :: R) (O' := dO d ⟨V.lv, V.sv, v12, some b14⟩ (cutS s n keep) O) (fun w h => OwnL.sat (by repeat (first | exact OwnL.refl | apply OwnL.take (by repeat (first | exact Take.head _ | apply Take.tail)) | apply OwnL.drop)) w (h.thin (SubL.mem (by repeat (first | exact SubL.refl | refine SubL.cons (by repeat (first | assumption | exact List.mem_cons_self | refine List.mem_cons_of_mem _ ?_)) ?_ | refine SubL.skip ?_))))) ?_
    refine WL.nil ?_
    -- ret_1
    refine Ret.normal (Ret.zero Tryd.results14 ?_)
    exact hk ⟨V.lv, V.sv, v12, some b14⟩ ⟨⟨fun h => (nomatch h), fun h => by exfalso; have h2 : (max n 1).toNat = 0 := h; omega⟩, hv.lv, hv.sv, hv12⟩
  · skip
    simp at hc1
set_option maxRecDepth 20000 in
theorem cut_nil {n : Int} {kv : Value} (hk : POST (.tuple #[]) R O) : Fun Tryd.prog 14 #[.pointer none, .int .i64 n, kv] R O POST := by
  refine Fun.enter (l := [_, _, _]) Tryd.func14 rfl Tryd.ntmps14 rfl (L0 := [(0, _), (1, _), (2, _)]) rfl ?_
  refine WC.seq ?_
  refine WC.region ?_
  refine WL.rd rfl rfl rfl (Rd.move rfl rfl) ?_
  refine WL.rd rfl rfl rfl (Rd.pneqN rfl Tryd.underlying25 rfl rfl) ?_
  refine WL.nil ?_
  refine thenQ.normal ?_
  first | refine WC.ite rfl (fun hc1 => ?_) (fun hc1 => ?_) | refine WC.cond rfl (fun hc1 => ?_) (fun hc1 => ?_)
  · skip
    simp at hc1
  · skip
    refine WC.skip ?_
    -- ret_1
    refine Ret.normal (Ret.zero Tryd.results14 ?_)
    exact hk
set_option maxRecDepth 20000 in
theorem crash_spec {keep : List Int} {kv : Value} (ok : DOk s m) (hm : m ≤ 4294967296) (hv : VOk V s) (hkeep : SlE (one vi) kv keep ∈ R)
    (hk : VOk ⟨V.lv, .slice none 0 0, V.kv, none⟩ (crashS s keep) → POST (.tuple #[]) R (dO d ⟨V.lv, .slice none 0 0, V.kv, none⟩ (crashS s keep) O)) : Fun Tryd.prog 12 #[dp d, kv] R (dO d V s O) POST := by
  refine Fun.enter (l := [_, _]) Tryd.func12 rfl Tryd.ntmps12 rfl (L0 := [(0, _), (1, _)]) rfl ?_
  refine WC.seq ?_
  refine WC.region ?_
  refine WL.rd rfl rfl rfl (Rd.move rfl rfl) ?_
  refine WL.rd rfl rfl rfl (Rd.pneqN rfl Tryd.underlying25 rfl rfl) ?_
  refine WL.nil ?_
  refine thenQ.normal ?_
  first | refine WC.ite rfl (fun hc1 => ?_) (fun hc1 => ?_) | refine WC.cond rfl (fun hc1 => ?_) (fun hc1 => ?_)
  · skip
    refine WC.seq ?_
    refine WC.region ?_
    refine WL.rd rfl rfl rfl (Rd.move rfl rfl) ?_
    refine WL.rd rfl rfl rfl (Rd.move rfl rfl) ?_
    refine WL.op rfl ?_
    refine OpW.call rfl rfl (by repeat (first | exact Evs.nil | apply Evs.cons rfl)) (by kernel_rfl) rfl rfl rfl ?_
    refine fail_spec ok hm hv.lv hv.kv hkeep ?_; intro hv8
    refine WL.nil ?_
    refine thenQ.normal ?_
    refine WC.region ?_
    refine WL.rd rfl rfl rfl (Rd.move rfl rfl) ?_
    refine WL.rd rfl rfl rfl (Rd.nilc rfl rfl) ?_
    refine WL.rd rfl rfl rfl ((by first | exact Rd.field rfl F81_3 rfl rfl | exact Rd.fieldE rfl F81_3 rfl (by repeat (first | assumption | exact List.mem_cons_self | refine List.mem_cons_of_mem _ ?_)) (by omega) | exact Rd.fieldA rfl F81_3 rfl (by repeat (first | assumption | exact List.mem_cons_self | refine List.mem_cons_of_mem _ ?_)) (by omega))) ?_
    refine WL.op rfl ?_
    refine OpW.store1 rfl Z4 rfl rfl (by first | exact ⟨rfl, rfl⟩ | assumption) (by repeat (first | assumption | exact Take.head _ | apply Take.tail)) (by first | (simp; done) | omega | exact of_decide_eq_true rfl | (simp only [List.length_append, List.length_replicate, List.length_map, List.length_set]; omega)) rfl ?_
    refine WL.heap (R' := R) (O' := dO d ⟨V.lv, .slice none 0 0, V.kv, none⟩ (crashS s keep) O) (fun w h => OwnL.sat (by repeat (first | exact OwnL.refl | apply OwnL.take (by repeat (first | exact Take.head _ | apply Take.tail)) | apply OwnL.drop)) w (h.thin (SubL.mem (by repeat (first | exact SubL.refl | refine SubL.cons (by repeat (first | assumption | exact List.mem_cons_self | refine List.mem_cons_of_mem _ ?_)) ?_ | refine SubL.skip ?_))))) ?_
    refine WL.nil ?_
    -- ret_1
    refine Ret.normal (Ret.zero Tryd.results12 ?_)
    exact hk ⟨⟨fun _ => rfl, fun _ => rfl⟩, hv.lv, OneV.sl, hv.kv⟩
  · skip
    simp at hc1
set_option maxRecDepth 20000 in
theorem crash_nil {kv : Value} (hk : POST (.tuple #[]) R O) : Fun Tryd.prog 12 #[.pointer none, kv] R O POST := by
  refine Fun.enter (l := [_, _]) Tryd.func12 rfl Tryd.ntmps12 rfl (L0 := [(0, _), (1, _)]) rfl ?_
  refine WC.seq ?_
  refine WC.region ?_
  refine WL.rd rfl rfl rfl (Rd.move rfl rfl) ?_
  refine WL.rd rfl rfl rfl (Rd.pneqN rfl Tryd.underlying25 rfl rfl) ?_
  refine WL.nil ?_
  refine thenQ.normal ?_
  first | refine WC.ite rfl (fun hc1 => ?_) (fun hc1 => ?_) | refine WC.cond rfl (fun hc1 => ?_) (fun hc1 => ?_)
  · skip
    simp at hc1
  · skip
    refine WC.skip ?_
    -- ret_1
    refine Ret.normal (Ret.zero Tryd.results12 ?_)
    exact hk
end
end Go.Proofs.YtaalegffcjbglaaDoor
