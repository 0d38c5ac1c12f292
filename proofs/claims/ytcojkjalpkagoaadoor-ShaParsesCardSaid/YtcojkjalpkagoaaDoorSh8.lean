/-
  Layer 2: what any text is as digits.
-/
import Derived.Test.YtcojkjalpkagoaaDoorSh6
namespace Go.Proofs.YtcojkjalpkagoaaDoor
open Go Go.SL

/-- The text, as far as it was read, is digits. -/
theorem parses_step {s : List UInt8} {i : Nat} (h : i < s.length) : (decide (s.length = 64 ∧ Digs (s.take (i + 1)))) = (decide (s.length = 64 ∧ Digs (s.take i)) && decide (0 ≤ val s[i]!)) := by
  have e : (s.length = 64 ∧ Digs (s.take (i + 1))) ↔ (s.length = 64 ∧ Digs (s.take i)) ∧ 0 ≤ val s[i]! := by
    rw [List.take_add_one, get!_of_lt h]
    simp only [Digs, Option.toList_some, List.mem_append, List.mem_singleton]
    constructor
    · rintro ⟨a, b⟩; exact ⟨⟨a, fun c hc => b c (.inl hc)⟩, b _ (.inr rfl)⟩
    · rintro ⟨⟨a, b⟩, c⟩; exact ⟨a, fun d hd => hd.elim (b d) (fun e => e ▸ c)⟩
  rw [decide_eq_decide.2 e, Bool.decide_and]
theorem parses_val (c : UInt8) : decide (0 ≤ val c) = decide ((48 ≤ c.toNat ∧ c.toNat ≤ 57) ∨ (97 ≤ c.toNat ∧ c.toNat ≤ 102)) := by
  rcases val_cases c with h | h
  · rw [decide_eq_false (by omega), decide_eq_false h.2]
  · rw [decide_eq_true (by omega), decide_eq_true h.2.2.2]
theorem parses_spec {R : List RO} {O : List Own} {POST : Value → List RO → List Own → Prop} {s : List UInt8} (hr : rootsR ∈ R) (hs : s.length ≤ 140737488351232) (hk : POST (.bool true) R O) : Fun Tryd.prog 7 #[vs s] R O POST := by
  refine Fun.enter (l := [_]) Tryd.func7 rfl Tryd.ntmps7 rfl (L0 := [(0, _)]) rfl ?_
  refine WC.seq ?_
  refine WC.region ?_
  refine WL.rd rfl rfl rfl (Rd.assign rfl rfl) ?_
  refine WL.nil ?_
  refine thenQ.normal ?_
  refine WC.seq ?_
  refine WC.seq ?_
  refine WC.region ?_
  refine WL.op rfl ?_
  refine OpW.call rfl rfl (by repeat (first | exact Evs.nil | apply Evs.cons rfl)) (by kernel_rfl) rfl rfl rfl ?_
  refine speaks_spec hr ?_
  refine WL.rd rfl rfl rfl ((by first | exact Rd.notd rfl rfl | exact Rd.not rfl rfl)) ?_
  refine WL.nil ?_
  refine thenQ.normal ?_
  first | refine WC.ite rfl (fun hc1 => ?_) (fun hc1 => ?_) | refine WC.cond rfl (fun hc1 => ?_) (fun hc1 => ?_)
  · skip
    cases hc1
  · skip
    refine WC.skip ?_
    refine thenQ.normal ?_
    refine WC.seq ?_
    refine WC.region ?_
    refine WL.rd rfl rfl rfl (Rd.move rfl rfl) ?_
    refine WL.op rfl ?_
    refine OpW.call rfl rfl (by repeat (first | exact Evs.nil | apply Evs.cons rfl)) (by kernel_rfl) rfl rfl rfl ?_
    refine parse_spec ?_
    refine WL.rd rfl rfl rfl (Rd.move rfl rfl) ?_
    refine WL.rd rfl rfl rfl (Rd.extract rfl rfl rfl) ?_
    refine WL.rd rfl rfl rfl (Rd.extract rfl rfl rfl) ?_
    refine WL.rd rfl rfl rfl (Rd.assign rfl rfl) ?_
    refine WL.rd rfl rfl rfl (Rd.assign rfl rfl) ?_
    refine WL.nil ?_
    refine thenQ.normal ?_
    refine WC.seq ?_
    refine WC.region ?_
    refine WL.rd rfl rfl rfl (Rd.move rfl rfl) ?_
    refine WL.rd rfl rfl rfl (Rd.slen (ts := #[]) (ty := 0) rfl rfl Tryd.underlying9) ?_
    refine WL.rd rfl rfl rfl (Rd.eql rfl rfl rfl) ?_
    refine WL.say 16 (u := .bool (decide (s.length = 64 ∧ Digs (s.take 0)))) rfl (by congr 1; rw [decide_eq_decide]; simp [Digs]; omega) ?_
    refine WL.rd rfl rfl rfl (Rd.assign rfl rfl) ?_
    refine WL.nil ?_
    refine thenQ.normal ?_
    refine WC.seq ?_
    refine WC.seq ?_
    refine WC.region ?_
    refine WL.rd rfl rfl rfl (Rd.assign rfl rfl) ?_
    refine WL.nil ?_
    refine thenQ.normal ?_
    refine WC.block ?_
    refine WC.pick [6, 5, 0, 3, 4] (by repeat (first | exact Pick.nil | apply Pick.cons rfl)) ?_
    refine WC.loop1o 2 (fun (i : Nat) => [(6, .int .i64 (i : Int)), (5, .bool (decide (s.length = 64 ∧ Digs (s.take i))))]) (fun (i : Nat) => i ≤ s.length ∧ i ≤ 64) (fun (i : Nat) => 64 - i) (0) (by repeat (first | exact Split.zero | apply Split.succ)) ?hinv1 (by repeat (first | exact Sub.nil | refine Sub.cons rfl (by first | rfl | (congr 1; omega) | assumption) ?_)) (fun _ h => h) ?_
    case hinv1 =>
      exact ⟨Nat.zero_le _, by omega⟩
    intro i
    rintro ⟨i1, i2⟩
    refine WC.seq ?_
    refine WC.pick [0, 3, 4, 5, 6] (by repeat (first | exact Pick.nil | apply Pick.cons rfl)) ?_
    refine WC.val 24 (.bool (decide (i < s.length ∧ i < 64))) ?_ ?_
    · skip
      refine WC.region ?_
      refine WL.rd rfl rfl rfl (Rd.move rfl rfl) ?_
      refine WL.rd rfl rfl rfl (Rd.move rfl rfl) ?_
      refine WL.rd rfl rfl rfl (Rd.slen (ts := #[]) (ty := 0) rfl rfl Tryd.underlying9) ?_
      refine WL.rd rfl rfl rfl (Rd.lss rfl rfl rfl) ?_
      refine WL.rd rfl rfl rfl (Rd.move rfl rfl) ?_
      refine WL.case 21 rfl (fun hg21 => ?_) (fun hg21 => ?_)
      · skip
        refine WL.rd_yes rfl rfl rfl rfl rfl rfl (Rd.move rfl rfl) ?_
        refine WL.rd_yes rfl rfl rfl rfl rfl rfl (Rd.lss rfl rfl rfl) ?_
        refine WL.rd rfl rfl rfl (Rd.pick_t rfl rfl rfl) ?_
        refine WL.nil ?_
        exact ⟨by repeat (first | exact Sub.nil | refine Sub.cons rfl (by first | rfl | (first | rfl | exact vb (by omega) | exact vb_t (by omega) | exact vb_f (by omega) | (simp [*]; done) | (simp_all; done))) ?_), by first | exact (fun _ h => h.thin (SubL.mem (by repeat (first | exact SubL.refl | refine SubL.cons (by repeat (first | assumption | exact List.mem_cons_self | refine List.mem_cons_of_mem _ ?_)) ?_ | refine SubL.skip ?_)))) | exact (fun w h => OwnL.sat (by repeat (first | exact OwnL.refl | apply OwnL.take (by repeat (first | exact Take.head _ | apply Take.tail)) | apply OwnL.drop)) w (h.thin (SubL.mem (by repeat (first | exact SubL.refl | refine SubL.cons (by repeat (first | assumption | exact List.mem_cons_self | refine List.mem_cons_of_mem _ ?_)) ?_ | refine SubL.skip ?_)))))⟩
      · skip
        refine WL.no rfl rfl rfl rfl rfl rfl ?_
        refine WL.no rfl rfl rfl rfl rfl rfl ?_
        refine WL.rd rfl rfl rfl (Rd.pick_f rfl rfl rfl) ?_
        refine WL.nil ?_
        exact ⟨by repeat (first | exact Sub.nil | refine Sub.cons rfl (by first | rfl | (first | rfl | exact vb (by omega) | exact vb_t (by omega) | exact vb_f (by omega) | (simp [*]; done) | (simp_all; done))) ?_), by first | exact (fun _ h => h.thin (SubL.mem (by repeat (first | exact SubL.refl | refine SubL.cons (by repeat (first | assumption | exact List.mem_cons_self | refine List.mem_cons_of_mem _ ?_)) ?_ | refine SubL.skip ?_)))) | exact (fun w h => OwnL.sat (by repeat (first | exact OwnL.refl | apply OwnL.take (by repeat (first | exact Take.head _ | apply Take.tail)) | apply OwnL.drop)) w (h.thin (SubL.mem (by repeat (first | exact SubL.refl | refine SubL.cons (by repeat (first | assumption | exact List.mem_cons_self | refine List.mem_cons_of_mem _ ?_)) ?_ | refine SubL.skip ?_)))))⟩
    · skip
      first | refine WC.ite rfl (fun hc2 => ?_) (fun hc2 => ?_) | refine WC.cond rfl (fun hc2 => ?_) (fun hc2 => ?_)
      · skip
        refine WC.skip ?_
        refine thenQ.normal ?_
        refine WC.seq ?_
        refine WC.block ?_
        refine WC.region ?_
        refine WL.rd rfl rfl rfl (Rd.move rfl rfl) ?_
        refine WL.rd rfl rfl rfl (Rd.move rfl rfl) ?_
        refine WL.case 28 rfl (fun hg28 => ?_) (fun hg28 => ?_)
        · skip
          refine WL.rd_yes rfl rfl rfl rfl rfl rfl (Rd.move rfl rfl) ?_
          refine WL.rd_yes rfl rfl rfl rfl rfl rfl (Rd.move rfl rfl) ?_
          refine WL.rd_yes rfl rfl rfl rfl rfl rfl (Rd.sidx (k := i) rfl Tryd.underlying9 rfl rfl (by omega) (by first | assumption | rfl | exact get!_of_lt (by omega))) ?_
          refine WL.rd_yes rfl rfl rfl rfl rfl rfl (Rd.geq rfl rfl rfl) ?_
          refine WL.rd_yes rfl rfl rfl rfl rfl rfl (Rd.move rfl rfl) ?_
          refine WL.case 33 rfl (fun hg33 => ?_) (fun hg33 => ?_)
          · skip
            refine WL.rd_yes rfl rfl rfl rfl rfl rfl (Rd.move rfl rfl) ?_
            refine WL.rd_yes rfl rfl rfl rfl rfl rfl (Rd.move rfl rfl) ?_
            refine WL.rd_yes rfl rfl rfl rfl rfl rfl (Rd.sidx (k := i) rfl Tryd.underlying9 rfl rfl (by omega) (by first | assumption | rfl | exact get!_of_lt (by omega))) ?_
            refine WL.rd_yes rfl rfl rfl rfl rfl rfl (Rd.leq rfl rfl rfl) ?_
            refine WL.rd_yes rfl rfl rfl rfl rfl rfl (Rd.pick_t rfl rfl rfl) ?_
            refine WL.rd_yes rfl rfl rfl rfl rfl rfl (Rd.move rfl rfl) ?_
            refine WL.case 39 rfl (fun hg39 => ?_) (fun hg39 => ?_)
            · skip
              refine WL.no rfl rfl rfl rfl rfl rfl ?_
              refine WL.no rfl rfl rfl rfl rfl rfl ?_
              refine WL.no rfl rfl rfl rfl rfl rfl ?_
              refine WL.no rfl rfl rfl rfl rfl rfl ?_
              refine WL.no rfl rfl rfl rfl rfl rfl ?_
              refine WL.noU rfl rfl rfl rfl rfl rfl ?_
              refine WL.noU rfl rfl rfl rfl rfl rfl ?_
              refine WL.noU rfl rfl rfl rfl rfl rfl ?_
              refine WL.noU rfl rfl rfl rfl rfl rfl ?_
              refine WL.no rfl rfl rfl rfl rfl rfl ?_
              refine WL.rd_yes rfl rfl rfl rfl rfl rfl (Rd.pick_t rfl rfl rfl) ?_
              refine WL.rd rfl rfl rfl (Rd.pick_t rfl rfl rfl) ?_
              refine WL.rd rfl rfl rfl (Rd.assign rfl rfl) ?_
              refine WL.nil ?_
              refine blockQ.normal ?_
              refine thenQ.normal ?_
              refine WC.region ?_
              refine WL.rd rfl rfl rfl (Rd.move rfl rfl) ?_
              refine WL.rd rfl rfl rfl (Rd.add rfl rfl rfl (by omega)) ?_
              refine WL.rd rfl rfl rfl (Rd.assign rfl rfl) ?_
              refine WL.nil ?_
              -- next1_1
              exact loopQ1.mk (i + 1) ⟨by omega, by omega⟩ (by omega) (by
              have hp := parses_step (s := s) (i := i) (by omega)
              rw [parses_val] at hp
              repeat (first | exact Sub.nil | refine Sub.cons rfl (by first | rfl | (rw [hp]; congr 1; first
                | (rw [decide_eq_true (p := s.length = 64 ∧ Digs (s.take i)) (by assumption), decide_eq_true (p := (48 ≤ s[i]!.toNat ∧ s[i]!.toNat ≤ 57) ∨ (97 ≤ s[i]!.toNat ∧ s[i]!.toNat ≤ 102)) (by omega)]; rfl)
                | (rw [decide_eq_true (p := s.length = 64 ∧ Digs (s.take i)) (by assumption), decide_eq_false (p := (48 ≤ s[i]!.toNat ∧ s[i]!.toNat ≤ 57) ∨ (97 ≤ s[i]!.toNat ∧ s[i]!.toNat ≤ 102)) (by omega)]; rfl)
                | (rw [decide_eq_false (p := s.length = 64 ∧ Digs (s.take i)) (by assumption)]; rfl)
                | (rw [decide_eq_true (p := s.length = 64 ∧ Digs (s.take i)) (by assumption), Bool.true_and, decide_eq_decide]; omega))) ?_)) (fun w h => OwnL.sat (by repeat (first | exact OwnL.refl | apply OwnL.take (by repeat (first | exact Take.head _ | apply Take.tail)) | apply OwnL.drop)) w (h.thin (SubL.mem (by repeat (first | exact SubL.refl | refine SubL.cons (by repeat (first | assumption | exact List.mem_cons_self | refine List.mem_cons_of_mem _ ?_)) ?_ | refine SubL.skip ?_)))))
            · skip
              refine WL.rd_yes rfl rfl rfl rfl rfl rfl (Rd.move rfl rfl) ?_
              refine WL.rd_yes rfl rfl rfl rfl rfl rfl (Rd.move rfl rfl) ?_
              refine WL.rd_yes rfl rfl rfl rfl rfl rfl (Rd.sidx (k := i) rfl Tryd.underlying9 rfl rfl (by omega) (by first | assumption | rfl | exact get!_of_lt (by omega))) ?_
              refine WL.rd_yes rfl rfl rfl rfl rfl rfl (Rd.geq rfl rfl rfl) ?_
              refine WL.rd_yes rfl rfl rfl rfl rfl rfl (Rd.move rfl rfl) ?_
              refine WL.case 44 rfl (fun hg44 => ?_) (fun hg44 => ?_)
              · skip
                refine WL.rd_yes rfl rfl rfl rfl rfl rfl (Rd.move rfl rfl) ?_
                refine WL.rd_yes rfl rfl rfl rfl rfl rfl (Rd.move rfl rfl) ?_
                refine WL.rd_yes rfl rfl rfl rfl rfl rfl (Rd.sidx (k := i) rfl Tryd.underlying9 rfl rfl (by omega) (by first | assumption | rfl | exact get!_of_lt (by omega))) ?_
                refine WL.rd_yes rfl rfl rfl rfl rfl rfl (Rd.leq rfl rfl rfl) ?_
                refine WL.rd_yes rfl rfl rfl rfl rfl rfl (Rd.pick_t rfl rfl rfl) ?_
                refine WL.rd_yes rfl rfl rfl rfl rfl rfl (Rd.pick_f rfl rfl rfl) ?_
                refine WL.rd rfl rfl rfl (Rd.pick_t rfl rfl rfl) ?_
                refine WL.rd rfl rfl rfl (Rd.assign rfl rfl) ?_
                refine WL.nil ?_
                refine blockQ.normal ?_
                refine thenQ.normal ?_
                refine WC.region ?_
                refine WL.rd rfl rfl rfl (Rd.move rfl rfl) ?_
                refine WL.rd rfl rfl rfl (Rd.add rfl rfl rfl (by omega)) ?_
                refine WL.rd rfl rfl rfl (Rd.assign rfl rfl) ?_
                refine WL.nil ?_
                -- next1_2
                exact loopQ1.mk (i + 1) ⟨by omega, by omega⟩ (by omega) (by
                have hp := parses_step (s := s) (i := i) (by omega)
                rw [parses_val] at hp
                repeat (first | exact Sub.nil | refine Sub.cons rfl (by first | rfl | (rw [hp]; congr 1; first
                  | (rw [decide_eq_true (p := s.length = 64 ∧ Digs (s.take i)) (by assumption), decide_eq_true (p := (48 ≤ s[i]!.toNat ∧ s[i]!.toNat ≤ 57) ∨ (97 ≤ s[i]!.toNat ∧ s[i]!.toNat ≤ 102)) (by omega)]; rfl)
                  | (rw [decide_eq_true (p := s.length = 64 ∧ Digs (s.take i)) (by assumption), decide_eq_false (p := (48 ≤ s[i]!.toNat ∧ s[i]!.toNat ≤ 57) ∨ (97 ≤ s[i]!.toNat ∧ s[i]!.toNat ≤ 102)) (by omega)]; rfl)
                  | (rw [decide_eq_false (p := s.length = 64 ∧ Digs (s.take i)) (by assumption)]; rfl)
                  | (rw [decide_eq_true (p := s.length = 64 ∧ Digs (s.take i)) (by assumption), Bool.true_and, decide_eq_decide]; omega))) ?_)) (fun w h => OwnL.sat (by repeat (first | exact OwnL.refl | apply OwnL.take (by repeat (first | exact Take.head _ | apply Take.tail)) | apply OwnL.drop)) w (h.thin (SubL.mem (by repeat (first | exact SubL.refl | refine SubL.cons (by repeat (first | assumption | exact List.mem_cons_self | refine List.mem_cons_of_mem _ ?_)) ?_ | refine SubL.skip ?_)))))
              · skip
                refine WL.no rfl rfl rfl rfl rfl rfl ?_
                refine WL.no rfl rfl rfl rfl rfl rfl ?_
                refine WL.no rfl rfl rfl rfl rfl rfl ?_
                refine WL.no rfl rfl rfl rfl rfl rfl ?_
                refine WL.rd_yes rfl rfl rfl rfl rfl rfl (Rd.pick_f rfl rfl rfl) ?_
                refine WL.rd_yes rfl rfl rfl rfl rfl rfl (Rd.pick_f rfl rfl rfl) ?_
                refine WL.rd rfl rfl rfl (Rd.pick_t rfl rfl rfl) ?_
                refine WL.rd rfl rfl rfl (Rd.assign rfl rfl) ?_
                refine WL.nil ?_
                refine blockQ.normal ?_
                refine thenQ.normal ?_
                refine WC.region ?_
                refine WL.rd rfl rfl rfl (Rd.move rfl rfl) ?_
                refine WL.rd rfl rfl rfl (Rd.add rfl rfl rfl (by omega)) ?_
                refine WL.rd rfl rfl rfl (Rd.assign rfl rfl) ?_
                refine WL.nil ?_
                -- next1_3
                exact loopQ1.mk (i + 1) ⟨by omega, by omega⟩ (by omega) (by
                have hp := parses_step (s := s) (i := i) (by omega)
                rw [parses_val] at hp
                repeat (first | exact Sub.nil | refine Sub.cons rfl (by first | rfl | (rw [hp]; congr 1; first
                  | (rw [decide_eq_true (p := s.length = 64 ∧ Digs (s.take i)) (by assumption), decide_eq_true (p := (48 ≤ s[i]!.toNat ∧ s[i]!.toNat ≤ 57) ∨ (97 ≤ s[i]!.toNat ∧ s[i]!.toNat ≤ 102)) (by omega)]; rfl)
                  | (rw [decide_eq_true (p := s.length = 64 ∧ Digs (s.take i)) (by assumption), decide_eq_false (p := (48 ≤ s[i]!.toNat ∧ s[i]!.toNat ≤ 57) ∨ (97 ≤ s[i]!.toNat ∧ s[i]!.toNat ≤ 102)) (by omega)]; rfl)
                  | (rw [decide_eq_false (p := s.length = 64 ∧ Digs (s.take i)) (by assumption)]; rfl)
                  | (rw [decide_eq_true (p := s.length = 64 ∧ Digs (s.take i)) (by assumption), Bool.true_and, decide_eq_decide]; omega))) ?_)) (fun w h => OwnL.sat (by repeat (first | exact OwnL.refl | apply OwnL.take (by repeat (first | exact Take.head _ | apply Take.tail)) | apply OwnL.drop)) w (h.thin (SubL.mem (by repeat (first | exact SubL.refl | refine SubL.cons (by repeat (first | assumption | exact List.mem_cons_self | refine List.mem_cons_of_mem _ ?_)) ?_ | refine SubL.skip ?_)))))
          · skip
            refine WL.no rfl rfl rfl rfl rfl rfl ?_
            refine WL.no rfl rfl rfl rfl rfl rfl ?_
            refine WL.no rfl rfl rfl rfl rfl rfl ?_
            refine WL.no rfl rfl rfl rfl rfl rfl ?_
            refine WL.rd_yes rfl rfl rfl rfl rfl rfl (Rd.pick_f rfl rfl rfl) ?_
            refine WL.rd_yes rfl rfl rfl rfl rfl rfl (Rd.move rfl rfl) ?_
            refine WL.rd_yes rfl rfl rfl rfl rfl rfl (Rd.move rfl rfl) ?_
            refine WL.rd_yes rfl rfl rfl rfl rfl rfl (Rd.move rfl rfl) ?_
            refine WL.rd_yes rfl rfl rfl rfl rfl rfl (Rd.sidx (k := i) rfl Tryd.underlying9 rfl rfl (by omega) (by first | assumption | rfl | exact get!_of_lt (by omega))) ?_
            refine WL.rd_yes rfl rfl rfl rfl rfl rfl (Rd.geq rfl rfl rfl) ?_
            refine WL.rd_yes rfl rfl rfl rfl rfl rfl (Rd.move rfl rfl) ?_
            refine WL.case 44 rfl (fun hg44 => ?_) (fun hg44 => ?_)
            · skip
              refine WL.rd_yes rfl rfl rfl rfl rfl rfl (Rd.move rfl rfl) ?_
              refine WL.rd_yes rfl rfl rfl rfl rfl rfl (Rd.move rfl rfl) ?_
              refine WL.rd_yes rfl rfl rfl rfl rfl rfl (Rd.sidx (k := i) rfl Tryd.underlying9 rfl rfl (by omega) (by first | assumption | rfl | exact get!_of_lt (by omega))) ?_
              refine WL.rd_yes rfl rfl rfl rfl rfl rfl (Rd.leq rfl rfl rfl) ?_
              refine WL.rd_yes rfl rfl rfl rfl rfl rfl (Rd.pick_t rfl rfl rfl) ?_
              refine WL.rd_yes rfl rfl rfl rfl rfl rfl (Rd.pick_f rfl rfl rfl) ?_
              refine WL.rd rfl rfl rfl (Rd.pick_t rfl rfl rfl) ?_
              refine WL.rd rfl rfl rfl (Rd.assign rfl rfl) ?_
              refine WL.nil ?_
              refine blockQ.normal ?_
              refine thenQ.normal ?_
              refine WC.region ?_
              refine WL.rd rfl rfl rfl (Rd.move rfl rfl) ?_
              refine WL.rd rfl rfl rfl (Rd.add rfl rfl rfl (by omega)) ?_
              refine WL.rd rfl rfl rfl (Rd.assign rfl rfl) ?_
              refine WL.nil ?_
              -- next1_4
              exact loopQ1.mk (i + 1) ⟨by omega, by omega⟩ (by omega) (by
              have hp := parses_step (s := s) (i := i) (by omega)
              rw [parses_val] at hp
              repeat (first | exact Sub.nil | refine Sub.cons rfl (by first | rfl | (rw [hp]; congr 1; first
                | (rw [decide_eq_true (p := s.length = 64 ∧ Digs (s.take i)) (by assumption), decide_eq_true (p := (48 ≤ s[i]!.toNat ∧ s[i]!.toNat ≤ 57) ∨ (97 ≤ s[i]!.toNat ∧ s[i]!.toNat ≤ 102)) (by omega)]; rfl)
                | (rw [decide_eq_true (p := s.length = 64 ∧ Digs (s.take i)) (by assumption), decide_eq_false (p := (48 ≤ s[i]!.toNat ∧ s[i]!.toNat ≤ 57) ∨ (97 ≤ s[i]!.toNat ∧ s[i]!.toNat ≤ 102)) (by omega)]; rfl)
                | (rw [decide_eq_false (p := s.length = 64 ∧ Digs (s.take i)) (by assumption)]; rfl)
                | (rw [decide_eq_true (p := s.length = 64 ∧ Digs (s.take i)) (by assumption), Bool.true_and, decide_eq_decide]; omega))) ?_)) (fun w h => OwnL.sat (by repeat (first | exact OwnL.refl | apply OwnL.take (by repeat (first | exact Take.head _ | apply Take.tail)) | apply OwnL.drop)) w (h.thin (SubL.mem (by repeat (first | exact SubL.refl | refine SubL.cons (by repeat (first | assumption | exact List.mem_cons_self | refine List.mem_cons_of_mem _ ?_)) ?_ | refine SubL.skip ?_)))))
            · skip
              refine WL.no rfl rfl rfl rfl rfl rfl ?_
              refine WL.no rfl rfl rfl rfl rfl rfl ?_
              refine WL.no rfl rfl rfl rfl rfl rfl ?_
              refine WL.no rfl rfl rfl rfl rfl rfl ?_
              refine WL.rd_yes rfl rfl rfl rfl rfl rfl (Rd.pick_f rfl rfl rfl) ?_
              refine WL.rd_yes rfl rfl rfl rfl rfl rfl (Rd.pick_f rfl rfl rfl) ?_
              refine WL.rd rfl rfl rfl (Rd.pick_t rfl rfl rfl) ?_
              refine WL.rd rfl rfl rfl (Rd.assign rfl rfl) ?_
              refine WL.nil ?_
              refine blockQ.normal ?_
              refine thenQ.normal ?_
              refine WC.region ?_
              refine WL.rd rfl rfl rfl (Rd.move rfl rfl) ?_
              refine WL.rd rfl rfl rfl (Rd.add rfl rfl rfl (by omega)) ?_
              refine WL.rd rfl rfl rfl (Rd.assign rfl rfl) ?_
              refine WL.nil ?_
              -- next1_5
              exact loopQ1.mk (i + 1) ⟨by omega, by omega⟩ (by omega) (by
              have hp := parses_step (s := s) (i := i) (by omega)
              rw [parses_val] at hp
              repeat (first | exact Sub.nil | refine Sub.cons rfl (by first | rfl | (rw [hp]; congr 1; first
                | (rw [decide_eq_true (p := s.length = 64 ∧ Digs (s.take i)) (by assumption), decide_eq_true (p := (48 ≤ s[i]!.toNat ∧ s[i]!.toNat ≤ 57) ∨ (97 ≤ s[i]!.toNat ∧ s[i]!.toNat ≤ 102)) (by omega)]; rfl)
                | (rw [decide_eq_true (p := s.length = 64 ∧ Digs (s.take i)) (by assumption), decide_eq_false (p := (48 ≤ s[i]!.toNat ∧ s[i]!.toNat ≤ 57) ∨ (97 ≤ s[i]!.toNat ∧ s[i]!.toNat ≤ 102)) (by omega)]; rfl)
                | (rw [decide_eq_false (p := s.length = 64 ∧ Digs (s.take i)) (by assumption)]; rfl)
                | (rw [decide_eq_true (p := s.length = 64 ∧ Digs (s.take i)) (by assumption), Bool.true_and, decide_eq_decide]; omega))) ?_)) (fun w h => OwnL.sat (by repeat (first | exact OwnL.refl | apply OwnL.take (by repeat (first | exact Take.head _ | apply Take.tail)) | apply OwnL.drop)) w (h.thin (SubL.mem (by repeat (first | exact SubL.refl | refine SubL.cons (by repeat (first | assumption | exact List.mem_cons_self | refine List.mem_cons_of_mem _ ?_)) ?_ | refine SubL.skip ?_)))))
        · skip
          refine WL.no rfl rfl rfl rfl rfl rfl ?_
          refine WL.no rfl rfl rfl rfl rfl rfl ?_
          refine WL.no rfl rfl rfl rfl rfl rfl ?_
          refine WL.no rfl rfl rfl rfl rfl rfl ?_
          refine WL.no rfl rfl rfl rfl rfl rfl ?_
          refine WL.noU rfl rfl rfl rfl rfl rfl ?_
          refine WL.noU rfl rfl rfl rfl rfl rfl ?_
          refine WL.noU rfl rfl rfl rfl rfl rfl ?_
          refine WL.noU rfl rfl rfl rfl rfl rfl ?_
          refine WL.no rfl rfl rfl rfl rfl rfl ?_
          refine WL.no rfl rfl rfl rfl rfl rfl ?_
          refine WL.noU rfl rfl rfl rfl rfl rfl ?_
          refine WL.noU rfl rfl rfl rfl rfl rfl ?_
          refine WL.noU rfl rfl rfl rfl rfl rfl ?_
          refine WL.noU rfl rfl rfl rfl rfl rfl ?_
          refine WL.noU rfl rfl rfl rfl rfl rfl ?_
          refine WL.noU rfl rfl rfl rfl rfl rfl ?_
          refine WL.noU rfl rfl rfl rfl rfl rfl ?_
          refine WL.noU rfl rfl rfl rfl rfl rfl ?_
          refine WL.noU rfl rfl rfl rfl rfl rfl ?_
          refine WL.noU rfl rfl rfl rfl rfl rfl ?_
          refine WL.no rfl rfl rfl rfl rfl rfl ?_
          refine WL.rd rfl rfl rfl (Rd.pick_f rfl rfl rfl) ?_
          refine WL.rd rfl rfl rfl (Rd.assign rfl rfl) ?_
          refine WL.nil ?_
          refine blockQ.normal ?_
          refine thenQ.normal ?_
          refine WC.region ?_
          refine WL.rd rfl rfl rfl (Rd.move rfl rfl) ?_
          refine WL.rd rfl rfl rfl (Rd.add rfl rfl rfl (by omega)) ?_
          refine WL.rd rfl rfl rfl (Rd.assign rfl rfl) ?_
          refine WL.nil ?_
          -- next1_6
          exact loopQ1.mk (i + 1) ⟨by omega, by omega⟩ (by omega) (by
          have hp := parses_step (s := s) (i := i) (by omega)
          rw [parses_val] at hp
          repeat (first | exact Sub.nil | refine Sub.cons rfl (by first | rfl | (rw [hp]; congr 1; first
            | (rw [decide_eq_true (p := s.length = 64 ∧ Digs (s.take i)) (by assumption), decide_eq_true (p := (48 ≤ s[i]!.toNat ∧ s[i]!.toNat ≤ 57) ∨ (97 ≤ s[i]!.toNat ∧ s[i]!.toNat ≤ 102)) (by omega)]; rfl)
            | (rw [decide_eq_true (p := s.length = 64 ∧ Digs (s.take i)) (by assumption), decide_eq_false (p := (48 ≤ s[i]!.toNat ∧ s[i]!.toNat ≤ 57) ∨ (97 ≤ s[i]!.toNat ∧ s[i]!.toNat ≤ 102)) (by omega)]; rfl)
            | (rw [decide_eq_false (p := s.length = 64 ∧ Digs (s.take i)) (by assumption)]; rfl)
            | (rw [decide_eq_true (p := s.length = 64 ∧ Digs (s.take i)) (by assumption), Bool.true_and, decide_eq_decide]; omega))) ?_)) (fun w h => OwnL.sat (by repeat (first | exact OwnL.refl | apply OwnL.take (by repeat (first | exact Take.head _ | apply Take.tail)) | apply OwnL.drop)) w (h.thin (SubL.mem (by repeat (first | exact SubL.refl | refine SubL.cons (by repeat (first | assumption | exact List.mem_cons_self | refine List.mem_cons_of_mem _ ?_)) ?_ | refine SubL.skip ?_)))))
      · skip
        have he : decide (s.length = 64 ∧ Digs (s.take i)) = decide (s.length = 64 ∧ Digs s) := decide_eq_decide.2 (by
          constructor
          · rintro ⟨a, b⟩; rw [List.take_of_length_le (by omega)] at b; exact ⟨a, b⟩
          · rintro ⟨a, b⟩; rw [List.take_of_length_le (by omega)]; exact ⟨a, b⟩)
        rw [he]
        refine WC.exit ?_
        refine thenQ.exit ?_
        refine loopQ1.exit ?_
        refine blockQ.exit ?_
        refine thenQ.normal ?_
        refine WC.seq ?_
        refine WC.region ?_
        refine WL.rd rfl rfl rfl (Rd.move rfl rfl) ?_
        refine WL.rd rfl rfl rfl (Rd.move rfl rfl) ?_
        refine WL.rd rfl rfl rfl (Rd.beql rfl rfl rfl Tryd.underlying4) ?_
        refine WL.say 54 (u := .bool (decide True)) rfl (by simp) ?_
        refine WL.rd rfl rfl rfl (Rd.move rfl rfl) ?_
        refine WL.case 55 rfl (fun hg55 => ?_) (fun hg55 => ?_)
        · skip
          refine WL.rd_yes rfl rfl rfl rfl rfl rfl (Rd.move rfl rfl) ?_
          refine WL.rd_yes rfl rfl rfl rfl rfl rfl (Rd.move rfl rfl) ?_
          refine WL.case 57 rfl (fun hg57 => ?_) (fun hg57 => ?_)
          · skip
            have hpl := (hex_parse (s := s) (by omega) hg57.2)
            refine WL.rd_yes rfl rfl rfl rfl rfl rfl (Rd.move rfl rfl) ?_
            refine WL.rd_yes rfl rfl rfl rfl rfl rfl (Rd.slen (ts := #[]) (ty := 0) rfl rfl Tryd.underlying9) ?_
            refine WL.rd_yes rfl rfl rfl rfl rfl rfl (Rd.eql rfl rfl rfl) ?_
            refine WL.say 60 (u := .bool (decide True)) rfl (by rw [if_pos hg57, hpl.2, hg57.1]; simp) ?_
            refine WL.rd_yes rfl rfl rfl rfl rfl rfl (Rd.pick_t rfl rfl rfl) ?_
            refine WL.rd_yes rfl rfl rfl rfl rfl rfl (Rd.move rfl rfl) ?_
            refine WL.case 62 rfl (fun hg62 => ?_) (fun hg62 => ?_)
            · skip
              refine WL.rd_yes rfl rfl rfl rfl rfl rfl (Rd.move rfl rfl) ?_
              refine WL.op_yes rfl rfl rfl rfl ?_
              refine OpW.call rfl rfl (by repeat (first | exact Evs.nil | apply Evs.cons rfl)) (by kernel_rfl) rfl rfl rfl ?_
              refine hex_spec ?_
              refine WL.rd_yes rfl rfl rfl rfl rfl rfl (Rd.move rfl rfl) ?_
              refine WL.rd_yes rfl rfl rfl rfl rfl rfl (Rd.seql rfl rfl rfl) ?_
              refine WL.say 66 (u := .bool (decide True)) rfl (by rw [if_pos hg57, hexE, if_neg (by rw [hpl.2, hg57.1]; decide), hpl.1]; simp) ?_
              refine WL.rd_yes rfl rfl rfl rfl rfl rfl (Rd.pick_t rfl rfl rfl) ?_
              refine WL.rd_yes rfl rfl rfl rfl rfl rfl (Rd.move rfl rfl) ?_
              refine WL.case 68 rfl (fun hg68 => ?_) (fun hg68 => ?_)
              · skip
                refine WL.no rfl rfl rfl rfl rfl rfl ?_
                refine WL.no rfl rfl rfl rfl rfl rfl ?_
                refine WL.no rfl rfl rfl rfl rfl rfl ?_
                refine WL.noU rfl rfl rfl rfl rfl rfl ?_
                refine WL.noU rfl rfl rfl rfl rfl rfl ?_
                refine WL.no rfl rfl rfl rfl rfl rfl ?_
                refine WL.rd_yes rfl rfl rfl rfl rfl rfl (Rd.pick_t rfl rfl rfl) ?_
                refine WL.rd rfl rfl rfl (Rd.pick_t rfl rfl rfl) ?_
                refine WL.rd rfl rfl rfl (Rd.assign rfl rfl) ?_
                refine WL.nil ?_
                refine thenQ.normal ?_
                -- ret_1
                refine WC.ret (Ret.one Tryd.results7 rfl ?_)
                simpa using hk
              · skip
                simp at hg68
            · skip
              simp at hg62
          · skip
            refine WL.no rfl rfl rfl rfl rfl rfl ?_
            refine WL.no rfl rfl rfl rfl rfl rfl ?_
            refine WL.no rfl rfl rfl rfl rfl rfl ?_
            refine WL.rd_yes rfl rfl rfl rfl rfl rfl (Rd.pick_f rfl rfl rfl) ?_
            refine WL.rd_yes rfl rfl rfl rfl rfl rfl (Rd.move rfl rfl) ?_
            refine WL.no rfl rfl rfl rfl rfl rfl ?_
            refine WL.no rfl rfl rfl rfl rfl rfl ?_
            refine WL.no rfl rfl rfl rfl rfl rfl ?_
            refine WL.no rfl rfl rfl rfl rfl rfl ?_
            refine WL.rd_yes rfl rfl rfl rfl rfl rfl (Rd.pick_f rfl rfl rfl) ?_
            refine WL.rd_yes rfl rfl rfl rfl rfl rfl (Rd.move rfl rfl) ?_
            refine WL.rd_yes rfl rfl rfl rfl rfl rfl (Rd.move rfl rfl) ?_
            refine WL.rd_yes rfl rfl rfl rfl rfl rfl ((by first | exact Rd.notd rfl rfl | exact Rd.not rfl rfl)) ?_
            refine WL.rd_yes rfl rfl rfl rfl rfl rfl (Rd.move rfl rfl) ?_
            refine WL.case 71 rfl (fun hg71 => ?_) (fun hg71 => ?_)
            · skip
              refine WL.rd_yes rfl rfl rfl rfl rfl rfl (Rd.move rfl rfl) ?_
              refine WL.rd_yes rfl rfl rfl rfl rfl rfl (Rd.seql rfl rfl rfl) ?_
              refine WL.say 73 (u := .bool (decide True)) rfl (by rw [if_neg hg57]; simp) ?_
              refine WL.rd_yes rfl rfl rfl rfl rfl rfl (Rd.pick_t rfl rfl rfl) ?_
              refine WL.rd_yes rfl rfl rfl rfl rfl rfl (Rd.pick_f rfl rfl rfl) ?_
              refine WL.rd rfl rfl rfl (Rd.pick_t rfl rfl rfl) ?_
              refine WL.rd rfl rfl rfl (Rd.assign rfl rfl) ?_
              refine WL.nil ?_
              refine thenQ.normal ?_
              -- ret_2
              refine WC.ret (Ret.one Tryd.results7 rfl ?_)
              simpa using hk
            · skip
              exact absurd hg57 hg71
        · skip
          simp at hg55
end Go.Proofs.YtcojkjalpkagoaaDoor
