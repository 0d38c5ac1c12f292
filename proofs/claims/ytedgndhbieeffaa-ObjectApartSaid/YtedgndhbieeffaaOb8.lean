/-
  Layer 11: the document's Right and Encode.
-/
import Derived.Test.YtedgndhbieeffaaOb7
namespace Go.Proofs.Ytedgndhbieeffaa
open Go Go.SL Go.RowKit

theorem joinE_app (l m : List (List UInt8)) : joinE (l ++ m) = joinE l ++ joinE m := by unfold joinE; rw [List.flatMap_append]
theorem joinE_one (t : List UInt8) : joinE [t] = putI t.length ++ t := by simp [joinE]
section
variable {R : List RO} {O : List Own} {POST : Value → List RO → List Own → Prop} {b : Nat} {o : Ob} {ev pv : Value}
set_option maxRecDepth 20000 in
theorem text_spec {s : List UInt8} (hs : s.length ≤ 9223372036854775000) (hk : POST (vs (joinE [s])) R O) : Fun Try.prog 20 #[vs s] R O POST := by
  have hp := putI_short (s.length : Int)
  rw [joinE_one] at hk
  refine Fun.enter (l := [_]) Try.func20 rfl Try.ntmps20 rfl (L0 := [(0, _)]) rfl ?_
  refine WC.seq ?_
  refine WC.region ?_
  refine WL.rd rfl rfl rfl (Rd.assign rfl rfl) ?_
  refine WL.nil ?_
  refine thenQ.normal ?_
  refine WC.seq ?_
  refine WC.region ?_
  refine WL.rd rfl rfl rfl (Rd.move rfl rfl) ?_
  refine WL.rd rfl rfl rfl (Rd.slen (ts := #[]) (ty := 0) rfl rfl Try.underlying9) ?_
  refine WL.op rfl ?_
  refine OpW.call rfl rfl (by repeat (first | exact Evs.nil | apply Evs.cons rfl)) (by kernel_rfl) rfl rfl rfl ?_
  refine rput_spec ?_
  refine WL.rd rfl rfl rfl (Rd.move rfl rfl) ?_
  refine WL.rd rfl rfl rfl (Rd.scat rfl rfl rfl (by omega)) ?_
  refine WL.rd rfl rfl rfl (Rd.assign rfl rfl) ?_
  refine WL.nil ?_
  refine thenQ.normal ?_
  refine WC.ret (Ret.one Try.results20 rfl ?_)
  exact hk
set_option maxRecDepth 20000 in
set_option maxHeartbeats 4000000 in
theorem refRight_spec (he : SlE encT ev o.ents ∈ R) (hp : SlE (one vs) pv o.pars ∈ R) (hn : Names o) (hkk : 1 ≤ o.kind ∧ o.kind ≤ 4) (hk : POST (.bool (decide (RightP o))) R O) : Fun Try.prog 19 #[obV o ev pv] R O POST := by
  refine Fun.oneV he fun hev => ?_
  refine Fun.oneV hp fun hpv => ?_
  refine Fun.len he fun hel => ?_
  refine Fun.len hp fun hpl => ?_
  refine Fun.enter (l := [_]) Try.func19 rfl Try.ntmps19 rfl (L0 := [(0, _)]) rfl ?_
  refine WC.seq ?_
  refine WC.region ?_
  refine WL.op rfl ?_
  refine OpW.box rfl rfl (by repeat (first | exact NF.nil | apply NF.cons)) rfl rfl ?_; intro b1
  refine WL.rd rfl rfl rfl (Rd.assign rfl rfl) ?_
  refine WL.nil ?_
  refine thenQ.normal ?_
  refine WC.seq ?_
  refine WC.pick [1] (by repeat (first | exact Pick.nil | apply Pick.cons rfl)) ?_
  refine WC.val 13 (.bool (decide (o.kind ≠ 1 ∧ o.body ≠ []))) ?_ ?_
  · skip
    refine WC.region ?_
    refine WL.rd rfl rfl rfl ((by first | exact Rd.field rfl F33_0 rfl rfl | exact Rd.fieldE rfl F33_0 rfl (by repeat (first | assumption | exact mS | apply mT)) (by omega) | exact Rd.fieldA rfl F33_0 rfl (by repeat (first | assumption | exact mS | apply mT)) (by omega))) ?_
    refine WL.rd rfl rfl rfl (Rd.row1 (b := b1) (off := 0) (u := .int .i64 o.kind) rfl C3 rfl (by repeat (first | assumption | exact mS | apply mT)) rfl) ?_
    refine WL.rd rfl rfl rfl (Rd.neq rfl rfl rfl) ?_
    refine WL.rd rfl rfl rfl (Rd.move rfl rfl) ?_
    refine WL.case 9 rfl (fun hg9 => ?_) (fun hg9 => ?_)
    · skip
      refine WL.rd_yes rfl rfl rfl rfl rfl rfl ((by first | exact Rd.field rfl F33_1 rfl rfl | exact Rd.fieldE rfl F33_1 rfl (by repeat (first | assumption | exact mS | apply mT)) (by omega) | exact Rd.fieldA rfl F33_1 rfl (by repeat (first | assumption | exact mS | apply mT)) (by omega))) ?_
      refine WL.rd_yes rfl rfl rfl rfl rfl rfl (Rd.row1 (b := b1) (off := 1) rfl C9 rfl (by repeat (first | assumption | exact mS | apply mT)) rfl) ?_
      refine WL.rd_yes rfl rfl rfl rfl rfl rfl (Rd.sneq rfl rfl rfl) ?_
      refine WL.rd rfl rfl rfl (Rd.pick_t rfl rfl rfl) ?_
      refine WL.nil ?_
      exact ⟨by repeat (first | exact Sub.nil | refine Sub.cons rfl (by first | rfl | (first | exact vb ⟨fun h => ⟨hg9, h⟩, fun h => h.2⟩ | exact vb_f (fun h => hg9 h.1))) ?_), by first | exact (fun _ h => h.thin (SubL.mem (by repeat (first | exact SubL.refl | refine SubL.cons (by repeat (first | assumption | exact mS | apply mT)) ?_ | refine SubL.skip ?_)))) | exact (fun w h => OwnL.sat (by repeat (first | exact OwnL.refl | apply OwnL.take (by repeat (first | exact Take.head _ | apply Take.tail)) | apply OwnL.drop)) w (h.thin (SubL.mem (by repeat (first | exact SubL.refl | refine SubL.cons (by repeat (first | assumption | exact mS | apply mT)) ?_ | refine SubL.skip ?_)))))⟩
    · skip
      refine WL.no rfl rfl rfl rfl rfl rfl ?_
      refine WL.no rfl rfl rfl rfl rfl rfl ?_
      refine WL.no rfl rfl rfl rfl rfl rfl ?_
      refine WL.rd rfl rfl rfl (Rd.pick_f rfl rfl rfl) ?_
      refine WL.nil ?_
      exact ⟨by repeat (first | exact Sub.nil | refine Sub.cons rfl (by first | rfl | (first | exact vb ⟨fun h => ⟨hg9, h⟩, fun h => h.2⟩ | exact vb_f (fun h => hg9 h.1))) ?_), by first | exact (fun _ h => h.thin (SubL.mem (by repeat (first | exact SubL.refl | refine SubL.cons (by repeat (first | assumption | exact mS | apply mT)) ?_ | refine SubL.skip ?_)))) | exact (fun w h => OwnL.sat (by repeat (first | exact OwnL.refl | apply OwnL.take (by repeat (first | exact Take.head _ | apply Take.tail)) | apply OwnL.drop)) w (h.thin (SubL.mem (by repeat (first | exact SubL.refl | refine SubL.cons (by repeat (first | assumption | exact mS | apply mT)) ?_ | refine SubL.skip ?_)))))⟩
  · skip
    first | refine WC.ite rfl (fun hc1 => ?_) (fun hc1 => ?_) | refine WC.cond rfl (fun hc1 => ?_) (fun hc1 => ?_)
    · skip
      refine WC.seq ?_
      refine WC.region ?_
      refine WL.rd rfl rfl rfl (Rd.assign rfl rfl) ?_
      refine WL.nil ?_
      refine thenQ.normal ?_
      refine WC.heap (R' := R) (O' := O) (fun w h => OwnL.sat (by repeat (first | exact OwnL.refl | apply OwnL.take (by repeat (first | exact Take.head _ | apply Take.tail)) | apply OwnL.drop)) w (h.thin (SubL.mem (by repeat (first | exact SubL.refl | refine SubL.cons (by repeat (first | assumption | exact mS | apply mT)) ?_ | refine SubL.skip ?_))))) ?_
      refine WC.ret (Ret.one Try.results19 rfl ?_)
      rw [decide_eq_false (fun h => hc1.2 (h.1.1 hc1.1))] at hk
      exact hk
    · skip
      refine WC.skip ?_
      refine thenQ.normal ?_
      refine WC.seq ?_
      refine WC.pick [1] (by repeat (first | exact Pick.nil | apply Pick.cons rfl)) ?_
      refine WC.val 22 (.bool (decide (o.kind ≠ 2 ∧ o.ents ≠ []))) ?_ ?_
      · skip
        refine WC.region ?_
        refine WL.rd rfl rfl rfl ((by first | exact Rd.field rfl F33_0 rfl rfl | exact Rd.fieldE rfl F33_0 rfl (by repeat (first | assumption | exact mS | apply mT)) (by omega) | exact Rd.fieldA rfl F33_0 rfl (by repeat (first | assumption | exact mS | apply mT)) (by omega))) ?_
        refine WL.rd rfl rfl rfl (Rd.row1 (b := b1) (off := 0) (u := .int .i64 o.kind) rfl C3 rfl (by repeat (first | assumption | exact mS | apply mT)) rfl) ?_
        refine WL.rd rfl rfl rfl (Rd.neq rfl rfl rfl) ?_
        refine WL.rd rfl rfl rfl (Rd.move rfl rfl) ?_
        refine WL.case 17 rfl (fun hg17 => ?_) (fun hg17 => ?_)
        · skip
          refine WL.rd_yes rfl rfl rfl rfl rfl rfl ((by first | exact Rd.field rfl F33_2 rfl rfl | exact Rd.fieldE rfl F33_2 rfl (by repeat (first | assumption | exact mS | apply mT)) (by omega) | exact Rd.fieldA rfl F33_2 rfl (by repeat (first | assumption | exact mS | apply mT)) (by omega))) ?_
          refine WL.rd_yes rfl rfl rfl rfl rfl rfl (Rd.row1 (b := b1) (off := 2) (u := ev) rfl C31 rfl (by repeat (first | assumption | exact mS | apply mT)) rfl) ?_
          refine WL.rd_yes rfl rfl rfl rfl rfl rfl (Rd.lenE (enc := encT) (xs := o.ents) rfl rfl Try.underlying31 (by repeat (first | assumption | exact mS | apply mT))) ?_
          refine WL.rd_yes rfl rfl rfl rfl rfl rfl (Rd.gtr rfl rfl rfl) ?_
          refine WL.rd rfl rfl rfl (Rd.pick_t rfl rfl rfl) ?_
          refine WL.nil ?_
          exact ⟨by repeat (first | exact Sub.nil | refine Sub.cons rfl (by first | rfl | (first | exact vb ⟨fun h => ⟨hg17, fun h2 => by rw [h2] at h; simp at h⟩, fun h => by have := List.length_pos_iff.2 h.2; omega⟩ | exact vb_f (fun h => hg17 h.1))) ?_), by first | exact (fun _ h => h.thin (SubL.mem (by repeat (first | exact SubL.refl | refine SubL.cons (by repeat (first | assumption | exact mS | apply mT)) ?_ | refine SubL.skip ?_)))) | exact (fun w h => OwnL.sat (by repeat (first | exact OwnL.refl | apply OwnL.take (by repeat (first | exact Take.head _ | apply Take.tail)) | apply OwnL.drop)) w (h.thin (SubL.mem (by repeat (first | exact SubL.refl | refine SubL.cons (by repeat (first | assumption | exact mS | apply mT)) ?_ | refine SubL.skip ?_)))))⟩
        · skip
          refine WL.no rfl rfl rfl rfl rfl rfl ?_
          refine WL.no rfl rfl rfl rfl rfl rfl ?_
          refine WL.no rfl rfl rfl rfl rfl rfl ?_
          refine WL.no rfl rfl rfl rfl rfl rfl ?_
          refine WL.rd rfl rfl rfl (Rd.pick_f rfl rfl rfl) ?_
          refine WL.nil ?_
          exact ⟨by repeat (first | exact Sub.nil | refine Sub.cons rfl (by first | rfl | (first | exact vb ⟨fun h => ⟨hg17, fun h2 => by rw [h2] at h; simp at h⟩, fun h => by have := List.length_pos_iff.2 h.2; omega⟩ | exact vb_f (fun h => hg17 h.1))) ?_), by first | exact (fun _ h => h.thin (SubL.mem (by repeat (first | exact SubL.refl | refine SubL.cons (by repeat (first | assumption | exact mS | apply mT)) ?_ | refine SubL.skip ?_)))) | exact (fun w h => OwnL.sat (by repeat (first | exact OwnL.refl | apply OwnL.take (by repeat (first | exact Take.head _ | apply Take.tail)) | apply OwnL.drop)) w (h.thin (SubL.mem (by repeat (first | exact SubL.refl | refine SubL.cons (by repeat (first | assumption | exact mS | apply mT)) ?_ | refine SubL.skip ?_)))))⟩
      · skip
        first | refine WC.ite rfl (fun hc2 => ?_) (fun hc2 => ?_) | refine WC.cond rfl (fun hc2 => ?_) (fun hc2 => ?_)
        · skip
          refine WC.seq ?_
          refine WC.region ?_
          refine WL.rd rfl rfl rfl (Rd.assign rfl rfl) ?_
          refine WL.nil ?_
          refine thenQ.normal ?_
          refine WC.heap (R' := R) (O' := O) (fun w h => OwnL.sat (by repeat (first | exact OwnL.refl | apply OwnL.take (by repeat (first | exact Take.head _ | apply Take.tail)) | apply OwnL.drop)) w (h.thin (SubL.mem (by repeat (first | exact SubL.refl | refine SubL.cons (by repeat (first | assumption | exact mS | apply mT)) ?_ | refine SubL.skip ?_))))) ?_
          refine WC.ret (Ret.one Try.results19 rfl ?_)
          rw [decide_eq_false (fun h => hc2.2 (h.1.2.1 hc2.1))] at hk
          exact hk
        · skip
          refine WC.skip ?_
          refine thenQ.normal ?_
          refine WC.seq ?_
          refine WC.pick [1] (by repeat (first | exact Pick.nil | apply Pick.cons rfl)) ?_
          refine WC.val 46 (.bool (decide (o.kind ≠ 3 ∧ ¬ (o.tree = [] ∧ o.pars = [] ∧ o.author = [] ∧ o.time = 0)))) ?_ ?_
          · skip
            refine WC.region ?_
            refine WL.rd rfl rfl rfl ((by first | exact Rd.field rfl F33_0 rfl rfl | exact Rd.fieldE rfl F33_0 rfl (by repeat (first | assumption | exact mS | apply mT)) (by omega) | exact Rd.fieldA rfl F33_0 rfl (by repeat (first | assumption | exact mS | apply mT)) (by omega))) ?_
            refine WL.rd rfl rfl rfl (Rd.row1 (b := b1) (off := 0) (u := .int .i64 o.kind) rfl C3 rfl (by repeat (first | assumption | exact mS | apply mT)) rfl) ?_
            refine WL.rd rfl rfl rfl (Rd.neq rfl rfl rfl) ?_
            refine WL.rd rfl rfl rfl (Rd.move rfl rfl) ?_
            refine WL.case 26 rfl (fun hg26 => ?_) (fun hg26 => ?_)
            · skip
              refine WL.rd_yes rfl rfl rfl rfl rfl rfl ((by first | exact Rd.field rfl F33_3 rfl rfl | exact Rd.fieldE rfl F33_3 rfl (by repeat (first | assumption | exact mS | apply mT)) (by omega) | exact Rd.fieldA rfl F33_3 rfl (by repeat (first | assumption | exact mS | apply mT)) (by omega))) ?_
              refine WL.rd_yes rfl rfl rfl rfl rfl rfl (Rd.row1 (b := b1) (off := 3) rfl C9 rfl (by repeat (first | assumption | exact mS | apply mT)) rfl) ?_
              refine WL.rd_yes rfl rfl rfl rfl rfl rfl (Rd.sneq rfl rfl rfl) ?_
              refine WL.rd_yes rfl rfl rfl rfl rfl rfl (Rd.move rfl rfl) ?_
              refine WL.case 30 rfl (fun hg30 => ?_) (fun hg30 => ?_)
              · skip
                refine WL.no rfl rfl rfl rfl rfl rfl ?_
                refine WL.no rfl rfl rfl rfl rfl rfl ?_
                refine WL.no rfl rfl rfl rfl rfl rfl ?_
                refine WL.no rfl rfl rfl rfl rfl rfl ?_
                refine WL.rd_yes rfl rfl rfl rfl rfl rfl (Rd.pick_t rfl rfl rfl) ?_
                refine WL.rd_yes rfl rfl rfl rfl rfl rfl (Rd.move rfl rfl) ?_
                refine WL.no rfl rfl rfl rfl rfl rfl ?_
                refine WL.no rfl rfl rfl rfl rfl rfl ?_
                refine WL.no rfl rfl rfl rfl rfl rfl ?_
                refine WL.rd_yes rfl rfl rfl rfl rfl rfl (Rd.pick_t rfl rfl rfl) ?_
                refine WL.rd_yes rfl rfl rfl rfl rfl rfl (Rd.move rfl rfl) ?_
                refine WL.no rfl rfl rfl rfl rfl rfl ?_
                refine WL.no rfl rfl rfl rfl rfl rfl ?_
                refine WL.no rfl rfl rfl rfl rfl rfl ?_
                refine WL.rd_yes rfl rfl rfl rfl rfl rfl (Rd.pick_t rfl rfl rfl) ?_
                refine WL.rd rfl rfl rfl (Rd.pick_t rfl rfl rfl) ?_
                refine WL.nil ?_
                exact ⟨by repeat (first | exact Sub.nil | refine Sub.cons rfl (by first | rfl | (first | exact vb_f (fun h => hg26 h.1) | exact vb_t ⟨hg26, fun h => hg30 h.1⟩ | exact vb_t ⟨hg26, fun h => hg41 h.2.2.1⟩ | exact vb_t ⟨hg26, fun h => by rw [h.2.1] at hg36; simp at hg36⟩ | exact vb ⟨fun h => ⟨hg26, fun h2 => h h2.2.2.2⟩, fun h h2 => h.2 ⟨Decidable.not_not.1 hg30, List.length_eq_zero_iff.1 (by omega), Decidable.not_not.1 hg41, h2⟩⟩)) ?_), by first | exact (fun _ h => h.thin (SubL.mem (by repeat (first | exact SubL.refl | refine SubL.cons (by repeat (first | assumption | exact mS | apply mT)) ?_ | refine SubL.skip ?_)))) | exact (fun w h => OwnL.sat (by repeat (first | exact OwnL.refl | apply OwnL.take (by repeat (first | exact Take.head _ | apply Take.tail)) | apply OwnL.drop)) w (h.thin (SubL.mem (by repeat (first | exact SubL.refl | refine SubL.cons (by repeat (first | assumption | exact mS | apply mT)) ?_ | refine SubL.skip ?_)))))⟩
              · skip
                refine WL.rd_yes rfl rfl rfl rfl rfl rfl ((by first | exact Rd.field rfl F33_4 rfl rfl | exact Rd.fieldE rfl F33_4 rfl (by repeat (first | assumption | exact mS | apply mT)) (by omega) | exact Rd.fieldA rfl F33_4 rfl (by repeat (first | assumption | exact mS | apply mT)) (by omega))) ?_
                refine WL.rd_yes rfl rfl rfl rfl rfl rfl (Rd.row1 (b := b1) (off := 4) (u := pv) rfl C23 rfl (by repeat (first | assumption | exact mS | apply mT)) rfl) ?_
                refine WL.rd_yes rfl rfl rfl rfl rfl rfl (Rd.lenE (enc := one vs) (xs := o.pars) rfl rfl Try.underlying23 (by repeat (first | assumption | exact mS | apply mT))) ?_
                refine WL.rd_yes rfl rfl rfl rfl rfl rfl (Rd.gtr rfl rfl rfl) ?_
                refine WL.rd_yes rfl rfl rfl rfl rfl rfl (Rd.pick_f rfl rfl rfl) ?_
                refine WL.rd_yes rfl rfl rfl rfl rfl rfl (Rd.move rfl rfl) ?_
                refine WL.case 36 rfl (fun hg36 => ?_) (fun hg36 => ?_)
                · skip
                  refine WL.no rfl rfl rfl rfl rfl rfl ?_
                  refine WL.no rfl rfl rfl rfl rfl rfl ?_
                  refine WL.no rfl rfl rfl rfl rfl rfl ?_
                  refine WL.rd_yes rfl rfl rfl rfl rfl rfl (Rd.pick_t rfl rfl rfl) ?_
                  refine WL.rd_yes rfl rfl rfl rfl rfl rfl (Rd.move rfl rfl) ?_
                  refine WL.no rfl rfl rfl rfl rfl rfl ?_
                  refine WL.no rfl rfl rfl rfl rfl rfl ?_
                  refine WL.no rfl rfl rfl rfl rfl rfl ?_
                  refine WL.rd_yes rfl rfl rfl rfl rfl rfl (Rd.pick_t rfl rfl rfl) ?_
                  refine WL.rd rfl rfl rfl (Rd.pick_t rfl rfl rfl) ?_
                  refine WL.nil ?_
                  exact ⟨by repeat (first | exact Sub.nil | refine Sub.cons rfl (by first | rfl | (first | exact vb_f (fun h => hg26 h.1) | exact vb_t ⟨hg26, fun h => hg30 h.1⟩ | exact vb_t ⟨hg26, fun h => hg41 h.2.2.1⟩ | exact vb_t ⟨hg26, fun h => by rw [h.2.1] at hg36; simp at hg36⟩ | exact vb ⟨fun h => ⟨hg26, fun h2 => h h2.2.2.2⟩, fun h h2 => h.2 ⟨Decidable.not_not.1 hg30, List.length_eq_zero_iff.1 (by omega), Decidable.not_not.1 hg41, h2⟩⟩)) ?_), by first | exact (fun _ h => h.thin (SubL.mem (by repeat (first | exact SubL.refl | refine SubL.cons (by repeat (first | assumption | exact mS | apply mT)) ?_ | refine SubL.skip ?_)))) | exact (fun w h => OwnL.sat (by repeat (first | exact OwnL.refl | apply OwnL.take (by repeat (first | exact Take.head _ | apply Take.tail)) | apply OwnL.drop)) w (h.thin (SubL.mem (by repeat (first | exact SubL.refl | refine SubL.cons (by repeat (first | assumption | exact mS | apply mT)) ?_ | refine SubL.skip ?_)))))⟩
                · skip
                  refine WL.rd_yes rfl rfl rfl rfl rfl rfl ((by first | exact Rd.field rfl F33_5 rfl rfl | exact Rd.fieldE rfl F33_5 rfl (by repeat (first | assumption | exact mS | apply mT)) (by omega) | exact Rd.fieldA rfl F33_5 rfl (by repeat (first | assumption | exact mS | apply mT)) (by omega))) ?_
                  refine WL.rd_yes rfl rfl rfl rfl rfl rfl (Rd.row1 (b := b1) (off := 5) rfl C9 rfl (by repeat (first | assumption | exact mS | apply mT)) rfl) ?_
                  refine WL.rd_yes rfl rfl rfl rfl rfl rfl (Rd.sneq rfl rfl rfl) ?_
                  refine WL.rd_yes rfl rfl rfl rfl rfl rfl (Rd.pick_f rfl rfl rfl) ?_
                  refine WL.rd_yes rfl rfl rfl rfl rfl rfl (Rd.move rfl rfl) ?_
                  refine WL.case 41 rfl (fun hg41 => ?_) (fun hg41 => ?_)
                  · skip
                    refine WL.no rfl rfl rfl rfl rfl rfl ?_
                    refine WL.no rfl rfl rfl rfl rfl rfl ?_
                    refine WL.no rfl rfl rfl rfl rfl rfl ?_
                    refine WL.rd_yes rfl rfl rfl rfl rfl rfl (Rd.pick_t rfl rfl rfl) ?_
                    refine WL.rd rfl rfl rfl (Rd.pick_t rfl rfl rfl) ?_
                    refine WL.nil ?_
                    exact ⟨by repeat (first | exact Sub.nil | refine Sub.cons rfl (by first | rfl | (first | exact vb_f (fun h => hg26 h.1) | exact vb_t ⟨hg26, fun h => hg30 h.1⟩ | exact vb_t ⟨hg26, fun h => hg41 h.2.2.1⟩ | exact vb_t ⟨hg26, fun h => by rw [h.2.1] at hg36; simp at hg36⟩ | exact vb ⟨fun h => ⟨hg26, fun h2 => h h2.2.2.2⟩, fun h h2 => h.2 ⟨Decidable.not_not.1 hg30, List.length_eq_zero_iff.1 (by omega), Decidable.not_not.1 hg41, h2⟩⟩)) ?_), by first | exact (fun _ h => h.thin (SubL.mem (by repeat (first | exact SubL.refl | refine SubL.cons (by repeat (first | assumption | exact mS | apply mT)) ?_ | refine SubL.skip ?_)))) | exact (fun w h => OwnL.sat (by repeat (first | exact OwnL.refl | apply OwnL.take (by repeat (first | exact Take.head _ | apply Take.tail)) | apply OwnL.drop)) w (h.thin (SubL.mem (by repeat (first | exact SubL.refl | refine SubL.cons (by repeat (first | assumption | exact mS | apply mT)) ?_ | refine SubL.skip ?_)))))⟩
                  · skip
                    refine WL.rd_yes rfl rfl rfl rfl rfl rfl ((by first | exact Rd.field rfl F33_7 rfl rfl | exact Rd.fieldE rfl F33_7 rfl (by repeat (first | assumption | exact mS | apply mT)) (by omega) | exact Rd.fieldA rfl F33_7 rfl (by repeat (first | assumption | exact mS | apply mT)) (by omega))) ?_
                    refine WL.rd_yes rfl rfl rfl rfl rfl rfl (Rd.row1 (b := b1) (off := 7) rfl C3 rfl (by repeat (first | assumption | exact mS | apply mT)) rfl) ?_
                    refine WL.rd_yes rfl rfl rfl rfl rfl rfl (Rd.neq rfl rfl rfl) ?_
                    refine WL.rd_yes rfl rfl rfl rfl rfl rfl (Rd.pick_f rfl rfl rfl) ?_
                    refine WL.rd rfl rfl rfl (Rd.pick_t rfl rfl rfl) ?_
                    refine WL.nil ?_
                    exact ⟨by repeat (first | exact Sub.nil | refine Sub.cons rfl (by first | rfl | (first | exact vb_f (fun h => hg26 h.1) | exact vb_t ⟨hg26, fun h => hg30 h.1⟩ | exact vb_t ⟨hg26, fun h => hg41 h.2.2.1⟩ | exact vb_t ⟨hg26, fun h => by rw [h.2.1] at hg36; simp at hg36⟩ | exact vb ⟨fun h => ⟨hg26, fun h2 => h h2.2.2.2⟩, fun h h2 => h.2 ⟨Decidable.not_not.1 hg30, List.length_eq_zero_iff.1 (by omega), Decidable.not_not.1 hg41, h2⟩⟩)) ?_), by first | exact (fun _ h => h.thin (SubL.mem (by repeat (first | exact SubL.refl | refine SubL.cons (by repeat (first | assumption | exact mS | apply mT)) ?_ | refine SubL.skip ?_)))) | exact (fun w h => OwnL.sat (by repeat (first | exact OwnL.refl | apply OwnL.take (by repeat (first | exact Take.head _ | apply Take.tail)) | apply OwnL.drop)) w (h.thin (SubL.mem (by repeat (first | exact SubL.refl | refine SubL.cons (by repeat (first | assumption | exact mS | apply mT)) ?_ | refine SubL.skip ?_)))))⟩
            · skip
              refine WL.no rfl rfl rfl rfl rfl rfl ?_
              refine WL.no rfl rfl rfl rfl rfl rfl ?_
              refine WL.no rfl rfl rfl rfl rfl rfl ?_
              refine WL.no rfl rfl rfl rfl rfl rfl ?_
              refine WL.noU rfl rfl rfl rfl rfl rfl ?_
              refine WL.noU rfl rfl rfl rfl rfl rfl ?_
              refine WL.noU rfl rfl rfl rfl rfl rfl ?_
              refine WL.noU rfl rfl rfl rfl rfl rfl ?_
              refine WL.no rfl rfl rfl rfl rfl rfl ?_
              refine WL.no rfl rfl rfl rfl rfl rfl ?_
              refine WL.noU rfl rfl rfl rfl rfl rfl ?_
              refine WL.noU rfl rfl rfl rfl rfl rfl ?_
              refine WL.noU rfl rfl rfl rfl rfl rfl ?_
              refine WL.no rfl rfl rfl rfl rfl rfl ?_
              refine WL.no rfl rfl rfl rfl rfl rfl ?_
              refine WL.noU rfl rfl rfl rfl rfl rfl ?_
              refine WL.noU rfl rfl rfl rfl rfl rfl ?_
              refine WL.noU rfl rfl rfl rfl rfl rfl ?_
              refine WL.no rfl rfl rfl rfl rfl rfl ?_
              refine WL.rd rfl rfl rfl (Rd.pick_f rfl rfl rfl) ?_
              refine WL.nil ?_
              exact ⟨by repeat (first | exact Sub.nil | refine Sub.cons rfl (by first | rfl | (first | exact vb_f (fun h => hg26 h.1) | exact vb_t ⟨hg26, fun h => hg30 h.1⟩ | exact vb_t ⟨hg26, fun h => hg41 h.2.2.1⟩ | exact vb_t ⟨hg26, fun h => by rw [h.2.1] at hg36; simp at hg36⟩ | exact vb ⟨fun h => ⟨hg26, fun h2 => h h2.2.2.2⟩, fun h h2 => h.2 ⟨Decidable.not_not.1 hg30, List.length_eq_zero_iff.1 (by omega), Decidable.not_not.1 hg41, h2⟩⟩)) ?_), by first | exact (fun _ h => h.thin (SubL.mem (by repeat (first | exact SubL.refl | refine SubL.cons (by repeat (first | assumption | exact mS | apply mT)) ?_ | refine SubL.skip ?_)))) | exact (fun w h => OwnL.sat (by repeat (first | exact OwnL.refl | apply OwnL.take (by repeat (first | exact Take.head _ | apply Take.tail)) | apply OwnL.drop)) w (h.thin (SubL.mem (by repeat (first | exact SubL.refl | refine SubL.cons (by repeat (first | assumption | exact mS | apply mT)) ?_ | refine SubL.skip ?_)))))⟩
          · skip
            first | refine WC.ite rfl (fun hc3 => ?_) (fun hc3 => ?_) | refine WC.cond rfl (fun hc3 => ?_) (fun hc3 => ?_)
            · skip
              refine WC.seq ?_
              refine WC.region ?_
              refine WL.rd rfl rfl rfl (Rd.assign rfl rfl) ?_
              refine WL.nil ?_
              refine thenQ.normal ?_
              refine WC.heap (R' := R) (O' := O) (fun w h => OwnL.sat (by repeat (first | exact OwnL.refl | apply OwnL.take (by repeat (first | exact Take.head _ | apply Take.tail)) | apply OwnL.drop)) w (h.thin (SubL.mem (by repeat (first | exact SubL.refl | refine SubL.cons (by repeat (first | assumption | exact mS | apply mT)) ?_ | refine SubL.skip ?_))))) ?_
              refine WC.ret (Ret.one Try.results19 rfl ?_)
              rw [decide_eq_false (fun h => hc3.2 (h.1.2.2.1 hc3.1))] at hk
              exact hk
            · skip
              refine WC.skip ?_
              refine thenQ.normal ?_
              refine WC.seq ?_
              refine WC.pick [1] (by repeat (first | exact Pick.nil | apply Pick.cons rfl)) ?_
              refine WC.val 59 (.bool (decide (o.kind ≠ 4 ∧ ¬ (o.target = [] ∧ o.name = [])))) ?_ ?_
              · skip
                refine WC.region ?_
                refine WL.rd rfl rfl rfl ((by first | exact Rd.field rfl F33_0 rfl rfl | exact Rd.fieldE rfl F33_0 rfl (by repeat (first | assumption | exact mS | apply mT)) (by omega) | exact Rd.fieldA rfl F33_0 rfl (by repeat (first | assumption | exact mS | apply mT)) (by omega))) ?_
                refine WL.rd rfl rfl rfl (Rd.row1 (b := b1) (off := 0) (u := .int .i64 o.kind) rfl C3 rfl (by repeat (first | assumption | exact mS | apply mT)) rfl) ?_
                refine WL.rd rfl rfl rfl (Rd.neq rfl rfl rfl) ?_
                refine WL.rd rfl rfl rfl (Rd.move rfl rfl) ?_
                refine WL.case 50 rfl (fun hg50 => ?_) (fun hg50 => ?_)
                · skip
                  refine WL.rd_yes rfl rfl rfl rfl rfl rfl ((by first | exact Rd.field rfl F33_8 rfl rfl | exact Rd.fieldE rfl F33_8 rfl (by repeat (first | assumption | exact mS | apply mT)) (by omega) | exact Rd.fieldA rfl F33_8 rfl (by repeat (first | assumption | exact mS | apply mT)) (by omega))) ?_
                  refine WL.rd_yes rfl rfl rfl rfl rfl rfl (Rd.row1 (b := b1) (off := 8) rfl C9 rfl (by repeat (first | assumption | exact mS | apply mT)) rfl) ?_
                  refine WL.rd_yes rfl rfl rfl rfl rfl rfl (Rd.sneq rfl rfl rfl) ?_
                  refine WL.rd_yes rfl rfl rfl rfl rfl rfl (Rd.move rfl rfl) ?_
                  refine WL.case 54 rfl (fun hg54 => ?_) (fun hg54 => ?_)
                  · skip
                    refine WL.no rfl rfl rfl rfl rfl rfl ?_
                    refine WL.no rfl rfl rfl rfl rfl rfl ?_
                    refine WL.no rfl rfl rfl rfl rfl rfl ?_
                    refine WL.rd_yes rfl rfl rfl rfl rfl rfl (Rd.pick_t rfl rfl rfl) ?_
                    refine WL.rd rfl rfl rfl (Rd.pick_t rfl rfl rfl) ?_
                    refine WL.nil ?_
                    exact ⟨by repeat (first | exact Sub.nil | refine Sub.cons rfl (by first | rfl | (first | exact vb_f (fun h => hg50 h.1) | exact vb_t ⟨hg50, fun h => hg54 h.1⟩ | exact vb ⟨fun h => ⟨hg50, fun h2 => h h2.2⟩, fun h h2 => h.2 ⟨Decidable.not_not.1 hg54, h2⟩⟩)) ?_), by first | exact (fun _ h => h.thin (SubL.mem (by repeat (first | exact SubL.refl | refine SubL.cons (by repeat (first | assumption | exact mS | apply mT)) ?_ | refine SubL.skip ?_)))) | exact (fun w h => OwnL.sat (by repeat (first | exact OwnL.refl | apply OwnL.take (by repeat (first | exact Take.head _ | apply Take.tail)) | apply OwnL.drop)) w (h.thin (SubL.mem (by repeat (first | exact SubL.refl | refine SubL.cons (by repeat (first | assumption | exact mS | apply mT)) ?_ | refine SubL.skip ?_)))))⟩
                  · skip
                    refine WL.rd_yes rfl rfl rfl rfl rfl rfl ((by first | exact Rd.field rfl F33_9 rfl rfl | exact Rd.fieldE rfl F33_9 rfl (by repeat (first | assumption | exact mS | apply mT)) (by omega) | exact Rd.fieldA rfl F33_9 rfl (by repeat (first | assumption | exact mS | apply mT)) (by omega))) ?_
                    refine WL.rd_yes rfl rfl rfl rfl rfl rfl (Rd.row1 (b := b1) (off := 9) rfl C9 rfl (by repeat (first | assumption | exact mS | apply mT)) rfl) ?_
                    refine WL.rd_yes rfl rfl rfl rfl rfl rfl (Rd.sneq rfl rfl rfl) ?_
                    refine WL.rd_yes rfl rfl rfl rfl rfl rfl (Rd.pick_f rfl rfl rfl) ?_
                    refine WL.rd rfl rfl rfl (Rd.pick_t rfl rfl rfl) ?_
                    refine WL.nil ?_
                    exact ⟨by repeat (first | exact Sub.nil | refine Sub.cons rfl (by first | rfl | (first | exact vb_f (fun h => hg50 h.1) | exact vb_t ⟨hg50, fun h => hg54 h.1⟩ | exact vb ⟨fun h => ⟨hg50, fun h2 => h h2.2⟩, fun h h2 => h.2 ⟨Decidable.not_not.1 hg54, h2⟩⟩)) ?_), by first | exact (fun _ h => h.thin (SubL.mem (by repeat (first | exact SubL.refl | refine SubL.cons (by repeat (first | assumption | exact mS | apply mT)) ?_ | refine SubL.skip ?_)))) | exact (fun w h => OwnL.sat (by repeat (first | exact OwnL.refl | apply OwnL.take (by repeat (first | exact Take.head _ | apply Take.tail)) | apply OwnL.drop)) w (h.thin (SubL.mem (by repeat (first | exact SubL.refl | refine SubL.cons (by repeat (first | assumption | exact mS | apply mT)) ?_ | refine SubL.skip ?_)))))⟩
                · skip
                  refine WL.no rfl rfl rfl rfl rfl rfl ?_
                  refine WL.no rfl rfl rfl rfl rfl rfl ?_
                  refine WL.no rfl rfl rfl rfl rfl rfl ?_
                  refine WL.no rfl rfl rfl rfl rfl rfl ?_
                  refine WL.noU rfl rfl rfl rfl rfl rfl ?_
                  refine WL.noU rfl rfl rfl rfl rfl rfl ?_
                  refine WL.noU rfl rfl rfl rfl rfl rfl ?_
                  refine WL.no rfl rfl rfl rfl rfl rfl ?_
                  refine WL.rd rfl rfl rfl (Rd.pick_f rfl rfl rfl) ?_
                  refine WL.nil ?_
                  exact ⟨by repeat (first | exact Sub.nil | refine Sub.cons rfl (by first | rfl | (first | exact vb_f (fun h => hg50 h.1) | exact vb_t ⟨hg50, fun h => hg54 h.1⟩ | exact vb ⟨fun h => ⟨hg50, fun h2 => h h2.2⟩, fun h h2 => h.2 ⟨Decidable.not_not.1 hg54, h2⟩⟩)) ?_), by first | exact (fun _ h => h.thin (SubL.mem (by repeat (first | exact SubL.refl | refine SubL.cons (by repeat (first | assumption | exact mS | apply mT)) ?_ | refine SubL.skip ?_)))) | exact (fun w h => OwnL.sat (by repeat (first | exact OwnL.refl | apply OwnL.take (by repeat (first | exact Take.head _ | apply Take.tail)) | apply OwnL.drop)) w (h.thin (SubL.mem (by repeat (first | exact SubL.refl | refine SubL.cons (by repeat (first | assumption | exact mS | apply mT)) ?_ | refine SubL.skip ?_)))))⟩
              · skip
                first | refine WC.ite rfl (fun hc4 => ?_) (fun hc4 => ?_) | refine WC.cond rfl (fun hc4 => ?_) (fun hc4 => ?_)
                · skip
                  refine WC.seq ?_
                  refine WC.region ?_
                  refine WL.rd rfl rfl rfl (Rd.assign rfl rfl) ?_
                  refine WL.nil ?_
                  refine thenQ.normal ?_
                  refine WC.heap (R' := R) (O' := O) (fun w h => OwnL.sat (by repeat (first | exact OwnL.refl | apply OwnL.take (by repeat (first | exact Take.head _ | apply Take.tail)) | apply OwnL.drop)) w (h.thin (SubL.mem (by repeat (first | exact SubL.refl | refine SubL.cons (by repeat (first | assumption | exact mS | apply mT)) ?_ | refine SubL.skip ?_))))) ?_
                  refine WC.ret (Ret.one Try.results19 rfl ?_)
                  rw [decide_eq_false (fun h => hc4.2 (h.1.2.2.2.1 hc4.1))] at hk
                  exact hk
                · skip
                  refine WC.skip ?_
                  refine thenQ.normal ?_
                  refine WC.seq ?_
                  refine WC.pick [1] (by repeat (first | exact Pick.nil | apply Pick.cons rfl)) ?_
                  refine WC.val 67 (.bool (decide (o.kind < 3 ∧ o.text ≠ []))) ?_ ?_
                  · skip
                    refine WC.region ?_
                    refine WL.rd rfl rfl rfl ((by first | exact Rd.field rfl F33_0 rfl rfl | exact Rd.fieldE rfl F33_0 rfl (by repeat (first | assumption | exact mS | apply mT)) (by omega) | exact Rd.fieldA rfl F33_0 rfl (by repeat (first | assumption | exact mS | apply mT)) (by omega))) ?_
                    refine WL.rd rfl rfl rfl (Rd.row1 (b := b1) (off := 0) (u := .int .i64 o.kind) rfl C3 rfl (by repeat (first | assumption | exact mS | apply mT)) rfl) ?_
                    refine WL.rd rfl rfl rfl (Rd.lss rfl rfl rfl) ?_
                    refine WL.rd rfl rfl rfl (Rd.move rfl rfl) ?_
                    refine WL.case 63 rfl (fun hg63 => ?_) (fun hg63 => ?_)
                    · skip
                      refine WL.rd_yes rfl rfl rfl rfl rfl rfl ((by first | exact Rd.field rfl F33_6 rfl rfl | exact Rd.fieldE rfl F33_6 rfl (by repeat (first | assumption | exact mS | apply mT)) (by omega) | exact Rd.fieldA rfl F33_6 rfl (by repeat (first | assumption | exact mS | apply mT)) (by omega))) ?_
                      refine WL.rd_yes rfl rfl rfl rfl rfl rfl (Rd.row1 (b := b1) (off := 6) rfl C9 rfl (by repeat (first | assumption | exact mS | apply mT)) rfl) ?_
                      refine WL.rd_yes rfl rfl rfl rfl rfl rfl (Rd.sneq rfl rfl rfl) ?_
                      refine WL.rd rfl rfl rfl (Rd.pick_t rfl rfl rfl) ?_
                      refine WL.nil ?_
                      exact ⟨by repeat (first | exact Sub.nil | refine Sub.cons rfl (by first | rfl | (first | exact vb ⟨fun h => ⟨hg63, h⟩, fun h => h.2⟩ | exact vb_f (fun h => hg63 h.1))) ?_), by first | exact (fun _ h => h.thin (SubL.mem (by repeat (first | exact SubL.refl | refine SubL.cons (by repeat (first | assumption | exact mS | apply mT)) ?_ | refine SubL.skip ?_)))) | exact (fun w h => OwnL.sat (by repeat (first | exact OwnL.refl | apply OwnL.take (by repeat (first | exact Take.head _ | apply Take.tail)) | apply OwnL.drop)) w (h.thin (SubL.mem (by repeat (first | exact SubL.refl | refine SubL.cons (by repeat (first | assumption | exact mS | apply mT)) ?_ | refine SubL.skip ?_)))))⟩
                    · skip
                      refine WL.no rfl rfl rfl rfl rfl rfl ?_
                      refine WL.no rfl rfl rfl rfl rfl rfl ?_
                      refine WL.no rfl rfl rfl rfl rfl rfl ?_
                      refine WL.rd rfl rfl rfl (Rd.pick_f rfl rfl rfl) ?_
                      refine WL.nil ?_
                      exact ⟨by repeat (first | exact Sub.nil | refine Sub.cons rfl (by first | rfl | (first | exact vb ⟨fun h => ⟨hg63, h⟩, fun h => h.2⟩ | exact vb_f (fun h => hg63 h.1))) ?_), by first | exact (fun _ h => h.thin (SubL.mem (by repeat (first | exact SubL.refl | refine SubL.cons (by repeat (first | assumption | exact mS | apply mT)) ?_ | refine SubL.skip ?_)))) | exact (fun w h => OwnL.sat (by repeat (first | exact OwnL.refl | apply OwnL.take (by repeat (first | exact Take.head _ | apply Take.tail)) | apply OwnL.drop)) w (h.thin (SubL.mem (by repeat (first | exact SubL.refl | refine SubL.cons (by repeat (first | assumption | exact mS | apply mT)) ?_ | refine SubL.skip ?_)))))⟩
                  · skip
                    first | refine WC.ite rfl (fun hc5 => ?_) (fun hc5 => ?_) | refine WC.cond rfl (fun hc5 => ?_) (fun hc5 => ?_)
                    · skip
                      refine WC.seq ?_
                      refine WC.region ?_
                      refine WL.rd rfl rfl rfl (Rd.assign rfl rfl) ?_
                      refine WL.nil ?_
                      refine thenQ.normal ?_
                      refine WC.heap (R' := R) (O' := O) (fun w h => OwnL.sat (by repeat (first | exact OwnL.refl | apply OwnL.take (by repeat (first | exact Take.head _ | apply Take.tail)) | apply OwnL.drop)) w (h.thin (SubL.mem (by repeat (first | exact SubL.refl | refine SubL.cons (by repeat (first | assumption | exact mS | apply mT)) ?_ | refine SubL.skip ?_))))) ?_
                      refine WC.ret (Ret.one Try.results19 rfl ?_)
                      rw [decide_eq_false (fun h => hc5.2 (h.1.2.2.2.2 hc5.1))] at hk
                      exact hk
                    · skip
                      have hbare : (o.kind ≠ 1 → o.body = []) ∧ (o.kind ≠ 2 → o.ents = []) ∧ (o.kind ≠ 3 → o.tree = [] ∧ o.pars = [] ∧ o.author = [] ∧ o.time = 0) ∧ (o.kind ≠ 4 → o.target = [] ∧ o.name = []) ∧ (o.kind < 3 → o.text = []) :=
                        ⟨fun h => Decidable.not_not.1 (fun h2 => hc1 ⟨h, h2⟩), fun h => Decidable.not_not.1 (fun h2 => hc2 ⟨h, h2⟩), fun h => Decidable.not_not.1 (fun h2 => hc3 ⟨h, h2⟩), fun h => Decidable.not_not.1 (fun h2 => hc4 ⟨h, h2⟩), fun h => Decidable.not_not.1 (fun h2 => hc5 ⟨h, h2⟩)⟩
                      refine WC.skip ?_
                      refine thenQ.normal ?_
                      refine WC.seq ?_
                      refine WC.seq ?_
                      refine WC.region ?_
                      refine WL.rd rfl rfl rfl ((by first | exact Rd.field rfl F33_0 rfl rfl | exact Rd.fieldE rfl F33_0 rfl (by repeat (first | assumption | exact mS | apply mT)) (by omega) | exact Rd.fieldA rfl F33_0 rfl (by repeat (first | assumption | exact mS | apply mT)) (by omega))) ?_
                      refine WL.rd rfl rfl rfl (Rd.row1 (b := b1) (off := 0) (u := .int .i64 o.kind) rfl C3 rfl (by repeat (first | assumption | exact mS | apply mT)) rfl) ?_
                      refine WL.nil ?_
                      refine thenQ.normal ?_
                      refine WC.block ?_
                      refine WC.seq ?_
                      refine WC.region ?_
                      refine WL.rd rfl rfl rfl (Rd.eql rfl rfl rfl) ?_
                      refine WL.rd rfl rfl rfl (Rd.assign rfl rfl) ?_
                      refine WL.nil ?_
                      refine thenQ.normal ?_
                      first | refine WC.ite rfl (fun hc6 => ?_) (fun hc6 => ?_) | refine WC.cond rfl (fun hc6 => ?_) (fun hc6 => ?_)
                      · skip
                        refine WC.seq ?_
                        refine WC.region ?_
                        refine WL.rd rfl rfl rfl ((by first | exact Rd.field rfl F33_1 rfl rfl | exact Rd.fieldE rfl F33_1 rfl (by repeat (first | assumption | exact mS | apply mT)) (by omega) | exact Rd.fieldA rfl F33_1 rfl (by repeat (first | assumption | exact mS | apply mT)) (by omega))) ?_
                        refine WL.rd rfl rfl rfl (Rd.row1 (b := b1) (off := 1) rfl C9 rfl (by repeat (first | assumption | exact mS | apply mT)) rfl) ?_
                        refine WL.rd rfl rfl rfl (Rd.slen (ts := #[]) (ty := 0) rfl rfl Try.underlying9) ?_
                        refine WL.rd rfl rfl rfl (Rd.leq rfl rfl rfl) ?_
                        refine WL.rd rfl rfl rfl (Rd.assign rfl rfl) ?_
                        refine WL.nil ?_
                        refine thenQ.normal ?_
                        refine WC.heap (R' := R) (O' := O) (fun w h => OwnL.sat (by repeat (first | exact OwnL.refl | apply OwnL.take (by repeat (first | exact Take.head _ | apply Take.tail)) | apply OwnL.drop)) w (h.thin (SubL.mem (by repeat (first | exact SubL.refl | refine SubL.cons (by repeat (first | assumption | exact mS | apply mT)) ?_ | refine SubL.skip ?_))))) ?_
                        refine WC.ret (Ret.one Try.results19 rfl ?_)
                        have e : decide (RightP o) = decide ((o.body.length : Int) ≤ 262144) := by
                          rw [decide_eq_decide]
                          exact ⟨fun h => by have := h.2.1 hc6; omega, fun h => ⟨hbare, fun _ => by omega, fun h => by omega, fun h => by omega, fun h => by omega⟩⟩
                        rw [e] at hk
                        exact hk
                      · skip
                        refine WC.seq ?_
                        refine WC.region ?_
                        refine WL.rd rfl rfl rfl (Rd.eql rfl rfl rfl) ?_
                        refine WL.rd rfl rfl rfl (Rd.assign rfl rfl) ?_
                        refine WL.nil ?_
                        refine thenQ.normal ?_
                        first | refine WC.ite rfl (fun hc7 => ?_) (fun hc7 => ?_) | refine WC.cond rfl (fun hc7 => ?_) (fun hc7 => ?_)
                        · skip
                          refine WC.seq ?_
                          refine WC.seq ?_
                          refine WC.region ?_
                          refine WL.rd rfl rfl rfl (Rd.assign rfl rfl) ?_
                          refine WL.nil ?_
                          refine thenQ.normal ?_
                          refine WC.block ?_
                          refine WC.pick [3, 1] (by repeat (first | exact Pick.nil | apply Pick.cons rfl)) ?_
                          refine WC.loop1o 1 (fun (i : Nat) => [(3, .int .i64 (i : Int))]) (fun (i : Nat) => i ≤ o.ents.length ∧ ∀ j, j < i → EntP o.ents j) (fun (i : Nat) => o.ents.length - i) (0) (by repeat (first | exact Split.zero | apply Split.succ)) ?hinv1 (by repeat (first | exact Sub.nil | refine Sub.cons rfl (by first | rfl | (congr 1; omega) | assumption) ?_)) (fun _ h => h) ?_
                          case hinv1 =>
                            exact ⟨Nat.zero_le _, fun j hj => absurd hj (Nat.not_lt_zero _)⟩
                          intro i
                          rintro ⟨i1, i2⟩
                          refine WC.seq ?_
                          refine WC.seq ?_
                          refine WC.region ?_
                          refine WL.rd rfl rfl rfl (Rd.move rfl rfl) ?_
                          refine WL.rd rfl rfl rfl ((by first | exact Rd.field rfl F33_2 rfl rfl | exact Rd.fieldE rfl F33_2 rfl (by repeat (first | assumption | exact mS | apply mT)) (by omega) | exact Rd.fieldA rfl F33_2 rfl (by repeat (first | assumption | exact mS | apply mT)) (by omega))) ?_
                          refine WL.rd rfl rfl rfl (Rd.row1 (b := b1) (off := 2) (u := ev) rfl C31 rfl (by repeat (first | assumption | exact mS | apply mT)) rfl) ?_
                          refine WL.rd rfl rfl rfl (Rd.lenE (enc := encT) (xs := o.ents) rfl rfl Try.underlying31 (by repeat (first | assumption | exact mS | apply mT))) ?_
                          refine WL.rd rfl rfl rfl (Rd.lss rfl rfl rfl) ?_
                          refine WL.nil ?_
                          refine thenQ.normal ?_
                          first | refine WC.ite rfl (fun hc8 => ?_) (fun hc8 => ?_) | refine WC.cond rfl (fun hc8 => ?_) (fun hc8 => ?_)
                          · skip
                            obtain ⟨x, hx⟩ : ∃ x, x = o.ents[i]! := ⟨_, rfl⟩
                            have hxm : x ∈ o.ents := by rw [hx, getElem!_pos o.ents i (by omega)]; exact List.getElem_mem _
                            have hxn := hn.1 x hxm
                            have hent : EntP o.ents i ↔ GoodP x.1 ∧ x.2.length = 32 ∧ (0 < i → Op.bytesLess o.ents[i - 1]!.1 x.1 = true) := by unfold EntP; rw [← hx]
                            refine WC.skip ?_
                            refine thenQ.normal ?_
                            refine WC.seq ?_
                            refine WC.block ?_
                            refine WC.pick [1, 3] (by repeat (first | exact Pick.nil | apply Pick.cons rfl)) ?_
                            refine WC.val 122 (.bool (decide (¬ EntP o.ents i))) ?_ ?_
                            · skip
                              refine WC.drawnA 38 rfl mixed ?_
                              refine WD.take 0 rfl (by kernel_rfl) Held.all rfl rfl rfl ((by first | exact Rd.field rfl F33_2 rfl rfl | exact Rd.fieldE rfl F33_2 rfl (by repeat (first | assumption | exact mS | apply mT)) (by omega) | exact Rd.fieldA rfl F33_2 rfl (by repeat (first | assumption | exact mS | apply mT)) (by omega))) ?_
                              refine WD.take 1 rfl (by kernel_rfl) Held.all rfl rfl rfl (Rd.row1 (b := b1) (off := 2) (u := ev) rfl C31 rfl (by repeat (first | assumption | exact mS | apply mT)) rfl) ?_
                              refine WD.take 2 rfl (by kernel_rfl) Held.all rfl rfl rfl (Rd.move rfl rfl) ?_
                              refine WD.take 3 rfl (by kernel_rfl) Held.all rfl rfl rfl ((by first | exact Rd.idx rfl S31 rfl rfl rfl (by repeat (first | assumption | exact mS | apply mT)) (by first | omega | (simp only [List.length_cons, List.length_nil, List.length_append, List.length_map]; omega)) | exact Rd.idxA rfl S31 rfl rfl rfl (by repeat (first | assumption | exact mS | apply mT)) (by first | omega | (simp only [List.length_cons, List.length_nil, List.length_append, List.length_map]; omega)) | exact Rd.idxR rfl S31 rfl rfl rfl (by omega))) ?_
                              refine WD.take 4 rfl (by kernel_rfl) Held.all rfl rfl rfl ((by first | exact Rd.field rfl F52_0 rfl rfl | exact Rd.fieldE rfl F52_0 rfl (by repeat (first | assumption | exact mS | apply mT)) (by omega) | exact Rd.fieldA rfl F52_0 rfl (by repeat (first | assumption | exact mS | apply mT)) (by omega))) ?_
                              refine WD.take 5 rfl (by kernel_rfl) Held.all rfl rfl rfl (Rd.getF (k := i) (f := 0) (a := x) (enc := encT) (xs := o.ents) rfl C9 rfl (by repeat (first | assumption | exact mS | apply mT)) (fun _ => rfl) rfl (by rw [hx]; exact get!_of_lt (by omega)) rfl) ?_
                              refine WD.one 6 rfl (by kernel_rfl) rfl ?_
                              refine OpW.call rfl rfl (by repeat (first | exact Evs.nil | apply Evs.cons rfl)) (by kernel_rfl) rfl rfl rfl ?_
                              refine refGood_spec hxn ?_
                              refine ⟨(Held.mk' (by repeat (first | exact SubL.refl | refine SubL.cons (by repeat (first | assumption | exact mS | apply mT)) ?_ | refine SubL.skip ?_)) (by repeat (first | exact OwnL.refl | apply OwnL.take (by repeat (first | exact Take.head _ | apply Take.tail)) | apply OwnL.drop))), ?_⟩
                              refine WD.take 7 rfl (by kernel_rfl) (Held.mk' (by repeat (first | exact SubL.refl | refine SubL.cons (by repeat (first | assumption | exact mS | apply mT)) ?_ | refine SubL.skip ?_)) (by repeat (first | exact OwnL.refl | apply OwnL.take (by repeat (first | exact Take.head _ | apply Take.tail)) | apply OwnL.drop))) rfl rfl rfl ((by first | exact Rd.notd rfl rfl | exact Rd.not rfl rfl)) ?_
                              refine WD.take 8 rfl (by kernel_rfl) (Held.mk' (by repeat (first | exact SubL.refl | refine SubL.cons (by repeat (first | assumption | exact mS | apply mT)) ?_ | refine SubL.skip ?_)) (by repeat (first | exact OwnL.refl | apply OwnL.take (by repeat (first | exact Take.head _ | apply Take.tail)) | apply OwnL.drop))) rfl rfl rfl (Rd.move rfl rfl) ?_
                              refine WD.case 93 rfl (fun hg93 => ?_) (fun hg93 => ?_)
                              · skip
                                refine WD.take_no 9 rfl (by kernel_rfl) (Held.mk' (by repeat (first | exact SubL.refl | refine SubL.cons (by repeat (first | assumption | exact mS | apply mT)) ?_ | refine SubL.skip ?_)) (by repeat (first | exact OwnL.refl | apply OwnL.take (by repeat (first | exact Take.head _ | apply Take.tail)) | apply OwnL.drop))) rfl rfl rfl rfl rfl rfl ?_
                                refine WD.take_no 10 rfl (by kernel_rfl) (Held.mk' (by repeat (first | exact SubL.refl | refine SubL.cons (by repeat (first | assumption | exact mS | apply mT)) ?_ | refine SubL.skip ?_)) (by repeat (first | exact OwnL.refl | apply OwnL.take (by repeat (first | exact Take.head _ | apply Take.tail)) | apply OwnL.drop))) rfl rfl rfl rfl rfl rfl ?_
                                refine WD.take_no 11 rfl (by kernel_rfl) (Held.mk' (by repeat (first | exact SubL.refl | refine SubL.cons (by repeat (first | assumption | exact mS | apply mT)) ?_ | refine SubL.skip ?_)) (by repeat (first | exact OwnL.refl | apply OwnL.take (by repeat (first | exact Take.head _ | apply Take.tail)) | apply OwnL.drop))) rfl rfl rfl rfl rfl rfl ?_
                                refine WD.take_no 12 rfl (by kernel_rfl) (Held.mk' (by repeat (first | exact SubL.refl | refine SubL.cons (by repeat (first | assumption | exact mS | apply mT)) ?_ | refine SubL.skip ?_)) (by repeat (first | exact OwnL.refl | apply OwnL.take (by repeat (first | exact Take.head _ | apply Take.tail)) | apply OwnL.drop))) rfl rfl rfl rfl rfl rfl ?_
                                refine WD.take_no 13 rfl (by kernel_rfl) (Held.mk' (by repeat (first | exact SubL.refl | refine SubL.cons (by repeat (first | assumption | exact mS | apply mT)) ?_ | refine SubL.skip ?_)) (by repeat (first | exact OwnL.refl | apply OwnL.take (by repeat (first | exact Take.head _ | apply Take.tail)) | apply OwnL.drop))) rfl rfl rfl rfl rfl rfl ?_
                                refine WD.take_no 14 rfl (by kernel_rfl) (Held.mk' (by repeat (first | exact SubL.refl | refine SubL.cons (by repeat (first | assumption | exact mS | apply mT)) ?_ | refine SubL.skip ?_)) (by repeat (first | exact OwnL.refl | apply OwnL.take (by repeat (first | exact Take.head _ | apply Take.tail)) | apply OwnL.drop))) rfl rfl rfl rfl rfl rfl ?_
                                refine WD.take_no 15 rfl (by kernel_rfl) (Held.mk' (by repeat (first | exact SubL.refl | refine SubL.cons (by repeat (first | assumption | exact mS | apply mT)) ?_ | refine SubL.skip ?_)) (by repeat (first | exact OwnL.refl | apply OwnL.take (by repeat (first | exact Take.head _ | apply Take.tail)) | apply OwnL.drop))) rfl rfl rfl rfl rfl rfl ?_
                                refine WD.take_no 16 rfl (by kernel_rfl) (Held.mk' (by repeat (first | exact SubL.refl | refine SubL.cons (by repeat (first | assumption | exact mS | apply mT)) ?_ | refine SubL.skip ?_)) (by repeat (first | exact OwnL.refl | apply OwnL.take (by repeat (first | exact Take.head _ | apply Take.tail)) | apply OwnL.drop))) rfl rfl rfl rfl rfl rfl ?_
                                refine WD.take 17 rfl (by kernel_rfl) (Held.mk' (by repeat (first | exact SubL.refl | refine SubL.cons (by repeat (first | assumption | exact mS | apply mT)) ?_ | refine SubL.skip ?_)) (by repeat (first | exact OwnL.refl | apply OwnL.take (by repeat (first | exact Take.head _ | apply Take.tail)) | apply OwnL.drop))) rfl rfl rfl (Rd.pick_t rfl rfl rfl) ?_
                                refine WD.take 18 rfl (by kernel_rfl) (Held.mk' (by repeat (first | exact SubL.refl | refine SubL.cons (by repeat (first | assumption | exact mS | apply mT)) ?_ | refine SubL.skip ?_)) (by repeat (first | exact OwnL.refl | apply OwnL.take (by repeat (first | exact Take.head _ | apply Take.tail)) | apply OwnL.drop))) rfl rfl rfl (Rd.move rfl rfl) ?_
                                refine WD.take_no 19 rfl (by kernel_rfl) (Held.mk' (by repeat (first | exact SubL.refl | refine SubL.cons (by repeat (first | assumption | exact mS | apply mT)) ?_ | refine SubL.skip ?_)) (by repeat (first | exact OwnL.refl | apply OwnL.take (by repeat (first | exact Take.head _ | apply Take.tail)) | apply OwnL.drop))) rfl rfl rfl rfl rfl rfl ?_
                                refine WD.take_no 20 rfl (by kernel_rfl) (Held.mk' (by repeat (first | exact SubL.refl | refine SubL.cons (by repeat (first | assumption | exact mS | apply mT)) ?_ | refine SubL.skip ?_)) (by repeat (first | exact OwnL.refl | apply OwnL.take (by repeat (first | exact Take.head _ | apply Take.tail)) | apply OwnL.drop))) rfl rfl rfl rfl rfl rfl ?_
                                refine WD.take_no 21 rfl (by kernel_rfl) (Held.mk' (by repeat (first | exact SubL.refl | refine SubL.cons (by repeat (first | assumption | exact mS | apply mT)) ?_ | refine SubL.skip ?_)) (by repeat (first | exact OwnL.refl | apply OwnL.take (by repeat (first | exact Take.head _ | apply Take.tail)) | apply OwnL.drop))) rfl rfl rfl rfl rfl rfl ?_
                                refine WD.take_noU 22 rfl (by kernel_rfl) (Held.mk' (by repeat (first | exact SubL.refl | refine SubL.cons (by repeat (first | assumption | exact mS | apply mT)) ?_ | refine SubL.skip ?_)) (by repeat (first | exact OwnL.refl | apply OwnL.take (by repeat (first | exact Take.head _ | apply Take.tail)) | apply OwnL.drop))) rfl rfl rfl rfl rfl rfl ?_
                                refine WD.take_noU 23 rfl (by kernel_rfl) (Held.mk' (by repeat (first | exact SubL.refl | refine SubL.cons (by repeat (first | assumption | exact mS | apply mT)) ?_ | refine SubL.skip ?_)) (by repeat (first | exact OwnL.refl | apply OwnL.take (by repeat (first | exact Take.head _ | apply Take.tail)) | apply OwnL.drop))) rfl rfl rfl rfl rfl rfl ?_
                                refine WD.take_noU 24 rfl (by kernel_rfl) (Held.mk' (by repeat (first | exact SubL.refl | refine SubL.cons (by repeat (first | assumption | exact mS | apply mT)) ?_ | refine SubL.skip ?_)) (by repeat (first | exact OwnL.refl | apply OwnL.take (by repeat (first | exact Take.head _ | apply Take.tail)) | apply OwnL.drop))) rfl rfl rfl rfl rfl rfl ?_
                                refine WD.take_noU 25 rfl (by kernel_rfl) (Held.mk' (by repeat (first | exact SubL.refl | refine SubL.cons (by repeat (first | assumption | exact mS | apply mT)) ?_ | refine SubL.skip ?_)) (by repeat (first | exact OwnL.refl | apply OwnL.take (by repeat (first | exact Take.head _ | apply Take.tail)) | apply OwnL.drop))) rfl rfl rfl rfl rfl rfl ?_
                                refine WD.take_noU 26 rfl (by kernel_rfl) (Held.mk' (by repeat (first | exact SubL.refl | refine SubL.cons (by repeat (first | assumption | exact mS | apply mT)) ?_ | refine SubL.skip ?_)) (by repeat (first | exact OwnL.refl | apply OwnL.take (by repeat (first | exact Take.head _ | apply Take.tail)) | apply OwnL.drop))) rfl rfl rfl rfl rfl rfl ?_
                                refine WD.take_noU 27 rfl (by kernel_rfl) (Held.mk' (by repeat (first | exact SubL.refl | refine SubL.cons (by repeat (first | assumption | exact mS | apply mT)) ?_ | refine SubL.skip ?_)) (by repeat (first | exact OwnL.refl | apply OwnL.take (by repeat (first | exact Take.head _ | apply Take.tail)) | apply OwnL.drop))) rfl rfl rfl rfl rfl rfl ?_
                                refine WD.take_noU 28 rfl (by kernel_rfl) (Held.mk' (by repeat (first | exact SubL.refl | refine SubL.cons (by repeat (first | assumption | exact mS | apply mT)) ?_ | refine SubL.skip ?_)) (by repeat (first | exact OwnL.refl | apply OwnL.take (by repeat (first | exact Take.head _ | apply Take.tail)) | apply OwnL.drop))) rfl rfl rfl rfl rfl rfl ?_
                                refine WD.take_noU 29 rfl (by kernel_rfl) (Held.mk' (by repeat (first | exact SubL.refl | refine SubL.cons (by repeat (first | assumption | exact mS | apply mT)) ?_ | refine SubL.skip ?_)) (by repeat (first | exact OwnL.refl | apply OwnL.take (by repeat (first | exact Take.head _ | apply Take.tail)) | apply OwnL.drop))) rfl rfl rfl rfl rfl rfl ?_
                                refine WD.take_noU 30 rfl (by kernel_rfl) (Held.mk' (by repeat (first | exact SubL.refl | refine SubL.cons (by repeat (first | assumption | exact mS | apply mT)) ?_ | refine SubL.skip ?_)) (by repeat (first | exact OwnL.refl | apply OwnL.take (by repeat (first | exact Take.head _ | apply Take.tail)) | apply OwnL.drop))) rfl rfl rfl rfl rfl rfl ?_
                                refine WD.take_noU 31 rfl (by kernel_rfl) (Held.mk' (by repeat (first | exact SubL.refl | refine SubL.cons (by repeat (first | assumption | exact mS | apply mT)) ?_ | refine SubL.skip ?_)) (by repeat (first | exact OwnL.refl | apply OwnL.take (by repeat (first | exact Take.head _ | apply Take.tail)) | apply OwnL.drop))) rfl rfl rfl rfl rfl rfl ?_
                                refine WD.take_noU 32 rfl (by kernel_rfl) (Held.mk' (by repeat (first | exact SubL.refl | refine SubL.cons (by repeat (first | assumption | exact mS | apply mT)) ?_ | refine SubL.skip ?_)) (by repeat (first | exact OwnL.refl | apply OwnL.take (by repeat (first | exact Take.head _ | apply Take.tail)) | apply OwnL.drop))) rfl rfl rfl rfl rfl rfl ?_
                                refine WD.take_noU 33 rfl (by kernel_rfl) (Held.mk' (by repeat (first | exact SubL.refl | refine SubL.cons (by repeat (first | assumption | exact mS | apply mT)) ?_ | refine SubL.skip ?_)) (by repeat (first | exact OwnL.refl | apply OwnL.take (by repeat (first | exact Take.head _ | apply Take.tail)) | apply OwnL.drop))) rfl rfl rfl rfl rfl rfl ?_
                                refine WD.take_noU 34 rfl (by kernel_rfl) (Held.mk' (by repeat (first | exact SubL.refl | refine SubL.cons (by repeat (first | assumption | exact mS | apply mT)) ?_ | refine SubL.skip ?_)) (by repeat (first | exact OwnL.refl | apply OwnL.take (by repeat (first | exact Take.head _ | apply Take.tail)) | apply OwnL.drop))) rfl rfl rfl rfl rfl rfl ?_
                                refine WD.take_noU 35 rfl (by kernel_rfl) (Held.mk' (by repeat (first | exact SubL.refl | refine SubL.cons (by repeat (first | assumption | exact mS | apply mT)) ?_ | refine SubL.skip ?_)) (by repeat (first | exact OwnL.refl | apply OwnL.take (by repeat (first | exact Take.head _ | apply Take.tail)) | apply OwnL.drop))) rfl rfl rfl rfl rfl rfl ?_
                                refine WD.take_no 36 rfl (by kernel_rfl) (Held.mk' (by repeat (first | exact SubL.refl | refine SubL.cons (by repeat (first | assumption | exact mS | apply mT)) ?_ | refine SubL.skip ?_)) (by repeat (first | exact OwnL.refl | apply OwnL.take (by repeat (first | exact Take.head _ | apply Take.tail)) | apply OwnL.drop))) rfl rfl rfl rfl rfl rfl ?_
                                refine WD.take 37 rfl (by kernel_rfl) (Held.mk' (by repeat (first | exact SubL.refl | refine SubL.cons (by repeat (first | assumption | exact mS | apply mT)) ?_ | refine SubL.skip ?_)) (by repeat (first | exact OwnL.refl | apply OwnL.take (by repeat (first | exact Take.head _ | apply Take.tail)) | apply OwnL.drop))) rfl rfl rfl (Rd.pick_t rfl rfl rfl) ?_
                                refine WD.done (by kernel_rfl) ?_
                                exact ⟨by repeat (first | exact Sub.nil | refine Sub.cons rfl (by first | rfl | (first | exact vb_t (by rw [hent]; exact fun h => hg93 h.1) | exact vb_t (by rw [hent]; exact fun h => by have := h.2.1; omega) | exact vb (by rw [hent]; exact ⟨fun h h2 => h (h2.2.2 (by omega)), fun h h2 => h ⟨Decidable.not_not.1 hg93, by omega, fun _ => h2⟩⟩) | exact vb_f (by rw [hent]; exact fun h => h ⟨Decidable.not_not.1 hg93, by omega, fun h => by omega⟩))) ?_), by first | exact (fun _ h => h.thin (SubL.mem (by repeat (first | exact SubL.refl | refine SubL.cons (by repeat (first | assumption | exact mS | apply mT)) ?_ | refine SubL.skip ?_)))) | exact (fun w h => OwnL.sat (by repeat (first | exact OwnL.refl | apply OwnL.take (by repeat (first | exact Take.head _ | apply Take.tail)) | apply OwnL.drop)) w (h.thin (SubL.mem (by repeat (first | exact SubL.refl | refine SubL.cons (by repeat (first | assumption | exact mS | apply mT)) ?_ | refine SubL.skip ?_)))))⟩
                              · skip
                                refine WD.take_yes 9 rfl (by kernel_rfl) (Held.mk' (by repeat (first | exact SubL.refl | refine SubL.cons (by repeat (first | assumption | exact mS | apply mT)) ?_ | refine SubL.skip ?_)) (by repeat (first | exact OwnL.refl | apply OwnL.take (by repeat (first | exact Take.head _ | apply Take.tail)) | apply OwnL.drop))) rfl rfl rfl rfl rfl rfl ((by first | exact Rd.field rfl F33_2 rfl rfl | exact Rd.fieldE rfl F33_2 rfl (by repeat (first | assumption | exact mS | apply mT)) (by omega) | exact Rd.fieldA rfl F33_2 rfl (by repeat (first | assumption | exact mS | apply mT)) (by omega))) ?_
                                refine WD.take_yes 10 rfl (by kernel_rfl) (Held.mk' (by repeat (first | exact SubL.refl | refine SubL.cons (by repeat (first | assumption | exact mS | apply mT)) ?_ | refine SubL.skip ?_)) (by repeat (first | exact OwnL.refl | apply OwnL.take (by repeat (first | exact Take.head _ | apply Take.tail)) | apply OwnL.drop))) rfl rfl rfl rfl rfl rfl (Rd.row1 (b := b1) (off := 2) (u := ev) rfl C31 rfl (by repeat (first | assumption | exact mS | apply mT)) rfl) ?_
                                refine WD.take_yes 11 rfl (by kernel_rfl) (Held.mk' (by repeat (first | exact SubL.refl | refine SubL.cons (by repeat (first | assumption | exact mS | apply mT)) ?_ | refine SubL.skip ?_)) (by repeat (first | exact OwnL.refl | apply OwnL.take (by repeat (first | exact Take.head _ | apply Take.tail)) | apply OwnL.drop))) rfl rfl rfl rfl rfl rfl (Rd.move rfl rfl) ?_
                                refine WD.take_yes 12 rfl (by kernel_rfl) (Held.mk' (by repeat (first | exact SubL.refl | refine SubL.cons (by repeat (first | assumption | exact mS | apply mT)) ?_ | refine SubL.skip ?_)) (by repeat (first | exact OwnL.refl | apply OwnL.take (by repeat (first | exact Take.head _ | apply Take.tail)) | apply OwnL.drop))) rfl rfl rfl rfl rfl rfl ((by first | exact Rd.idx rfl S31 rfl rfl rfl (by repeat (first | assumption | exact mS | apply mT)) (by first | omega | (simp only [List.length_cons, List.length_nil, List.length_append, List.length_map]; omega)) | exact Rd.idxA rfl S31 rfl rfl rfl (by repeat (first | assumption | exact mS | apply mT)) (by first | omega | (simp only [List.length_cons, List.length_nil, List.length_append, List.length_map]; omega)) | exact Rd.idxR rfl S31 rfl rfl rfl (by omega))) ?_
                                refine WD.take_yes 13 rfl (by kernel_rfl) (Held.mk' (by repeat (first | exact SubL.refl | refine SubL.cons (by repeat (first | assumption | exact mS | apply mT)) ?_ | refine SubL.skip ?_)) (by repeat (first | exact OwnL.refl | apply OwnL.take (by repeat (first | exact Take.head _ | apply Take.tail)) | apply OwnL.drop))) rfl rfl rfl rfl rfl rfl ((by first | exact Rd.field rfl F52_1 rfl rfl | exact Rd.fieldE rfl F52_1 rfl (by repeat (first | assumption | exact mS | apply mT)) (by omega) | exact Rd.fieldA rfl F52_1 rfl (by repeat (first | assumption | exact mS | apply mT)) (by omega))) ?_
                                refine WD.take_yes 14 rfl (by kernel_rfl) (Held.mk' (by repeat (first | exact SubL.refl | refine SubL.cons (by repeat (first | assumption | exact mS | apply mT)) ?_ | refine SubL.skip ?_)) (by repeat (first | exact OwnL.refl | apply OwnL.take (by repeat (first | exact Take.head _ | apply Take.tail)) | apply OwnL.drop))) rfl rfl rfl rfl rfl rfl (Rd.getF (k := i) (f := 1) (a := x) (enc := encT) (xs := o.ents) rfl C9 rfl (by repeat (first | assumption | exact mS | apply mT)) (fun _ => rfl) rfl (by rw [hx]; exact get!_of_lt (by omega)) rfl) ?_
                                refine WD.take_yes 15 rfl (by kernel_rfl) (Held.mk' (by repeat (first | exact SubL.refl | refine SubL.cons (by repeat (first | assumption | exact mS | apply mT)) ?_ | refine SubL.skip ?_)) (by repeat (first | exact OwnL.refl | apply OwnL.take (by repeat (first | exact Take.head _ | apply Take.tail)) | apply OwnL.drop))) rfl rfl rfl rfl rfl rfl (Rd.slen (ts := #[]) (ty := 0) rfl rfl Try.underlying9) ?_
                                refine WD.take_yes 16 rfl (by kernel_rfl) (Held.mk' (by repeat (first | exact SubL.refl | refine SubL.cons (by repeat (first | assumption | exact mS | apply mT)) ?_ | refine SubL.skip ?_)) (by repeat (first | exact OwnL.refl | apply OwnL.take (by repeat (first | exact Take.head _ | apply Take.tail)) | apply OwnL.drop))) rfl rfl rfl rfl rfl rfl (Rd.neq rfl rfl rfl) ?_
                                refine WD.take 17 rfl (by kernel_rfl) (Held.mk' (by repeat (first | exact SubL.refl | refine SubL.cons (by repeat (first | assumption | exact mS | apply mT)) ?_ | refine SubL.skip ?_)) (by repeat (first | exact OwnL.refl | apply OwnL.take (by repeat (first | exact Take.head _ | apply Take.tail)) | apply OwnL.drop))) rfl rfl rfl (Rd.pick_f rfl rfl rfl) ?_
                                refine WD.take 18 rfl (by kernel_rfl) (Held.mk' (by repeat (first | exact SubL.refl | refine SubL.cons (by repeat (first | assumption | exact mS | apply mT)) ?_ | refine SubL.skip ?_)) (by repeat (first | exact OwnL.refl | apply OwnL.take (by repeat (first | exact Take.head _ | apply Take.tail)) | apply OwnL.drop))) rfl rfl rfl (Rd.move rfl rfl) ?_
                                refine WD.case 103 rfl (fun hg103 => ?_) (fun hg103 => ?_)
                                · skip
                                  refine WD.take_no 19 rfl (by kernel_rfl) (Held.mk' (by repeat (first | exact SubL.refl | refine SubL.cons (by repeat (first | assumption | exact mS | apply mT)) ?_ | refine SubL.skip ?_)) (by repeat (first | exact OwnL.refl | apply OwnL.take (by repeat (first | exact Take.head _ | apply Take.tail)) | apply OwnL.drop))) rfl rfl rfl rfl rfl rfl ?_
                                  refine WD.take_no 20 rfl (by kernel_rfl) (Held.mk' (by repeat (first | exact SubL.refl | refine SubL.cons (by repeat (first | assumption | exact mS | apply mT)) ?_ | refine SubL.skip ?_)) (by repeat (first | exact OwnL.refl | apply OwnL.take (by repeat (first | exact Take.head _ | apply Take.tail)) | apply OwnL.drop))) rfl rfl rfl rfl rfl rfl ?_
                                  refine WD.take_no 21 rfl (by kernel_rfl) (Held.mk' (by repeat (first | exact SubL.refl | refine SubL.cons (by repeat (first | assumption | exact mS | apply mT)) ?_ | refine SubL.skip ?_)) (by repeat (first | exact OwnL.refl | apply OwnL.take (by repeat (first | exact Take.head _ | apply Take.tail)) | apply OwnL.drop))) rfl rfl rfl rfl rfl rfl ?_
                                  refine WD.take_noU 22 rfl (by kernel_rfl) (Held.mk' (by repeat (first | exact SubL.refl | refine SubL.cons (by repeat (first | assumption | exact mS | apply mT)) ?_ | refine SubL.skip ?_)) (by repeat (first | exact OwnL.refl | apply OwnL.take (by repeat (first | exact Take.head _ | apply Take.tail)) | apply OwnL.drop))) rfl rfl rfl rfl rfl rfl ?_
                                  refine WD.take_noU 23 rfl (by kernel_rfl) (Held.mk' (by repeat (first | exact SubL.refl | refine SubL.cons (by repeat (first | assumption | exact mS | apply mT)) ?_ | refine SubL.skip ?_)) (by repeat (first | exact OwnL.refl | apply OwnL.take (by repeat (first | exact Take.head _ | apply Take.tail)) | apply OwnL.drop))) rfl rfl rfl rfl rfl rfl ?_
                                  refine WD.take_noU 24 rfl (by kernel_rfl) (Held.mk' (by repeat (first | exact SubL.refl | refine SubL.cons (by repeat (first | assumption | exact mS | apply mT)) ?_ | refine SubL.skip ?_)) (by repeat (first | exact OwnL.refl | apply OwnL.take (by repeat (first | exact Take.head _ | apply Take.tail)) | apply OwnL.drop))) rfl rfl rfl rfl rfl rfl ?_
                                  refine WD.take_noU 25 rfl (by kernel_rfl) (Held.mk' (by repeat (first | exact SubL.refl | refine SubL.cons (by repeat (first | assumption | exact mS | apply mT)) ?_ | refine SubL.skip ?_)) (by repeat (first | exact OwnL.refl | apply OwnL.take (by repeat (first | exact Take.head _ | apply Take.tail)) | apply OwnL.drop))) rfl rfl rfl rfl rfl rfl ?_
                                  refine WD.take_noU 26 rfl (by kernel_rfl) (Held.mk' (by repeat (first | exact SubL.refl | refine SubL.cons (by repeat (first | assumption | exact mS | apply mT)) ?_ | refine SubL.skip ?_)) (by repeat (first | exact OwnL.refl | apply OwnL.take (by repeat (first | exact Take.head _ | apply Take.tail)) | apply OwnL.drop))) rfl rfl rfl rfl rfl rfl ?_
                                  refine WD.take_noU 27 rfl (by kernel_rfl) (Held.mk' (by repeat (first | exact SubL.refl | refine SubL.cons (by repeat (first | assumption | exact mS | apply mT)) ?_ | refine SubL.skip ?_)) (by repeat (first | exact OwnL.refl | apply OwnL.take (by repeat (first | exact Take.head _ | apply Take.tail)) | apply OwnL.drop))) rfl rfl rfl rfl rfl rfl ?_
                                  refine WD.take_noU 28 rfl (by kernel_rfl) (Held.mk' (by repeat (first | exact SubL.refl | refine SubL.cons (by repeat (first | assumption | exact mS | apply mT)) ?_ | refine SubL.skip ?_)) (by repeat (first | exact OwnL.refl | apply OwnL.take (by repeat (first | exact Take.head _ | apply Take.tail)) | apply OwnL.drop))) rfl rfl rfl rfl rfl rfl ?_
                                  refine WD.take_noU 29 rfl (by kernel_rfl) (Held.mk' (by repeat (first | exact SubL.refl | refine SubL.cons (by repeat (first | assumption | exact mS | apply mT)) ?_ | refine SubL.skip ?_)) (by repeat (first | exact OwnL.refl | apply OwnL.take (by repeat (first | exact Take.head _ | apply Take.tail)) | apply OwnL.drop))) rfl rfl rfl rfl rfl rfl ?_
                                  refine WD.take_noU 30 rfl (by kernel_rfl) (Held.mk' (by repeat (first | exact SubL.refl | refine SubL.cons (by repeat (first | assumption | exact mS | apply mT)) ?_ | refine SubL.skip ?_)) (by repeat (first | exact OwnL.refl | apply OwnL.take (by repeat (first | exact Take.head _ | apply Take.tail)) | apply OwnL.drop))) rfl rfl rfl rfl rfl rfl ?_
                                  refine WD.take_noU 31 rfl (by kernel_rfl) (Held.mk' (by repeat (first | exact SubL.refl | refine SubL.cons (by repeat (first | assumption | exact mS | apply mT)) ?_ | refine SubL.skip ?_)) (by repeat (first | exact OwnL.refl | apply OwnL.take (by repeat (first | exact Take.head _ | apply Take.tail)) | apply OwnL.drop))) rfl rfl rfl rfl rfl rfl ?_
                                  refine WD.take_noU 32 rfl (by kernel_rfl) (Held.mk' (by repeat (first | exact SubL.refl | refine SubL.cons (by repeat (first | assumption | exact mS | apply mT)) ?_ | refine SubL.skip ?_)) (by repeat (first | exact OwnL.refl | apply OwnL.take (by repeat (first | exact Take.head _ | apply Take.tail)) | apply OwnL.drop))) rfl rfl rfl rfl rfl rfl ?_
                                  refine WD.take_noU 33 rfl (by kernel_rfl) (Held.mk' (by repeat (first | exact SubL.refl | refine SubL.cons (by repeat (first | assumption | exact mS | apply mT)) ?_ | refine SubL.skip ?_)) (by repeat (first | exact OwnL.refl | apply OwnL.take (by repeat (first | exact Take.head _ | apply Take.tail)) | apply OwnL.drop))) rfl rfl rfl rfl rfl rfl ?_
                                  refine WD.take_noU 34 rfl (by kernel_rfl) (Held.mk' (by repeat (first | exact SubL.refl | refine SubL.cons (by repeat (first | assumption | exact mS | apply mT)) ?_ | refine SubL.skip ?_)) (by repeat (first | exact OwnL.refl | apply OwnL.take (by repeat (first | exact Take.head _ | apply Take.tail)) | apply OwnL.drop))) rfl rfl rfl rfl rfl rfl ?_
                                  refine WD.take_noU 35 rfl (by kernel_rfl) (Held.mk' (by repeat (first | exact SubL.refl | refine SubL.cons (by repeat (first | assumption | exact mS | apply mT)) ?_ | refine SubL.skip ?_)) (by repeat (first | exact OwnL.refl | apply OwnL.take (by repeat (first | exact Take.head _ | apply Take.tail)) | apply OwnL.drop))) rfl rfl rfl rfl rfl rfl ?_
                                  refine WD.take_no 36 rfl (by kernel_rfl) (Held.mk' (by repeat (first | exact SubL.refl | refine SubL.cons (by repeat (first | assumption | exact mS | apply mT)) ?_ | refine SubL.skip ?_)) (by repeat (first | exact OwnL.refl | apply OwnL.take (by repeat (first | exact Take.head _ | apply Take.tail)) | apply OwnL.drop))) rfl rfl rfl rfl rfl rfl ?_
                                  refine WD.take 37 rfl (by kernel_rfl) (Held.mk' (by repeat (first | exact SubL.refl | refine SubL.cons (by repeat (first | assumption | exact mS | apply mT)) ?_ | refine SubL.skip ?_)) (by repeat (first | exact OwnL.refl | apply OwnL.take (by repeat (first | exact Take.head _ | apply Take.tail)) | apply OwnL.drop))) rfl rfl rfl (Rd.pick_t rfl rfl rfl) ?_
                                  refine WD.done (by kernel_rfl) ?_
                                  exact ⟨by repeat (first | exact Sub.nil | refine Sub.cons rfl (by first | rfl | (first | exact vb_t (by rw [hent]; exact fun h => hg93 h.1) | exact vb_t (by rw [hent]; exact fun h => by have := h.2.1; omega) | exact vb (by rw [hent]; exact ⟨fun h h2 => h (h2.2.2 (by omega)), fun h h2 => h ⟨Decidable.not_not.1 hg93, by omega, fun _ => h2⟩⟩) | exact vb_f (by rw [hent]; exact fun h => h ⟨Decidable.not_not.1 hg93, by omega, fun h => by omega⟩))) ?_), by first | exact (fun _ h => h.thin (SubL.mem (by repeat (first | exact SubL.refl | refine SubL.cons (by repeat (first | assumption | exact mS | apply mT)) ?_ | refine SubL.skip ?_)))) | exact (fun w h => OwnL.sat (by repeat (first | exact OwnL.refl | apply OwnL.take (by repeat (first | exact Take.head _ | apply Take.tail)) | apply OwnL.drop)) w (h.thin (SubL.mem (by repeat (first | exact SubL.refl | refine SubL.cons (by repeat (first | assumption | exact mS | apply mT)) ?_ | refine SubL.skip ?_)))))⟩
                                · skip
                                  refine WD.take_yes 19 rfl (by kernel_rfl) (Held.mk' (by repeat (first | exact SubL.refl | refine SubL.cons (by repeat (first | assumption | exact mS | apply mT)) ?_ | refine SubL.skip ?_)) (by repeat (first | exact OwnL.refl | apply OwnL.take (by repeat (first | exact Take.head _ | apply Take.tail)) | apply OwnL.drop))) rfl rfl rfl rfl rfl rfl (Rd.move rfl rfl) ?_
                                  refine WD.take_yes 20 rfl (by kernel_rfl) (Held.mk' (by repeat (first | exact SubL.refl | refine SubL.cons (by repeat (first | assumption | exact mS | apply mT)) ?_ | refine SubL.skip ?_)) (by repeat (first | exact OwnL.refl | apply OwnL.take (by repeat (first | exact Take.head _ | apply Take.tail)) | apply OwnL.drop))) rfl rfl rfl rfl rfl rfl (Rd.gtr rfl rfl rfl) ?_
                                  refine WD.take_yes 21 rfl (by kernel_rfl) (Held.mk' (by repeat (first | exact SubL.refl | refine SubL.cons (by repeat (first | assumption | exact mS | apply mT)) ?_ | refine SubL.skip ?_)) (by repeat (first | exact OwnL.refl | apply OwnL.take (by repeat (first | exact Take.head _ | apply Take.tail)) | apply OwnL.drop))) rfl rfl rfl rfl rfl rfl (Rd.move rfl rfl) ?_
                                  refine WD.case 106 rfl (fun hg106 => ?_) (fun hg106 => ?_)
                                  · skip
                                    refine WD.take_yes 22 rfl (by kernel_rfl) (Held.mk' (by repeat (first | exact SubL.refl | refine SubL.cons (by repeat (first | assumption | exact mS | apply mT)) ?_ | refine SubL.skip ?_)) (by repeat (first | exact OwnL.refl | apply OwnL.take (by repeat (first | exact Take.head _ | apply Take.tail)) | apply OwnL.drop))) rfl rfl rfl rfl rfl rfl ((by first | exact Rd.field rfl F33_2 rfl rfl | exact Rd.fieldE rfl F33_2 rfl (by repeat (first | assumption | exact mS | apply mT)) (by omega) | exact Rd.fieldA rfl F33_2 rfl (by repeat (first | assumption | exact mS | apply mT)) (by omega))) ?_
                                    refine WD.take_yes 23 rfl (by kernel_rfl) (Held.mk' (by repeat (first | exact SubL.refl | refine SubL.cons (by repeat (first | assumption | exact mS | apply mT)) ?_ | refine SubL.skip ?_)) (by repeat (first | exact OwnL.refl | apply OwnL.take (by repeat (first | exact Take.head _ | apply Take.tail)) | apply OwnL.drop))) rfl rfl rfl rfl rfl rfl (Rd.row1 (b := b1) (off := 2) (u := ev) rfl C31 rfl (by repeat (first | assumption | exact mS | apply mT)) rfl) ?_
                                    refine WD.take_yes 24 rfl (by kernel_rfl) (Held.mk' (by repeat (first | exact SubL.refl | refine SubL.cons (by repeat (first | assumption | exact mS | apply mT)) ?_ | refine SubL.skip ?_)) (by repeat (first | exact OwnL.refl | apply OwnL.take (by repeat (first | exact Take.head _ | apply Take.tail)) | apply OwnL.drop))) rfl rfl rfl rfl rfl rfl (Rd.move rfl rfl) ?_
                                    refine WD.take_yes 25 rfl (by kernel_rfl) (Held.mk' (by repeat (first | exact SubL.refl | refine SubL.cons (by repeat (first | assumption | exact mS | apply mT)) ?_ | refine SubL.skip ?_)) (by repeat (first | exact OwnL.refl | apply OwnL.take (by repeat (first | exact Take.head _ | apply Take.tail)) | apply OwnL.drop))) rfl rfl rfl rfl rfl rfl (Rd.sub rfl rfl rfl (by omega)) ?_
                                    refine WD.take_yes 26 rfl (by kernel_rfl) (Held.mk' (by repeat (first | exact SubL.refl | refine SubL.cons (by repeat (first | assumption | exact mS | apply mT)) ?_ | refine SubL.skip ?_)) (by repeat (first | exact OwnL.refl | apply OwnL.take (by repeat (first | exact Take.head _ | apply Take.tail)) | apply OwnL.drop))) rfl rfl rfl rfl rfl rfl (Rd.idx (k := i - 1) rfl S31 rfl rfl (by omega) (enc := encT) (xs := o.ents) (by repeat (first | assumption | exact mS | apply mT)) (by omega)) ?_
                                    refine WD.take_yes 27 rfl (by kernel_rfl) (Held.mk' (by repeat (first | exact SubL.refl | refine SubL.cons (by repeat (first | assumption | exact mS | apply mT)) ?_ | refine SubL.skip ?_)) (by repeat (first | exact OwnL.refl | apply OwnL.take (by repeat (first | exact Take.head _ | apply Take.tail)) | apply OwnL.drop))) rfl rfl rfl rfl rfl rfl ((by first | exact Rd.field rfl F52_0 rfl rfl | exact Rd.fieldE rfl F52_0 rfl (by repeat (first | assumption | exact mS | apply mT)) (by omega) | exact Rd.fieldA rfl F52_0 rfl (by repeat (first | assumption | exact mS | apply mT)) (by omega))) ?_
                                    refine WD.take_yes 28 rfl (by kernel_rfl) (Held.mk' (by repeat (first | exact SubL.refl | refine SubL.cons (by repeat (first | assumption | exact mS | apply mT)) ?_ | refine SubL.skip ?_)) (by repeat (first | exact OwnL.refl | apply OwnL.take (by repeat (first | exact Take.head _ | apply Take.tail)) | apply OwnL.drop))) rfl rfl rfl rfl rfl rfl (Rd.getF (k := i - 1) (f := 0) (a := o.ents[i - 1]!) (enc := encT) (xs := o.ents) rfl C9 rfl (by repeat (first | assumption | exact mS | apply mT)) (fun _ => rfl) rfl (get!_of_lt (by omega)) rfl) ?_
                                    refine WD.take_yes 29 rfl (by kernel_rfl) (Held.mk' (by repeat (first | exact SubL.refl | refine SubL.cons (by repeat (first | assumption | exact mS | apply mT)) ?_ | refine SubL.skip ?_)) (by repeat (first | exact OwnL.refl | apply OwnL.take (by repeat (first | exact Take.head _ | apply Take.tail)) | apply OwnL.drop))) rfl rfl rfl rfl rfl rfl ((by first | exact Rd.field rfl F33_2 rfl rfl | exact Rd.fieldE rfl F33_2 rfl (by repeat (first | assumption | exact mS | apply mT)) (by omega) | exact Rd.fieldA rfl F33_2 rfl (by repeat (first | assumption | exact mS | apply mT)) (by omega))) ?_
                                    refine WD.take_yes 30 rfl (by kernel_rfl) (Held.mk' (by repeat (first | exact SubL.refl | refine SubL.cons (by repeat (first | assumption | exact mS | apply mT)) ?_ | refine SubL.skip ?_)) (by repeat (first | exact OwnL.refl | apply OwnL.take (by repeat (first | exact Take.head _ | apply Take.tail)) | apply OwnL.drop))) rfl rfl rfl rfl rfl rfl (Rd.row1 (b := b1) (off := 2) (u := ev) rfl C31 rfl (by repeat (first | assumption | exact mS | apply mT)) rfl) ?_
                                    refine WD.take_yes 31 rfl (by kernel_rfl) (Held.mk' (by repeat (first | exact SubL.refl | refine SubL.cons (by repeat (first | assumption | exact mS | apply mT)) ?_ | refine SubL.skip ?_)) (by repeat (first | exact OwnL.refl | apply OwnL.take (by repeat (first | exact Take.head _ | apply Take.tail)) | apply OwnL.drop))) rfl rfl rfl rfl rfl rfl (Rd.move rfl rfl) ?_
                                    refine WD.take_yes 32 rfl (by kernel_rfl) (Held.mk' (by repeat (first | exact SubL.refl | refine SubL.cons (by repeat (first | assumption | exact mS | apply mT)) ?_ | refine SubL.skip ?_)) (by repeat (first | exact OwnL.refl | apply OwnL.take (by repeat (first | exact Take.head _ | apply Take.tail)) | apply OwnL.drop))) rfl rfl rfl rfl rfl rfl ((by first | exact Rd.idx rfl S31 rfl rfl rfl (by repeat (first | assumption | exact mS | apply mT)) (by first | omega | (simp only [List.length_cons, List.length_nil, List.length_append, List.length_map]; omega)) | exact Rd.idxA rfl S31 rfl rfl rfl (by repeat (first | assumption | exact mS | apply mT)) (by first | omega | (simp only [List.length_cons, List.length_nil, List.length_append, List.length_map]; omega)) | exact Rd.idxR rfl S31 rfl rfl rfl (by omega))) ?_
                                    refine WD.take_yes 33 rfl (by kernel_rfl) (Held.mk' (by repeat (first | exact SubL.refl | refine SubL.cons (by repeat (first | assumption | exact mS | apply mT)) ?_ | refine SubL.skip ?_)) (by repeat (first | exact OwnL.refl | apply OwnL.take (by repeat (first | exact Take.head _ | apply Take.tail)) | apply OwnL.drop))) rfl rfl rfl rfl rfl rfl ((by first | exact Rd.field rfl F52_0 rfl rfl | exact Rd.fieldE rfl F52_0 rfl (by repeat (first | assumption | exact mS | apply mT)) (by omega) | exact Rd.fieldA rfl F52_0 rfl (by repeat (first | assumption | exact mS | apply mT)) (by omega))) ?_
                                    refine WD.take_yes 34 rfl (by kernel_rfl) (Held.mk' (by repeat (first | exact SubL.refl | refine SubL.cons (by repeat (first | assumption | exact mS | apply mT)) ?_ | refine SubL.skip ?_)) (by repeat (first | exact OwnL.refl | apply OwnL.take (by repeat (first | exact Take.head _ | apply Take.tail)) | apply OwnL.drop))) rfl rfl rfl rfl rfl rfl (Rd.getF (k := i) (f := 0) (a := x) (enc := encT) (xs := o.ents) rfl C9 rfl (by repeat (first | assumption | exact mS | apply mT)) (fun _ => rfl) rfl (by rw [hx]; exact get!_of_lt (by omega)) rfl) ?_
                                    refine WD.take_yes 35 rfl (by kernel_rfl) (Held.mk' (by repeat (first | exact SubL.refl | refine SubL.cons (by repeat (first | assumption | exact mS | apply mT)) ?_ | refine SubL.skip ?_)) (by repeat (first | exact OwnL.refl | apply OwnL.take (by repeat (first | exact Take.head _ | apply Take.tail)) | apply OwnL.drop))) rfl rfl rfl rfl rfl rfl (Rd.sgeq rfl rfl rfl) ?_
                                    refine WD.say 120 (u := .bool (decide (¬ Op.bytesLess o.ents[i - 1]!.1 x.1 = true))) rfl (by cases Op.bytesLess o.ents[i - 1]!.1 x.1 <;> rfl) ?_
                                    refine WD.take_yes 36 rfl (by kernel_rfl) (Held.mk' (by repeat (first | exact SubL.refl | refine SubL.cons (by repeat (first | assumption | exact mS | apply mT)) ?_ | refine SubL.skip ?_)) (by repeat (first | exact OwnL.refl | apply OwnL.take (by repeat (first | exact Take.head _ | apply Take.tail)) | apply OwnL.drop))) rfl rfl rfl rfl rfl rfl (Rd.pick_t rfl rfl rfl) ?_
                                    refine WD.take 37 rfl (by kernel_rfl) (Held.mk' (by repeat (first | exact SubL.refl | refine SubL.cons (by repeat (first | assumption | exact mS | apply mT)) ?_ | refine SubL.skip ?_)) (by repeat (first | exact OwnL.refl | apply OwnL.take (by repeat (first | exact Take.head _ | apply Take.tail)) | apply OwnL.drop))) rfl rfl rfl (Rd.pick_f rfl rfl rfl) ?_
                                    refine WD.done (by kernel_rfl) ?_
                                    exact ⟨by repeat (first | exact Sub.nil | refine Sub.cons rfl (by first | rfl | (first | exact vb_t (by rw [hent]; exact fun h => hg93 h.1) | exact vb_t (by rw [hent]; exact fun h => by have := h.2.1; omega) | exact vb (by rw [hent]; exact ⟨fun h h2 => h (h2.2.2 (by omega)), fun h h2 => h ⟨Decidable.not_not.1 hg93, by omega, fun _ => h2⟩⟩) | exact vb_f (by rw [hent]; exact fun h => h ⟨Decidable.not_not.1 hg93, by omega, fun h => by omega⟩))) ?_), by first | exact (fun _ h => h.thin (SubL.mem (by repeat (first | exact SubL.refl | refine SubL.cons (by repeat (first | assumption | exact mS | apply mT)) ?_ | refine SubL.skip ?_)))) | exact (fun w h => OwnL.sat (by repeat (first | exact OwnL.refl | apply OwnL.take (by repeat (first | exact Take.head _ | apply Take.tail)) | apply OwnL.drop)) w (h.thin (SubL.mem (by repeat (first | exact SubL.refl | refine SubL.cons (by repeat (first | assumption | exact mS | apply mT)) ?_ | refine SubL.skip ?_)))))⟩
                                  · skip
                                    refine WD.take_no 22 rfl (by kernel_rfl) (Held.mk' (by repeat (first | exact SubL.refl | refine SubL.cons (by repeat (first | assumption | exact mS | apply mT)) ?_ | refine SubL.skip ?_)) (by repeat (first | exact OwnL.refl | apply OwnL.take (by repeat (first | exact Take.head _ | apply Take.tail)) | apply OwnL.drop))) rfl rfl rfl rfl rfl rfl ?_
                                    refine WD.take_no 23 rfl (by kernel_rfl) (Held.mk' (by repeat (first | exact SubL.refl | refine SubL.cons (by repeat (first | assumption | exact mS | apply mT)) ?_ | refine SubL.skip ?_)) (by repeat (first | exact OwnL.refl | apply OwnL.take (by repeat (first | exact Take.head _ | apply Take.tail)) | apply OwnL.drop))) rfl rfl rfl rfl rfl rfl ?_
                                    refine WD.take_no 24 rfl (by kernel_rfl) (Held.mk' (by repeat (first | exact SubL.refl | refine SubL.cons (by repeat (first | assumption | exact mS | apply mT)) ?_ | refine SubL.skip ?_)) (by repeat (first | exact OwnL.refl | apply OwnL.take (by repeat (first | exact Take.head _ | apply Take.tail)) | apply OwnL.drop))) rfl rfl rfl rfl rfl rfl ?_
                                    refine WD.take_no 25 rfl (by kernel_rfl) (Held.mk' (by repeat (first | exact SubL.refl | refine SubL.cons (by repeat (first | assumption | exact mS | apply mT)) ?_ | refine SubL.skip ?_)) (by repeat (first | exact OwnL.refl | apply OwnL.take (by repeat (first | exact Take.head _ | apply Take.tail)) | apply OwnL.drop))) rfl rfl rfl rfl rfl rfl ?_
                                    refine WD.take_no 26 rfl (by kernel_rfl) (Held.mk' (by repeat (first | exact SubL.refl | refine SubL.cons (by repeat (first | assumption | exact mS | apply mT)) ?_ | refine SubL.skip ?_)) (by repeat (first | exact OwnL.refl | apply OwnL.take (by repeat (first | exact Take.head _ | apply Take.tail)) | apply OwnL.drop))) rfl rfl rfl rfl rfl rfl ?_
                                    refine WD.take_no 27 rfl (by kernel_rfl) (Held.mk' (by repeat (first | exact SubL.refl | refine SubL.cons (by repeat (first | assumption | exact mS | apply mT)) ?_ | refine SubL.skip ?_)) (by repeat (first | exact OwnL.refl | apply OwnL.take (by repeat (first | exact Take.head _ | apply Take.tail)) | apply OwnL.drop))) rfl rfl rfl rfl rfl rfl ?_
                                    refine WD.take_no 28 rfl (by kernel_rfl) (Held.mk' (by repeat (first | exact SubL.refl | refine SubL.cons (by repeat (first | assumption | exact mS | apply mT)) ?_ | refine SubL.skip ?_)) (by repeat (first | exact OwnL.refl | apply OwnL.take (by repeat (first | exact Take.head _ | apply Take.tail)) | apply OwnL.drop))) rfl rfl rfl rfl rfl rfl ?_
                                    refine WD.take_no 29 rfl (by kernel_rfl) (Held.mk' (by repeat (first | exact SubL.refl | refine SubL.cons (by repeat (first | assumption | exact mS | apply mT)) ?_ | refine SubL.skip ?_)) (by repeat (first | exact OwnL.refl | apply OwnL.take (by repeat (first | exact Take.head _ | apply Take.tail)) | apply OwnL.drop))) rfl rfl rfl rfl rfl rfl ?_
                                    refine WD.take_no 30 rfl (by kernel_rfl) (Held.mk' (by repeat (first | exact SubL.refl | refine SubL.cons (by repeat (first | assumption | exact mS | apply mT)) ?_ | refine SubL.skip ?_)) (by repeat (first | exact OwnL.refl | apply OwnL.take (by repeat (first | exact Take.head _ | apply Take.tail)) | apply OwnL.drop))) rfl rfl rfl rfl rfl rfl ?_
                                    refine WD.take_no 31 rfl (by kernel_rfl) (Held.mk' (by repeat (first | exact SubL.refl | refine SubL.cons (by repeat (first | assumption | exact mS | apply mT)) ?_ | refine SubL.skip ?_)) (by repeat (first | exact OwnL.refl | apply OwnL.take (by repeat (first | exact Take.head _ | apply Take.tail)) | apply OwnL.drop))) rfl rfl rfl rfl rfl rfl ?_
                                    refine WD.take_no 32 rfl (by kernel_rfl) (Held.mk' (by repeat (first | exact SubL.refl | refine SubL.cons (by repeat (first | assumption | exact mS | apply mT)) ?_ | refine SubL.skip ?_)) (by repeat (first | exact OwnL.refl | apply OwnL.take (by repeat (first | exact Take.head _ | apply Take.tail)) | apply OwnL.drop))) rfl rfl rfl rfl rfl rfl ?_
                                    refine WD.take_no 33 rfl (by kernel_rfl) (Held.mk' (by repeat (first | exact SubL.refl | refine SubL.cons (by repeat (first | assumption | exact mS | apply mT)) ?_ | refine SubL.skip ?_)) (by repeat (first | exact OwnL.refl | apply OwnL.take (by repeat (first | exact Take.head _ | apply Take.tail)) | apply OwnL.drop))) rfl rfl rfl rfl rfl rfl ?_
                                    refine WD.take_no 34 rfl (by kernel_rfl) (Held.mk' (by repeat (first | exact SubL.refl | refine SubL.cons (by repeat (first | assumption | exact mS | apply mT)) ?_ | refine SubL.skip ?_)) (by repeat (first | exact OwnL.refl | apply OwnL.take (by repeat (first | exact Take.head _ | apply Take.tail)) | apply OwnL.drop))) rfl rfl rfl rfl rfl rfl ?_
                                    refine WD.take_no 35 rfl (by kernel_rfl) (Held.mk' (by repeat (first | exact SubL.refl | refine SubL.cons (by repeat (first | assumption | exact mS | apply mT)) ?_ | refine SubL.skip ?_)) (by repeat (first | exact OwnL.refl | apply OwnL.take (by repeat (first | exact Take.head _ | apply Take.tail)) | apply OwnL.drop))) rfl rfl rfl rfl rfl rfl ?_
                                    refine WD.take_yes 36 rfl (by kernel_rfl) (Held.mk' (by repeat (first | exact SubL.refl | refine SubL.cons (by repeat (first | assumption | exact mS | apply mT)) ?_ | refine SubL.skip ?_)) (by repeat (first | exact OwnL.refl | apply OwnL.take (by repeat (first | exact Take.head _ | apply Take.tail)) | apply OwnL.drop))) rfl rfl rfl rfl rfl rfl (Rd.pick_f rfl rfl rfl) ?_
                                    refine WD.take 37 rfl (by kernel_rfl) (Held.mk' (by repeat (first | exact SubL.refl | refine SubL.cons (by repeat (first | assumption | exact mS | apply mT)) ?_ | refine SubL.skip ?_)) (by repeat (first | exact OwnL.refl | apply OwnL.take (by repeat (first | exact Take.head _ | apply Take.tail)) | apply OwnL.drop))) rfl rfl rfl (Rd.pick_f rfl rfl rfl) ?_
                                    refine WD.done (by kernel_rfl) ?_
                                    exact ⟨by repeat (first | exact Sub.nil | refine Sub.cons rfl (by first | rfl | (first | exact vb_t (by rw [hent]; exact fun h => hg93 h.1) | exact vb_t (by rw [hent]; exact fun h => by have := h.2.1; omega) | exact vb (by rw [hent]; exact ⟨fun h h2 => h (h2.2.2 (by omega)), fun h h2 => h ⟨Decidable.not_not.1 hg93, by omega, fun _ => h2⟩⟩) | exact vb_f (by rw [hent]; exact fun h => h ⟨Decidable.not_not.1 hg93, by omega, fun h => by omega⟩))) ?_), by first | exact (fun _ h => h.thin (SubL.mem (by repeat (first | exact SubL.refl | refine SubL.cons (by repeat (first | assumption | exact mS | apply mT)) ?_ | refine SubL.skip ?_)))) | exact (fun w h => OwnL.sat (by repeat (first | exact OwnL.refl | apply OwnL.take (by repeat (first | exact Take.head _ | apply Take.tail)) | apply OwnL.drop)) w (h.thin (SubL.mem (by repeat (first | exact SubL.refl | refine SubL.cons (by repeat (first | assumption | exact mS | apply mT)) ?_ | refine SubL.skip ?_)))))⟩
                            · skip
                              first | refine WC.ite rfl (fun hc9 => ?_) (fun hc9 => ?_) | refine WC.cond rfl (fun hc9 => ?_) (fun hc9 => ?_)
                              · skip
                                refine WC.seq ?_
                                refine WC.region ?_
                                refine WL.rd rfl rfl rfl (Rd.assign rfl rfl) ?_
                                refine WL.nil ?_
                                refine thenQ.normal ?_
                                refine WC.heap (R' := R) (O' := O) (fun w h => OwnL.sat (by repeat (first | exact OwnL.refl | apply OwnL.take (by repeat (first | exact Take.head _ | apply Take.tail)) | apply OwnL.drop)) w (h.thin (SubL.mem (by repeat (first | exact SubL.refl | refine SubL.cons (by repeat (first | assumption | exact mS | apply mT)) ?_ | refine SubL.skip ?_))))) ?_
                                refine WC.ret (Ret.one Try.results19 rfl ?_)
                                rw [decide_eq_false (fun h => hc9 ((h.2.2.1 hc7).1 i (by omega)))] at hk
                                exact hk
                              · skip
                                refine WC.skip ?_
                                refine blockQ.normal ?_
                                refine thenQ.normal ?_
                                refine WC.region ?_
                                refine WL.rd rfl rfl rfl (Rd.move rfl rfl) ?_
                                refine WL.rd rfl rfl rfl (Rd.add rfl rfl rfl (by omega)) ?_
                                refine WL.rd rfl rfl rfl (Rd.assign rfl rfl) ?_
                                refine WL.nil ?_
                                exact loopQ1.mk (i + 1) ⟨by omega, fun j hj => by
                                rcases Nat.lt_or_ge j i with h | h
                                · exact i2 j h
                                · obtain rfl : j = i := by omega
                                  exact Decidable.not_not.1 hc9⟩ (by omega) (by repeat (first | exact Sub.nil | refine Sub.cons rfl (by first | rfl | (congr 1; omega) | assumption) ?_)) (fun w h => OwnL.sat (by repeat (first | exact OwnL.refl | apply OwnL.take (by repeat (first | exact Take.head _ | apply Take.tail)) | apply OwnL.drop)) w (h.thin (SubL.mem (by repeat (first | exact SubL.refl | refine SubL.cons (by repeat (first | assumption | exact mS | apply mT)) ?_ | refine SubL.skip ?_)))))
                          · skip
                            obtain rfl : i = o.ents.length := by omega
                            refine WC.exit ?_
                            refine thenQ.exit ?_
                            refine loopQ1.exit ?_
                            refine blockQ.exit ?_
                            refine thenQ.normal ?_
                            refine WC.seq ?_
                            refine WC.region ?_
                            refine WL.rd rfl rfl rfl ((by first | exact Rd.field rfl F33_2 rfl rfl | exact Rd.fieldE rfl F33_2 rfl (by repeat (first | assumption | exact mS | apply mT)) (by omega) | exact Rd.fieldA rfl F33_2 rfl (by repeat (first | assumption | exact mS | apply mT)) (by omega))) ?_
                            refine WL.rd rfl rfl rfl (Rd.row1 (b := b1) (off := 2) (u := ev) rfl C31 rfl (by repeat (first | assumption | exact mS | apply mT)) rfl) ?_
                            refine WL.rd rfl rfl rfl (Rd.lenE (enc := encT) (xs := o.ents) rfl rfl Try.underlying31 (by repeat (first | assumption | exact mS | apply mT))) ?_
                            refine WL.rd rfl rfl rfl (Rd.leq rfl rfl rfl) ?_
                            refine WL.rd rfl rfl rfl (Rd.assign rfl rfl) ?_
                            refine WL.nil ?_
                            refine thenQ.normal ?_
                            refine WC.heap (R' := R) (O' := O) (fun w h => OwnL.sat (by repeat (first | exact OwnL.refl | apply OwnL.take (by repeat (first | exact Take.head _ | apply Take.tail)) | apply OwnL.drop)) w (h.thin (SubL.mem (by repeat (first | exact SubL.refl | refine SubL.cons (by repeat (first | assumption | exact mS | apply mT)) ?_ | refine SubL.skip ?_))))) ?_
                            refine WC.ret (Ret.one Try.results19 rfl ?_)
                            have e : decide (RightP o) = decide ((o.ents.length : Int) ≤ 4096) := by
                              rw [decide_eq_decide]
                              exact ⟨fun h => by have := (h.2.2.1 hc7).2; omega, fun h => ⟨hbare, fun h => by omega, fun _ => ⟨i2, by omega⟩, fun h => by omega, fun h => by omega⟩⟩
                            rw [e] at hk
                            exact hk
                        · skip
                          refine WC.seq ?_
                          refine WC.region ?_
                          refine WL.rd rfl rfl rfl (Rd.eql rfl rfl rfl) ?_
                          refine WL.rd rfl rfl rfl (Rd.assign rfl rfl) ?_
                          refine WL.nil ?_
                          refine thenQ.normal ?_
                          first | refine WC.ite rfl (fun hc10 => ?_) (fun hc10 => ?_) | refine WC.cond rfl (fun hc10 => ?_) (fun hc10 => ?_)
                          · skip
                            refine WC.seq ?_
                            refine WC.seq ?_
                            refine WC.region ?_
                            refine WL.rd rfl rfl rfl (Rd.assign rfl rfl) ?_
                            refine WL.nil ?_
                            refine thenQ.normal ?_
                            refine WC.block ?_
                            refine WC.pick [4, 1] (by repeat (first | exact Pick.nil | apply Pick.cons rfl)) ?_
                            refine WC.loop1o 1 (fun (i : Nat) => [(4, .int .i64 (i : Int))]) (fun (i : Nat) => i ≤ o.pars.length ∧ ∀ j, j < i → ParP o.pars j) (fun (i : Nat) => o.pars.length - i) (0) (by repeat (first | exact Split.zero | apply Split.succ)) ?hinv2 (by repeat (first | exact Sub.nil | refine Sub.cons rfl (by first | rfl | (congr 1; omega) | assumption) ?_)) (fun _ h => h) ?_
                            case hinv2 =>
                              exact ⟨Nat.zero_le _, fun j hj => absurd hj (Nat.not_lt_zero _)⟩
                            intro i
                            rintro ⟨i1, i2⟩
                            refine WC.seq ?_
                            refine WC.seq ?_
                            refine WC.region ?_
                            refine WL.rd rfl rfl rfl (Rd.move rfl rfl) ?_
                            refine WL.rd rfl rfl rfl ((by first | exact Rd.field rfl F33_4 rfl rfl | exact Rd.fieldE rfl F33_4 rfl (by repeat (first | assumption | exact mS | apply mT)) (by omega) | exact Rd.fieldA rfl F33_4 rfl (by repeat (first | assumption | exact mS | apply mT)) (by omega))) ?_
                            refine WL.rd rfl rfl rfl (Rd.row1 (b := b1) (off := 4) (u := pv) rfl C23 rfl (by repeat (first | assumption | exact mS | apply mT)) rfl) ?_
                            refine WL.rd rfl rfl rfl (Rd.lenE (enc := one vs) (xs := o.pars) rfl rfl Try.underlying23 (by repeat (first | assumption | exact mS | apply mT))) ?_
                            refine WL.rd rfl rfl rfl (Rd.lss rfl rfl rfl) ?_
                            refine WL.nil ?_
                            refine thenQ.normal ?_
                            first | refine WC.ite rfl (fun hc11 => ?_) (fun hc11 => ?_) | refine WC.cond rfl (fun hc11 => ?_) (fun hc11 => ?_)
                            · skip
                              refine WC.skip ?_
                              refine thenQ.normal ?_
                              refine WC.seq ?_
                              refine WC.block ?_
                              refine WC.seq ?_
                              refine WC.seq ?_
                              refine WC.region ?_
                              refine WL.rd rfl rfl rfl ((by first | exact Rd.field rfl F33_4 rfl rfl | exact Rd.fieldE rfl F33_4 rfl (by repeat (first | assumption | exact mS | apply mT)) (by omega) | exact Rd.fieldA rfl F33_4 rfl (by repeat (first | assumption | exact mS | apply mT)) (by omega))) ?_
                              refine WL.rd rfl rfl rfl (Rd.row1 (b := b1) (off := 4) (u := pv) rfl C23 rfl (by repeat (first | assumption | exact mS | apply mT)) rfl) ?_
                              refine WL.rd rfl rfl rfl (Rd.move rfl rfl) ?_
                              refine WL.rd rfl rfl rfl ((by first | exact Rd.idx1 rfl S23 rfl rfl rfl (by repeat (first | assumption | exact mS | apply mT)) (by first | omega | (simp only [List.length_cons, List.length_nil, List.length_append, List.length_map]; omega)) | exact Rd.idxA1 rfl S23 rfl rfl rfl (by repeat (first | assumption | exact mS | apply mT)) (by first | omega | (simp only [List.length_cons, List.length_nil, List.length_append, List.length_map]; omega)) | exact Rd.idxR1 rfl S23 rfl rfl rfl (by omega))) ?_
                              refine WL.rd rfl rfl rfl (Rd.get (k := i) (g := vs) (a := o.pars[i]!) (xs := o.pars) rfl C9 rfl (by repeat (first | assumption | exact mS | apply mT)) (get!_of_lt (by omega))) ?_
                              refine WL.rd rfl rfl rfl (Rd.slen (ts := #[]) (ty := 0) rfl rfl Try.underlying9) ?_
                              refine WL.rd rfl rfl rfl (Rd.neq rfl rfl rfl) ?_
                              refine WL.nil ?_
                              refine thenQ.normal ?_
                              first | refine WC.ite rfl (fun hc12 => ?_) (fun hc12 => ?_) | refine WC.cond rfl (fun hc12 => ?_) (fun hc12 => ?_)
                              · skip
                                refine WC.seq ?_
                                refine WC.region ?_
                                refine WL.rd rfl rfl rfl (Rd.assign rfl rfl) ?_
                                refine WL.nil ?_
                                refine thenQ.normal ?_
                                refine WC.heap (R' := R) (O' := O) (fun w h => OwnL.sat (by repeat (first | exact OwnL.refl | apply OwnL.take (by repeat (first | exact Take.head _ | apply Take.tail)) | apply OwnL.drop)) w (h.thin (SubL.mem (by repeat (first | exact SubL.refl | refine SubL.cons (by repeat (first | assumption | exact mS | apply mT)) ?_ | refine SubL.skip ?_))))) ?_
                                refine WC.ret (Ret.one Try.results19 rfl ?_)
                                rw [decide_eq_false (fun h => by have := ((h.2.2.2.1 hc10).1 i (by omega)).1; omega)] at hk
                                exact hk
                              · skip
                                refine WC.skip ?_
                                refine thenQ.normal ?_
                                refine WC.seq ?_
                                refine WC.region ?_
                                refine WL.rd rfl rfl rfl (Rd.assign rfl rfl) ?_
                                refine WL.nil ?_
                                refine thenQ.normal ?_
                                refine WC.block ?_
                                refine WC.pick [5, 1, 4] (by repeat (first | exact Pick.nil | apply Pick.cons rfl)) ?_
                                refine WC.loop1o 1 (fun (k : Nat) => [(5, .int .i64 (k : Int))]) (fun (k : Nat) => k ≤ i ∧ o.pars[i]! ∉ o.pars.take k) (fun (k : Nat) => i - k) (0) (by repeat (first | exact Split.zero | apply Split.succ)) ?hinv3 (by repeat (first | exact Sub.nil | refine Sub.cons rfl (by first | rfl | (congr 1; omega) | assumption) ?_)) (fun _ h => h) ?_
                                case hinv3 =>
                                  exact ⟨Nat.zero_le _, by simp⟩
                                intro k
                                rintro ⟨k1, k2⟩
                                refine WC.seq ?_
                                refine WC.seq ?_
                                refine WC.region ?_
                                refine WL.rd rfl rfl rfl (Rd.move rfl rfl) ?_
                                refine WL.rd rfl rfl rfl (Rd.move rfl rfl) ?_
                                refine WL.rd rfl rfl rfl (Rd.lss rfl rfl rfl) ?_
                                refine WL.nil ?_
                                refine thenQ.normal ?_
                                first | refine WC.ite rfl (fun hc13 => ?_) (fun hc13 => ?_) | refine WC.cond rfl (fun hc13 => ?_) (fun hc13 => ?_)
                                · skip
                                  refine WC.skip ?_
                                  refine thenQ.normal ?_
                                  refine WC.seq ?_
                                  refine WC.block ?_
                                  refine WC.seq ?_
                                  refine WC.still mixed (by kernel_rfl) ?_
                                  refine WA.rd rfl rfl rfl ((by first | exact Rd.field rfl F33_4 rfl rfl | exact Rd.fieldE rfl F33_4 rfl (by repeat (first | assumption | exact mS | apply mT)) (by omega) | exact Rd.fieldA rfl F33_4 rfl (by repeat (first | assumption | exact mS | apply mT)) (by omega))) ?_
                                  refine WA.rd rfl rfl rfl (Rd.row1 (b := b1) (off := 4) (u := pv) rfl C23 rfl (by repeat (first | assumption | exact mS | apply mT)) rfl) ?_
                                  refine WA.rd rfl rfl rfl (Rd.move rfl rfl) ?_
                                  refine WA.rd rfl rfl rfl ((by first | exact Rd.idx1 rfl S23 rfl rfl rfl (by repeat (first | assumption | exact mS | apply mT)) (by first | omega | (simp only [List.length_cons, List.length_nil, List.length_append, List.length_map]; omega)) | exact Rd.idxA1 rfl S23 rfl rfl rfl (by repeat (first | assumption | exact mS | apply mT)) (by first | omega | (simp only [List.length_cons, List.length_nil, List.length_append, List.length_map]; omega)) | exact Rd.idxR1 rfl S23 rfl rfl rfl (by omega))) ?_
                                  refine WA.rd rfl rfl rfl (Rd.get (k := k) (g := vs) (a := o.pars[k]!) (xs := o.pars) rfl C9 rfl (by repeat (first | assumption | exact mS | apply mT)) (get!_of_lt (by omega))) ?_
                                  refine WA.rd rfl rfl rfl ((by first | exact Rd.field rfl F33_4 rfl rfl | exact Rd.fieldE rfl F33_4 rfl (by repeat (first | assumption | exact mS | apply mT)) (by omega) | exact Rd.fieldA rfl F33_4 rfl (by repeat (first | assumption | exact mS | apply mT)) (by omega))) ?_
                                  refine WA.rd rfl rfl rfl (Rd.row1 (b := b1) (off := 4) (u := pv) rfl C23 rfl (by repeat (first | assumption | exact mS | apply mT)) rfl) ?_
                                  refine WA.rd rfl rfl rfl (Rd.move rfl rfl) ?_
                                  refine WA.rd rfl rfl rfl ((by first | exact Rd.idx1 rfl S23 rfl rfl rfl (by repeat (first | assumption | exact mS | apply mT)) (by first | omega | (simp only [List.length_cons, List.length_nil, List.length_append, List.length_map]; omega)) | exact Rd.idxA1 rfl S23 rfl rfl rfl (by repeat (first | assumption | exact mS | apply mT)) (by first | omega | (simp only [List.length_cons, List.length_nil, List.length_append, List.length_map]; omega)) | exact Rd.idxR1 rfl S23 rfl rfl rfl (by omega))) ?_
                                  refine WA.rd rfl rfl rfl (Rd.get (k := i) (g := vs) (a := o.pars[i]!) (xs := o.pars) rfl C9 rfl (by repeat (first | assumption | exact mS | apply mT)) (get!_of_lt (by omega))) ?_
                                  refine WA.rd rfl rfl rfl (Rd.seql rfl rfl rfl) ?_
                                  refine WA.nil ?_
                                  refine thenQ.normal ?_
                                  first | refine WC.ite rfl (fun hc14 => ?_) (fun hc14 => ?_) | refine WC.cond rfl (fun hc14 => ?_) (fun hc14 => ?_)
                                  · skip
                                    refine WC.seq ?_
                                    refine WC.region ?_
                                    refine WL.rd rfl rfl rfl (Rd.assign rfl rfl) ?_
                                    refine WL.nil ?_
                                    refine thenQ.normal ?_
                                    refine WC.heap (R' := R) (O' := O) (fun w h => OwnL.sat (by repeat (first | exact OwnL.refl | apply OwnL.take (by repeat (first | exact Take.head _ | apply Take.tail)) | apply OwnL.drop)) w (h.thin (SubL.mem (by repeat (first | exact SubL.refl | refine SubL.cons (by repeat (first | assumption | exact mS | apply mT)) ?_ | refine SubL.skip ?_))))) ?_
                                    refine WC.ret (Ret.one Try.results19 rfl ?_)
                                    rw [decide_eq_false (fun h => ((h.2.2.2.1 hc10).1 i (by omega)).2 (by
                                      rw [← hc14, getElem!_pos o.pars k (by omega)]
                                      exact List.mem_take_iff_getElem.2 ⟨k, by omega, rfl⟩))] at hk
                                    exact hk
                                  · skip
                                    refine WC.skip ?_
                                    refine blockQ.normal ?_
                                    refine thenQ.normal ?_
                                    refine WC.region ?_
                                    refine WL.rd rfl rfl rfl (Rd.move rfl rfl) ?_
                                    refine WL.rd rfl rfl rfl (Rd.add rfl rfl rfl (by omega)) ?_
                                    refine WL.rd rfl rfl rfl (Rd.assign rfl rfl) ?_
                                    refine WL.nil ?_
                                    exact loopQ1.mk (k + 1) ⟨by omega, by
                                    rw [List.take_add_one, get!_of_lt (by omega), List.mem_append]
                                    rintro (h | h)
                                    · exact k2 h
                                    · exact hc14 (List.mem_singleton.1 h).symm⟩ (by omega) (by repeat (first | exact Sub.nil | refine Sub.cons rfl (by first | rfl | (congr 1; omega) | assumption) ?_)) (fun w h => OwnL.sat (by repeat (first | exact OwnL.refl | apply OwnL.take (by repeat (first | exact Take.head _ | apply Take.tail)) | apply OwnL.drop)) w (h.thin (SubL.mem (by repeat (first | exact SubL.refl | refine SubL.cons (by repeat (first | assumption | exact mS | apply mT)) ?_ | refine SubL.skip ?_)))))
                                · skip
                                  obtain rfl : k = i := by omega
                                  refine WC.exit ?_
                                  refine thenQ.exit ?_
                                  refine loopQ1.exit ?_
                                  refine blockQ.exit ?_
                                  refine blockQ.normal ?_
                                  refine thenQ.normal ?_
                                  refine WC.region ?_
                                  refine WL.rd rfl rfl rfl (Rd.move rfl rfl) ?_
                                  refine WL.rd rfl rfl rfl (Rd.add rfl rfl rfl (by omega)) ?_
                                  refine WL.rd rfl rfl rfl (Rd.assign rfl rfl) ?_
                                  refine WL.nil ?_
                                  exact loopQ1.mk (k + 1) ⟨by omega, fun j hj => by
                                  rcases Nat.lt_or_ge j k with h | h
                                  · exact i2 j h
                                  · obtain rfl : j = k := by omega
                                    exact ⟨by omega, k2⟩⟩ (by omega) (by repeat (first | exact Sub.nil | refine Sub.cons rfl (by first | rfl | (congr 1; omega) | assumption) ?_)) (fun w h => OwnL.sat (by repeat (first | exact OwnL.refl | apply OwnL.take (by repeat (first | exact Take.head _ | apply Take.tail)) | apply OwnL.drop)) w (h.thin (SubL.mem (by repeat (first | exact SubL.refl | refine SubL.cons (by repeat (first | assumption | exact mS | apply mT)) ?_ | refine SubL.skip ?_)))))
                            · skip
                              obtain rfl : i = o.pars.length := by omega
                              refine WC.exit ?_
                              refine thenQ.exit ?_
                              refine loopQ1.exit ?_
                              refine blockQ.exit ?_
                              refine thenQ.normal ?_
                              refine WC.seq ?_
                              refine WC.region ?_
                              refine WL.rd rfl rfl rfl ((by first | exact Rd.field rfl F33_3 rfl rfl | exact Rd.fieldE rfl F33_3 rfl (by repeat (first | assumption | exact mS | apply mT)) (by omega) | exact Rd.fieldA rfl F33_3 rfl (by repeat (first | assumption | exact mS | apply mT)) (by omega))) ?_
                              refine WL.rd rfl rfl rfl (Rd.row1 (b := b1) (off := 3) rfl C9 rfl (by repeat (first | assumption | exact mS | apply mT)) rfl) ?_
                              refine WL.rd rfl rfl rfl (Rd.slen (ts := #[]) (ty := 0) rfl rfl Try.underlying9) ?_
                              refine WL.rd rfl rfl rfl (Rd.eql rfl rfl rfl) ?_
                              refine WL.rd rfl rfl rfl (Rd.move rfl rfl) ?_
                              refine WL.case 163 rfl (fun hg163 => ?_) (fun hg163 => ?_)
                              · skip
                                refine WL.rd_yes rfl rfl rfl rfl rfl rfl ((by first | exact Rd.field rfl F33_4 rfl rfl | exact Rd.fieldE rfl F33_4 rfl (by repeat (first | assumption | exact mS | apply mT)) (by omega) | exact Rd.fieldA rfl F33_4 rfl (by repeat (first | assumption | exact mS | apply mT)) (by omega))) ?_
                                refine WL.rd_yes rfl rfl rfl rfl rfl rfl (Rd.row1 (b := b1) (off := 4) (u := pv) rfl C23 rfl (by repeat (first | assumption | exact mS | apply mT)) rfl) ?_
                                refine WL.rd_yes rfl rfl rfl rfl rfl rfl (Rd.lenE (enc := one vs) (xs := o.pars) rfl rfl Try.underlying23 (by repeat (first | assumption | exact mS | apply mT))) ?_
                                refine WL.rd_yes rfl rfl rfl rfl rfl rfl (Rd.lss rfl rfl rfl) ?_
                                refine WL.rd rfl rfl rfl (Rd.pick_t rfl rfl rfl) ?_
                                refine WL.rd rfl rfl rfl (Rd.move rfl rfl) ?_
                                refine WL.case 169 rfl (fun hg169 => ?_) (fun hg169 => ?_)
                                · skip
                                  refine WL.rd_yes rfl rfl rfl rfl rfl rfl ((by first | exact Rd.field rfl F33_5 rfl rfl | exact Rd.fieldE rfl F33_5 rfl (by repeat (first | assumption | exact mS | apply mT)) (by omega) | exact Rd.fieldA rfl F33_5 rfl (by repeat (first | assumption | exact mS | apply mT)) (by omega))) ?_
                                  refine WL.rd_yes rfl rfl rfl rfl rfl rfl (Rd.row1 (b := b1) (off := 5) rfl C9 rfl (by repeat (first | assumption | exact mS | apply mT)) rfl) ?_
                                  refine WL.rd_yes rfl rfl rfl rfl rfl rfl (Rd.slen (ts := #[]) (ty := 0) rfl rfl Try.underlying9) ?_
                                  refine WL.rd_yes rfl rfl rfl rfl rfl rfl (Rd.lss rfl rfl rfl) ?_
                                  refine WL.rd rfl rfl rfl (Rd.pick_t rfl rfl rfl) ?_
                                  refine WL.rd rfl rfl rfl (Rd.move rfl rfl) ?_
                                  refine WL.case 175 rfl (fun hg175 => ?_) (fun hg175 => ?_)
                                  · skip
                                    refine WL.rd_yes rfl rfl rfl rfl rfl rfl ((by first | exact Rd.field rfl F33_6 rfl rfl | exact Rd.fieldE rfl F33_6 rfl (by repeat (first | assumption | exact mS | apply mT)) (by omega) | exact Rd.fieldA rfl F33_6 rfl (by repeat (first | assumption | exact mS | apply mT)) (by omega))) ?_
                                    refine WL.rd_yes rfl rfl rfl rfl rfl rfl (Rd.row1 (b := b1) (off := 6) rfl C9 rfl (by repeat (first | assumption | exact mS | apply mT)) rfl) ?_
                                    refine WL.rd_yes rfl rfl rfl rfl rfl rfl (Rd.slen (ts := #[]) (ty := 0) rfl rfl Try.underlying9) ?_
                                    refine WL.rd_yes rfl rfl rfl rfl rfl rfl (Rd.lss rfl rfl rfl) ?_
                                    refine WL.rd rfl rfl rfl (Rd.pick_t rfl rfl rfl) ?_
                                    refine WL.rd rfl rfl rfl (Rd.move rfl rfl) ?_
                                    refine WL.case 181 rfl (fun hg181 => ?_) (fun hg181 => ?_)
                                    · skip
                                      refine WL.rd_yes rfl rfl rfl rfl rfl rfl ((by first | exact Rd.field rfl F33_7 rfl rfl | exact Rd.fieldE rfl F33_7 rfl (by repeat (first | assumption | exact mS | apply mT)) (by omega) | exact Rd.fieldA rfl F33_7 rfl (by repeat (first | assumption | exact mS | apply mT)) (by omega))) ?_
                                      refine WL.rd_yes rfl rfl rfl rfl rfl rfl (Rd.row1 (b := b1) (off := 7) rfl C3 rfl (by repeat (first | assumption | exact mS | apply mT)) rfl) ?_
                                      refine WL.rd_yes rfl rfl rfl rfl rfl rfl (Rd.geq rfl rfl rfl) ?_
                                      refine WL.rd rfl rfl rfl (Rd.pick_t rfl rfl rfl) ?_
                                      refine WL.rd rfl rfl rfl (Rd.move rfl rfl) ?_
                                      refine WL.case 186 rfl (fun hg186 => ?_) (fun hg186 => ?_)
                                      · skip
                                        refine WL.rd_yes rfl rfl rfl rfl rfl rfl ((by first | exact Rd.field rfl F33_7 rfl rfl | exact Rd.fieldE rfl F33_7 rfl (by repeat (first | assumption | exact mS | apply mT)) (by omega) | exact Rd.fieldA rfl F33_7 rfl (by repeat (first | assumption | exact mS | apply mT)) (by omega))) ?_
                                        refine WL.rd_yes rfl rfl rfl rfl rfl rfl (Rd.row1 (b := b1) (off := 7) rfl C3 rfl (by repeat (first | assumption | exact mS | apply mT)) rfl) ?_
                                        refine WL.rd_yes rfl rfl rfl rfl rfl rfl (Rd.leq rfl rfl rfl) ?_
                                        refine WL.rd rfl rfl rfl (Rd.pick_t rfl rfl rfl) ?_
                                        refine WL.say 190 (u := .bool (decide (RightP o))) rfl (by first | (refine vb_f ?_; intro h; have := h.2.2.2.1 hc10; omega) | (refine vb ?_; exact ⟨fun h => ⟨hbare, fun h => by omega, fun h => by omega, fun _ => ⟨i2, by omega⟩, fun h => by omega⟩, fun h => by have := h.2.2.2.1 hc10; omega⟩)) ?_
                                        refine WL.rd rfl rfl rfl (Rd.assign rfl rfl) ?_
                                        refine WL.nil ?_
                                        refine thenQ.normal ?_
                                        refine WC.heap (R' := R) (O' := O) (fun w h => OwnL.sat (by repeat (first | exact OwnL.refl | apply OwnL.take (by repeat (first | exact Take.head _ | apply Take.tail)) | apply OwnL.drop)) w (h.thin (SubL.mem (by repeat (first | exact SubL.refl | refine SubL.cons (by repeat (first | assumption | exact mS | apply mT)) ?_ | refine SubL.skip ?_))))) ?_
                                        refine WC.ret (Ret.one Try.results19 rfl ?_)
                                        exact hk
                                      · skip
                                        refine WL.no rfl rfl rfl rfl rfl rfl ?_
                                        refine WL.no rfl rfl rfl rfl rfl rfl ?_
                                        refine WL.no rfl rfl rfl rfl rfl rfl ?_
                                        refine WL.rd rfl rfl rfl (Rd.pick_f rfl rfl rfl) ?_
                                        refine WL.say 190 (u := .bool (decide (RightP o))) rfl (by first | (refine vb_f ?_; intro h; have := h.2.2.2.1 hc10; omega) | (refine vb ?_; exact ⟨fun h => ⟨hbare, fun h => by omega, fun h => by omega, fun _ => ⟨i2, by omega⟩, fun h => by omega⟩, fun h => by have := h.2.2.2.1 hc10; omega⟩)) ?_
                                        refine WL.rd rfl rfl rfl (Rd.assign rfl rfl) ?_
                                        refine WL.nil ?_
                                        refine thenQ.normal ?_
                                        refine WC.heap (R' := R) (O' := O) (fun w h => OwnL.sat (by repeat (first | exact OwnL.refl | apply OwnL.take (by repeat (first | exact Take.head _ | apply Take.tail)) | apply OwnL.drop)) w (h.thin (SubL.mem (by repeat (first | exact SubL.refl | refine SubL.cons (by repeat (first | assumption | exact mS | apply mT)) ?_ | refine SubL.skip ?_))))) ?_
                                        refine WC.ret (Ret.one Try.results19 rfl ?_)
                                        exact hk
                                    · skip
                                      refine WL.no rfl rfl rfl rfl rfl rfl ?_
                                      refine WL.no rfl rfl rfl rfl rfl rfl ?_
                                      refine WL.no rfl rfl rfl rfl rfl rfl ?_
                                      refine WL.rd rfl rfl rfl (Rd.pick_f rfl rfl rfl) ?_
                                      refine WL.rd rfl rfl rfl (Rd.move rfl rfl) ?_
                                      refine WL.no rfl rfl rfl rfl rfl rfl ?_
                                      refine WL.no rfl rfl rfl rfl rfl rfl ?_
                                      refine WL.no rfl rfl rfl rfl rfl rfl ?_
                                      refine WL.rd rfl rfl rfl (Rd.pick_f rfl rfl rfl) ?_
                                      refine WL.say 190 (u := .bool (decide (RightP o))) rfl (by first | (refine vb_f ?_; intro h; have := h.2.2.2.1 hc10; omega) | (refine vb ?_; exact ⟨fun h => ⟨hbare, fun h => by omega, fun h => by omega, fun _ => ⟨i2, by omega⟩, fun h => by omega⟩, fun h => by have := h.2.2.2.1 hc10; omega⟩)) ?_
                                      refine WL.rd rfl rfl rfl (Rd.assign rfl rfl) ?_
                                      refine WL.nil ?_
                                      refine thenQ.normal ?_
                                      refine WC.heap (R' := R) (O' := O) (fun w h => OwnL.sat (by repeat (first | exact OwnL.refl | apply OwnL.take (by repeat (first | exact Take.head _ | apply Take.tail)) | apply OwnL.drop)) w (h.thin (SubL.mem (by repeat (first | exact SubL.refl | refine SubL.cons (by repeat (first | assumption | exact mS | apply mT)) ?_ | refine SubL.skip ?_))))) ?_
                                      refine WC.ret (Ret.one Try.results19 rfl ?_)
                                      exact hk
                                  · skip
                                    refine WL.no rfl rfl rfl rfl rfl rfl ?_
                                    refine WL.no rfl rfl rfl rfl rfl rfl ?_
                                    refine WL.no rfl rfl rfl rfl rfl rfl ?_
                                    refine WL.no rfl rfl rfl rfl rfl rfl ?_
                                    refine WL.rd rfl rfl rfl (Rd.pick_f rfl rfl rfl) ?_
                                    refine WL.rd rfl rfl rfl (Rd.move rfl rfl) ?_
                                    refine WL.no rfl rfl rfl rfl rfl rfl ?_
                                    refine WL.no rfl rfl rfl rfl rfl rfl ?_
                                    refine WL.no rfl rfl rfl rfl rfl rfl ?_
                                    refine WL.rd rfl rfl rfl (Rd.pick_f rfl rfl rfl) ?_
                                    refine WL.rd rfl rfl rfl (Rd.move rfl rfl) ?_
                                    refine WL.no rfl rfl rfl rfl rfl rfl ?_
                                    refine WL.no rfl rfl rfl rfl rfl rfl ?_
                                    refine WL.no rfl rfl rfl rfl rfl rfl ?_
                                    refine WL.rd rfl rfl rfl (Rd.pick_f rfl rfl rfl) ?_
                                    refine WL.say 190 (u := .bool (decide (RightP o))) rfl (by first | (refine vb_f ?_; intro h; have := h.2.2.2.1 hc10; omega) | (refine vb ?_; exact ⟨fun h => ⟨hbare, fun h => by omega, fun h => by omega, fun _ => ⟨i2, by omega⟩, fun h => by omega⟩, fun h => by have := h.2.2.2.1 hc10; omega⟩)) ?_
                                    refine WL.rd rfl rfl rfl (Rd.assign rfl rfl) ?_
                                    refine WL.nil ?_
                                    refine thenQ.normal ?_
                                    refine WC.heap (R' := R) (O' := O) (fun w h => OwnL.sat (by repeat (first | exact OwnL.refl | apply OwnL.take (by repeat (first | exact Take.head _ | apply Take.tail)) | apply OwnL.drop)) w (h.thin (SubL.mem (by repeat (first | exact SubL.refl | refine SubL.cons (by repeat (first | assumption | exact mS | apply mT)) ?_ | refine SubL.skip ?_))))) ?_
                                    refine WC.ret (Ret.one Try.results19 rfl ?_)
                                    exact hk
                                · skip
                                  refine WL.no rfl rfl rfl rfl rfl rfl ?_
                                  refine WL.no rfl rfl rfl rfl rfl rfl ?_
                                  refine WL.no rfl rfl rfl rfl rfl rfl ?_
                                  refine WL.no rfl rfl rfl rfl rfl rfl ?_
                                  refine WL.rd rfl rfl rfl (Rd.pick_f rfl rfl rfl) ?_
                                  refine WL.rd rfl rfl rfl (Rd.move rfl rfl) ?_
                                  refine WL.no rfl rfl rfl rfl rfl rfl ?_
                                  refine WL.no rfl rfl rfl rfl rfl rfl ?_
                                  refine WL.no rfl rfl rfl rfl rfl rfl ?_
                                  refine WL.no rfl rfl rfl rfl rfl rfl ?_
                                  refine WL.rd rfl rfl rfl (Rd.pick_f rfl rfl rfl) ?_
                                  refine WL.rd rfl rfl rfl (Rd.move rfl rfl) ?_
                                  refine WL.no rfl rfl rfl rfl rfl rfl ?_
                                  refine WL.no rfl rfl rfl rfl rfl rfl ?_
                                  refine WL.no rfl rfl rfl rfl rfl rfl ?_
                                  refine WL.rd rfl rfl rfl (Rd.pick_f rfl rfl rfl) ?_
                                  refine WL.rd rfl rfl rfl (Rd.move rfl rfl) ?_
                                  refine WL.no rfl rfl rfl rfl rfl rfl ?_
                                  refine WL.no rfl rfl rfl rfl rfl rfl ?_
                                  refine WL.no rfl rfl rfl rfl rfl rfl ?_
                                  refine WL.rd rfl rfl rfl (Rd.pick_f rfl rfl rfl) ?_
                                  refine WL.say 190 (u := .bool (decide (RightP o))) rfl (by first | (refine vb_f ?_; intro h; have := h.2.2.2.1 hc10; omega) | (refine vb ?_; exact ⟨fun h => ⟨hbare, fun h => by omega, fun h => by omega, fun _ => ⟨i2, by omega⟩, fun h => by omega⟩, fun h => by have := h.2.2.2.1 hc10; omega⟩)) ?_
                                  refine WL.rd rfl rfl rfl (Rd.assign rfl rfl) ?_
                                  refine WL.nil ?_
                                  refine thenQ.normal ?_
                                  refine WC.heap (R' := R) (O' := O) (fun w h => OwnL.sat (by repeat (first | exact OwnL.refl | apply OwnL.take (by repeat (first | exact Take.head _ | apply Take.tail)) | apply OwnL.drop)) w (h.thin (SubL.mem (by repeat (first | exact SubL.refl | refine SubL.cons (by repeat (first | assumption | exact mS | apply mT)) ?_ | refine SubL.skip ?_))))) ?_
                                  refine WC.ret (Ret.one Try.results19 rfl ?_)
                                  exact hk
                              · skip
                                refine WL.no rfl rfl rfl rfl rfl rfl ?_
                                refine WL.no rfl rfl rfl rfl rfl rfl ?_
                                refine WL.no rfl rfl rfl rfl rfl rfl ?_
                                refine WL.no rfl rfl rfl rfl rfl rfl ?_
                                refine WL.rd rfl rfl rfl (Rd.pick_f rfl rfl rfl) ?_
                                refine WL.rd rfl rfl rfl (Rd.move rfl rfl) ?_
                                refine WL.no rfl rfl rfl rfl rfl rfl ?_
                                refine WL.no rfl rfl rfl rfl rfl rfl ?_
                                refine WL.no rfl rfl rfl rfl rfl rfl ?_
                                refine WL.no rfl rfl rfl rfl rfl rfl ?_
                                refine WL.rd rfl rfl rfl (Rd.pick_f rfl rfl rfl) ?_
                                refine WL.rd rfl rfl rfl (Rd.move rfl rfl) ?_
                                refine WL.no rfl rfl rfl rfl rfl rfl ?_
                                refine WL.no rfl rfl rfl rfl rfl rfl ?_
                                refine WL.no rfl rfl rfl rfl rfl rfl ?_
                                refine WL.no rfl rfl rfl rfl rfl rfl ?_
                                refine WL.rd rfl rfl rfl (Rd.pick_f rfl rfl rfl) ?_
                                refine WL.rd rfl rfl rfl (Rd.move rfl rfl) ?_
                                refine WL.no rfl rfl rfl rfl rfl rfl ?_
                                refine WL.no rfl rfl rfl rfl rfl rfl ?_
                                refine WL.no rfl rfl rfl rfl rfl rfl ?_
                                refine WL.rd rfl rfl rfl (Rd.pick_f rfl rfl rfl) ?_
                                refine WL.rd rfl rfl rfl (Rd.move rfl rfl) ?_
                                refine WL.no rfl rfl rfl rfl rfl rfl ?_
                                refine WL.no rfl rfl rfl rfl rfl rfl ?_
                                refine WL.no rfl rfl rfl rfl rfl rfl ?_
                                refine WL.rd rfl rfl rfl (Rd.pick_f rfl rfl rfl) ?_
                                refine WL.say 190 (u := .bool (decide (RightP o))) rfl (by first | (refine vb_f ?_; intro h; have := h.2.2.2.1 hc10; omega) | (refine vb ?_; exact ⟨fun h => ⟨hbare, fun h => by omega, fun h => by omega, fun _ => ⟨i2, by omega⟩, fun h => by omega⟩, fun h => by have := h.2.2.2.1 hc10; omega⟩)) ?_
                                refine WL.rd rfl rfl rfl (Rd.assign rfl rfl) ?_
                                refine WL.nil ?_
                                refine thenQ.normal ?_
                                refine WC.heap (R' := R) (O' := O) (fun w h => OwnL.sat (by repeat (first | exact OwnL.refl | apply OwnL.take (by repeat (first | exact Take.head _ | apply Take.tail)) | apply OwnL.drop)) w (h.thin (SubL.mem (by repeat (first | exact SubL.refl | refine SubL.cons (by repeat (first | assumption | exact mS | apply mT)) ?_ | refine SubL.skip ?_))))) ?_
                                refine WC.ret (Ret.one Try.results19 rfl ?_)
                                exact hk
                          · skip
                            refine WC.skip ?_
                            refine blockQ.normal ?_
                            refine thenQ.normal ?_
                            refine WC.seq ?_
                            refine WC.region ?_
                            refine WL.rd rfl rfl rfl ((by first | exact Rd.field rfl F33_8 rfl rfl | exact Rd.fieldE rfl F33_8 rfl (by repeat (first | assumption | exact mS | apply mT)) (by omega) | exact Rd.fieldA rfl F33_8 rfl (by repeat (first | assumption | exact mS | apply mT)) (by omega))) ?_
                            refine WL.rd rfl rfl rfl (Rd.row1 (b := b1) (off := 8) rfl C9 rfl (by repeat (first | assumption | exact mS | apply mT)) rfl) ?_
                            refine WL.rd rfl rfl rfl (Rd.slen (ts := #[]) (ty := 0) rfl rfl Try.underlying9) ?_
                            refine WL.rd rfl rfl rfl (Rd.eql rfl rfl rfl) ?_
                            refine WL.rd rfl rfl rfl (Rd.move rfl rfl) ?_
                            refine WL.case 195 rfl (fun hg195 => ?_) (fun hg195 => ?_)
                            · skip
                              refine WL.rd_yes rfl rfl rfl rfl rfl rfl ((by first | exact Rd.field rfl F33_9 rfl rfl | exact Rd.fieldE rfl F33_9 rfl (by repeat (first | assumption | exact mS | apply mT)) (by omega) | exact Rd.fieldA rfl F33_9 rfl (by repeat (first | assumption | exact mS | apply mT)) (by omega))) ?_
                              refine WL.rd_yes rfl rfl rfl rfl rfl rfl (Rd.row1 (b := b1) (off := 9) rfl C9 rfl (by repeat (first | assumption | exact mS | apply mT)) rfl) ?_
                              refine WL.op_yes rfl rfl rfl rfl ?_
                              refine OpW.call rfl rfl (by repeat (first | exact Evs.nil | apply Evs.cons rfl)) (by kernel_rfl) rfl rfl rfl ?_
                              refine refGood_spec hn.2 ?_
                              refine WL.rd rfl rfl rfl (Rd.pick_t rfl rfl rfl) ?_
                              refine WL.rd rfl rfl rfl (Rd.move rfl rfl) ?_
                              refine WL.case 200 rfl (fun hg200 => ?_) (fun hg200 => ?_)
                              · skip
                                refine WL.rd_yes rfl rfl rfl rfl rfl rfl ((by first | exact Rd.field rfl F33_6 rfl rfl | exact Rd.fieldE rfl F33_6 rfl (by repeat (first | assumption | exact mS | apply mT)) (by omega) | exact Rd.fieldA rfl F33_6 rfl (by repeat (first | assumption | exact mS | apply mT)) (by omega))) ?_
                                refine WL.rd_yes rfl rfl rfl rfl rfl rfl (Rd.row1 (b := b1) (off := 6) rfl C9 rfl (by repeat (first | assumption | exact mS | apply mT)) rfl) ?_
                                refine WL.rd_yes rfl rfl rfl rfl rfl rfl (Rd.slen (ts := #[]) (ty := 0) rfl rfl Try.underlying9) ?_
                                refine WL.rd_yes rfl rfl rfl rfl rfl rfl (Rd.lss rfl rfl rfl) ?_
                                refine WL.rd rfl rfl rfl (Rd.pick_t rfl rfl rfl) ?_
                                refine WL.say 205 (u := .bool (decide (RightP o))) rfl (by first | (refine vb_f ?_; intro h; have := h.2.2.2.2 (by omega); first | exact hg200 this.2.1 | omega) | (refine vb ?_; exact ⟨fun h => ⟨hbare, fun h => by omega, fun h => by omega, fun h => by omega, fun _ => ⟨by omega, hg200, by omega⟩⟩, fun h => by have := h.2.2.2.2 (by omega); omega⟩)) ?_
                                refine WL.rd rfl rfl rfl (Rd.assign rfl rfl) ?_
                                refine WL.nil ?_
                                refine thenQ.normal ?_
                                refine WC.heap (R' := R) (O' := O) (fun w h => OwnL.sat (by repeat (first | exact OwnL.refl | apply OwnL.take (by repeat (first | exact Take.head _ | apply Take.tail)) | apply OwnL.drop)) w (h.thin (SubL.mem (by repeat (first | exact SubL.refl | refine SubL.cons (by repeat (first | assumption | exact mS | apply mT)) ?_ | refine SubL.skip ?_))))) ?_
                                refine WC.ret (Ret.one Try.results19 rfl ?_)
                                exact hk
                              · skip
                                refine WL.no rfl rfl rfl rfl rfl rfl ?_
                                refine WL.no rfl rfl rfl rfl rfl rfl ?_
                                refine WL.no rfl rfl rfl rfl rfl rfl ?_
                                refine WL.no rfl rfl rfl rfl rfl rfl ?_
                                refine WL.rd rfl rfl rfl (Rd.pick_f rfl rfl rfl) ?_
                                refine WL.say 205 (u := .bool (decide (RightP o))) rfl (by first | (refine vb_f ?_; intro h; have := h.2.2.2.2 (by omega); first | exact hg200 this.2.1 | omega) | (refine vb ?_; exact ⟨fun h => ⟨hbare, fun h => by omega, fun h => by omega, fun h => by omega, fun _ => ⟨by omega, hg200, by omega⟩⟩, fun h => by have := h.2.2.2.2 (by omega); omega⟩)) ?_
                                refine WL.rd rfl rfl rfl (Rd.assign rfl rfl) ?_
                                refine WL.nil ?_
                                refine thenQ.normal ?_
                                refine WC.heap (R' := R) (O' := O) (fun w h => OwnL.sat (by repeat (first | exact OwnL.refl | apply OwnL.take (by repeat (first | exact Take.head _ | apply Take.tail)) | apply OwnL.drop)) w (h.thin (SubL.mem (by repeat (first | exact SubL.refl | refine SubL.cons (by repeat (first | assumption | exact mS | apply mT)) ?_ | refine SubL.skip ?_))))) ?_
                                refine WC.ret (Ret.one Try.results19 rfl ?_)
                                exact hk
                            · skip
                              refine WL.no rfl rfl rfl rfl rfl rfl ?_
                              refine WL.no rfl rfl rfl rfl rfl rfl ?_
                              refine WL.no rfl rfl rfl rfl rfl rfl ?_
                              refine WL.rd rfl rfl rfl (Rd.pick_f rfl rfl rfl) ?_
                              refine WL.rd rfl rfl rfl (Rd.move rfl rfl) ?_
                              refine WL.no rfl rfl rfl rfl rfl rfl ?_
                              refine WL.no rfl rfl rfl rfl rfl rfl ?_
                              refine WL.no rfl rfl rfl rfl rfl rfl ?_
                              refine WL.no rfl rfl rfl rfl rfl rfl ?_
                              refine WL.rd rfl rfl rfl (Rd.pick_f rfl rfl rfl) ?_
                              refine WL.say 205 (u := .bool (decide (RightP o))) rfl (by first | (refine vb_f ?_; intro h; have := h.2.2.2.2 (by omega); first | exact hg200 this.2.1 | omega) | (refine vb ?_; exact ⟨fun h => ⟨hbare, fun h => by omega, fun h => by omega, fun h => by omega, fun _ => ⟨by omega, hg200, by omega⟩⟩, fun h => by have := h.2.2.2.2 (by omega); omega⟩)) ?_
                              refine WL.rd rfl rfl rfl (Rd.assign rfl rfl) ?_
                              refine WL.nil ?_
                              refine thenQ.normal ?_
                              refine WC.heap (R' := R) (O' := O) (fun w h => OwnL.sat (by repeat (first | exact OwnL.refl | apply OwnL.take (by repeat (first | exact Take.head _ | apply Take.tail)) | apply OwnL.drop)) w (h.thin (SubL.mem (by repeat (first | exact SubL.refl | refine SubL.cons (by repeat (first | assumption | exact mS | apply mT)) ?_ | refine SubL.skip ?_))))) ?_
                              refine WC.ret (Ret.one Try.results19 rfl ?_)
                              exact hk
set_option maxRecDepth 20000 in
set_option maxHeartbeats 4000000 in
theorem refEncode_spec (he : SlE encT ev o.ents ∈ R) (hp : SlE (one vs) pv o.pars ∈ R) (hn : Names o) (hk : POST (.tuple #[vs (encE o).1, .int .i64 ((encE o).2 : Nat)]) R O) : Fun Try.prog 10 #[obV o ev pv] R O POST := by
  refine Fun.oneV he fun hev => ?_
  refine Fun.oneV hp fun hpv => ?_
  refine Fun.len he fun hel => ?_
  refine Fun.len hp fun hpl => ?_
  have hfin := encE.eq_1 o
  refine Fun.enter (l := [_]) Try.func10 rfl Try.ntmps10 rfl (L0 := [(0, _)]) rfl ?_
  refine WC.seq ?_
  refine WC.region ?_
  refine WL.op rfl ?_
  refine OpW.box rfl rfl (by repeat (first | exact NF.nil | apply NF.cons)) rfl rfl ?_; intro b1
  refine WL.rd rfl rfl rfl (Rd.assign rfl rfl) ?_
  refine WL.rd rfl rfl rfl (Rd.assign rfl rfl) ?_
  refine WL.nil ?_
  refine thenQ.normal ?_
  refine WC.seq ?_
  refine WC.pick [1] (by repeat (first | exact Pick.nil | apply Pick.cons rfl)) ?_
  refine WC.val 15 (.bool (decide (o.kind < 1 ∨ 4 < o.kind))) ?_ ?_
  · skip
    refine WC.region ?_
    refine WL.rd rfl rfl rfl ((by first | exact Rd.field rfl F33_0 rfl rfl | exact Rd.fieldE rfl F33_0 rfl (by repeat (first | assumption | exact mS | apply mT)) (by omega) | exact Rd.fieldA rfl F33_0 rfl (by repeat (first | assumption | exact mS | apply mT)) (by omega))) ?_
    refine WL.rd rfl rfl rfl (Rd.row1 (b := b1) (off := 0) (u := .int .i64 o.kind) rfl C3 rfl (by repeat (first | assumption | exact mS | apply mT)) rfl) ?_
    refine WL.rd rfl rfl rfl (Rd.lss rfl rfl rfl) ?_
    refine WL.rd rfl rfl rfl (Rd.move rfl rfl) ?_
    refine WL.case 11 rfl (fun hg11 => ?_) (fun hg11 => ?_)
    · skip
      refine WL.no rfl rfl rfl rfl rfl rfl ?_
      refine WL.no rfl rfl rfl rfl rfl rfl ?_
      refine WL.no rfl rfl rfl rfl rfl rfl ?_
      refine WL.rd rfl rfl rfl (Rd.pick_t rfl rfl rfl) ?_
      refine WL.nil ?_
      exact ⟨by repeat (first | exact Sub.nil | refine Sub.cons rfl (by first | rfl | (first | exact vb_t (.inl hg11) | exact vb ⟨fun h => .inr h, fun h => h.resolve_left hg11⟩)) ?_), by first | exact (fun _ h => h.thin (SubL.mem (by repeat (first | exact SubL.refl | refine SubL.cons (by repeat (first | assumption | exact mS | apply mT)) ?_ | refine SubL.skip ?_)))) | exact (fun w h => OwnL.sat (by repeat (first | exact OwnL.refl | apply OwnL.take (by repeat (first | exact Take.head _ | apply Take.tail)) | apply OwnL.drop)) w (h.thin (SubL.mem (by repeat (first | exact SubL.refl | refine SubL.cons (by repeat (first | assumption | exact mS | apply mT)) ?_ | refine SubL.skip ?_)))))⟩
    · skip
      refine WL.rd_yes rfl rfl rfl rfl rfl rfl ((by first | exact Rd.field rfl F33_0 rfl rfl | exact Rd.fieldE rfl F33_0 rfl (by repeat (first | assumption | exact mS | apply mT)) (by omega) | exact Rd.fieldA rfl F33_0 rfl (by repeat (first | assumption | exact mS | apply mT)) (by omega))) ?_
      refine WL.rd_yes rfl rfl rfl rfl rfl rfl (Rd.row1 (b := b1) (off := 0) (u := .int .i64 o.kind) rfl C3 rfl (by repeat (first | assumption | exact mS | apply mT)) rfl) ?_
      refine WL.rd_yes rfl rfl rfl rfl rfl rfl (Rd.gtr rfl rfl rfl) ?_
      refine WL.rd rfl rfl rfl (Rd.pick_f rfl rfl rfl) ?_
      refine WL.nil ?_
      exact ⟨by repeat (first | exact Sub.nil | refine Sub.cons rfl (by first | rfl | (first | exact vb_t (.inl hg11) | exact vb ⟨fun h => .inr h, fun h => h.resolve_left hg11⟩)) ?_), by first | exact (fun _ h => h.thin (SubL.mem (by repeat (first | exact SubL.refl | refine SubL.cons (by repeat (first | assumption | exact mS | apply mT)) ?_ | refine SubL.skip ?_)))) | exact (fun w h => OwnL.sat (by repeat (first | exact OwnL.refl | apply OwnL.take (by repeat (first | exact Take.head _ | apply Take.tail)) | apply OwnL.drop)) w (h.thin (SubL.mem (by repeat (first | exact SubL.refl | refine SubL.cons (by repeat (first | assumption | exact mS | apply mT)) ?_ | refine SubL.skip ?_)))))⟩
  · skip
    first | refine WC.ite rfl (fun hc1 => ?_) (fun hc1 => ?_) | refine WC.cond rfl (fun hc1 => ?_) (fun hc1 => ?_)
    · skip
      rw [if_pos hc1] at hfin
      refine WC.seq ?_
      refine WC.region ?_
      refine WL.rd rfl rfl rfl (Rd.assign rfl rfl) ?_
      refine WL.rd rfl rfl rfl (Rd.assign rfl rfl) ?_
      refine WL.nil ?_
      refine thenQ.normal ?_
      refine WC.heap (R' := R) (O' := O) (fun w h => OwnL.sat (by repeat (first | exact OwnL.refl | apply OwnL.take (by repeat (first | exact Take.head _ | apply Take.tail)) | apply OwnL.drop)) w (h.thin (SubL.mem (by repeat (first | exact SubL.refl | refine SubL.cons (by repeat (first | assumption | exact mS | apply mT)) ?_ | refine SubL.skip ?_))))) ?_
      refine WC.ret (Ret.two Try.results10 rfl rfl ?_)
      rw [hfin] at hk
      exact hk
    · skip
      rw [if_neg hc1] at hfin
      have hkk : 1 ≤ o.kind ∧ o.kind ≤ 4 := by omega
      refine WC.skip ?_
      refine thenQ.normal ?_
      refine WC.seq ?_
      refine WC.seq ?_
      refine WC.region ?_
      refine WL.rd rfl rfl rfl (Rd.rowS (b := b1) rfl G33 rfl (by repeat (first | assumption | exact mS | apply mT)) (by repeat (first | exact NF.nil | apply NF.cons)) rfl) ?_
      refine WL.op rfl ?_
      refine OpW.call rfl rfl (by repeat (first | exact Evs.nil | apply Evs.cons rfl)) (by kernel_rfl) rfl rfl rfl ?_
      refine refRight_spec he hp hn hkk ?_
      refine WL.rd rfl rfl rfl ((by first | exact Rd.notd rfl rfl | exact Rd.not rfl rfl)) ?_
      refine WL.nil ?_
      refine thenQ.normal ?_
      first | refine WC.ite rfl (fun hc2 => ?_) (fun hc2 => ?_) | refine WC.cond rfl (fun hc2 => ?_) (fun hc2 => ?_)
      · skip
        rw [if_pos hc2] at hfin
        refine WC.seq ?_
        refine WC.region ?_
        refine WL.rd rfl rfl rfl (Rd.assign rfl rfl) ?_
        refine WL.rd rfl rfl rfl (Rd.assign rfl rfl) ?_
        refine WL.nil ?_
        refine thenQ.normal ?_
        refine WC.heap (R' := R) (O' := O) (fun w h => OwnL.sat (by repeat (first | exact OwnL.refl | apply OwnL.take (by repeat (first | exact Take.head _ | apply Take.tail)) | apply OwnL.drop)) w (h.thin (SubL.mem (by repeat (first | exact SubL.refl | refine SubL.cons (by repeat (first | assumption | exact mS | apply mT)) ?_ | refine SubL.skip ?_))))) ?_
        refine WC.ret (Ret.two Try.results10 rfl rfl ?_)
        rw [hfin] at hk
        exact hk
      · skip
        have hrr := Decidable.not_not.1 hc2
        rw [if_neg hc2] at hfin
        obtain ⟨htl, htn⟩ := texts_le hkk hrr
        have hjl := texts_join hkk hrr
        obtain ⟨K, hK⟩ : ∃ K, K = UInt8.ofNat o.kind.toNat := ⟨_, rfl⟩
        have heb : encB o = K :: joinE (texts o) := by rw [hK]; rfl
        refine WC.skip ?_
        refine thenQ.normal ?_
        refine WC.seq ?_
        refine WC.region ?_
        refine WL.rd rfl rfl rfl ((by first | exact Rd.field rfl F33_0 rfl rfl | exact Rd.fieldE rfl F33_0 rfl (by repeat (first | assumption | exact mS | apply mT)) (by omega) | exact Rd.fieldA rfl F33_0 rfl (by repeat (first | assumption | exact mS | apply mT)) (by omega))) ?_
        refine WL.rd rfl rfl rfl (Rd.row1 (b := b1) (off := 0) (u := .int .i64 o.kind) rfl C3 rfl (by repeat (first | assumption | exact mS | apply mT)) rfl) ?_
        refine WL.rd rfl rfl rfl (Rd.convw (kd' := .u8) rfl rfl Try.underlying5 (hS := Try.underlying3)) ?_
        refine WL.say 21 (u := vy K) rfl (by
        have : IntKind.u8.wrap o.kind = ((UInt8.ofNat o.kind.toNat).toNat : Int) := by
          have h1 := wrap_byte o.kind.toNat
          rw [show ((o.kind.toNat : Nat) : Int) = o.kind from by omega] at h1
          rw [h1]; simp
        rw [this, hK]) ?_
        refine WL.op rfl ?_
        refine OpW.buildSl (ps := [(0, _)]) rfl S61 (by repeat (first | exact Evs.nil | apply Evs.cons rfl)) rfl rfl (by repeat (first | exact CellsOf.nil | apply CellsOf.cons rfl)) (by kernel_rfl) rfl rfl rfl ?_; intro b22
        refine WL.rd rfl rfl rfl (Rd.strOfR (bs := [K]) rfl Try.underlying61 Try.underlying9 Try.underlying5 rfl (by repeat (first | assumption | exact mS | apply mT)) rfl rfl (by decide)) ?_
        refine WL.rd rfl rfl rfl (Rd.assign rfl rfl) ?_
        refine WL.nil ?_
        refine thenQ.normal ?_
        refine WC.seq ?_
        refine WC.seq ?_
        refine WC.region ?_
        refine WL.rd rfl rfl rfl ((by first | exact Rd.field rfl F33_0 rfl rfl | exact Rd.fieldE rfl F33_0 rfl (by repeat (first | assumption | exact mS | apply mT)) (by omega) | exact Rd.fieldA rfl F33_0 rfl (by repeat (first | assumption | exact mS | apply mT)) (by omega))) ?_
        refine WL.rd rfl rfl rfl (Rd.row1 (b := b1) (off := 0) (u := .int .i64 o.kind) rfl C3 rfl (by repeat (first | assumption | exact mS | apply mT)) rfl) ?_
        refine WL.nil ?_
        refine thenQ.normal ?_
        refine WC.block ?_
        refine WC.seq ?_
        refine WC.region ?_
        refine WL.rd rfl rfl rfl (Rd.eql rfl rfl rfl) ?_
        refine WL.rd rfl rfl rfl (Rd.assign rfl rfl) ?_
        refine WL.nil ?_
        refine thenQ.normal ?_
        first | refine WC.ite rfl (fun hc3 => ?_) (fun hc3 => ?_) | refine WC.cond rfl (fun hc3 => ?_) (fun hc3 => ?_)
        · skip
          have ht : texts o = [o.body] := by unfold texts; rw [if_pos hc3]
          rw [ht] at htl hjl heb
          have hb1 := htl o.body (by simp)
          refine WC.region ?_
          refine WL.rd rfl rfl rfl (Rd.move rfl rfl) ?_
          refine WL.rd rfl rfl rfl ((by first | exact Rd.field rfl F33_1 rfl rfl | exact Rd.fieldE rfl F33_1 rfl (by repeat (first | assumption | exact mS | apply mT)) (by omega) | exact Rd.fieldA rfl F33_1 rfl (by repeat (first | assumption | exact mS | apply mT)) (by omega))) ?_
          refine WL.rd rfl rfl rfl (Rd.row1 (b := b1) (off := 1) rfl C9 rfl (by repeat (first | assumption | exact mS | apply mT)) rfl) ?_
          refine WL.op rfl ?_
          refine OpW.call rfl rfl (by repeat (first | exact Evs.nil | apply Evs.cons rfl)) (by kernel_rfl) rfl rfl rfl ?_
          refine text_spec (by omega) ?_
          refine WL.rd rfl rfl rfl (Rd.scat rfl rfl rfl (by simp; omega)) ?_
          refine WL.say 45 (u := vs (encB o)) rfl (by rw [heb]; rfl) ?_
          refine WL.rd rfl rfl rfl (Rd.assign rfl rfl) ?_
          refine WL.nil ?_
          refine blockQ.normal ?_
          refine thenQ.normal ?_
          refine WC.seq ?_
          refine WC.seq ?_
          refine WC.region ?_
          refine WL.rd rfl rfl rfl (Rd.move rfl rfl) ?_
          refine WL.rd rfl rfl rfl (Rd.slen (ts := #[]) (ty := 0) rfl rfl Try.underlying9) ?_
          refine WL.rd rfl rfl rfl (Rd.gtr rfl rfl rfl) ?_
          refine WL.nil ?_
          refine thenQ.normal ?_
          first | refine WC.ite rfl (fun hc8 => ?_) (fun hc8 => ?_) | refine WC.cond rfl (fun hc8 => ?_) (fun hc8 => ?_)
          · skip
            rw [if_pos (show 262208 < (encB o).length by omega)] at hfin
            refine WC.seq ?_
            refine WC.region ?_
            refine WL.rd rfl rfl rfl (Rd.assign rfl rfl) ?_
            refine WL.rd rfl rfl rfl (Rd.assign rfl rfl) ?_
            refine WL.nil ?_
            refine thenQ.normal ?_
            refine WC.heap (R' := R) (O' := O) (fun w h => OwnL.sat (by repeat (first | exact OwnL.refl | apply OwnL.take (by repeat (first | exact Take.head _ | apply Take.tail)) | apply OwnL.drop)) w (h.thin (SubL.mem (by repeat (first | exact SubL.refl | refine SubL.cons (by repeat (first | assumption | exact mS | apply mT)) ?_ | refine SubL.skip ?_))))) ?_
            refine WC.ret (Ret.two Try.results10 rfl rfl ?_)
            rw [hfin] at hk
            exact hk
          · skip
            rw [if_neg (show ¬ 262208 < (encB o).length by omega)] at hfin
            refine WC.skip ?_
            refine thenQ.normal ?_
            refine WC.seq ?_
            refine WC.region ?_
            refine WL.rd rfl rfl rfl (Rd.move rfl rfl) ?_
            refine WL.rd rfl rfl rfl (Rd.assign rfl rfl) ?_
            refine WL.rd rfl rfl rfl (Rd.assign rfl rfl) ?_
            refine WL.nil ?_
            refine thenQ.normal ?_
            refine WC.heap (R' := R) (O' := O) (fun w h => OwnL.sat (by repeat (first | exact OwnL.refl | apply OwnL.take (by repeat (first | exact Take.head _ | apply Take.tail)) | apply OwnL.drop)) w (h.thin (SubL.mem (by repeat (first | exact SubL.refl | refine SubL.cons (by repeat (first | assumption | exact mS | apply mT)) ?_ | refine SubL.skip ?_))))) ?_
            refine WC.ret (Ret.two Try.results10 rfl rfl ?_)
            rw [hfin] at hk
            exact hk
        · skip
          refine WC.seq ?_
          refine WC.region ?_
          refine WL.rd rfl rfl rfl (Rd.eql rfl rfl rfl) ?_
          refine WL.rd rfl rfl rfl (Rd.assign rfl rfl) ?_
          refine WL.nil ?_
          refine thenQ.normal ?_
          first | refine WC.ite rfl (fun hc4 => ?_) (fun hc4 => ?_) | refine WC.cond rfl (fun hc4 => ?_) (fun hc4 => ?_)
          · skip
            have ht : texts o = o.ents.flatMap fun x => [x.1, x.2] := by unfold texts; rw [if_neg hc3, if_pos hc4]
            rw [ht] at htl hjl heb
            refine WC.seq ?_
            refine WC.region ?_
            refine WL.rd rfl rfl rfl (Rd.assign rfl rfl) ?_
            refine WL.nil ?_
            refine thenQ.normal ?_
            refine WC.block ?_
            refine WC.pick [4, 5, 1] (by repeat (first | exact Pick.nil | apply Pick.cons rfl)) ?_
            refine WC.loop1o 2 (fun (i : Nat) => [(4, vs (K :: joinE ((o.ents.take i).flatMap fun x => [x.1, x.2]))), (5, .int .i64 (i : Int))]) (fun (i : Nat) => i ≤ o.ents.length) (fun (i : Nat) => o.ents.length - i) (0) (by repeat (first | exact Split.zero | apply Split.succ)) ?hinv1 (by repeat (first | exact Sub.nil | refine Sub.cons rfl (by first | rfl | (congr 1; omega) | assumption) ?_)) (fun _ h => h) ?_
            case hinv1 =>
              exact Nat.zero_le _
            intro i
            rintro i1
            refine WC.seq ?_
            refine WC.seq ?_
            refine WC.region ?_
            refine WL.rd rfl rfl rfl (Rd.move rfl rfl) ?_
            refine WL.rd rfl rfl rfl ((by first | exact Rd.field rfl F33_2 rfl rfl | exact Rd.fieldE rfl F33_2 rfl (by repeat (first | assumption | exact mS | apply mT)) (by omega) | exact Rd.fieldA rfl F33_2 rfl (by repeat (first | assumption | exact mS | apply mT)) (by omega))) ?_
            refine WL.rd rfl rfl rfl (Rd.row1 (b := b1) (off := 2) (u := ev) rfl C31 rfl (by repeat (first | assumption | exact mS | apply mT)) rfl) ?_
            refine WL.rd rfl rfl rfl (Rd.lenE (enc := encT) (xs := o.ents) rfl rfl Try.underlying31 (by repeat (first | assumption | exact mS | apply mT))) ?_
            refine WL.rd rfl rfl rfl (Rd.lss rfl rfl rfl) ?_
            refine WL.nil ?_
            refine thenQ.normal ?_
            first | refine WC.ite rfl (fun hc5 => ?_) (fun hc5 => ?_) | refine WC.cond rfl (fun hc5 => ?_) (fun hc5 => ?_)
            · skip
              have hnx := flat_two (l := o.ents) (j := i) (by omega)
              have hpre : (joinE ((o.ents.take (i + 1)).flatMap fun x : ET => [x.1, x.2])).length ≤ (joinE (o.ents.flatMap fun x : ET => [x.1, x.2])).length := by
                have e : o.ents.flatMap (fun x : ET => [x.1, x.2]) = (o.ents.take (i + 1)).flatMap (fun x : ET => [x.1, x.2]) ++ (o.ents.drop (i + 1)).flatMap (fun x : ET => [x.1, x.2]) := by rw [← List.flatMap_append, List.take_append_drop]
                rw [e, joinE_app, List.length_append]; omega
              obtain ⟨x, hx⟩ : ∃ x, x = o.ents[i]! := ⟨_, rfl⟩
              have hxm : x ∈ o.ents := by rw [hx, getElem!_pos o.ents i (by omega)]; exact List.getElem_mem _
              have hx1 := htl x.1 (List.mem_flatMap.2 ⟨x, hxm, by simp⟩)
              have hx2 := htl x.2 (List.mem_flatMap.2 ⟨x, hxm, by simp⟩)
              rw [hnx, ← hx, joinE_app, show [x.1, x.2] = [x.1] ++ [x.2] from rfl, joinE_app, List.length_append, List.length_append] at hpre
              rw [← hx, show [x.1, x.2] = [x.1] ++ [x.2] from rfl] at hnx
              refine WC.skip ?_
              refine thenQ.normal ?_
              refine WC.seq ?_
              refine WC.block ?_
              refine WC.drawnA 18 rfl mixed ?_
              refine WD.take 0 rfl (by kernel_rfl) Held.all rfl rfl rfl (Rd.move rfl rfl) ?_
              refine WD.take 1 rfl (by kernel_rfl) Held.all rfl rfl rfl ((by first | exact Rd.field rfl F33_2 rfl rfl | exact Rd.fieldE rfl F33_2 rfl (by repeat (first | assumption | exact mS | apply mT)) (by omega) | exact Rd.fieldA rfl F33_2 rfl (by repeat (first | assumption | exact mS | apply mT)) (by omega))) ?_
              refine WD.take 2 rfl (by kernel_rfl) Held.all rfl rfl rfl (Rd.row1 (b := b1) (off := 2) (u := ev) rfl C31 rfl (by repeat (first | assumption | exact mS | apply mT)) rfl) ?_
              refine WD.take 3 rfl (by kernel_rfl) Held.all rfl rfl rfl (Rd.move rfl rfl) ?_
              refine WD.take 4 rfl (by kernel_rfl) Held.all rfl rfl rfl ((by first | exact Rd.idx rfl S31 rfl rfl rfl (by repeat (first | assumption | exact mS | apply mT)) (by first | omega | (simp only [List.length_cons, List.length_nil, List.length_append, List.length_map]; omega)) | exact Rd.idxA rfl S31 rfl rfl rfl (by repeat (first | assumption | exact mS | apply mT)) (by first | omega | (simp only [List.length_cons, List.length_nil, List.length_append, List.length_map]; omega)) | exact Rd.idxR rfl S31 rfl rfl rfl (by omega))) ?_
              refine WD.take 5 rfl (by kernel_rfl) Held.all rfl rfl rfl ((by first | exact Rd.field rfl F52_0 rfl rfl | exact Rd.fieldE rfl F52_0 rfl (by repeat (first | assumption | exact mS | apply mT)) (by omega) | exact Rd.fieldA rfl F52_0 rfl (by repeat (first | assumption | exact mS | apply mT)) (by omega))) ?_
              refine WD.take 6 rfl (by kernel_rfl) Held.all rfl rfl rfl (Rd.getF (k := i) (f := 0) (a := x) (enc := encT) (xs := o.ents) rfl C9 rfl (by repeat (first | assumption | exact mS | apply mT)) (fun _ => rfl) rfl (by rw [hx]; exact get!_of_lt (by omega)) rfl) ?_
              refine WD.take 8 rfl (by kernel_rfl) Held.all rfl rfl rfl ((by first | exact Rd.field rfl F33_2 rfl rfl | exact Rd.fieldE rfl F33_2 rfl (by repeat (first | assumption | exact mS | apply mT)) (by omega) | exact Rd.fieldA rfl F33_2 rfl (by repeat (first | assumption | exact mS | apply mT)) (by omega))) ?_
              refine WD.take 9 rfl (by kernel_rfl) Held.all rfl rfl rfl (Rd.row1 (b := b1) (off := 2) (u := ev) rfl C31 rfl (by repeat (first | assumption | exact mS | apply mT)) rfl) ?_
              refine WD.take 10 rfl (by kernel_rfl) Held.all rfl rfl rfl (Rd.move rfl rfl) ?_
              refine WD.take 11 rfl (by kernel_rfl) Held.all rfl rfl rfl ((by first | exact Rd.idx rfl S31 rfl rfl rfl (by repeat (first | assumption | exact mS | apply mT)) (by first | omega | (simp only [List.length_cons, List.length_nil, List.length_append, List.length_map]; omega)) | exact Rd.idxA rfl S31 rfl rfl rfl (by repeat (first | assumption | exact mS | apply mT)) (by first | omega | (simp only [List.length_cons, List.length_nil, List.length_append, List.length_map]; omega)) | exact Rd.idxR rfl S31 rfl rfl rfl (by omega))) ?_
              refine WD.take 12 rfl (by kernel_rfl) Held.all rfl rfl rfl ((by first | exact Rd.field rfl F52_1 rfl rfl | exact Rd.fieldE rfl F52_1 rfl (by repeat (first | assumption | exact mS | apply mT)) (by omega) | exact Rd.fieldA rfl F52_1 rfl (by repeat (first | assumption | exact mS | apply mT)) (by omega))) ?_
              refine WD.take 13 rfl (by kernel_rfl) Held.all rfl rfl rfl (Rd.getF (k := i) (f := 1) (a := x) (enc := encT) (xs := o.ents) rfl C9 rfl (by repeat (first | assumption | exact mS | apply mT)) (fun _ => rfl) rfl (by rw [hx]; exact get!_of_lt (by omega)) rfl) ?_
              refine WD.one 7 rfl (by kernel_rfl) rfl ?_
              refine OpW.call rfl rfl (by repeat (first | exact Evs.nil | apply Evs.cons rfl)) (by kernel_rfl) rfl rfl rfl ?_
              refine text_spec (by omega) ?_
              refine ⟨(Held.mk' (by repeat (first | exact SubL.refl | refine SubL.cons (by repeat (first | assumption | exact mS | apply mT)) ?_ | refine SubL.skip ?_)) (by repeat (first | exact OwnL.refl | apply OwnL.take (by repeat (first | exact Take.head _ | apply Take.tail)) | apply OwnL.drop))), ?_⟩
              refine WD.one 14 rfl (by kernel_rfl) rfl ?_
              refine OpW.call rfl rfl (by repeat (first | exact Evs.nil | apply Evs.cons rfl)) (by kernel_rfl) rfl rfl rfl ?_
              refine text_spec (by omega) ?_
              refine ⟨(Held.mk' (by repeat (first | exact SubL.refl | refine SubL.cons (by repeat (first | assumption | exact mS | apply mT)) ?_ | refine SubL.skip ?_)) (by repeat (first | exact OwnL.refl | apply OwnL.take (by repeat (first | exact Take.head _ | apply Take.tail)) | apply OwnL.drop))), ?_⟩
              refine WD.take 15 rfl (by kernel_rfl) (Held.mk' (by repeat (first | exact SubL.refl | refine SubL.cons (by repeat (first | assumption | exact mS | apply mT)) ?_ | refine SubL.skip ?_)) (by repeat (first | exact OwnL.refl | apply OwnL.take (by repeat (first | exact Take.head _ | apply Take.tail)) | apply OwnL.drop))) rfl rfl rfl (Rd.scat rfl rfl rfl (by omega)) ?_
              refine WD.take 16 rfl (by kernel_rfl) (Held.mk' (by repeat (first | exact SubL.refl | refine SubL.cons (by repeat (first | assumption | exact mS | apply mT)) ?_ | refine SubL.skip ?_)) (by repeat (first | exact OwnL.refl | apply OwnL.take (by repeat (first | exact Take.head _ | apply Take.tail)) | apply OwnL.drop))) rfl rfl rfl (Rd.scat rfl rfl rfl (by simp; omega)) ?_
              refine WD.take 17 rfl (by kernel_rfl) (Held.mk' (by repeat (first | exact SubL.refl | refine SubL.cons (by repeat (first | assumption | exact mS | apply mT)) ?_ | refine SubL.skip ?_)) (by repeat (first | exact OwnL.refl | apply OwnL.take (by repeat (first | exact Take.head _ | apply Take.tail)) | apply OwnL.drop))) rfl rfl rfl (Rd.assign rfl rfl) ?_
              refine WD.done (by kernel_rfl) ?_
              refine blockQ.normal ?_
              refine thenQ.normal ?_
              refine WC.region ?_
              refine WL.rd rfl rfl rfl (Rd.move rfl rfl) ?_
              refine WL.rd rfl rfl rfl (Rd.add rfl rfl rfl (by omega)) ?_
              refine WL.rd rfl rfl rfl (Rd.assign rfl rfl) ?_
              refine WL.nil ?_
              exact loopQ1.mk (i + 1) (by omega) (by omega) (by refine Sub.cons rfl (by rw [hnx, joinE_app, joinE_app]; rfl) ?_; exact (by repeat (first | exact Sub.nil | refine Sub.cons rfl (by first | rfl | (congr 1; omega) | assumption) ?_))) (fun w h => OwnL.sat (by repeat (first | exact OwnL.refl | apply OwnL.take (by repeat (first | exact Take.head _ | apply Take.tail)) | apply OwnL.drop)) w (h.thin (SubL.mem (by repeat (first | exact SubL.refl | refine SubL.cons (by repeat (first | assumption | exact mS | apply mT)) ?_ | refine SubL.skip ?_)))))
            · skip
              obtain rfl : i = o.ents.length := by omega
              have e4 : K :: joinE ((o.ents.take o.ents.length).flatMap fun x : ET => [x.1, x.2]) = encB o := by rw [List.take_length, heb]
              rw [e4]
              refine WC.exit ?_
              refine thenQ.exit ?_
              refine loopQ1.exit ?_
              refine blockQ.exit ?_
              refine blockQ.normal ?_
              refine thenQ.normal ?_
              refine WC.seq ?_
              refine WC.seq ?_
              refine WC.region ?_
              refine WL.rd rfl rfl rfl (Rd.move rfl rfl) ?_
              refine WL.rd rfl rfl rfl (Rd.slen (ts := #[]) (ty := 0) rfl rfl Try.underlying9) ?_
              refine WL.rd rfl rfl rfl (Rd.gtr rfl rfl rfl) ?_
              refine WL.nil ?_
              refine thenQ.normal ?_
              first | refine WC.ite rfl (fun hc8 => ?_) (fun hc8 => ?_) | refine WC.cond rfl (fun hc8 => ?_) (fun hc8 => ?_)
              · skip
                rw [if_pos (show 262208 < (encB o).length by omega)] at hfin
                refine WC.seq ?_
                refine WC.region ?_
                refine WL.rd rfl rfl rfl (Rd.assign rfl rfl) ?_
                refine WL.rd rfl rfl rfl (Rd.assign rfl rfl) ?_
                refine WL.nil ?_
                refine thenQ.normal ?_
                refine WC.heap (R' := R) (O' := O) (fun w h => OwnL.sat (by repeat (first | exact OwnL.refl | apply OwnL.take (by repeat (first | exact Take.head _ | apply Take.tail)) | apply OwnL.drop)) w (h.thin (SubL.mem (by repeat (first | exact SubL.refl | refine SubL.cons (by repeat (first | assumption | exact mS | apply mT)) ?_ | refine SubL.skip ?_))))) ?_
                refine WC.ret (Ret.two Try.results10 rfl rfl ?_)
                rw [hfin] at hk
                exact hk
              · skip
                rw [if_neg (show ¬ 262208 < (encB o).length by omega)] at hfin
                refine WC.skip ?_
                refine thenQ.normal ?_
                refine WC.seq ?_
                refine WC.region ?_
                refine WL.rd rfl rfl rfl (Rd.move rfl rfl) ?_
                refine WL.rd rfl rfl rfl (Rd.assign rfl rfl) ?_
                refine WL.rd rfl rfl rfl (Rd.assign rfl rfl) ?_
                refine WL.nil ?_
                refine thenQ.normal ?_
                refine WC.heap (R' := R) (O' := O) (fun w h => OwnL.sat (by repeat (first | exact OwnL.refl | apply OwnL.take (by repeat (first | exact Take.head _ | apply Take.tail)) | apply OwnL.drop)) w (h.thin (SubL.mem (by repeat (first | exact SubL.refl | refine SubL.cons (by repeat (first | assumption | exact mS | apply mT)) ?_ | refine SubL.skip ?_))))) ?_
                refine WC.ret (Ret.two Try.results10 rfl rfl ?_)
                rw [hfin] at hk
                exact hk
          · skip
            refine WC.seq ?_
            refine WC.region ?_
            refine WL.rd rfl rfl rfl (Rd.eql rfl rfl rfl) ?_
            refine WL.rd rfl rfl rfl (Rd.assign rfl rfl) ?_
            refine WL.nil ?_
            refine thenQ.normal ?_
            first | refine WC.ite rfl (fun hc6 => ?_) (fun hc6 => ?_) | refine WC.cond rfl (fun hc6 => ?_) (fun hc6 => ?_)
            · skip
              have ht : texts o = [o.tree, o.pars.flatten, o.author, o.text, putI o.time] := by unfold texts; rw [if_neg hc3, if_neg hc4, if_pos hc6]
              rw [ht] at htl hjl heb
              have hh1 := htl o.tree (by simp)
              have hh2 := htl o.pars.flatten (by simp)
              have hh3 := htl o.author (by simp)
              have hh4 := htl o.text (by simp)
              have hh5 := htl (putI o.time) (by simp)
              rw [show [o.tree, o.pars.flatten, o.author, o.text, putI o.time] = [o.tree] ++ [o.pars.flatten] ++ [o.author] ++ [o.text] ++ [putI o.time] from rfl, joinE_app, joinE_app, joinE_app, joinE_app] at hjl heb
              simp only [List.length_append] at hjl
              refine WC.seq ?_
              refine WC.region ?_
              refine WL.rd rfl rfl rfl (Rd.assign rfl rfl) ?_
              refine WL.nil ?_
              refine thenQ.normal ?_
              refine WC.seq ?_
              refine WC.seq ?_
              refine WC.region ?_
              refine WL.rd rfl rfl rfl (Rd.assign rfl rfl) ?_
              refine WL.nil ?_
              refine thenQ.normal ?_
              refine WC.block ?_
              refine WC.pick [6, 7, 1, 4] (by repeat (first | exact Pick.nil | apply Pick.cons rfl)) ?_
              refine WC.loop1o 2 (fun (i : Nat) => [(6, vs (o.pars.take i).flatten), (7, .int .i64 (i : Int))]) (fun (i : Nat) => i ≤ o.pars.length) (fun (i : Nat) => o.pars.length - i) (0) (by repeat (first | exact Split.zero | apply Split.succ)) ?hinv2 (by repeat (first | exact Sub.nil | refine Sub.cons rfl (by first | rfl | (congr 1; omega) | assumption) ?_)) (fun _ h => h) ?_
              case hinv2 =>
                exact Nat.zero_le _
              intro i
              rintro i1
              refine WC.seq ?_
              refine WC.seq ?_
              refine WC.region ?_
              refine WL.rd rfl rfl rfl (Rd.move rfl rfl) ?_
              refine WL.rd rfl rfl rfl ((by first | exact Rd.field rfl F33_4 rfl rfl | exact Rd.fieldE rfl F33_4 rfl (by repeat (first | assumption | exact mS | apply mT)) (by omega) | exact Rd.fieldA rfl F33_4 rfl (by repeat (first | assumption | exact mS | apply mT)) (by omega))) ?_
              refine WL.rd rfl rfl rfl (Rd.row1 (b := b1) (off := 4) (u := pv) rfl C23 rfl (by repeat (first | assumption | exact mS | apply mT)) rfl) ?_
              refine WL.rd rfl rfl rfl (Rd.lenE (enc := one vs) (xs := o.pars) rfl rfl Try.underlying23 (by repeat (first | assumption | exact mS | apply mT))) ?_
              refine WL.rd rfl rfl rfl (Rd.lss rfl rfl rfl) ?_
              refine WL.nil ?_
              refine thenQ.normal ?_
              first | refine WC.ite rfl (fun hc7 => ?_) (fun hc7 => ?_) | refine WC.cond rfl (fun hc7 => ?_) (fun hc7 => ?_)
              · skip
                have hnx : (o.pars.take (i + 1)).flatten = (o.pars.take i).flatten ++ o.pars[i]! := by rw [List.take_add_one, get!_of_lt (by omega), List.flatten_append]; simp
                have hpre : (o.pars.take (i + 1)).flatten.length ≤ o.pars.flatten.length := by
                  have e : o.pars.flatten = (o.pars.take (i + 1)).flatten ++ (o.pars.drop (i + 1)).flatten := by rw [← List.flatten_append, List.take_append_drop]
                  rw [e, List.length_append]; omega
                rw [hnx, List.length_append] at hpre
                refine WC.skip ?_
                refine thenQ.normal ?_
                refine WC.seq ?_
                refine WC.block ?_
                refine WC.region ?_
                refine WL.rd rfl rfl rfl (Rd.move rfl rfl) ?_
                refine WL.rd rfl rfl rfl ((by first | exact Rd.field rfl F33_4 rfl rfl | exact Rd.fieldE rfl F33_4 rfl (by repeat (first | assumption | exact mS | apply mT)) (by omega) | exact Rd.fieldA rfl F33_4 rfl (by repeat (first | assumption | exact mS | apply mT)) (by omega))) ?_
                refine WL.rd rfl rfl rfl (Rd.row1 (b := b1) (off := 4) (u := pv) rfl C23 rfl (by repeat (first | assumption | exact mS | apply mT)) rfl) ?_
                refine WL.rd rfl rfl rfl (Rd.move rfl rfl) ?_
                refine WL.rd rfl rfl rfl ((by first | exact Rd.idx1 rfl S23 rfl rfl rfl (by repeat (first | assumption | exact mS | apply mT)) (by first | omega | (simp only [List.length_cons, List.length_nil, List.length_append, List.length_map]; omega)) | exact Rd.idxA1 rfl S23 rfl rfl rfl (by repeat (first | assumption | exact mS | apply mT)) (by first | omega | (simp only [List.length_cons, List.length_nil, List.length_append, List.length_map]; omega)) | exact Rd.idxR1 rfl S23 rfl rfl rfl (by omega))) ?_
                refine WL.rd rfl rfl rfl (Rd.get (k := i) (g := vs) (a := o.pars[i]!) (xs := o.pars) rfl C9 rfl (by repeat (first | assumption | exact mS | apply mT)) (get!_of_lt (by omega))) ?_
                refine WL.rd rfl rfl rfl (Rd.scat rfl rfl rfl (by omega)) ?_
                refine WL.rd rfl rfl rfl (Rd.assign rfl rfl) ?_
                refine WL.nil ?_
                refine blockQ.normal ?_
                refine thenQ.normal ?_
                refine WC.region ?_
                refine WL.rd rfl rfl rfl (Rd.move rfl rfl) ?_
                refine WL.rd rfl rfl rfl (Rd.add rfl rfl rfl (by omega)) ?_
                refine WL.rd rfl rfl rfl (Rd.assign rfl rfl) ?_
                refine WL.nil ?_
                exact loopQ1.mk (i + 1) (by omega) (by omega) (by refine Sub.cons rfl (by rw [hnx]) ?_; exact (by repeat (first | exact Sub.nil | refine Sub.cons rfl (by first | rfl | (congr 1; omega) | assumption) ?_))) (fun w h => OwnL.sat (by repeat (first | exact OwnL.refl | apply OwnL.take (by repeat (first | exact Take.head _ | apply Take.tail)) | apply OwnL.drop)) w (h.thin (SubL.mem (by repeat (first | exact SubL.refl | refine SubL.cons (by repeat (first | assumption | exact mS | apply mT)) ?_ | refine SubL.skip ?_)))))
              · skip
                obtain rfl : i = o.pars.length := by omega
                rw [List.take_length]
                refine WC.exit ?_
                refine thenQ.exit ?_
                refine loopQ1.exit ?_
                refine blockQ.exit ?_
                refine thenQ.normal ?_
                refine WC.drawnA 22 rfl mixed ?_
                refine WD.take 0 rfl (by kernel_rfl) Held.all rfl rfl rfl (Rd.move rfl rfl) ?_
                refine WD.take 1 rfl (by kernel_rfl) Held.all rfl rfl rfl ((by first | exact Rd.field rfl F33_3 rfl rfl | exact Rd.fieldE rfl F33_3 rfl (by repeat (first | assumption | exact mS | apply mT)) (by omega) | exact Rd.fieldA rfl F33_3 rfl (by repeat (first | assumption | exact mS | apply mT)) (by omega))) ?_
                refine WD.take 2 rfl (by kernel_rfl) Held.all rfl rfl rfl (Rd.row1 (b := b1) (off := 3) rfl C9 rfl (by repeat (first | assumption | exact mS | apply mT)) rfl) ?_
                refine WD.take 4 rfl (by kernel_rfl) Held.all rfl rfl rfl (Rd.move rfl rfl) ?_
                refine WD.take 7 rfl (by kernel_rfl) Held.all rfl rfl rfl ((by first | exact Rd.field rfl F33_5 rfl rfl | exact Rd.fieldE rfl F33_5 rfl (by repeat (first | assumption | exact mS | apply mT)) (by omega) | exact Rd.fieldA rfl F33_5 rfl (by repeat (first | assumption | exact mS | apply mT)) (by omega))) ?_
                refine WD.take 8 rfl (by kernel_rfl) Held.all rfl rfl rfl (Rd.row1 (b := b1) (off := 5) rfl C9 rfl (by repeat (first | assumption | exact mS | apply mT)) rfl) ?_
                refine WD.take 11 rfl (by kernel_rfl) Held.all rfl rfl rfl ((by first | exact Rd.field rfl F33_6 rfl rfl | exact Rd.fieldE rfl F33_6 rfl (by repeat (first | assumption | exact mS | apply mT)) (by omega) | exact Rd.fieldA rfl F33_6 rfl (by repeat (first | assumption | exact mS | apply mT)) (by omega))) ?_
                refine WD.take 12 rfl (by kernel_rfl) Held.all rfl rfl rfl (Rd.row1 (b := b1) (off := 6) rfl C9 rfl (by repeat (first | assumption | exact mS | apply mT)) rfl) ?_
                refine WD.take 15 rfl (by kernel_rfl) Held.all rfl rfl rfl ((by first | exact Rd.field rfl F33_7 rfl rfl | exact Rd.fieldE rfl F33_7 rfl (by repeat (first | assumption | exact mS | apply mT)) (by omega) | exact Rd.fieldA rfl F33_7 rfl (by repeat (first | assumption | exact mS | apply mT)) (by omega))) ?_
                refine WD.take 16 rfl (by kernel_rfl) Held.all rfl rfl rfl (Rd.row1 (b := b1) (off := 7) rfl C3 rfl (by repeat (first | assumption | exact mS | apply mT)) rfl) ?_
                refine WD.one 3 rfl (by kernel_rfl) rfl ?_
                refine OpW.call rfl rfl (by repeat (first | exact Evs.nil | apply Evs.cons rfl)) (by kernel_rfl) rfl rfl rfl ?_
                refine text_spec (by omega) ?_
                refine ⟨(Held.mk' (by repeat (first | exact SubL.refl | refine SubL.cons (by repeat (first | assumption | exact mS | apply mT)) ?_ | refine SubL.skip ?_)) (by repeat (first | exact OwnL.refl | apply OwnL.take (by repeat (first | exact Take.head _ | apply Take.tail)) | apply OwnL.drop))), ?_⟩
                refine WD.one 5 rfl (by kernel_rfl) rfl ?_
                refine OpW.call rfl rfl (by repeat (first | exact Evs.nil | apply Evs.cons rfl)) (by kernel_rfl) rfl rfl rfl ?_
                refine text_spec (by omega) ?_
                refine ⟨(Held.mk' (by repeat (first | exact SubL.refl | refine SubL.cons (by repeat (first | assumption | exact mS | apply mT)) ?_ | refine SubL.skip ?_)) (by repeat (first | exact OwnL.refl | apply OwnL.take (by repeat (first | exact Take.head _ | apply Take.tail)) | apply OwnL.drop))), ?_⟩
                refine WD.take 6 rfl (by kernel_rfl) (Held.mk' (by repeat (first | exact SubL.refl | refine SubL.cons (by repeat (first | assumption | exact mS | apply mT)) ?_ | refine SubL.skip ?_)) (by repeat (first | exact OwnL.refl | apply OwnL.take (by repeat (first | exact Take.head _ | apply Take.tail)) | apply OwnL.drop))) rfl rfl rfl (Rd.scat rfl rfl rfl (by omega)) ?_
                refine WD.one 9 rfl (by kernel_rfl) rfl ?_
                refine OpW.call rfl rfl (by repeat (first | exact Evs.nil | apply Evs.cons rfl)) (by kernel_rfl) rfl rfl rfl ?_
                refine text_spec (by omega) ?_
                refine ⟨(Held.mk' (by repeat (first | exact SubL.refl | refine SubL.cons (by repeat (first | assumption | exact mS | apply mT)) ?_ | refine SubL.skip ?_)) (by repeat (first | exact OwnL.refl | apply OwnL.take (by repeat (first | exact Take.head _ | apply Take.tail)) | apply OwnL.drop))), ?_⟩
                refine WD.take 10 rfl (by kernel_rfl) (Held.mk' (by repeat (first | exact SubL.refl | refine SubL.cons (by repeat (first | assumption | exact mS | apply mT)) ?_ | refine SubL.skip ?_)) (by repeat (first | exact OwnL.refl | apply OwnL.take (by repeat (first | exact Take.head _ | apply Take.tail)) | apply OwnL.drop))) rfl rfl rfl (Rd.scat rfl rfl rfl (by simp only [List.length_append]; omega)) ?_
                refine WD.one 13 rfl (by kernel_rfl) rfl ?_
                refine OpW.call rfl rfl (by repeat (first | exact Evs.nil | apply Evs.cons rfl)) (by kernel_rfl) rfl rfl rfl ?_
                refine text_spec (by omega) ?_
                refine ⟨(Held.mk' (by repeat (first | exact SubL.refl | refine SubL.cons (by repeat (first | assumption | exact mS | apply mT)) ?_ | refine SubL.skip ?_)) (by repeat (first | exact OwnL.refl | apply OwnL.take (by repeat (first | exact Take.head _ | apply Take.tail)) | apply OwnL.drop))), ?_⟩
                refine WD.take 14 rfl (by kernel_rfl) (Held.mk' (by repeat (first | exact SubL.refl | refine SubL.cons (by repeat (first | assumption | exact mS | apply mT)) ?_ | refine SubL.skip ?_)) (by repeat (first | exact OwnL.refl | apply OwnL.take (by repeat (first | exact Take.head _ | apply Take.tail)) | apply OwnL.drop))) rfl rfl rfl (Rd.scat rfl rfl rfl (by simp only [List.length_append]; omega)) ?_
                refine WD.one 17 rfl (by kernel_rfl) rfl ?_
                refine OpW.call rfl rfl (by repeat (first | exact Evs.nil | apply Evs.cons rfl)) (by kernel_rfl) rfl rfl rfl ?_
                refine rput_spec ?_
                refine ⟨(Held.mk' (by repeat (first | exact SubL.refl | refine SubL.cons (by repeat (first | assumption | exact mS | apply mT)) ?_ | refine SubL.skip ?_)) (by repeat (first | exact OwnL.refl | apply OwnL.take (by repeat (first | exact Take.head _ | apply Take.tail)) | apply OwnL.drop))), ?_⟩
                refine WD.one 18 rfl (by kernel_rfl) rfl ?_
                refine OpW.call rfl rfl (by repeat (first | exact Evs.nil | apply Evs.cons rfl)) (by kernel_rfl) rfl rfl rfl ?_
                refine text_spec (by omega) ?_
                refine ⟨(Held.mk' (by repeat (first | exact SubL.refl | refine SubL.cons (by repeat (first | assumption | exact mS | apply mT)) ?_ | refine SubL.skip ?_)) (by repeat (first | exact OwnL.refl | apply OwnL.take (by repeat (first | exact Take.head _ | apply Take.tail)) | apply OwnL.drop))), ?_⟩
                refine WD.take 19 rfl (by kernel_rfl) (Held.mk' (by repeat (first | exact SubL.refl | refine SubL.cons (by repeat (first | assumption | exact mS | apply mT)) ?_ | refine SubL.skip ?_)) (by repeat (first | exact OwnL.refl | apply OwnL.take (by repeat (first | exact Take.head _ | apply Take.tail)) | apply OwnL.drop))) rfl rfl rfl (Rd.scat rfl rfl rfl (by simp only [List.length_append]; omega)) ?_
                refine WD.take 20 rfl (by kernel_rfl) (Held.mk' (by repeat (first | exact SubL.refl | refine SubL.cons (by repeat (first | assumption | exact mS | apply mT)) ?_ | refine SubL.skip ?_)) (by repeat (first | exact OwnL.refl | apply OwnL.take (by repeat (first | exact Take.head _ | apply Take.tail)) | apply OwnL.drop))) rfl rfl rfl (Rd.scat rfl rfl rfl (by simp only [List.length_append, List.length_cons, List.length_nil]; omega)) ?_
                refine WD.say 108 (u := vs (encB o)) rfl (by rw [heb]; rfl) ?_
                refine WD.take 21 rfl (by kernel_rfl) (Held.mk' (by repeat (first | exact SubL.refl | refine SubL.cons (by repeat (first | assumption | exact mS | apply mT)) ?_ | refine SubL.skip ?_)) (by repeat (first | exact OwnL.refl | apply OwnL.take (by repeat (first | exact Take.head _ | apply Take.tail)) | apply OwnL.drop))) rfl rfl rfl (Rd.assign rfl rfl) ?_
                refine WD.done (by kernel_rfl) ?_
                refine blockQ.normal ?_
                refine thenQ.normal ?_
                refine WC.seq ?_
                refine WC.seq ?_
                refine WC.region ?_
                refine WL.rd rfl rfl rfl (Rd.move rfl rfl) ?_
                refine WL.rd rfl rfl rfl (Rd.slen (ts := #[]) (ty := 0) rfl rfl Try.underlying9) ?_
                refine WL.rd rfl rfl rfl (Rd.gtr rfl rfl rfl) ?_
                refine WL.nil ?_
                refine thenQ.normal ?_
                first | refine WC.ite rfl (fun hc8 => ?_) (fun hc8 => ?_) | refine WC.cond rfl (fun hc8 => ?_) (fun hc8 => ?_)
                · skip
                  rw [if_pos (show 262208 < (encB o).length by omega)] at hfin
                  refine WC.seq ?_
                  refine WC.region ?_
                  refine WL.rd rfl rfl rfl (Rd.assign rfl rfl) ?_
                  refine WL.rd rfl rfl rfl (Rd.assign rfl rfl) ?_
                  refine WL.nil ?_
                  refine thenQ.normal ?_
                  refine WC.heap (R' := R) (O' := O) (fun w h => OwnL.sat (by repeat (first | exact OwnL.refl | apply OwnL.take (by repeat (first | exact Take.head _ | apply Take.tail)) | apply OwnL.drop)) w (h.thin (SubL.mem (by repeat (first | exact SubL.refl | refine SubL.cons (by repeat (first | assumption | exact mS | apply mT)) ?_ | refine SubL.skip ?_))))) ?_
                  refine WC.ret (Ret.two Try.results10 rfl rfl ?_)
                  rw [hfin] at hk
                  exact hk
                · skip
                  rw [if_neg (show ¬ 262208 < (encB o).length by omega)] at hfin
                  refine WC.skip ?_
                  refine thenQ.normal ?_
                  refine WC.seq ?_
                  refine WC.region ?_
                  refine WL.rd rfl rfl rfl (Rd.move rfl rfl) ?_
                  refine WL.rd rfl rfl rfl (Rd.assign rfl rfl) ?_
                  refine WL.rd rfl rfl rfl (Rd.assign rfl rfl) ?_
                  refine WL.nil ?_
                  refine thenQ.normal ?_
                  refine WC.heap (R' := R) (O' := O) (fun w h => OwnL.sat (by repeat (first | exact OwnL.refl | apply OwnL.take (by repeat (first | exact Take.head _ | apply Take.tail)) | apply OwnL.drop)) w (h.thin (SubL.mem (by repeat (first | exact SubL.refl | refine SubL.cons (by repeat (first | assumption | exact mS | apply mT)) ?_ | refine SubL.skip ?_))))) ?_
                  refine WC.ret (Ret.two Try.results10 rfl rfl ?_)
                  rw [hfin] at hk
                  exact hk
            · skip
              have ht : texts o = [o.target, o.name, o.text] := by unfold texts; rw [if_neg hc3, if_neg hc4, if_neg hc6]
              rw [ht] at htl hjl heb
              have hh1 := htl o.target (by simp)
              have hh2 := htl o.name (by simp)
              have hh3 := htl o.text (by simp)
              rw [show [o.target, o.name, o.text] = [o.target] ++ [o.name] ++ [o.text] from rfl, joinE_app, joinE_app] at hjl heb
              simp only [List.length_append] at hjl
              refine WC.drawnA 14 rfl mixed ?_
              refine WD.take 0 rfl (by kernel_rfl) Held.all rfl rfl rfl (Rd.move rfl rfl) ?_
              refine WD.take 1 rfl (by kernel_rfl) Held.all rfl rfl rfl ((by first | exact Rd.field rfl F33_8 rfl rfl | exact Rd.fieldE rfl F33_8 rfl (by repeat (first | assumption | exact mS | apply mT)) (by omega) | exact Rd.fieldA rfl F33_8 rfl (by repeat (first | assumption | exact mS | apply mT)) (by omega))) ?_
              refine WD.take 2 rfl (by kernel_rfl) Held.all rfl rfl rfl (Rd.row1 (b := b1) (off := 8) rfl C9 rfl (by repeat (first | assumption | exact mS | apply mT)) rfl) ?_
              refine WD.take 4 rfl (by kernel_rfl) Held.all rfl rfl rfl ((by first | exact Rd.field rfl F33_9 rfl rfl | exact Rd.fieldE rfl F33_9 rfl (by repeat (first | assumption | exact mS | apply mT)) (by omega) | exact Rd.fieldA rfl F33_9 rfl (by repeat (first | assumption | exact mS | apply mT)) (by omega))) ?_
              refine WD.take 5 rfl (by kernel_rfl) Held.all rfl rfl rfl (Rd.row1 (b := b1) (off := 9) rfl C9 rfl (by repeat (first | assumption | exact mS | apply mT)) rfl) ?_
              refine WD.take 8 rfl (by kernel_rfl) Held.all rfl rfl rfl ((by first | exact Rd.field rfl F33_6 rfl rfl | exact Rd.fieldE rfl F33_6 rfl (by repeat (first | assumption | exact mS | apply mT)) (by omega) | exact Rd.fieldA rfl F33_6 rfl (by repeat (first | assumption | exact mS | apply mT)) (by omega))) ?_
              refine WD.take 9 rfl (by kernel_rfl) Held.all rfl rfl rfl (Rd.row1 (b := b1) (off := 6) rfl C9 rfl (by repeat (first | assumption | exact mS | apply mT)) rfl) ?_
              refine WD.one 3 rfl (by kernel_rfl) rfl ?_
              refine OpW.call rfl rfl (by repeat (first | exact Evs.nil | apply Evs.cons rfl)) (by kernel_rfl) rfl rfl rfl ?_
              refine text_spec (by omega) ?_
              refine ⟨(Held.mk' (by repeat (first | exact SubL.refl | refine SubL.cons (by repeat (first | assumption | exact mS | apply mT)) ?_ | refine SubL.skip ?_)) (by repeat (first | exact OwnL.refl | apply OwnL.take (by repeat (first | exact Take.head _ | apply Take.tail)) | apply OwnL.drop))), ?_⟩
              refine WD.one 6 rfl (by kernel_rfl) rfl ?_
              refine OpW.call rfl rfl (by repeat (first | exact Evs.nil | apply Evs.cons rfl)) (by kernel_rfl) rfl rfl rfl ?_
              refine text_spec (by omega) ?_
              refine ⟨(Held.mk' (by repeat (first | exact SubL.refl | refine SubL.cons (by repeat (first | assumption | exact mS | apply mT)) ?_ | refine SubL.skip ?_)) (by repeat (first | exact OwnL.refl | apply OwnL.take (by repeat (first | exact Take.head _ | apply Take.tail)) | apply OwnL.drop))), ?_⟩
              refine WD.take 7 rfl (by kernel_rfl) (Held.mk' (by repeat (first | exact SubL.refl | refine SubL.cons (by repeat (first | assumption | exact mS | apply mT)) ?_ | refine SubL.skip ?_)) (by repeat (first | exact OwnL.refl | apply OwnL.take (by repeat (first | exact Take.head _ | apply Take.tail)) | apply OwnL.drop))) rfl rfl rfl (Rd.scat rfl rfl rfl (by omega)) ?_
              refine WD.one 10 rfl (by kernel_rfl) rfl ?_
              refine OpW.call rfl rfl (by repeat (first | exact Evs.nil | apply Evs.cons rfl)) (by kernel_rfl) rfl rfl rfl ?_
              refine text_spec (by omega) ?_
              refine ⟨(Held.mk' (by repeat (first | exact SubL.refl | refine SubL.cons (by repeat (first | assumption | exact mS | apply mT)) ?_ | refine SubL.skip ?_)) (by repeat (first | exact OwnL.refl | apply OwnL.take (by repeat (first | exact Take.head _ | apply Take.tail)) | apply OwnL.drop))), ?_⟩
              refine WD.take 11 rfl (by kernel_rfl) (Held.mk' (by repeat (first | exact SubL.refl | refine SubL.cons (by repeat (first | assumption | exact mS | apply mT)) ?_ | refine SubL.skip ?_)) (by repeat (first | exact OwnL.refl | apply OwnL.take (by repeat (first | exact Take.head _ | apply Take.tail)) | apply OwnL.drop))) rfl rfl rfl (Rd.scat rfl rfl rfl (by simp only [List.length_append]; omega)) ?_
              refine WD.take 12 rfl (by kernel_rfl) (Held.mk' (by repeat (first | exact SubL.refl | refine SubL.cons (by repeat (first | assumption | exact mS | apply mT)) ?_ | refine SubL.skip ?_)) (by repeat (first | exact OwnL.refl | apply OwnL.take (by repeat (first | exact Take.head _ | apply Take.tail)) | apply OwnL.drop))) rfl rfl rfl (Rd.scat rfl rfl rfl (by simp only [List.length_append, List.length_cons, List.length_nil]; omega)) ?_
              refine WD.say 38 (u := vs (encB o)) rfl (by rw [heb]; rfl) ?_
              refine WD.take 13 rfl (by kernel_rfl) (Held.mk' (by repeat (first | exact SubL.refl | refine SubL.cons (by repeat (first | assumption | exact mS | apply mT)) ?_ | refine SubL.skip ?_)) (by repeat (first | exact OwnL.refl | apply OwnL.take (by repeat (first | exact Take.head _ | apply Take.tail)) | apply OwnL.drop))) rfl rfl rfl (Rd.assign rfl rfl) ?_
              refine WD.done (by kernel_rfl) ?_
              refine blockQ.normal ?_
              refine thenQ.normal ?_
              refine WC.seq ?_
              refine WC.seq ?_
              refine WC.region ?_
              refine WL.rd rfl rfl rfl (Rd.move rfl rfl) ?_
              refine WL.rd rfl rfl rfl (Rd.slen (ts := #[]) (ty := 0) rfl rfl Try.underlying9) ?_
              refine WL.rd rfl rfl rfl (Rd.gtr rfl rfl rfl) ?_
              refine WL.nil ?_
              refine thenQ.normal ?_
              first | refine WC.ite rfl (fun hc8 => ?_) (fun hc8 => ?_) | refine WC.cond rfl (fun hc8 => ?_) (fun hc8 => ?_)
              · skip
                rw [if_pos (show 262208 < (encB o).length by omega)] at hfin
                refine WC.seq ?_
                refine WC.region ?_
                refine WL.rd rfl rfl rfl (Rd.assign rfl rfl) ?_
                refine WL.rd rfl rfl rfl (Rd.assign rfl rfl) ?_
                refine WL.nil ?_
                refine thenQ.normal ?_
                refine WC.heap (R' := R) (O' := O) (fun w h => OwnL.sat (by repeat (first | exact OwnL.refl | apply OwnL.take (by repeat (first | exact Take.head _ | apply Take.tail)) | apply OwnL.drop)) w (h.thin (SubL.mem (by repeat (first | exact SubL.refl | refine SubL.cons (by repeat (first | assumption | exact mS | apply mT)) ?_ | refine SubL.skip ?_))))) ?_
                refine WC.ret (Ret.two Try.results10 rfl rfl ?_)
                rw [hfin] at hk
                exact hk
              · skip
                rw [if_neg (show ¬ 262208 < (encB o).length by omega)] at hfin
                refine WC.skip ?_
                refine thenQ.normal ?_
                refine WC.seq ?_
                refine WC.region ?_
                refine WL.rd rfl rfl rfl (Rd.move rfl rfl) ?_
                refine WL.rd rfl rfl rfl (Rd.assign rfl rfl) ?_
                refine WL.rd rfl rfl rfl (Rd.assign rfl rfl) ?_
                refine WL.nil ?_
                refine thenQ.normal ?_
                refine WC.heap (R' := R) (O' := O) (fun w h => OwnL.sat (by repeat (first | exact OwnL.refl | apply OwnL.take (by repeat (first | exact Take.head _ | apply Take.tail)) | apply OwnL.drop)) w (h.thin (SubL.mem (by repeat (first | exact SubL.refl | refine SubL.cons (by repeat (first | assumption | exact mS | apply mT)) ?_ | refine SubL.skip ?_))))) ?_
                refine WC.ret (Ret.two Try.results10 rfl rfl ?_)
                rw [hfin] at hk
                exact hk
end
end Go.Proofs.Ytedgndhbieeffaa
