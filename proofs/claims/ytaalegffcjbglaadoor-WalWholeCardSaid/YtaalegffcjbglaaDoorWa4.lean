/-
  Layer 6: the document's log.
-/
import Derived.Test.YtaalegffcjbglaaDoorWa3
namespace Go.Proofs.YtaalegffcjbglaaDoor
open Go Go.SL

theorem byte_mod (n : Nat) : byteOf (n % 256) = byteOf n := by unfold byteOf; rw [Nat.mod_mod]
theorem head_mark (x : List Chg) : (fullE (headB x)).take 2 = [87, 76] := by unfold fullE headB hdB; rfl
section
variable {R : List RO} {O : List Own} {POST : Value → List RO → List Own → Prop} {d m : Nat} {V : DV} {s : DSt} {f z : Int}
abbrev rlog (f z : Int) : Value := .agg #[.int .i64 f, .int .i64 z]
set_option maxRecDepth 20000 in
theorem refFits_spec (hll : s.lasts.length ≤ 4096) (hk : POST (.bool (fitsB s f z)) R (rO d V s O)) : Fun Tryd.prog 32 #[dp d, rlog f z] R (rO d V s O) POST := by
  refine Fun.enter (l := [_, _]) Tryd.func32 rfl Tryd.ntmps32 rfl (L0 := [(0, _), (1, _)]) rfl ?_
  refine WC.seq ?_
  refine WC.region ?_
  refine WL.op rfl ?_
  refine OpW.box rfl rfl (by repeat (first | exact NF.nil | apply NF.cons)) rfl rfl ?_; intro b3
  refine WL.rd rfl rfl rfl (Rd.assign rfl rfl) ?_
  refine WL.nil ?_
  refine thenQ.normal ?_
  refine WC.seq ?_
  refine WC.still mixed (by kernel_rfl) ?_
  refine WA.rd rfl rfl rfl ((by first | exact Rd.field rfl F32_0 rfl rfl | exact Rd.fieldE rfl F32_0 rfl (by repeat (first | assumption | exact List.mem_cons_self | refine List.mem_cons_of_mem _ ?_)) (by omega) | exact Rd.fieldA rfl F32_0 rfl (by repeat (first | assumption | exact List.mem_cons_self | refine List.mem_cons_of_mem _ ?_)) (by omega))) ?_
  refine WA.rd rfl rfl rfl (Rd.row1 (off := 0) (u := .int .i64 f) rfl C3 rfl (by repeat (first | assumption | exact List.mem_cons_self | refine List.mem_cons_of_mem _ ?_)) rfl) ?_
  refine WA.rd rfl rfl rfl (Rd.geq rfl rfl rfl) ?_
  refine WA.rd rfl rfl rfl (Rd.move rfl rfl) ?_
  refine WA.case 8 rfl (fun hg8 => ?_) (fun hg8 => ?_)
  · skip
    refine WA.rd_yes rfl rfl rfl rfl rfl rfl ((by first | exact Rd.field rfl F32_1 rfl rfl | exact Rd.fieldE rfl F32_1 rfl (by repeat (first | assumption | exact List.mem_cons_self | refine List.mem_cons_of_mem _ ?_)) (by omega) | exact Rd.fieldA rfl F32_1 rfl (by repeat (first | assumption | exact List.mem_cons_self | refine List.mem_cons_of_mem _ ?_)) (by omega))) ?_
    refine WA.rd_yes rfl rfl rfl rfl rfl rfl (Rd.row1 (off := 1) (u := .int .i64 z) rfl C3 rfl (by repeat (first | assumption | exact List.mem_cons_self | refine List.mem_cons_of_mem _ ?_)) rfl) ?_
    refine WA.rd_yes rfl rfl rfl rfl rfl rfl (Rd.geq rfl rfl rfl) ?_
    refine WA.rd rfl rfl rfl (Rd.pick_t rfl rfl rfl) ?_
    refine WA.rd rfl rfl rfl (Rd.move rfl rfl) ?_
    refine WA.case 13 rfl (fun hg13 => ?_) (fun hg13 => ?_)
    · skip
      refine WA.rd_yes rfl rfl rfl rfl rfl rfl ((by first | exact Rd.field rfl F32_1 rfl rfl | exact Rd.fieldE rfl F32_1 rfl (by repeat (first | assumption | exact List.mem_cons_self | refine List.mem_cons_of_mem _ ?_)) (by omega) | exact Rd.fieldA rfl F32_1 rfl (by repeat (first | assumption | exact List.mem_cons_self | refine List.mem_cons_of_mem _ ?_)) (by omega))) ?_
      refine WA.rd_yes rfl rfl rfl rfl rfl rfl (Rd.row1 (off := 1) (u := .int .i64 z) rfl C3 rfl (by repeat (first | assumption | exact List.mem_cons_self | refine List.mem_cons_of_mem _ ?_)) rfl) ?_
      refine WA.rd_yes rfl rfl rfl rfl rfl rfl (Rd.leq rfl rfl rfl) ?_
      refine WA.rd rfl rfl rfl (Rd.pick_t rfl rfl rfl) ?_
      refine WA.rd rfl rfl rfl (Rd.move rfl rfl) ?_
      refine WA.case 18 rfl (fun hg18 => ?_) (fun hg18 => ?_)
      · skip
        refine WA.rd_yes rfl rfl rfl rfl rfl rfl ((by first | exact Rd.field rfl F32_0 rfl rfl | exact Rd.fieldE rfl F32_0 rfl (by repeat (first | assumption | exact List.mem_cons_self | refine List.mem_cons_of_mem _ ?_)) (by omega) | exact Rd.fieldA rfl F32_0 rfl (by repeat (first | assumption | exact List.mem_cons_self | refine List.mem_cons_of_mem _ ?_)) (by omega))) ?_
        refine WA.rd_yes rfl rfl rfl rfl rfl rfl (Rd.row1 (off := 0) (u := .int .i64 f) rfl C3 rfl (by repeat (first | assumption | exact List.mem_cons_self | refine List.mem_cons_of_mem _ ?_)) rfl) ?_
        refine WA.rd_yes rfl rfl rfl rfl rfl rfl (Rd.move rfl rfl) ?_
        refine WA.rd_yes rfl rfl rfl rfl rfl rfl (Rd.nilc rfl rfl) ?_
        refine WA.rd_yes rfl rfl rfl rfl rfl rfl ((by first | exact Rd.field rfl F51_0 rfl rfl | exact Rd.fieldE rfl F51_0 rfl (by repeat (first | assumption | exact List.mem_cons_self | refine List.mem_cons_of_mem _ ?_)) (by omega) | exact Rd.fieldA rfl F51_0 rfl (by repeat (first | assumption | exact List.mem_cons_self | refine List.mem_cons_of_mem _ ?_)) (by omega))) ?_
        refine WA.rd_yes rfl rfl rfl rfl rfl rfl (Rd.row1 (off := 0) (u := V.lv) rfl C48 rfl (by repeat (first | assumption | exact List.mem_cons_self | refine List.mem_cons_of_mem _ ?_)) rfl) ?_
        refine WA.rd_yes rfl rfl rfl rfl rfl rfl (Rd.lenA (enc := one vs) rfl rfl Tryd.underlying48 (xs := s.lasts) (e' := 9) (by repeat (first | assumption | exact List.mem_cons_self | refine List.mem_cons_of_mem _ ?_))) ?_
        refine WA.rd_yes rfl rfl rfl rfl rfl rfl ((by first | exact Rd.field rfl F32_1 rfl rfl | exact Rd.fieldE rfl F32_1 rfl (by repeat (first | assumption | exact List.mem_cons_self | refine List.mem_cons_of_mem _ ?_)) (by omega) | exact Rd.fieldA rfl F32_1 rfl (by repeat (first | assumption | exact List.mem_cons_self | refine List.mem_cons_of_mem _ ?_)) (by omega))) ?_
        refine WA.rd_yes rfl rfl rfl rfl rfl rfl (Rd.row1 (off := 1) (u := .int .i64 z) rfl C3 rfl (by repeat (first | assumption | exact List.mem_cons_self | refine List.mem_cons_of_mem _ ?_)) rfl) ?_
        refine WA.rd_yes rfl rfl rfl rfl rfl rfl (Rd.sub rfl rfl rfl (by omega)) ?_
        refine WA.rd_yes rfl rfl rfl rfl rfl rfl (Rd.leq rfl rfl rfl) ?_
        refine WA.rd rfl rfl rfl (Rd.pick_t rfl rfl rfl) ?_
        refine WA.rd rfl rfl rfl (Rd.assign rfl rfl) ?_
        refine WA.nil ?_
        refine thenQ.normal ?_
        -- ret_1
        refine WC.heap (R' := R) (O' := rO d V s O) (fun w h => OwnL.sat (by repeat (first | exact OwnL.refl | apply OwnL.take (by repeat (first | exact Take.head _ | apply Take.tail)) | apply OwnL.drop)) w (h.thin (SubL.mem (by repeat (first | exact SubL.refl | refine SubL.cons (by repeat (first | assumption | exact List.mem_cons_self | refine List.mem_cons_of_mem _ ?_)) ?_ | refine SubL.skip ?_))))) ?_
        refine WC.ret (Ret.one Tryd.results32 rfl ?_)
        first
          | (have e : fitsB s f z = false := decide_eq_false (by omega)
             rw [e] at hk
             exact hk)
          | (have e : fitsB s f z = decide (f ≤ (s.lasts.length : Int) - z) := by
               unfold fitsB
               rw [decide_eq_decide]
               omega
             rw [e] at hk
             exact hk)
      · skip
        refine WA.no rfl rfl rfl rfl rfl rfl ?_
        refine WA.no rfl rfl rfl rfl rfl rfl ?_
        refine WA.no rfl rfl rfl rfl rfl rfl ?_
        refine WA.no rfl rfl rfl rfl rfl rfl ?_
        refine WA.no rfl rfl rfl rfl rfl rfl ?_
        refine WA.no rfl rfl rfl rfl rfl rfl ?_
        refine WA.no rfl rfl rfl rfl rfl rfl ?_
        refine WA.no rfl rfl rfl rfl rfl rfl ?_
        refine WA.no rfl rfl rfl rfl rfl rfl ?_
        refine WA.no rfl rfl rfl rfl rfl rfl ?_
        refine WA.no rfl rfl rfl rfl rfl rfl ?_
        refine WA.rd rfl rfl rfl (Rd.pick_f rfl rfl rfl) ?_
        refine WA.rd rfl rfl rfl (Rd.assign rfl rfl) ?_
        refine WA.nil ?_
        refine thenQ.normal ?_
        -- ret_2
        refine WC.heap (R' := R) (O' := rO d V s O) (fun w h => OwnL.sat (by repeat (first | exact OwnL.refl | apply OwnL.take (by repeat (first | exact Take.head _ | apply Take.tail)) | apply OwnL.drop)) w (h.thin (SubL.mem (by repeat (first | exact SubL.refl | refine SubL.cons (by repeat (first | assumption | exact List.mem_cons_self | refine List.mem_cons_of_mem _ ?_)) ?_ | refine SubL.skip ?_))))) ?_
        refine WC.ret (Ret.one Tryd.results32 rfl ?_)
        first
          | (have e : fitsB s f z = false := decide_eq_false (by omega)
             rw [e] at hk
             exact hk)
          | (have e : fitsB s f z = decide (f ≤ (s.lasts.length : Int) - z) := by
               unfold fitsB
               rw [decide_eq_decide]
               omega
             rw [e] at hk
             exact hk)
    · skip
      refine WA.no rfl rfl rfl rfl rfl rfl ?_
      refine WA.no rfl rfl rfl rfl rfl rfl ?_
      refine WA.no rfl rfl rfl rfl rfl rfl ?_
      refine WA.rd rfl rfl rfl (Rd.pick_f rfl rfl rfl) ?_
      refine WA.rd rfl rfl rfl (Rd.move rfl rfl) ?_
      refine WA.no rfl rfl rfl rfl rfl rfl ?_
      refine WA.no rfl rfl rfl rfl rfl rfl ?_
      refine WA.no rfl rfl rfl rfl rfl rfl ?_
      refine WA.no rfl rfl rfl rfl rfl rfl ?_
      refine WA.no rfl rfl rfl rfl rfl rfl ?_
      refine WA.no rfl rfl rfl rfl rfl rfl ?_
      refine WA.no rfl rfl rfl rfl rfl rfl ?_
      refine WA.no rfl rfl rfl rfl rfl rfl ?_
      refine WA.no rfl rfl rfl rfl rfl rfl ?_
      refine WA.no rfl rfl rfl rfl rfl rfl ?_
      refine WA.no rfl rfl rfl rfl rfl rfl ?_
      refine WA.rd rfl rfl rfl (Rd.pick_f rfl rfl rfl) ?_
      refine WA.rd rfl rfl rfl (Rd.assign rfl rfl) ?_
      refine WA.nil ?_
      refine thenQ.normal ?_
      -- ret_3
      refine WC.heap (R' := R) (O' := rO d V s O) (fun w h => OwnL.sat (by repeat (first | exact OwnL.refl | apply OwnL.take (by repeat (first | exact Take.head _ | apply Take.tail)) | apply OwnL.drop)) w (h.thin (SubL.mem (by repeat (first | exact SubL.refl | refine SubL.cons (by repeat (first | assumption | exact List.mem_cons_self | refine List.mem_cons_of_mem _ ?_)) ?_ | refine SubL.skip ?_))))) ?_
      refine WC.ret (Ret.one Tryd.results32 rfl ?_)
      first
        | (have e : fitsB s f z = false := decide_eq_false (by omega)
           rw [e] at hk
           exact hk)
        | (have e : fitsB s f z = decide (f ≤ (s.lasts.length : Int) - z) := by
             unfold fitsB
             rw [decide_eq_decide]
             omega
           rw [e] at hk
           exact hk)
  · skip
    refine WA.no rfl rfl rfl rfl rfl rfl ?_
    refine WA.no rfl rfl rfl rfl rfl rfl ?_
    refine WA.no rfl rfl rfl rfl rfl rfl ?_
    refine WA.rd rfl rfl rfl (Rd.pick_f rfl rfl rfl) ?_
    refine WA.rd rfl rfl rfl (Rd.move rfl rfl) ?_
    refine WA.no rfl rfl rfl rfl rfl rfl ?_
    refine WA.no rfl rfl rfl rfl rfl rfl ?_
    refine WA.no rfl rfl rfl rfl rfl rfl ?_
    refine WA.rd rfl rfl rfl (Rd.pick_f rfl rfl rfl) ?_
    refine WA.rd rfl rfl rfl (Rd.move rfl rfl) ?_
    refine WA.no rfl rfl rfl rfl rfl rfl ?_
    refine WA.no rfl rfl rfl rfl rfl rfl ?_
    refine WA.no rfl rfl rfl rfl rfl rfl ?_
    refine WA.no rfl rfl rfl rfl rfl rfl ?_
    refine WA.no rfl rfl rfl rfl rfl rfl ?_
    refine WA.no rfl rfl rfl rfl rfl rfl ?_
    refine WA.no rfl rfl rfl rfl rfl rfl ?_
    refine WA.no rfl rfl rfl rfl rfl rfl ?_
    refine WA.no rfl rfl rfl rfl rfl rfl ?_
    refine WA.no rfl rfl rfl rfl rfl rfl ?_
    refine WA.no rfl rfl rfl rfl rfl rfl ?_
    refine WA.rd rfl rfl rfl (Rd.pick_f rfl rfl rfl) ?_
    refine WA.rd rfl rfl rfl (Rd.assign rfl rfl) ?_
    refine WA.nil ?_
    refine thenQ.normal ?_
    -- ret_4
    refine WC.heap (R' := R) (O' := rO d V s O) (fun w h => OwnL.sat (by repeat (first | exact OwnL.refl | apply OwnL.take (by repeat (first | exact Take.head _ | apply Take.tail)) | apply OwnL.drop)) w (h.thin (SubL.mem (by repeat (first | exact SubL.refl | refine SubL.cons (by repeat (first | assumption | exact List.mem_cons_self | refine List.mem_cons_of_mem _ ?_)) ?_ | refine SubL.skip ?_))))) ?_
    refine WC.ret (Ret.one Tryd.results32 rfl ?_)
    first
      | (have e : fitsB s f z = false := decide_eq_false (by omega)
         rw [e] at hk
         exact hk)
      | (have e : fitsB s f z = decide (f ≤ (s.lasts.length : Int) - z) := by
           unfold fitsB
           rw [decide_eq_decide]
           omega
         rw [e] at hk
         exact hk)
set_option maxRecDepth 20000 in
theorem refMay_spec {i : Int} (hll : s.lasts.length ≤ 4096) (hz : 0 ≤ f ∧ f ≤ 5000 ∧ 0 ≤ z ∧ z ≤ 5000) (hk : POST (.bool (mayB s f z i)) R (rO d V s O)) : Fun Tryd.prog 34 #[dp d, rlog f z, .int .i64 i] R (rO d V s O) POST := by
  refine Fun.enter (l := [_, _, _]) Tryd.func34 rfl Tryd.ntmps34 rfl (L0 := [(0, _), (1, _), (2, _)]) rfl ?_
  refine WC.seq ?_
  refine WC.region ?_
  refine WL.op rfl ?_
  refine OpW.box rfl rfl (by repeat (first | exact NF.nil | apply NF.cons)) rfl rfl ?_; intro b4
  refine WL.rd rfl rfl rfl (Rd.assign rfl rfl) ?_
  refine WL.nil ?_
  refine thenQ.normal ?_
  refine WC.seq ?_
  refine WC.region ?_
  refine WL.rd rfl rfl rfl (Rd.move rfl rfl) ?_
  refine WL.rd rfl rfl rfl (Rd.geq rfl rfl rfl) ?_
  refine WL.rd rfl rfl rfl (Rd.move rfl rfl) ?_
  refine WL.case 9 rfl (fun hg9 => ?_) (fun hg9 => ?_)
  · skip
    refine WL.rd_yes rfl rfl rfl rfl rfl rfl (Rd.move rfl rfl) ?_
    refine WL.rd_yes rfl rfl rfl rfl rfl rfl (Rd.move rfl rfl) ?_
    refine WL.rd_yes rfl rfl rfl rfl rfl rfl (Rd.nilc rfl rfl) ?_
    refine WL.rd_yes rfl rfl rfl rfl rfl rfl ((by first | exact Rd.field rfl F51_0 rfl rfl | exact Rd.fieldE rfl F51_0 rfl (by repeat (first | assumption | exact List.mem_cons_self | refine List.mem_cons_of_mem _ ?_)) (by omega) | exact Rd.fieldA rfl F51_0 rfl (by repeat (first | assumption | exact List.mem_cons_self | refine List.mem_cons_of_mem _ ?_)) (by omega))) ?_
    refine WL.rd_yes rfl rfl rfl rfl rfl rfl (Rd.row1 (off := 0) (u := V.lv) rfl C48 rfl (by repeat (first | assumption | exact List.mem_cons_self | refine List.mem_cons_of_mem _ ?_)) rfl) ?_
    refine WL.rd_yes rfl rfl rfl rfl rfl rfl (Rd.lenA (enc := one vs) rfl rfl Tryd.underlying48 (xs := s.lasts) (e' := 9) (by repeat (first | assumption | exact List.mem_cons_self | refine List.mem_cons_of_mem _ ?_))) ?_
    refine WL.rd_yes rfl rfl rfl rfl rfl rfl (Rd.lss rfl rfl rfl) ?_
    refine WL.rd rfl rfl rfl (Rd.pick_t rfl rfl rfl) ?_
    refine WL.rd rfl rfl rfl (Rd.move rfl rfl) ?_
    refine WL.case 18 rfl (fun hg18 => ?_) (fun hg18 => ?_)
    · skip
      refine WL.rd_yes rfl rfl rfl rfl rfl rfl (Rd.move rfl rfl) ?_
      refine WL.rd_yes rfl rfl rfl rfl rfl rfl ((by first | exact Rd.field rfl F32_0 rfl rfl | exact Rd.fieldE rfl F32_0 rfl (by repeat (first | assumption | exact List.mem_cons_self | refine List.mem_cons_of_mem _ ?_)) (by omega) | exact Rd.fieldA rfl F32_0 rfl (by repeat (first | assumption | exact List.mem_cons_self | refine List.mem_cons_of_mem _ ?_)) (by omega))) ?_
      refine WL.rd_yes rfl rfl rfl rfl rfl rfl (Rd.row1 (off := 0) (u := .int .i64 f) rfl C3 rfl (by repeat (first | assumption | exact List.mem_cons_self | refine List.mem_cons_of_mem _ ?_)) rfl) ?_
      refine WL.rd_yes rfl rfl rfl rfl rfl rfl (Rd.lss rfl rfl rfl) ?_
      refine WL.rd_yes rfl rfl rfl rfl rfl rfl (Rd.move rfl rfl) ?_
      refine WL.case 23 rfl (fun hg23 => ?_) (fun hg23 => ?_)
      · skip
        refine WL.no rfl rfl rfl rfl rfl rfl ?_
        refine WL.no rfl rfl rfl rfl rfl rfl ?_
        refine WL.no rfl rfl rfl rfl rfl rfl ?_
        refine WL.no rfl rfl rfl rfl rfl rfl ?_
        refine WL.no rfl rfl rfl rfl rfl rfl ?_
        refine WL.no rfl rfl rfl rfl rfl rfl ?_
        refine WL.no rfl rfl rfl rfl rfl rfl ?_
        refine WL.rd_yes rfl rfl rfl rfl rfl rfl (Rd.pick_t rfl rfl rfl) ?_
        refine WL.rd rfl rfl rfl (Rd.pick_t rfl rfl rfl) ?_
        refine WL.rd rfl rfl rfl (Rd.assign rfl rfl) ?_
        refine WL.nil ?_
        refine thenQ.normal ?_
        -- ret_1
        refine WC.heap (R' := R) (O' := rO d V s O) (fun w h => OwnL.sat (by repeat (first | exact OwnL.refl | apply OwnL.take (by repeat (first | exact Take.head _ | apply Take.tail)) | apply OwnL.drop)) w (h.thin (SubL.mem (by repeat (first | exact SubL.refl | refine SubL.cons (by repeat (first | assumption | exact List.mem_cons_self | refine List.mem_cons_of_mem _ ?_)) ?_ | refine SubL.skip ?_))))) ?_
        refine WC.ret (Ret.one Tryd.results34 rfl ?_)
        first
          | (have e : mayB s f z i = false := decide_eq_false (by omega)
             rw [e] at hk
             exact hk)
          | (have e : mayB s f z i = true := decide_eq_true (by omega)
             rw [e] at hk
             exact hk)
          | (have e : mayB s f z i = decide (f + z ≤ i) := by
               unfold mayB
               rw [decide_eq_decide]
               omega
             rw [e] at hk
             exact hk)
      · skip
        refine WL.rd_yes rfl rfl rfl rfl rfl rfl (Rd.move rfl rfl) ?_
        refine WL.rd_yes rfl rfl rfl rfl rfl rfl ((by first | exact Rd.field rfl F32_0 rfl rfl | exact Rd.fieldE rfl F32_0 rfl (by repeat (first | assumption | exact List.mem_cons_self | refine List.mem_cons_of_mem _ ?_)) (by omega) | exact Rd.fieldA rfl F32_0 rfl (by repeat (first | assumption | exact List.mem_cons_self | refine List.mem_cons_of_mem _ ?_)) (by omega))) ?_
        refine WL.rd_yes rfl rfl rfl rfl rfl rfl (Rd.row1 (off := 0) (u := .int .i64 f) rfl C3 rfl (by repeat (first | assumption | exact List.mem_cons_self | refine List.mem_cons_of_mem _ ?_)) rfl) ?_
        refine WL.rd_yes rfl rfl rfl rfl rfl rfl ((by first | exact Rd.field rfl F32_1 rfl rfl | exact Rd.fieldE rfl F32_1 rfl (by repeat (first | assumption | exact List.mem_cons_self | refine List.mem_cons_of_mem _ ?_)) (by omega) | exact Rd.fieldA rfl F32_1 rfl (by repeat (first | assumption | exact List.mem_cons_self | refine List.mem_cons_of_mem _ ?_)) (by omega))) ?_
        refine WL.rd_yes rfl rfl rfl rfl rfl rfl (Rd.row1 (off := 1) (u := .int .i64 z) rfl C3 rfl (by repeat (first | assumption | exact List.mem_cons_self | refine List.mem_cons_of_mem _ ?_)) rfl) ?_
        refine WL.rd_yes rfl rfl rfl rfl rfl rfl (Rd.add rfl rfl rfl (by omega)) ?_
        refine WL.rd_yes rfl rfl rfl rfl rfl rfl (Rd.geq rfl rfl rfl) ?_
        refine WL.rd_yes rfl rfl rfl rfl rfl rfl (Rd.pick_f rfl rfl rfl) ?_
        refine WL.rd rfl rfl rfl (Rd.pick_t rfl rfl rfl) ?_
        refine WL.rd rfl rfl rfl (Rd.assign rfl rfl) ?_
        refine WL.nil ?_
        refine thenQ.normal ?_
        -- ret_2
        refine WC.heap (R' := R) (O' := rO d V s O) (fun w h => OwnL.sat (by repeat (first | exact OwnL.refl | apply OwnL.take (by repeat (first | exact Take.head _ | apply Take.tail)) | apply OwnL.drop)) w (h.thin (SubL.mem (by repeat (first | exact SubL.refl | refine SubL.cons (by repeat (first | assumption | exact List.mem_cons_self | refine List.mem_cons_of_mem _ ?_)) ?_ | refine SubL.skip ?_))))) ?_
        refine WC.ret (Ret.one Tryd.results34 rfl ?_)
        first
          | (have e : mayB s f z i = false := decide_eq_false (by omega)
             rw [e] at hk
             exact hk)
          | (have e : mayB s f z i = true := decide_eq_true (by omega)
             rw [e] at hk
             exact hk)
          | (have e : mayB s f z i = decide (f + z ≤ i) := by
               unfold mayB
               rw [decide_eq_decide]
               omega
             rw [e] at hk
             exact hk)
    · skip
      refine WL.no rfl rfl rfl rfl rfl rfl ?_
      refine WL.no rfl rfl rfl rfl rfl rfl ?_
      refine WL.no rfl rfl rfl rfl rfl rfl ?_
      refine WL.no rfl rfl rfl rfl rfl rfl ?_
      refine WL.no rfl rfl rfl rfl rfl rfl ?_
      refine WL.noU rfl rfl rfl rfl rfl rfl ?_
      refine WL.noU rfl rfl rfl rfl rfl rfl ?_
      refine WL.noU rfl rfl rfl rfl rfl rfl ?_
      refine WL.noU rfl rfl rfl rfl rfl rfl ?_
      refine WL.noU rfl rfl rfl rfl rfl rfl ?_
      refine WL.noU rfl rfl rfl rfl rfl rfl ?_
      refine WL.noU rfl rfl rfl rfl rfl rfl ?_
      refine WL.no rfl rfl rfl rfl rfl rfl ?_
      refine WL.rd rfl rfl rfl (Rd.pick_f rfl rfl rfl) ?_
      refine WL.rd rfl rfl rfl (Rd.assign rfl rfl) ?_
      refine WL.nil ?_
      refine thenQ.normal ?_
      -- ret_3
      refine WC.heap (R' := R) (O' := rO d V s O) (fun w h => OwnL.sat (by repeat (first | exact OwnL.refl | apply OwnL.take (by repeat (first | exact Take.head _ | apply Take.tail)) | apply OwnL.drop)) w (h.thin (SubL.mem (by repeat (first | exact SubL.refl | refine SubL.cons (by repeat (first | assumption | exact List.mem_cons_self | refine List.mem_cons_of_mem _ ?_)) ?_ | refine SubL.skip ?_))))) ?_
      refine WC.ret (Ret.one Tryd.results34 rfl ?_)
      first
        | (have e : mayB s f z i = false := decide_eq_false (by omega)
           rw [e] at hk
           exact hk)
        | (have e : mayB s f z i = true := decide_eq_true (by omega)
           rw [e] at hk
           exact hk)
        | (have e : mayB s f z i = decide (f + z ≤ i) := by
             unfold mayB
             rw [decide_eq_decide]
             omega
           rw [e] at hk
           exact hk)
  · skip
    refine WL.no rfl rfl rfl rfl rfl rfl ?_
    refine WL.no rfl rfl rfl rfl rfl rfl ?_
    refine WL.no rfl rfl rfl rfl rfl rfl ?_
    refine WL.no rfl rfl rfl rfl rfl rfl ?_
    refine WL.no rfl rfl rfl rfl rfl rfl ?_
    refine WL.no rfl rfl rfl rfl rfl rfl ?_
    refine WL.no rfl rfl rfl rfl rfl rfl ?_
    refine WL.rd rfl rfl rfl (Rd.pick_f rfl rfl rfl) ?_
    refine WL.rd rfl rfl rfl (Rd.move rfl rfl) ?_
    refine WL.no rfl rfl rfl rfl rfl rfl ?_
    refine WL.no rfl rfl rfl rfl rfl rfl ?_
    refine WL.no rfl rfl rfl rfl rfl rfl ?_
    refine WL.no rfl rfl rfl rfl rfl rfl ?_
    refine WL.no rfl rfl rfl rfl rfl rfl ?_
    refine WL.noU rfl rfl rfl rfl rfl rfl ?_
    refine WL.noU rfl rfl rfl rfl rfl rfl ?_
    refine WL.noU rfl rfl rfl rfl rfl rfl ?_
    refine WL.noU rfl rfl rfl rfl rfl rfl ?_
    refine WL.noU rfl rfl rfl rfl rfl rfl ?_
    refine WL.noU rfl rfl rfl rfl rfl rfl ?_
    refine WL.noU rfl rfl rfl rfl rfl rfl ?_
    refine WL.no rfl rfl rfl rfl rfl rfl ?_
    refine WL.rd rfl rfl rfl (Rd.pick_f rfl rfl rfl) ?_
    refine WL.rd rfl rfl rfl (Rd.assign rfl rfl) ?_
    refine WL.nil ?_
    refine thenQ.normal ?_
    -- ret_4
    refine WC.heap (R' := R) (O' := rO d V s O) (fun w h => OwnL.sat (by repeat (first | exact OwnL.refl | apply OwnL.take (by repeat (first | exact Take.head _ | apply Take.tail)) | apply OwnL.drop)) w (h.thin (SubL.mem (by repeat (first | exact SubL.refl | refine SubL.cons (by repeat (first | assumption | exact List.mem_cons_self | refine List.mem_cons_of_mem _ ?_)) ?_ | refine SubL.skip ?_))))) ?_
    refine WC.ret (Ret.one Tryd.results34 rfl ?_)
    first
      | (have e : mayB s f z i = false := decide_eq_false (by omega)
         rw [e] at hk
         exact hk)
      | (have e : mayB s f z i = true := decide_eq_true (by omega)
         rw [e] at hk
         exact hk)
      | (have e : mayB s f z i = decide (f + z ≤ i) := by
           unfold mayB
           rw [decide_eq_decide]
           omega
         rw [e] at hk
         exact hk)
set_option maxRecDepth 20000 in
set_option maxHeartbeats 2000000 in
theorem refHead_spec {x : List Chg} {xv : Value} (hx : SlE encC xv x ∈ R) (hc : Chgs x) (hn : x.length ≤ 64) (hk : POST (vs (fullE (headB x))) R O) : Fun Tryd.prog 35 #[xv] R O POST := by
  have hhl := hdB_len x
  have hal : (allB x).length ≤ 200000 := by
    unfold allB
    rw [List.length_append, flat_full_len (fun c hc' => (hc c hc').2.2)]; omega
  have hsum := sumE_lt (allB x)
  refine Fun.enter (l := [_]) Tryd.func35 rfl Tryd.ntmps35 rfl (L0 := [(0, _)]) rfl ?_
  refine WC.seq ?_
  refine WC.region ?_
  refine WL.rd rfl rfl rfl (Rd.assign rfl rfl) ?_
  refine WL.nil ?_
  refine thenQ.normal ?_
  refine WC.seq ?_
  refine WC.region ?_
  refine WL.rd rfl rfl rfl (Rd.move rfl rfl) ?_
  refine WL.rd rfl rfl rfl ((by first | exact Rd.lenE rfl rfl Tryd.underlying43 (by repeat (first | assumption | exact List.mem_cons_self | refine List.mem_cons_of_mem _ ?_)) | exact Rd.lenA rfl rfl Tryd.underlying43 (by repeat (first | assumption | exact List.mem_cons_self | refine List.mem_cons_of_mem _ ?_)) | exact Rd.len rfl rfl Tryd.underlying43)) ?_
  refine WL.rd rfl rfl rfl (Rd.convw (kd' := .u8) rfl rfl Tryd.underlying5 (hS := Tryd.underlying3)) ?_
  refine WL.say 11 (u := vy (byteOf x.length)) rfl (by rw [byte_wrap]) ?_
  refine WL.op rfl ?_
  refine OpW.buildSl (ps := [(0, _)]) rfl S112 (by repeat (first | exact Evs.nil | apply Evs.cons rfl)) rfl rfl (by repeat (first | exact CellsOf.nil | apply CellsOf.cons rfl)) (by kernel_rfl) rfl rfl rfl ?_; intro b12
  refine WL.rd rfl rfl rfl (Rd.strOfR (bs := [byteOf x.length]) rfl Tryd.underlying112 Tryd.underlying9 Tryd.underlying5 rfl (by repeat (first | assumption | exact List.mem_cons_self | refine List.mem_cons_of_mem _ ?_)) rfl rfl (by omega)) ?_
  refine WL.rd rfl rfl rfl (Rd.scat rfl rfl rfl (by show 2 + 1 ≤ _; omega)) ?_
  refine WL.rd rfl rfl rfl (Rd.assign rfl rfl) ?_
  refine WL.nil ?_
  refine thenQ.normal ?_
  refine WC.seq ?_
  refine WC.seq ?_
  refine WC.region ?_
  refine WL.rd rfl rfl rfl (Rd.assign rfl rfl) ?_
  refine WL.nil ?_
  refine thenQ.normal ?_
  refine WC.block ?_
  refine WC.pick [3, 4, 0] (by repeat (first | exact Pick.nil | apply Pick.cons rfl)) ?_
  refine WC.loop1 2 (fun (j : Nat) => [(3, vs ([87, 76, byteOf x.length] ++ (x.take j).flatMap fun c => [byteOf (c.1.toNat / 256), byteOf c.1.toNat])), (4, .int .i64 (j : Int))]) (fun (j : Nat) => O) (fun (j : Nat) => j ≤ x.length) (fun (j : Nat) => x.length - j) (0) (by repeat (first | exact Split.zero | apply Split.succ)) ?hinv1 (by repeat (first | exact Sub.nil | refine Sub.cons rfl (by first | rfl | (congr 1; omega) | assumption) ?_)) (fun w h => OwnL.sat (by repeat (first | exact OwnL.refl | apply OwnL.take (by repeat (first | exact Take.head _ | apply Take.tail)) | apply OwnL.drop)) w (h.thin (SubL.mem (by repeat (first | exact SubL.refl | refine SubL.cons (by repeat (first | assumption | exact List.mem_cons_self | refine List.mem_cons_of_mem _ ?_)) ?_ | refine SubL.skip ?_))))) ?_
  case hinv1 =>
    exact Nat.zero_le _
  intro j
  rintro j1
  refine WC.seq ?_
  refine WC.seq ?_
  refine WC.region ?_
  refine WL.rd rfl rfl rfl (Rd.move rfl rfl) ?_
  refine WL.rd rfl rfl rfl (Rd.move rfl rfl) ?_
  refine WL.rd rfl rfl rfl ((by first | exact Rd.lenE rfl rfl Tryd.underlying43 (by repeat (first | assumption | exact List.mem_cons_self | refine List.mem_cons_of_mem _ ?_)) | exact Rd.lenA rfl rfl Tryd.underlying43 (by repeat (first | assumption | exact List.mem_cons_self | refine List.mem_cons_of_mem _ ?_)) | exact Rd.len rfl rfl Tryd.underlying43)) ?_
  refine WL.rd rfl rfl rfl (Rd.lss rfl rfl rfl) ?_
  refine WL.nil ?_
  refine thenQ.normal ?_
  first | refine WC.ite rfl (fun hc1 => ?_) (fun hc1 => ?_) | refine WC.cond rfl (fun hc1 => ?_) (fun hc1 => ?_)
  · skip
    obtain ⟨hc1', hc2', hc3'⟩ := hc _ (chg_mem (x := x) (j := j) (by omega))
    have hpl : ([87, 76, byteOf x.length] ++ (x.take j).flatMap fun c => [byteOf (c.1.toNat / 256), byteOf c.1.toNat]).length = 3 + 2 * j := by
      have := hdB_len (x.take j)
      unfold hdB at this
      rw [List.length_append] at this ⊢
      rw [List.length_take, Nat.min_eq_left (by omega)] at this
      exact this
    have hnx := flat_next (g := fun c : Chg => [byteOf (c.1.toNat / 256), byteOf c.1.toNat]) (x := x) (j := j) (by omega)
    obtain ⟨c, hcc⟩ : ∃ c, c = x[j]! := ⟨_, rfl⟩
    rw [← hcc] at hc1' hc2' hc3' hnx
    refine WC.skip ?_
    refine thenQ.normal ?_
    refine WC.seq ?_
    refine WC.block ?_
    refine WC.drawn (O) 19 rfl mixed ?_
    refine WD.take 0 rfl (by kernel_rfl) (Held.mk' (by repeat (first | exact SubL.refl | refine SubL.cons (by repeat (first | assumption | exact List.mem_cons_self | refine List.mem_cons_of_mem _ ?_)) ?_ | refine SubL.skip ?_)) (by repeat (first | exact OwnL.refl | apply OwnL.take (by repeat (first | exact Take.head _ | apply Take.tail)) | apply OwnL.drop))) rfl rfl rfl (Rd.move rfl rfl) ?_
    refine WD.take 1 rfl (by kernel_rfl) (Held.mk' (by repeat (first | exact SubL.refl | refine SubL.cons (by repeat (first | assumption | exact List.mem_cons_self | refine List.mem_cons_of_mem _ ?_)) ?_ | refine SubL.skip ?_)) (by repeat (first | exact OwnL.refl | apply OwnL.take (by repeat (first | exact Take.head _ | apply Take.tail)) | apply OwnL.drop))) rfl rfl rfl (Rd.move rfl rfl) ?_
    refine WD.take 2 rfl (by kernel_rfl) (Held.mk' (by repeat (first | exact SubL.refl | refine SubL.cons (by repeat (first | assumption | exact List.mem_cons_self | refine List.mem_cons_of_mem _ ?_)) ?_ | refine SubL.skip ?_)) (by repeat (first | exact OwnL.refl | apply OwnL.take (by repeat (first | exact Take.head _ | apply Take.tail)) | apply OwnL.drop))) rfl rfl rfl (Rd.move rfl rfl) ?_
    refine WD.take 3 rfl (by kernel_rfl) (Held.mk' (by repeat (first | exact SubL.refl | refine SubL.cons (by repeat (first | assumption | exact List.mem_cons_self | refine List.mem_cons_of_mem _ ?_)) ?_ | refine SubL.skip ?_)) (by repeat (first | exact OwnL.refl | apply OwnL.take (by repeat (first | exact Take.head _ | apply Take.tail)) | apply OwnL.drop))) rfl rfl rfl ((by first | exact Rd.idx rfl S43 rfl rfl rfl (by repeat (first | assumption | exact List.mem_cons_self | refine List.mem_cons_of_mem _ ?_)) (by first | omega | (simp only [List.length_cons, List.length_nil, List.length_append, List.length_map]; omega)) | exact Rd.idxA rfl S43 rfl rfl rfl (by repeat (first | assumption | exact List.mem_cons_self | refine List.mem_cons_of_mem _ ?_)) (by first | omega | (simp only [List.length_cons, List.length_nil, List.length_append, List.length_map]; omega)) | exact Rd.idxR rfl S43 rfl rfl rfl (by omega))) ?_
    refine WD.take 4 rfl (by kernel_rfl) (Held.mk' (by repeat (first | exact SubL.refl | refine SubL.cons (by repeat (first | assumption | exact List.mem_cons_self | refine List.mem_cons_of_mem _ ?_)) ?_ | refine SubL.skip ?_)) (by repeat (first | exact OwnL.refl | apply OwnL.take (by repeat (first | exact Take.head _ | apply Take.tail)) | apply OwnL.drop))) rfl rfl rfl ((by first | exact Rd.field rfl F57_0 rfl rfl | exact Rd.fieldE rfl F57_0 rfl (by repeat (first | assumption | exact List.mem_cons_self | refine List.mem_cons_of_mem _ ?_)) (by omega) | exact Rd.fieldA rfl F57_0 rfl (by repeat (first | assumption | exact List.mem_cons_self | refine List.mem_cons_of_mem _ ?_)) (by omega))) ?_
    refine WD.take 5 rfl (by kernel_rfl) (Held.mk' (by repeat (first | exact SubL.refl | refine SubL.cons (by repeat (first | assumption | exact List.mem_cons_self | refine List.mem_cons_of_mem _ ?_)) ?_ | refine SubL.skip ?_)) (by repeat (first | exact OwnL.refl | apply OwnL.take (by repeat (first | exact Take.head _ | apply Take.tail)) | apply OwnL.drop))) rfl rfl rfl (Rd.getF (k := j) (f := 0) (a := c) (enc := encC) (xs := x) rfl C3 rfl (by repeat (first | assumption | exact List.mem_cons_self | refine List.mem_cons_of_mem _ ?_)) (fun _ => rfl) rfl (by rw [hcc]; exact get!_of_lt (by omega)) rfl) ?_
    refine WD.take 6 rfl (by kernel_rfl) (Held.mk' (by repeat (first | exact SubL.refl | refine SubL.cons (by repeat (first | assumption | exact List.mem_cons_self | refine List.mem_cons_of_mem _ ?_)) ?_ | refine SubL.skip ?_)) (by repeat (first | exact OwnL.refl | apply OwnL.take (by repeat (first | exact Take.head _ | apply Take.tail)) | apply OwnL.drop))) rfl rfl rfl (Rd.quoI (a := c.1.toNat) (b := 256) rfl rfl rfl (by omega) rfl (by decide) (by omega)) ?_
    refine WD.take 7 rfl (by kernel_rfl) (Held.mk' (by repeat (first | exact SubL.refl | refine SubL.cons (by repeat (first | assumption | exact List.mem_cons_self | refine List.mem_cons_of_mem _ ?_)) ?_ | refine SubL.skip ?_)) (by repeat (first | exact OwnL.refl | apply OwnL.take (by repeat (first | exact Take.head _ | apply Take.tail)) | apply OwnL.drop))) rfl rfl rfl (Rd.convw (kd' := .u8) rfl rfl Tryd.underlying5 (hS := Tryd.underlying3)) ?_
    refine WD.say 28 (u := vy (byteOf (c.1.toNat / 256))) rfl (by rw [byte_wrap]) ?_
    refine WD.take 8 rfl (by kernel_rfl) (Held.mk' (by repeat (first | exact SubL.refl | refine SubL.cons (by repeat (first | assumption | exact List.mem_cons_self | refine List.mem_cons_of_mem _ ?_)) ?_ | refine SubL.skip ?_)) (by repeat (first | exact OwnL.refl | apply OwnL.take (by repeat (first | exact Take.head _ | apply Take.tail)) | apply OwnL.drop))) rfl rfl rfl (Rd.move rfl rfl) ?_
    refine WD.take 9 rfl (by kernel_rfl) (Held.mk' (by repeat (first | exact SubL.refl | refine SubL.cons (by repeat (first | assumption | exact List.mem_cons_self | refine List.mem_cons_of_mem _ ?_)) ?_ | refine SubL.skip ?_)) (by repeat (first | exact OwnL.refl | apply OwnL.take (by repeat (first | exact Take.head _ | apply Take.tail)) | apply OwnL.drop))) rfl rfl rfl (Rd.move rfl rfl) ?_
    refine WD.take 10 rfl (by kernel_rfl) (Held.mk' (by repeat (first | exact SubL.refl | refine SubL.cons (by repeat (first | assumption | exact List.mem_cons_self | refine List.mem_cons_of_mem _ ?_)) ?_ | refine SubL.skip ?_)) (by repeat (first | exact OwnL.refl | apply OwnL.take (by repeat (first | exact Take.head _ | apply Take.tail)) | apply OwnL.drop))) rfl rfl rfl ((by first | exact Rd.idx rfl S43 rfl rfl rfl (by repeat (first | assumption | exact List.mem_cons_self | refine List.mem_cons_of_mem _ ?_)) (by first | omega | (simp only [List.length_cons, List.length_nil, List.length_append, List.length_map]; omega)) | exact Rd.idxA rfl S43 rfl rfl rfl (by repeat (first | assumption | exact List.mem_cons_self | refine List.mem_cons_of_mem _ ?_)) (by first | omega | (simp only [List.length_cons, List.length_nil, List.length_append, List.length_map]; omega)) | exact Rd.idxR rfl S43 rfl rfl rfl (by omega))) ?_
    refine WD.take 11 rfl (by kernel_rfl) (Held.mk' (by repeat (first | exact SubL.refl | refine SubL.cons (by repeat (first | assumption | exact List.mem_cons_self | refine List.mem_cons_of_mem _ ?_)) ?_ | refine SubL.skip ?_)) (by repeat (first | exact OwnL.refl | apply OwnL.take (by repeat (first | exact Take.head _ | apply Take.tail)) | apply OwnL.drop))) rfl rfl rfl ((by first | exact Rd.field rfl F57_0 rfl rfl | exact Rd.fieldE rfl F57_0 rfl (by repeat (first | assumption | exact List.mem_cons_self | refine List.mem_cons_of_mem _ ?_)) (by omega) | exact Rd.fieldA rfl F57_0 rfl (by repeat (first | assumption | exact List.mem_cons_self | refine List.mem_cons_of_mem _ ?_)) (by omega))) ?_
    refine WD.take 12 rfl (by kernel_rfl) (Held.mk' (by repeat (first | exact SubL.refl | refine SubL.cons (by repeat (first | assumption | exact List.mem_cons_self | refine List.mem_cons_of_mem _ ?_)) ?_ | refine SubL.skip ?_)) (by repeat (first | exact OwnL.refl | apply OwnL.take (by repeat (first | exact Take.head _ | apply Take.tail)) | apply OwnL.drop))) rfl rfl rfl (Rd.getF (k := j) (f := 0) (a := c) (enc := encC) (xs := x) rfl C3 rfl (by repeat (first | assumption | exact List.mem_cons_self | refine List.mem_cons_of_mem _ ?_)) (fun _ => rfl) rfl (by rw [hcc]; exact get!_of_lt (by omega)) rfl) ?_
    refine WD.take 13 rfl (by kernel_rfl) (Held.mk' (by repeat (first | exact SubL.refl | refine SubL.cons (by repeat (first | assumption | exact List.mem_cons_self | refine List.mem_cons_of_mem _ ?_)) ?_ | refine SubL.skip ?_)) (by repeat (first | exact OwnL.refl | apply OwnL.take (by repeat (first | exact Take.head _ | apply Take.tail)) | apply OwnL.drop))) rfl rfl rfl (Rd.remN (a := c.1.toNat) (b := 256) rfl rfl rfl (by omega) rfl (by decide)) ?_
    refine WD.take 14 rfl (by kernel_rfl) (Held.mk' (by repeat (first | exact SubL.refl | refine SubL.cons (by repeat (first | assumption | exact List.mem_cons_self | refine List.mem_cons_of_mem _ ?_)) ?_ | refine SubL.skip ?_)) (by repeat (first | exact OwnL.refl | apply OwnL.take (by repeat (first | exact Take.head _ | apply Take.tail)) | apply OwnL.drop))) rfl rfl rfl (Rd.convw (kd' := .u8) rfl rfl Tryd.underlying5 (hS := Tryd.underlying3)) ?_
    refine WD.say 35 (u := vy (byteOf c.1.toNat)) rfl (by rw [byte_wrap, byte_mod]) ?_
    refine WD.one 15 rfl (by kernel_rfl) rfl ?_
    refine OpW.buildSl (ps := [(0, _), (1, _)]) rfl S112 (by repeat (first | exact Evs.nil | apply Evs.cons rfl)) rfl rfl (by repeat (first | exact CellsOf.nil | apply CellsOf.cons rfl)) (by kernel_rfl) rfl rfl rfl ?_; intro b36
    refine ⟨(Held.mk' (by repeat (first | exact SubL.refl | refine SubL.cons (by repeat (first | assumption | exact List.mem_cons_self | refine List.mem_cons_of_mem _ ?_)) ?_ | refine SubL.skip ?_)) (by repeat (first | exact OwnL.refl | apply OwnL.take (by repeat (first | exact Take.head _ | apply Take.tail)) | apply OwnL.drop))), ?_⟩
    refine WD.one 16 rfl (by kernel_rfl) rfl ?_
    refine OpW.rd rfl rfl (Rd.strOfR (bs := [byteOf (c.1.toNat / 256), byteOf c.1.toNat]) rfl Tryd.underlying112 Tryd.underlying9 Tryd.underlying5 rfl (by repeat (first | assumption | exact List.mem_cons_self | refine List.mem_cons_of_mem _ ?_)) rfl rfl (by omega)) ?_
    refine ⟨(Held.mk' (by repeat (first | exact SubL.refl | refine SubL.cons (by repeat (first | assumption | exact List.mem_cons_self | refine List.mem_cons_of_mem _ ?_)) ?_ | refine SubL.skip ?_)) (by repeat (first | exact OwnL.refl | apply OwnL.take (by repeat (first | exact Take.head _ | apply Take.tail)) | apply OwnL.drop))), ?_⟩
    refine WD.take 17 rfl (by kernel_rfl) (Held.mk' (by repeat (first | exact SubL.refl | refine SubL.cons (by repeat (first | assumption | exact List.mem_cons_self | refine List.mem_cons_of_mem _ ?_)) ?_ | refine SubL.skip ?_)) (by repeat (first | exact OwnL.refl | apply OwnL.take (by repeat (first | exact Take.head _ | apply Take.tail)) | apply OwnL.drop))) rfl rfl rfl (Rd.scat rfl rfl rfl (by rw [hpl]; show _ + 2 ≤ _; omega)) ?_
    refine WD.take 18 rfl (by kernel_rfl) (Held.mk' (by repeat (first | exact SubL.refl | refine SubL.cons (by repeat (first | assumption | exact List.mem_cons_self | refine List.mem_cons_of_mem _ ?_)) ?_ | refine SubL.skip ?_)) (by repeat (first | exact OwnL.refl | apply OwnL.take (by repeat (first | exact Take.head _ | apply Take.tail)) | apply OwnL.drop))) rfl rfl rfl (Rd.assign rfl rfl) ?_
    refine WD.done (by kernel_rfl) ?_
    refine blockQ.normal ?_
    refine thenQ.normal ?_
    refine WC.region ?_
    refine WL.rd rfl rfl rfl (Rd.move rfl rfl) ?_
    refine WL.rd rfl rfl rfl (Rd.add rfl rfl rfl (by omega)) ?_
    refine WL.rd rfl rfl rfl (Rd.assign rfl rfl) ?_
    refine WL.nil ?_
    -- next1_1
    exact loopQ1.mk (j + 1) (by omega) (by omega) (by refine Sub.cons rfl (by rw [hnx, List.append_assoc]) ?_; exact (by repeat (first | exact Sub.nil | refine Sub.cons rfl (by first | rfl | (congr 1; omega) | assumption) ?_))) (fun w h => OwnL.sat (by repeat (first | exact OwnL.refl | apply OwnL.take (by repeat (first | exact Take.head _ | apply Take.tail)) | apply OwnL.drop)) w (h.thin (SubL.mem (by repeat (first | exact SubL.refl | refine SubL.cons (by repeat (first | assumption | exact List.mem_cons_self | refine List.mem_cons_of_mem _ ?_)) ?_ | refine SubL.skip ?_)))))
  · skip
    obtain rfl : j = x.length := by omega
    have hhd : ([87, 76, byteOf x.length] ++ (x.take x.length).flatMap fun c => [byteOf (c.1.toNat / 256), byteOf c.1.toNat]) = hdB x := by rw [List.take_length]; rfl
    rw [hhd]
    refine WC.exit ?_
    refine thenQ.exit ?_
    refine loopQ1.exit ?_
    refine blockQ.exit ?_
    refine thenQ.normal ?_
    refine WC.seq ?_
    refine WC.region ?_
    refine WL.rd rfl rfl rfl (Rd.move rfl rfl) ?_
    refine WL.rd rfl rfl rfl (Rd.assign rfl rfl) ?_
    refine WL.say 5 (u := vs (hdB x ++ (x.take 0).flatMap fun c => fullE c.2)) rfl (by rw [List.take_zero, List.flatMap_nil, List.append_nil]) ?_
    refine WL.nil ?_
    refine thenQ.normal ?_
    refine WC.seq ?_
    refine WC.seq ?_
    refine WC.region ?_
    refine WL.rd rfl rfl rfl (Rd.assign rfl rfl) ?_
    refine WL.nil ?_
    refine thenQ.normal ?_
    refine WC.block ?_
    refine WC.pick [5, 6, 0, 3] (by repeat (first | exact Pick.nil | apply Pick.cons rfl)) ?_
    refine WC.loop1 2 (fun (j : Nat) => [(5, vs (hdB x ++ (x.take j).flatMap fun c => fullE c.2)), (6, .int .i64 (j : Int))]) (fun (j : Nat) => O) (fun (j : Nat) => j ≤ x.length) (fun (j : Nat) => x.length - j) (0) (by repeat (first | exact Split.zero | apply Split.succ)) ?hinv2 (by repeat (first | exact Sub.nil | refine Sub.cons rfl (by first | rfl | (congr 1; omega) | assumption) ?_)) (fun w h => OwnL.sat (by repeat (first | exact OwnL.refl | apply OwnL.take (by repeat (first | exact Take.head _ | apply Take.tail)) | apply OwnL.drop)) w (h.thin (SubL.mem (by repeat (first | exact SubL.refl | refine SubL.cons (by repeat (first | assumption | exact List.mem_cons_self | refine List.mem_cons_of_mem _ ?_)) ?_ | refine SubL.skip ?_))))) ?_
    case hinv2 =>
      exact Nat.zero_le _
    intro j
    rintro j1
    refine WC.seq ?_
    refine WC.seq ?_
    refine WC.region ?_
    refine WL.rd rfl rfl rfl (Rd.move rfl rfl) ?_
    refine WL.rd rfl rfl rfl (Rd.move rfl rfl) ?_
    refine WL.rd rfl rfl rfl ((by first | exact Rd.lenE rfl rfl Tryd.underlying43 (by repeat (first | assumption | exact List.mem_cons_self | refine List.mem_cons_of_mem _ ?_)) | exact Rd.lenA rfl rfl Tryd.underlying43 (by repeat (first | assumption | exact List.mem_cons_self | refine List.mem_cons_of_mem _ ?_)) | exact Rd.len rfl rfl Tryd.underlying43)) ?_
    refine WL.rd rfl rfl rfl (Rd.lss rfl rfl rfl) ?_
    refine WL.nil ?_
    refine thenQ.normal ?_
    first | refine WC.ite rfl (fun hc2 => ?_) (fun hc2 => ?_) | refine WC.cond rfl (fun hc2 => ?_) (fun hc2 => ?_)
    · skip
      obtain ⟨hc1', hc2', hc3'⟩ := hc _ (chg_mem (x := x) (j := j) (by omega))
      have hnx := flat_next (g := fun c : Chg => fullE c.2) (x := x) (j := j) (by omega)
      have hpl : ((x.take j).flatMap fun c : Chg => fullE c.2).length = 512 * j := by
        rw [flat_full_len (fun c hc' => (hc c (List.mem_of_mem_take hc')).2.2), List.length_take, Nat.min_eq_left (by omega)]
      obtain ⟨c, hcc⟩ : ∃ c, c = x[j]! := ⟨_, rfl⟩
      rw [← hcc] at hc1' hc2' hc3' hnx
      have hfl := full_len hc3'
      refine WC.skip ?_
      refine thenQ.normal ?_
      refine WC.seq ?_
      refine WC.block ?_
      refine WC.region ?_
      refine WL.rd rfl rfl rfl (Rd.move rfl rfl) ?_
      refine WL.rd rfl rfl rfl (Rd.move rfl rfl) ?_
      refine WL.rd rfl rfl rfl (Rd.move rfl rfl) ?_
      refine WL.rd rfl rfl rfl ((by first | exact Rd.idx rfl S43 rfl rfl rfl (by repeat (first | assumption | exact List.mem_cons_self | refine List.mem_cons_of_mem _ ?_)) (by first | omega | (simp only [List.length_cons, List.length_nil, List.length_append, List.length_map]; omega)) | exact Rd.idxA rfl S43 rfl rfl rfl (by repeat (first | assumption | exact List.mem_cons_self | refine List.mem_cons_of_mem _ ?_)) (by first | omega | (simp only [List.length_cons, List.length_nil, List.length_append, List.length_map]; omega)) | exact Rd.idxR rfl S43 rfl rfl rfl (by omega))) ?_
      refine WL.rd rfl rfl rfl ((by first | exact Rd.field rfl F57_1 rfl rfl | exact Rd.fieldE rfl F57_1 rfl (by repeat (first | assumption | exact List.mem_cons_self | refine List.mem_cons_of_mem _ ?_)) (by omega) | exact Rd.fieldA rfl F57_1 rfl (by repeat (first | assumption | exact List.mem_cons_self | refine List.mem_cons_of_mem _ ?_)) (by omega))) ?_
      refine WL.rd rfl rfl rfl (Rd.getF (k := j) (f := 1) (a := c) (enc := encC) (xs := x) rfl C9 rfl (by repeat (first | assumption | exact List.mem_cons_self | refine List.mem_cons_of_mem _ ?_)) (fun _ => rfl) rfl (by rw [hcc]; exact get!_of_lt (by omega)) rfl) ?_
      refine WL.op rfl ?_
      refine OpW.call rfl rfl (by repeat (first | exact Evs.nil | apply Evs.cons rfl)) (by kernel_rfl) rfl rfl rfl ?_
      refine refFull_spec hc3' ?_
      refine WL.rd rfl rfl rfl (Rd.scat rfl rfl rfl (by rw [List.length_append, hhl, hpl, hfl]; omega)) ?_
      refine WL.rd rfl rfl rfl (Rd.assign rfl rfl) ?_
      refine WL.nil ?_
      refine blockQ.normal ?_
      refine thenQ.normal ?_
      refine WC.region ?_
      refine WL.rd rfl rfl rfl (Rd.move rfl rfl) ?_
      refine WL.rd rfl rfl rfl (Rd.add rfl rfl rfl (by omega)) ?_
      refine WL.rd rfl rfl rfl (Rd.assign rfl rfl) ?_
      refine WL.nil ?_
      -- next2_1
      exact loopQ1.mk (j + 1) (by omega) (by omega) (by refine Sub.cons rfl (by rw [hnx, List.append_assoc]) ?_; exact (by repeat (first | exact Sub.nil | refine Sub.cons rfl (by first | rfl | (congr 1; omega) | assumption) ?_))) (fun w h => OwnL.sat (by repeat (first | exact OwnL.refl | apply OwnL.take (by repeat (first | exact Take.head _ | apply Take.tail)) | apply OwnL.drop)) w (h.thin (SubL.mem (by repeat (first | exact SubL.refl | refine SubL.cons (by repeat (first | assumption | exact List.mem_cons_self | refine List.mem_cons_of_mem _ ?_)) ?_ | refine SubL.skip ?_)))))
    · skip
      obtain rfl : j = x.length := by omega
      have hall : (hdB x ++ (x.take x.length).flatMap fun c => fullE c.2) = allB x := by rw [List.take_length]; rfl
      rw [hall]
      refine WC.exit ?_
      refine thenQ.exit ?_
      refine loopQ1.exit ?_
      refine blockQ.exit ?_
      refine thenQ.normal ?_
      refine WC.seq ?_
      refine WC.region ?_
      refine WL.rd rfl rfl rfl (Rd.move rfl rfl) ?_
      refine WL.op rfl ?_
      refine OpW.call rfl rfl (by repeat (first | exact Evs.nil | apply Evs.cons rfl)) (by kernel_rfl) rfl rfl rfl ?_
      refine refSum_spec (by omega) ?_
      refine WL.rd rfl rfl rfl (Rd.assign rfl rfl) ?_
      refine WL.say 3 (u := vs (hdB x ++ (le4 (sumE (allB x))).take 0)) rfl (by rw [List.take_zero, List.append_nil]) ?_
      refine WL.nil ?_
      refine thenQ.normal ?_
      refine WC.seq ?_
      refine WC.seq ?_
      refine WC.region ?_
      refine WL.rd rfl rfl rfl (Rd.assign rfl rfl) ?_
      refine WL.nil ?_
      refine thenQ.normal ?_
      refine WC.block ?_
      refine WC.pick [3, 7, 8] (by repeat (first | exact Pick.nil | apply Pick.cons rfl)) ?_
      refine WC.loop1 3 (fun (i : Nat) => [(3, vs (hdB x ++ (le4 (sumE (allB x))).take i)), (7, .int .u32 ((sumE (allB x) / 256 ^ i : Nat) : Int)), (8, .int .i64 (i : Int))]) (fun (i : Nat) => O) (fun (i : Nat) => i ≤ 4) (fun (i : Nat) => 4 - i) (0) (by repeat (first | exact Split.zero | apply Split.succ)) ?hinv3 (by repeat (first | exact Sub.nil | refine Sub.cons rfl (by first | rfl | (congr 1; omega) | assumption) ?_)) (fun w h => OwnL.sat (by repeat (first | exact OwnL.refl | apply OwnL.take (by repeat (first | exact Take.head _ | apply Take.tail)) | apply OwnL.drop)) w (h.thin (SubL.mem (by repeat (first | exact SubL.refl | refine SubL.cons (by repeat (first | assumption | exact List.mem_cons_self | refine List.mem_cons_of_mem _ ?_)) ?_ | refine SubL.skip ?_))))) ?_
      case hinv3 =>
        exact Nat.zero_le _
      intro i
      rintro i1
      refine WC.seq ?_
      refine WC.seq ?_
      refine WC.region ?_
      refine WL.rd rfl rfl rfl (Rd.move rfl rfl) ?_
      refine WL.rd rfl rfl rfl (Rd.lss rfl rfl rfl) ?_
      refine WL.nil ?_
      refine thenQ.normal ?_
      first | refine WC.ite rfl (fun hc3 => ?_) (fun hc3 => ?_) | refine WC.cond rfl (fun hc3 => ?_) (fun hc3 => ?_)
      · skip
        have hls := le4_sn (sumE (allB x)) i
        rw [if_pos (by omega)] at hls
        have hlt : ((le4 (sumE (allB x))).take i).length ≤ 4 := by rw [List.length_take]; simp [le4]; omega
        refine WC.skip ?_
        refine thenQ.normal ?_
        refine WC.seq ?_
        refine WC.block ?_
        refine WC.seq ?_
        refine WC.region ?_
        refine WL.rd rfl rfl rfl (Rd.move rfl rfl) ?_
        refine WL.rd rfl rfl rfl (Rd.move rfl rfl) ?_
        refine WL.rd rfl rfl rfl (Rd.convw (kd' := .u8) rfl rfl Tryd.underlying5 (hS := Tryd.underlying113)) ?_
        refine WL.say 62 (u := vy (UInt8.ofNat (sumE (allB x) / 256 ^ i % 256))) rfl (by rw [wrap_byte]) ?_
        refine WL.op rfl ?_
        refine OpW.buildSl (ps := [(0, _)]) rfl S112 (by repeat (first | exact Evs.nil | apply Evs.cons rfl)) rfl rfl (by repeat (first | exact CellsOf.nil | apply CellsOf.cons rfl)) (by kernel_rfl) rfl rfl rfl ?_; intro b63
        refine WL.rd rfl rfl rfl (Rd.strOfR (bs := [UInt8.ofNat (sumE (allB x) / 256 ^ i % 256)]) rfl Tryd.underlying112 Tryd.underlying9 Tryd.underlying5 rfl (by repeat (first | assumption | exact List.mem_cons_self | refine List.mem_cons_of_mem _ ?_)) rfl rfl (by omega)) ?_
        refine WL.rd rfl rfl rfl (Rd.scat rfl rfl rfl (by rw [List.length_append, hhl]; show _ + 1 ≤ _; omega)) ?_
        refine WL.rd rfl rfl rfl (Rd.assign rfl rfl) ?_
        refine WL.nil ?_
        refine thenQ.normal ?_
        refine WC.region ?_
        refine WL.rd rfl rfl rfl (Rd.move rfl rfl) ?_
        refine WL.rd rfl rfl rfl (Rd.quoN (a := sumE (allB x) / 256 ^ i) (b := 256) rfl rfl rfl rfl rfl (by decide) (wrap_natU rfl (Nat.lt_of_le_of_lt (Nat.div_le_self _ _) (Nat.lt_of_le_of_lt (Nat.div_le_self _ _) hsum)))) ?_
        refine WL.say 67 (u := .int .u32 ((sumE (allB x) / 256 ^ (i + 1) : Nat) : Int)) rfl (by rw [Nat.div_div_eq_div_mul]; rfl) ?_
        refine WL.rd rfl rfl rfl (Rd.assign rfl rfl) ?_
        refine WL.nil ?_
        refine blockQ.normal ?_
        refine thenQ.normal ?_
        refine WC.region ?_
        refine WL.rd rfl rfl rfl (Rd.move rfl rfl) ?_
        refine WL.rd rfl rfl rfl (Rd.add rfl rfl rfl (by omega)) ?_
        refine WL.rd rfl rfl rfl (Rd.assign rfl rfl) ?_
        refine WL.nil ?_
        -- next3_1
        exact loopQ1.mk (i + 1) (by omega) (by omega) (by refine Sub.cons rfl (by rw [hls, List.append_assoc]) ?_; exact (by repeat (first | exact Sub.nil | refine Sub.cons rfl (by first | rfl | (congr 1; omega) | assumption) ?_))) (fun w h => OwnL.sat (by repeat (first | exact OwnL.refl | apply OwnL.take (by repeat (first | exact Take.head _ | apply Take.tail)) | apply OwnL.drop)) w (h.thin (SubL.mem (by repeat (first | exact SubL.refl | refine SubL.cons (by repeat (first | assumption | exact List.mem_cons_self | refine List.mem_cons_of_mem _ ?_)) ?_ | refine SubL.skip ?_)))))
      · skip
        obtain rfl : i = 4 := by omega
        have e4 : (le4 (sumE (allB x))).take 4 = le4 (sumE (allB x)) := rfl
        rw [e4]
        have hhb := headB_len x
        refine WC.exit ?_
        refine thenQ.exit ?_
        refine loopQ1.exit ?_
        refine blockQ.exit ?_
        refine thenQ.normal ?_
        refine WC.seq ?_
        refine WC.region ?_
        refine WL.rd rfl rfl rfl (Rd.move rfl rfl) ?_
        refine WL.op rfl ?_
        refine OpW.call rfl rfl (by repeat (first | exact Evs.nil | apply Evs.cons rfl)) (by kernel_rfl) rfl rfl rfl ?_
        refine refFull_spec (x := headB x) (by omega) ?_
        refine WL.rd rfl rfl rfl (Rd.assign rfl rfl) ?_
        refine WL.nil ?_
        refine thenQ.normal ?_
        -- ret_1
        refine WC.ret (Ret.one Tryd.results35 rfl ?_)
        exact hk
set_option maxRecDepth 20000 in
set_option maxHeartbeats 2000000 in
theorem refMake_spec {x : List Chg} {xv : Value} (hx : SlE encC xv x ∈ R) (dk : Dk s m) (hm : m + x.length ≤ 4294967290) (hv : ROk V) (hkeep : SlE (one vi) V.kv s.keep ∈ R)
    (hk : ∀ V', ROk V' → V'.kv = V.kv → POST (.int .i64 ((makeS s x).2 : Nat)) R (rO d V' (makeS s x).1 O)) : Fun Tryd.prog 36 #[dp d, xv] R (rO d V s O) POST := by
  refine Fun.len hx fun hxl => ?_
  refine Fun.enter (l := [_, _]) Tryd.func36 rfl Tryd.ntmps36 rfl (L0 := [(0, _), (1, _)]) rfl ?_
  refine WC.seq ?_
  refine WC.region ?_
  refine WL.rd rfl rfl rfl (Rd.assign rfl rfl) ?_
  refine WL.nil ?_
  refine thenQ.normal ?_
  refine WC.seq ?_
  refine WC.seq ?_
  refine WC.region ?_
  refine WL.rd rfl rfl rfl (Rd.assign rfl rfl) ?_
  refine WL.nil ?_
  refine thenQ.normal ?_
  refine WC.block ?_
  refine WC.pick [5, 0, 1] (by repeat (first | exact Pick.nil | apply Pick.cons rfl)) ?_
  refine WC.loop3 1 (fun (j : Nat) (t : DSt) (U : DV) => [(5, .int .i64 (j : Int))]) (fun (j : Nat) (t : DSt) (U : DV) => rO d U t O) (fun (j : Nat) (t : DSt) (U : DV) => j ≤ x.length ∧ Dk t (m + j) ∧ ROk U ∧ U.kv = V.kv ∧ t.keep = s.keep ∧ runP s x = runP t (x.drop j)) (fun (j : Nat) (t : DSt) (U : DV) => x.length - j) (0) (s) (V) (by repeat (first | exact Split.zero | apply Split.succ)) ?hinv1 (by repeat (first | exact Sub.nil | refine Sub.cons rfl (by first | rfl | (congr 1; omega) | assumption) ?_)) (fun _ h => h) ?_
  case hinv1 =>
    exact ⟨Nat.zero_le _, dk, hv, rfl, rfl, rfl⟩
  intro j t U
  rintro ⟨j1, dkt, hu, hkv, hkp, hrun⟩
  refine WC.seq ?_
  refine WC.seq ?_
  refine WC.region ?_
  refine WL.rd rfl rfl rfl (Rd.move rfl rfl) ?_
  refine WL.rd rfl rfl rfl (Rd.move rfl rfl) ?_
  refine WL.rd rfl rfl rfl ((by first | exact Rd.lenE rfl rfl Tryd.underlying43 (by repeat (first | assumption | exact List.mem_cons_self | refine List.mem_cons_of_mem _ ?_)) | exact Rd.lenA rfl rfl Tryd.underlying43 (by repeat (first | assumption | exact List.mem_cons_self | refine List.mem_cons_of_mem _ ?_)) | exact Rd.len rfl rfl Tryd.underlying43)) ?_
  refine WL.rd rfl rfl rfl (Rd.lss rfl rfl rfl) ?_
  refine WL.nil ?_
  refine thenQ.normal ?_
  first | refine WC.ite rfl (fun hc1 => ?_) (fun hc1 => ?_) | refine WC.cond rfl (fun hc1 => ?_) (fun hc1 => ?_)
  · skip
    have hat := run_at (j := j) (by omega) hrun
    obtain ⟨c, hcc⟩ : ∃ c, c = x[j]! := ⟨_, rfl⟩
    rw [← hcc] at hat
    refine WC.skip ?_
    refine thenQ.normal ?_
    refine WC.seq ?_
    refine WC.block ?_
    refine WC.seq ?_
    refine WC.tail 11 mixed (by kernel_rfl) ?_
    refine WS.rd rfl rfl rfl (Rd.move rfl rfl) ?_
    refine WS.rd rfl rfl rfl (Rd.move rfl rfl) ?_
    refine WS.rd rfl rfl rfl (Rd.move rfl rfl) ?_
    refine WS.rd rfl rfl rfl ((by first | exact Rd.idx rfl S43 rfl rfl rfl (by repeat (first | assumption | exact List.mem_cons_self | refine List.mem_cons_of_mem _ ?_)) (by first | omega | (simp only [List.length_cons, List.length_nil, List.length_append, List.length_map]; omega)) | exact Rd.idxA rfl S43 rfl rfl rfl (by repeat (first | assumption | exact List.mem_cons_self | refine List.mem_cons_of_mem _ ?_)) (by first | omega | (simp only [List.length_cons, List.length_nil, List.length_append, List.length_map]; omega)) | exact Rd.idxR rfl S43 rfl rfl rfl (by omega))) ?_
    refine WS.rd rfl rfl rfl ((by first | exact Rd.field rfl F57_0 rfl rfl | exact Rd.fieldE rfl F57_0 rfl (by repeat (first | assumption | exact List.mem_cons_self | refine List.mem_cons_of_mem _ ?_)) (by omega) | exact Rd.fieldA rfl F57_0 rfl (by repeat (first | assumption | exact List.mem_cons_self | refine List.mem_cons_of_mem _ ?_)) (by omega))) ?_
    refine WS.rd rfl rfl rfl (Rd.getF (k := j) (f := 0) (a := c) (enc := encC) (xs := x) rfl C3 rfl (by repeat (first | assumption | exact List.mem_cons_self | refine List.mem_cons_of_mem _ ?_)) (fun _ => rfl) rfl (by rw [hcc]; exact get!_of_lt (by omega)) rfl) ?_
    refine WS.rd rfl rfl rfl (Rd.move rfl rfl) ?_
    refine WS.rd rfl rfl rfl (Rd.move rfl rfl) ?_
    refine WS.rd rfl rfl rfl ((by first | exact Rd.idx rfl S43 rfl rfl rfl (by repeat (first | assumption | exact List.mem_cons_self | refine List.mem_cons_of_mem _ ?_)) (by first | omega | (simp only [List.length_cons, List.length_nil, List.length_append, List.length_map]; omega)) | exact Rd.idxA rfl S43 rfl rfl rfl (by repeat (first | assumption | exact List.mem_cons_self | refine List.mem_cons_of_mem _ ?_)) (by first | omega | (simp only [List.length_cons, List.length_nil, List.length_append, List.length_map]; omega)) | exact Rd.idxR rfl S43 rfl rfl rfl (by omega))) ?_
    refine WS.rd rfl rfl rfl ((by first | exact Rd.field rfl F57_1 rfl rfl | exact Rd.fieldE rfl F57_1 rfl (by repeat (first | assumption | exact List.mem_cons_self | refine List.mem_cons_of_mem _ ?_)) (by omega) | exact Rd.fieldA rfl F57_1 rfl (by repeat (first | assumption | exact List.mem_cons_self | refine List.mem_cons_of_mem _ ?_)) (by omega))) ?_
    refine WS.rd rfl rfl rfl (Rd.getF (k := j) (f := 1) (a := c) (enc := encC) (xs := x) rfl C9 rfl (by repeat (first | assumption | exact List.mem_cons_self | refine List.mem_cons_of_mem _ ?_)) (fun _ => rfl) rfl (by rw [hcc]; exact get!_of_lt (by omega)) rfl) ?_
    refine WS.switch ?_
    refine WL.op rfl ?_
    refine OpW.call rfl rfl (by repeat (first | exact Evs.nil | apply Evs.cons rfl)) (by kernel_rfl) rfl rfl rfl ?_
    refine refPut_spec dkt.ok (by omega) hu (by rw [hkv, hkp]; exact hkeep) ?_; intro U1 hu1 hku1
    refine WL.rd rfl rfl rfl (Rd.assign rfl rfl) ?_
    refine WL.nil ?_
    refine thenQ.normal ?_
    refine WC.seq ?_
    refine WC.region ?_
    refine WL.rd rfl rfl rfl (Rd.move rfl rfl) ?_
    refine WL.rd rfl rfl rfl (Rd.neq rfl rfl rfl) ?_
    refine WL.nil ?_
    refine thenQ.normal ?_
    first | refine WC.ite rfl (fun hc2 => ?_) (fun hc2 => ?_) | refine WC.cond rfl (fun hc2 => ?_) (fun hc2 => ?_)
    · skip
      rw [if_pos (by omega)] at hat
      have hfin : makeS s x = (putS t c.1 c.2, dputE t c.1 c.2) := by unfold makeS thenE; rw [hat, if_pos (by show dputE t c.1 c.2 ≠ 0; omega)]
      rw [hfin] at hk
      refine WC.seq ?_
      refine WC.region ?_
      refine WL.rd rfl rfl rfl (Rd.move rfl rfl) ?_
      refine WL.rd rfl rfl rfl (Rd.assign rfl rfl) ?_
      refine WL.nil ?_
      refine thenQ.normal ?_
      -- ret_1
      refine WC.ret (Ret.one Tryd.results36 rfl ?_)
      exact hk U1 hu1 (hku1.trans hkv)
    · skip
      rw [if_neg (by omega)] at hat
      refine WC.skip ?_
      refine blockQ.normal ?_
      refine thenQ.normal ?_
      refine WC.region ?_
      refine WL.rd rfl rfl rfl (Rd.move rfl rfl) ?_
      refine WL.rd rfl rfl rfl (Rd.add rfl rfl rfl (by omega)) ?_
      refine WL.rd rfl rfl rfl (Rd.assign rfl rfl) ?_
      refine WL.nil ?_
      -- next1_1
      exact loopQ3.mk (j + 1) (putS t c.1 c.2) U1 ⟨by omega, (dkt.put _ _).mono (by omega), hu1, hku1.trans hkv, (put_keepW _ _ _).trans hkp, hat⟩ (by omega) (by repeat (first | exact Sub.nil | refine Sub.cons rfl (by first | rfl | (congr 1; omega) | assumption) ?_)) (fun w h => OwnL.sat (by repeat (first | exact OwnL.refl | apply OwnL.take (by repeat (first | exact Take.head _ | apply Take.tail)) | apply OwnL.drop)) w (h.thin (SubL.mem (by repeat (first | exact SubL.refl | refine SubL.cons (by repeat (first | assumption | exact List.mem_cons_self | refine List.mem_cons_of_mem _ ?_)) ?_ | refine SubL.skip ?_)))))
  · skip
    obtain rfl : j = x.length := by omega
    have hr0 : runP s x = (t, 0) := by rw [hrun, List.drop_length]; rfl
    have hfin : makeS s x = (syncS t, stepE t) := by unfold makeS thenE; rw [hr0, if_neg (fun h => h rfl)]
    rw [hfin] at hk
    refine WC.exit ?_
    refine thenQ.exit ?_
    refine loopQ3.exit ?_
    refine blockQ.exit ?_
    refine thenQ.normal ?_
    refine WC.seq ?_
    refine WC.region ?_
    refine WL.rd rfl rfl rfl (Rd.move rfl rfl) ?_
    refine WL.op rfl ?_
    refine OpW.call rfl rfl (by repeat (first | exact Evs.nil | apply Evs.cons rfl)) (by kernel_rfl) rfl rfl rfl ?_
    refine refSync_spec dkt.ok (by omega) hu (by rw [hkv, hkp]; exact hkeep) ?_; intro U1 hu1 hku1
    refine WL.rd rfl rfl rfl (Rd.assign rfl rfl) ?_
    refine WL.nil ?_
    refine thenQ.normal ?_
    -- ret_2
    refine WC.ret (Ret.one Tryd.results36 rfl ?_)
    exact hk U1 hu1 (hku1.trans hkv)
set_option maxRecDepth 20000 in
theorem refSay_spec {h : List UInt8} (dk : Dk s m) (hm : m ≤ 4294967280) (hv : ROk V) (hkeep : SlE (one vi) V.kv s.keep ∈ R)
    (hk : ∀ V', ROk V' → V'.kv = V.kv → POST (.int .i64 ((sayS s f h).2 : Nat)) R (rO d V' (sayS s f h).1 O)) : Fun Tryd.prog 37 #[dp d, rlog f z, vs h] R (rO d V s O) POST := by
  refine Fun.enter (l := [_, _, _]) Tryd.func37 rfl Tryd.ntmps37 rfl (L0 := [(0, _), (1, _), (2, _)]) rfl ?_
  refine WC.seq ?_
  refine WC.region ?_
  refine WL.op rfl ?_
  refine OpW.box rfl rfl (by repeat (first | exact NF.nil | apply NF.cons)) rfl rfl ?_; intro b4
  refine WL.rd rfl rfl rfl (Rd.assign rfl rfl) ?_
  refine WL.nil ?_
  refine thenQ.normal ?_
  refine WC.seq ?_
  refine WC.region ?_
  refine WL.rd rfl rfl rfl (Rd.move rfl rfl) ?_
  refine WL.rd rfl rfl rfl ((by first | exact Rd.field rfl F32_0 rfl rfl | exact Rd.fieldE rfl F32_0 rfl (by repeat (first | assumption | exact List.mem_cons_self | refine List.mem_cons_of_mem _ ?_)) (by omega) | exact Rd.fieldA rfl F32_0 rfl (by repeat (first | assumption | exact List.mem_cons_self | refine List.mem_cons_of_mem _ ?_)) (by omega))) ?_
  refine WL.rd rfl rfl rfl (Rd.row1 (off := 0) (u := .int .i64 f) rfl C3 rfl (by repeat (first | assumption | exact List.mem_cons_self | refine List.mem_cons_of_mem _ ?_)) rfl) ?_
  refine WL.rd rfl rfl rfl (Rd.move rfl rfl) ?_
  refine WL.op rfl ?_
  refine OpW.call rfl rfl (by repeat (first | exact Evs.nil | apply Evs.cons rfl)) (by kernel_rfl) rfl rfl rfl ?_
  refine Fun.heap (R' := R) (O' := rO d V s O) (fun w h => OwnL.sat (by repeat (first | exact OwnL.refl | apply OwnL.take (by repeat (first | exact Take.head _ | apply Take.tail)) | apply OwnL.drop)) w (h.thin (SubL.mem (by repeat (first | exact SubL.refl | refine SubL.cons (by repeat (first | assumption | exact List.mem_cons_self | refine List.mem_cons_of_mem _ ?_)) ?_ | refine SubL.skip ?_))))) ?_
  refine refPut_spec dk.ok (by omega) hv hkeep ?_; intro U1 hu1 hku1
  refine WL.rd rfl rfl rfl (Rd.assign rfl rfl) ?_
  refine WL.nil ?_
  refine thenQ.normal ?_
  refine WC.seq ?_
  refine WC.seq ?_
  refine WC.region ?_
  refine WL.rd rfl rfl rfl (Rd.move rfl rfl) ?_
  refine WL.rd rfl rfl rfl (Rd.eql rfl rfl rfl) ?_
  refine WL.nil ?_
  refine thenQ.normal ?_
  first | refine WC.ite rfl (fun hc1 => ?_) (fun hc1 => ?_) | refine WC.cond rfl (fun hc1 => ?_) (fun hc1 => ?_)
  · skip
    have hfin : sayS s f h = (syncS (putS s f h), stepE (putS s f h)) := by rw [say_is, if_neg (by omega)]
    rw [hfin] at hk
    refine WC.region ?_
    refine WL.rd rfl rfl rfl (Rd.move rfl rfl) ?_
    refine WL.op rfl ?_
    refine OpW.call rfl rfl (by repeat (first | exact Evs.nil | apply Evs.cons rfl)) (by kernel_rfl) rfl rfl rfl ?_
    refine refSync_spec (dk.put _ _).ok (by omega) hu1 (by rw [hku1, put_keepW]; exact hkeep) ?_; intro U2 hu2 hku2
    refine WL.rd rfl rfl rfl (Rd.assign rfl rfl) ?_
    refine WL.nil ?_
    refine thenQ.normal ?_
    refine WC.seq ?_
    refine WC.region ?_
    refine WL.rd rfl rfl rfl (Rd.move rfl rfl) ?_
    refine WL.rd rfl rfl rfl (Rd.assign rfl rfl) ?_
    refine WL.nil ?_
    refine thenQ.normal ?_
    -- ret_1
    refine WC.ret (Ret.one Tryd.results37 rfl ?_)
    exact hk U2 hu2 (hku2.trans hku1)
  · skip
    have hfin : sayS s f h = (putS s f h, dputE s f h) := by rw [say_is, if_pos (by omega)]
    rw [hfin] at hk
    refine WC.skip ?_
    refine thenQ.normal ?_
    refine WC.seq ?_
    refine WC.region ?_
    refine WL.rd rfl rfl rfl (Rd.move rfl rfl) ?_
    refine WL.rd rfl rfl rfl (Rd.assign rfl rfl) ?_
    refine WL.nil ?_
    refine thenQ.normal ?_
    -- ret_2
    refine WC.ret (Ret.one Tryd.results37 rfl ?_)
    exact hk U1 hu1 hku1
end
end Go.Proofs.YtaalegffcjbglaaDoor
