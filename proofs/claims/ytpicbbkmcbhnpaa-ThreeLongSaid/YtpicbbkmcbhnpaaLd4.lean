/-
  Walks of layer 19: walk, which tells each step to a function that it is given.
-/
import Derived.Test.YtpicbbkmcbhnpaaLd3
namespace Go.Proofs.Ytpicbbkmcbhnpaa
open Go Go.SL Go.Lcs

/-- What a function that is told the steps must do: 'St' says of the heap what it has been told. -/
def Tell (f : FuncId) (caps : List Value) (R0 : List RO) (n m : Nat) (St : List (Nat × Nat × Nat) → List Own → Prop) : Prop :=
  ∀ R, (∀ p ∈ R0, p ∈ R) → ∀ (es : List (Nat × Nat × Nat)) (O : List Own) (op i j : Nat), St es O → es.length ≤ 8192 → ((op = 0 ∧ i < n ∧ j < m) ∨ (op = 1 ∧ i < n ∧ j ≤ m) ∨ (op = 2 ∧ i ≤ n ∧ j < m)) → ∀ POST : Value → List RO → List Own → Prop,
    (∀ O', St (es ++ [(op, i, j)]) O' → POST (.tuple #[]) R O') → Fun Try.prog f (.int .i64 op :: .int .i64 i :: .int .i64 j :: caps).toArray R O POST

theorem trace_same {xs ys : List (List UInt8)} {i j : Nat} (hi : i < xs.length) (hj : j < ys.length) (he : xs[i]! = ys[j]!) : trace i j (xs.drop i) (ys.drop j) = (0, i, j) :: trace (i + 1) (j + 1) (xs.drop (i + 1)) (ys.drop (j + 1)) := by
  rw [drop_get hi, drop_get hj, trace, if_pos he]
theorem trace_drop {xs ys : List (List UInt8)} {i j : Nat} (hi : i < xs.length) (hne : j < ys.length → xs[i]! ≠ ys[j]!) (h : j = ys.length ∨ lcs (xs.drop i) (ys.drop (j + 1)) ≤ lcs (xs.drop (i + 1)) (ys.drop j)) (hjl : j ≤ ys.length) :
    trace i j (xs.drop i) (ys.drop j) = (1, i, j) :: trace (i + 1) j (xs.drop (i + 1)) (ys.drop j) := by
  rcases Nat.lt_or_ge j ys.length with hj | hj
  · rw [drop_get hi, drop_get hj, trace, if_neg (hne hj), if_pos]
    rw [drop_get hi, drop_get hj] at h
    exact h.resolve_left (by omega)
  · rw [drop_get hi, List.drop_of_length_le hj, trace]
theorem trace_add {xs ys : List (List UInt8)} {i j : Nat} (hj : j < ys.length) (hil : i ≤ xs.length) (hne : i < xs.length → xs[i]! ≠ ys[j]!) (h : i < xs.length → ¬ lcs (xs.drop i) (ys.drop (j + 1)) ≤ lcs (xs.drop (i + 1)) (ys.drop j)) :
    trace i j (xs.drop i) (ys.drop j) = (2, i, j) :: trace i (j + 1) (xs.drop i) (ys.drop (j + 1)) := by
  rcases Nat.lt_or_ge i xs.length with hi | hi
  · rw [drop_get hi, drop_get hj, trace, if_neg (hne hi), if_neg]
    have := h hi
    rw [drop_get hi, drop_get hj] at this
    exact this
  · rw [drop_get hj, List.drop_of_length_le hi, trace]
theorem trace_end {xs ys : List (List UInt8)} {i j : Nat} (hi : xs.length ≤ i) (hj : ys.length ≤ j) : trace i j (xs.drop i) (ys.drop j) = [] := by
  rw [List.drop_of_length_le hi, List.drop_of_length_le hj, trace]
theorem tlen {es : List (Nat × Nat × Nat)} {a b : List (Nat × Nat × Nat)} {n : Nat} (h : es ++ a = b) (hb : b.length ≤ n) : es.length ≤ n := by
  have := congrArg List.length h
  rw [List.length_append] at this
  omega

set_option maxHeartbeats 2000000 in
theorem walk_spec {R : List RO} {O : List Own} {POST : Value → List RO → List Own → Prop} {xs ys : List (List UInt8)} {av bv : Value} {f : FuncId} {caps : List Value} {St : List (Nat × Nat × Nat) → List Own → Prop} (ha : Strs av xs ∈ R) (hb : Strs bv ys ∈ R) (hla : xs.length ≤ 4096) (hlb : ys.length ≤ 4096)
    (hf : hasBody Try.prog f = true) (hT : Tell f caps R xs.length ys.length St) (h0 : St [] O) (hk : ∀ O', St (trace 0 0 xs ys) O' → POST (.int .i64 0) R O') :
    Fun Try.prog 35 #[av, bv, .func (.func f) #[] caps.toArray] R O POST := by
  have htl : (trace 0 0 xs ys).length ≤ 8192 := Nat.le_trans (trace_length_le 0 0 xs ys) (by omega)
  refine Fun.enter (l := [_, _, _]) Try.func35 rfl Try.ntmps35 rfl (L0 := [(0, _), (1, _), (2, _)]) rfl ?_
  refine WC.seq ?_
  refine WC.region ?_
  refine WL.rd rfl rfl rfl (Rd.assign rfl rfl) ?_
  refine WL.nil ?_
  refine thenQ.normal ?_
  refine WC.seq ?_
  refine WC.pick [0, 1, 2] (by repeat (first | exact Pick.nil | apply Pick.cons rfl)) ?_
  refine WC.val 19 (.bool (decide (4096 < xs.length ∨ 4096 < ys.length))) ?_ ?_
  · skip
    refine WC.region ?_
    refine WL.rd rfl rfl rfl (Rd.move rfl rfl) ?_
    refine WL.rd rfl rfl rfl ((by first | exact Rd.lenE rfl rfl Try.underlying22 (by repeat (first | assumption | exact List.mem_cons_self | refine List.mem_cons_of_mem _ ?_)) | exact Rd.lenA rfl rfl Try.underlying22 (by repeat (first | assumption | exact List.mem_cons_self | refine List.mem_cons_of_mem _ ?_)) | exact Rd.len rfl rfl Try.underlying22)) ?_
    refine WL.rd rfl rfl rfl (Rd.gtr rfl rfl rfl) ?_
    refine WL.rd rfl rfl rfl (Rd.move rfl rfl) ?_
    refine WL.case 15 rfl (fun hg15 => ?_) (fun hg15 => ?_)
    · skip
      refine WL.no rfl rfl rfl rfl rfl rfl ?_
      refine WL.no rfl rfl rfl rfl rfl rfl ?_
      refine WL.no rfl rfl rfl rfl rfl rfl ?_
      refine WL.rd rfl rfl rfl (Rd.pick_t rfl rfl rfl) ?_
      refine WL.nil ?_
      exact ⟨by repeat (first | exact Sub.nil | refine Sub.cons rfl (by first | rfl | (first | rfl | exact vb (by omega) | exact vb_t (by omega) | exact vb_f (by omega) | (simp [*]; done) | (simp_all; done))) ?_), by first | exact (fun _ h => h.thin (SubL.mem (by repeat (first | exact SubL.refl | refine SubL.cons (by repeat (first | assumption | exact List.mem_cons_self | refine List.mem_cons_of_mem _ ?_)) ?_ | refine SubL.skip ?_)))) | exact (fun w h => OwnL.sat (by repeat (first | exact OwnL.refl | apply OwnL.take (by repeat (first | exact Take.head _ | apply Take.tail)) | apply OwnL.drop)) w (h.thin (SubL.mem (by repeat (first | exact SubL.refl | refine SubL.cons (by repeat (first | assumption | exact List.mem_cons_self | refine List.mem_cons_of_mem _ ?_)) ?_ | refine SubL.skip ?_)))))⟩
    · skip
      refine WL.rd_yes rfl rfl rfl rfl rfl rfl (Rd.move rfl rfl) ?_
      refine WL.rd_yes rfl rfl rfl rfl rfl rfl ((by first | exact Rd.lenE rfl rfl Try.underlying22 (by repeat (first | assumption | exact List.mem_cons_self | refine List.mem_cons_of_mem _ ?_)) | exact Rd.lenA rfl rfl Try.underlying22 (by repeat (first | assumption | exact List.mem_cons_self | refine List.mem_cons_of_mem _ ?_)) | exact Rd.len rfl rfl Try.underlying22)) ?_
      refine WL.rd_yes rfl rfl rfl rfl rfl rfl (Rd.gtr rfl rfl rfl) ?_
      refine WL.rd rfl rfl rfl (Rd.pick_f rfl rfl rfl) ?_
      refine WL.nil ?_
      exact ⟨by repeat (first | exact Sub.nil | refine Sub.cons rfl (by first | rfl | (first | rfl | exact vb (by omega) | exact vb_t (by omega) | exact vb_f (by omega) | (simp [*]; done) | (simp_all; done))) ?_), by first | exact (fun _ h => h.thin (SubL.mem (by repeat (first | exact SubL.refl | refine SubL.cons (by repeat (first | assumption | exact List.mem_cons_self | refine List.mem_cons_of_mem _ ?_)) ?_ | refine SubL.skip ?_)))) | exact (fun w h => OwnL.sat (by repeat (first | exact OwnL.refl | apply OwnL.take (by repeat (first | exact Take.head _ | apply Take.tail)) | apply OwnL.drop)) w (h.thin (SubL.mem (by repeat (first | exact SubL.refl | refine SubL.cons (by repeat (first | assumption | exact List.mem_cons_self | refine List.mem_cons_of_mem _ ?_)) ?_ | refine SubL.skip ?_)))))⟩
  · skip
    first | refine WC.ite rfl (fun hc1 => ?_) (fun hc1 => ?_) | refine WC.cond rfl (fun hc1 => ?_) (fun hc1 => ?_)
    · skip
      exfalso; omega
    · skip
      refine WC.skip ?_
      refine thenQ.normal ?_
      refine WC.seq ?_
      refine WC.region ?_
      refine WL.rd rfl rfl rfl (Rd.assign rfl rfl) ?_
      refine WL.rd rfl rfl rfl (Rd.assign rfl rfl) ?_
      refine WL.nil ?_
      refine thenQ.normal ?_
      refine WC.seq ?_
      refine WC.block ?_
      refine WC.pick [7, 8, 0, 1, 2] (by repeat (first | exact Pick.nil | apply Pick.cons rfl)) ?_
      refine WC.loop3 2 (fun (k : Nat) (es : List (Nat × Nat × Nat)) (O1 : List Own) => [(7, .int .i64 k), (8, .int .i64 k)]) (fun (k : Nat) (es : List (Nat × Nat × Nat)) (O1 : List Own) => O1) (fun (k : Nat) (es : List (Nat × Nat × Nat)) (O1 : List Own) => k ≤ xs.length ∧ k ≤ ys.length ∧ St es O1 ∧ es ++ trace k k (xs.drop k) (ys.drop k) = trace 0 0 xs ys) (fun (k : Nat) (es : List (Nat × Nat × Nat)) (O1 : List Own) => xs.length - k) (0) ([]) (O) (by repeat (first | exact Split.zero | apply Split.succ)) ?hinv1 (by repeat (first | exact Sub.nil | refine Sub.cons rfl (by first | rfl | (congr 1; omega) | assumption) ?_)) (fun _ h => h) ?_
      case hinv1 =>
        exact ⟨Nat.zero_le _, Nat.zero_le _, h0, rfl⟩
      intro k es O1
      rintro ⟨h1, h2, hS, hE⟩
      refine WC.seq ?_
      refine WC.pick [0, 1, 2, 7, 8] (by repeat (first | exact Pick.nil | apply Pick.cons rfl)) ?_
      refine WC.val 40 (.bool (decide ((k < xs.length ∧ k < ys.length) ∧ xs[k]! = ys[k]!))) ?_ ?_
      · skip
        refine WC.still mixed (by kernel_rfl) ?_
        refine WA.rd rfl rfl rfl (Rd.move rfl rfl) ?_
        refine WA.rd rfl rfl rfl (Rd.move rfl rfl) ?_
        refine WA.rd rfl rfl rfl ((by first | exact Rd.lenE rfl rfl Try.underlying22 (by repeat (first | assumption | exact List.mem_cons_self | refine List.mem_cons_of_mem _ ?_)) | exact Rd.lenA rfl rfl Try.underlying22 (by repeat (first | assumption | exact List.mem_cons_self | refine List.mem_cons_of_mem _ ?_)) | exact Rd.len rfl rfl Try.underlying22)) ?_
        refine WA.rd rfl rfl rfl (Rd.lss rfl rfl rfl) ?_
        refine WA.rd rfl rfl rfl (Rd.move rfl rfl) ?_
        refine WA.case 24 rfl (fun hg24 => ?_) (fun hg24 => ?_)
        · skip
          refine WA.rd_yes rfl rfl rfl rfl rfl rfl (Rd.move rfl rfl) ?_
          refine WA.rd_yes rfl rfl rfl rfl rfl rfl (Rd.move rfl rfl) ?_
          refine WA.rd_yes rfl rfl rfl rfl rfl rfl ((by first | exact Rd.lenE rfl rfl Try.underlying22 (by repeat (first | assumption | exact List.mem_cons_self | refine List.mem_cons_of_mem _ ?_)) | exact Rd.lenA rfl rfl Try.underlying22 (by repeat (first | assumption | exact List.mem_cons_self | refine List.mem_cons_of_mem _ ?_)) | exact Rd.len rfl rfl Try.underlying22)) ?_
          refine WA.rd_yes rfl rfl rfl rfl rfl rfl (Rd.lss rfl rfl rfl) ?_
          refine WA.rd rfl rfl rfl (Rd.pick_t rfl rfl rfl) ?_
          refine WA.rd rfl rfl rfl (Rd.move rfl rfl) ?_
          refine WA.case 30 rfl (fun hg30 => ?_) (fun hg30 => ?_)
          · skip
            refine WA.rd_yes rfl rfl rfl rfl rfl rfl (Rd.move rfl rfl) ?_
            refine WA.rd_yes rfl rfl rfl rfl rfl rfl (Rd.move rfl rfl) ?_
            refine WA.rd_yes rfl rfl rfl rfl rfl rfl ((by first | exact Rd.idx1 rfl S22 rfl rfl rfl (by repeat (first | assumption | exact List.mem_cons_self | refine List.mem_cons_of_mem _ ?_)) (by first | omega | (simp only [List.length_cons, List.length_nil, List.length_append, List.length_map]; omega)) | exact Rd.idxA1 rfl S22 rfl rfl rfl (by repeat (first | assumption | exact List.mem_cons_self | refine List.mem_cons_of_mem _ ?_)) (by first | omega | (simp only [List.length_cons, List.length_nil, List.length_append, List.length_map]; omega)) | exact Rd.idxR1 rfl S22 rfl rfl rfl (by omega))) ?_
            refine WA.rd_yes rfl rfl rfl rfl rfl rfl ((by first | exact Rd.get rfl C9 rfl (by repeat (first | assumption | exact List.mem_cons_self | refine List.mem_cons_of_mem _ ?_)) (by first | assumption | rfl | exact get!_of_lt (by omega)) | exact Rd.getA rfl C9 rfl (by repeat (first | assumption | exact List.mem_cons_self | refine List.mem_cons_of_mem _ ?_)) (by first | assumption | rfl | exact get!_of_lt (by omega)) | exact Rd.row1 rfl C9 rfl (by repeat (first | assumption | exact List.mem_cons_self | refine List.mem_cons_of_mem _ ?_)) (by rfl) | exact Rd.getF rfl C9 rfl (by repeat (first | assumption | exact List.mem_cons_self | refine List.mem_cons_of_mem _ ?_)) (by intro x; first | rfl | (cases x; rfl) | (rcases x with ⟨_, _, _⟩; rfl) | (rcases x with ⟨_, _, _, _⟩; rfl)) rfl (by first | assumption | rfl | exact get!_of_lt (by omega)) (by rfl) | exact Rd.getFA rfl C9 rfl (by repeat (first | assumption | exact List.mem_cons_self | refine List.mem_cons_of_mem _ ?_)) (by intro x; first | rfl | (cases x; rfl) | (rcases x with ⟨_, _, _⟩; rfl) | (rcases x with ⟨_, _, _, _⟩; rfl)) rfl (by first | assumption | rfl | exact get!_of_lt (by omega)) (by rfl))) ?_
            refine WA.rd_yes rfl rfl rfl rfl rfl rfl (Rd.move rfl rfl) ?_
            refine WA.rd_yes rfl rfl rfl rfl rfl rfl (Rd.move rfl rfl) ?_
            refine WA.rd_yes rfl rfl rfl rfl rfl rfl ((by first | exact Rd.idx1 rfl S22 rfl rfl rfl (by repeat (first | assumption | exact List.mem_cons_self | refine List.mem_cons_of_mem _ ?_)) (by first | omega | (simp only [List.length_cons, List.length_nil, List.length_append, List.length_map]; omega)) | exact Rd.idxA1 rfl S22 rfl rfl rfl (by repeat (first | assumption | exact List.mem_cons_self | refine List.mem_cons_of_mem _ ?_)) (by first | omega | (simp only [List.length_cons, List.length_nil, List.length_append, List.length_map]; omega)) | exact Rd.idxR1 rfl S22 rfl rfl rfl (by omega))) ?_
            refine WA.rd_yes rfl rfl rfl rfl rfl rfl ((by first | exact Rd.get rfl C9 rfl (by repeat (first | assumption | exact List.mem_cons_self | refine List.mem_cons_of_mem _ ?_)) (by first | assumption | rfl | exact get!_of_lt (by omega)) | exact Rd.getA rfl C9 rfl (by repeat (first | assumption | exact List.mem_cons_self | refine List.mem_cons_of_mem _ ?_)) (by first | assumption | rfl | exact get!_of_lt (by omega)) | exact Rd.row1 rfl C9 rfl (by repeat (first | assumption | exact List.mem_cons_self | refine List.mem_cons_of_mem _ ?_)) (by rfl) | exact Rd.getF rfl C9 rfl (by repeat (first | assumption | exact List.mem_cons_self | refine List.mem_cons_of_mem _ ?_)) (by intro x; first | rfl | (cases x; rfl) | (rcases x with ⟨_, _, _⟩; rfl) | (rcases x with ⟨_, _, _, _⟩; rfl)) rfl (by first | assumption | rfl | exact get!_of_lt (by omega)) (by rfl) | exact Rd.getFA rfl C9 rfl (by repeat (first | assumption | exact List.mem_cons_self | refine List.mem_cons_of_mem _ ?_)) (by intro x; first | rfl | (cases x; rfl) | (rcases x with ⟨_, _, _⟩; rfl) | (rcases x with ⟨_, _, _, _⟩; rfl)) rfl (by first | assumption | rfl | exact get!_of_lt (by omega)) (by rfl))) ?_
            refine WA.rd_yes rfl rfl rfl rfl rfl rfl (Rd.seql rfl rfl rfl) ?_
            refine WA.rd rfl rfl rfl (Rd.pick_t rfl rfl rfl) ?_
            refine WA.nil ?_
            exact ⟨by repeat (first | exact Sub.nil | refine Sub.cons rfl (by first | rfl | (first | exact vb_f (by omega) | exact vb ⟨fun h => ⟨by omega, h⟩, fun h => h.2⟩)) ?_), by first | exact (fun _ h => h.thin (SubL.mem (by repeat (first | exact SubL.refl | refine SubL.cons (by repeat (first | assumption | exact List.mem_cons_self | refine List.mem_cons_of_mem _ ?_)) ?_ | refine SubL.skip ?_)))) | exact (fun w h => OwnL.sat (by repeat (first | exact OwnL.refl | apply OwnL.take (by repeat (first | exact Take.head _ | apply Take.tail)) | apply OwnL.drop)) w (h.thin (SubL.mem (by repeat (first | exact SubL.refl | refine SubL.cons (by repeat (first | assumption | exact List.mem_cons_self | refine List.mem_cons_of_mem _ ?_)) ?_ | refine SubL.skip ?_)))))⟩
          · skip
            refine WA.no rfl rfl rfl rfl rfl rfl ?_
            refine WA.no rfl rfl rfl rfl rfl rfl ?_
            refine WA.no rfl rfl rfl rfl rfl rfl ?_
            refine WA.no rfl rfl rfl rfl rfl rfl ?_
            refine WA.no rfl rfl rfl rfl rfl rfl ?_
            refine WA.no rfl rfl rfl rfl rfl rfl ?_
            refine WA.no rfl rfl rfl rfl rfl rfl ?_
            refine WA.no rfl rfl rfl rfl rfl rfl ?_
            refine WA.no rfl rfl rfl rfl rfl rfl ?_
            refine WA.rd rfl rfl rfl (Rd.pick_f rfl rfl rfl) ?_
            refine WA.nil ?_
            exact ⟨by repeat (first | exact Sub.nil | refine Sub.cons rfl (by first | rfl | (first | exact vb_f (by omega) | exact vb ⟨fun h => ⟨by omega, h⟩, fun h => h.2⟩)) ?_), by first | exact (fun _ h => h.thin (SubL.mem (by repeat (first | exact SubL.refl | refine SubL.cons (by repeat (first | assumption | exact List.mem_cons_self | refine List.mem_cons_of_mem _ ?_)) ?_ | refine SubL.skip ?_)))) | exact (fun w h => OwnL.sat (by repeat (first | exact OwnL.refl | apply OwnL.take (by repeat (first | exact Take.head _ | apply Take.tail)) | apply OwnL.drop)) w (h.thin (SubL.mem (by repeat (first | exact SubL.refl | refine SubL.cons (by repeat (first | assumption | exact List.mem_cons_self | refine List.mem_cons_of_mem _ ?_)) ?_ | refine SubL.skip ?_)))))⟩
        · skip
          refine WA.no rfl rfl rfl rfl rfl rfl ?_
          refine WA.no rfl rfl rfl rfl rfl rfl ?_
          refine WA.no rfl rfl rfl rfl rfl rfl ?_
          refine WA.no rfl rfl rfl rfl rfl rfl ?_
          refine WA.rd rfl rfl rfl (Rd.pick_f rfl rfl rfl) ?_
          refine WA.rd rfl rfl rfl (Rd.move rfl rfl) ?_
          refine WA.no rfl rfl rfl rfl rfl rfl ?_
          refine WA.no rfl rfl rfl rfl rfl rfl ?_
          refine WA.no rfl rfl rfl rfl rfl rfl ?_
          refine WA.no rfl rfl rfl rfl rfl rfl ?_
          refine WA.no rfl rfl rfl rfl rfl rfl ?_
          refine WA.no rfl rfl rfl rfl rfl rfl ?_
          refine WA.no rfl rfl rfl rfl rfl rfl ?_
          refine WA.no rfl rfl rfl rfl rfl rfl ?_
          refine WA.no rfl rfl rfl rfl rfl rfl ?_
          refine WA.rd rfl rfl rfl (Rd.pick_f rfl rfl rfl) ?_
          refine WA.nil ?_
          exact ⟨by repeat (first | exact Sub.nil | refine Sub.cons rfl (by first | rfl | (first | exact vb_f (by omega) | exact vb ⟨fun h => ⟨by omega, h⟩, fun h => h.2⟩)) ?_), by first | exact (fun _ h => h.thin (SubL.mem (by repeat (first | exact SubL.refl | refine SubL.cons (by repeat (first | assumption | exact List.mem_cons_self | refine List.mem_cons_of_mem _ ?_)) ?_ | refine SubL.skip ?_)))) | exact (fun w h => OwnL.sat (by repeat (first | exact OwnL.refl | apply OwnL.take (by repeat (first | exact Take.head _ | apply Take.tail)) | apply OwnL.drop)) w (h.thin (SubL.mem (by repeat (first | exact SubL.refl | refine SubL.cons (by repeat (first | assumption | exact List.mem_cons_self | refine List.mem_cons_of_mem _ ?_)) ?_ | refine SubL.skip ?_)))))⟩
      · skip
        first | refine WC.ite rfl (fun hc2 => ?_) (fun hc2 => ?_) | refine WC.cond rfl (fun hc2 => ?_) (fun hc2 => ?_)
        · skip
          refine WC.skip ?_
          refine thenQ.normal ?_
          refine WC.block ?_
          refine WC.seq ?_
          refine WC.region ?_
          refine WL.rd rfl rfl rfl (Rd.move rfl rfl) ?_
          refine WL.rd rfl rfl rfl (Rd.move rfl rfl) ?_
          refine WL.rd rfl rfl rfl (Rd.move rfl rfl) ?_
          refine WL.op rfl ?_
          refine OpW.call rfl rfl (by repeat (first | exact Evs.nil | apply Evs.cons rfl)) hf rfl rfl rfl ?_
          refine hT R (fun _ h => h) es O1 0 k k hS (tlen hE htl) (by omega) _ ?_
          intro O2 hS2
          refine WL.nil ?_
          refine thenQ.normal ?_
          refine WC.region ?_
          refine WL.rd rfl rfl rfl (Rd.move rfl rfl) ?_
          refine WL.rd rfl rfl rfl (Rd.add rfl rfl rfl (by omega)) ?_
          refine WL.rd rfl rfl rfl (Rd.move rfl rfl) ?_
          refine WL.rd rfl rfl rfl (Rd.add rfl rfl rfl (by omega)) ?_
          refine WL.rd rfl rfl rfl (Rd.assign rfl rfl) ?_
          refine WL.rd rfl rfl rfl (Rd.assign rfl rfl) ?_
          refine WL.nil ?_
          refine blockQ.normal ?_
          -- next1_1
          exact loopQ3.mk (k + 1) (es ++ [(0, k, k)]) O2 ⟨by omega, by omega, hS2, by rw [List.append_assoc, ← hE, trace_same hc2.1.1 hc2.1.2 hc2.2]; rfl⟩ (by first | omega | (dsimp only; omega)) (by repeat (first | exact Sub.nil | refine Sub.cons rfl (by first | rfl | (congr 1; omega) | assumption) ?_)) (fun w h => OwnL.sat (by repeat (first | exact OwnL.refl | apply OwnL.take (by repeat (first | exact Take.head _ | apply Take.tail)) | apply OwnL.drop)) w (h.thin (SubL.mem (by repeat (first | exact SubL.refl | refine SubL.cons (by repeat (first | assumption | exact List.mem_cons_self | refine List.mem_cons_of_mem _ ?_)) ?_ | refine SubL.skip ?_)))))
        · skip
          refine WC.exit ?_
          refine thenQ.exit ?_
          refine loopQ3.exit ?_
          refine blockQ.exit ?_
          refine thenQ.normal ?_
          refine WC.seq ?_
          refine WC.tail 6 mixed (by kernel_rfl) ?_
          refine WS.rd rfl rfl rfl (Rd.move rfl rfl) ?_
          refine WS.rd rfl rfl rfl (Rd.move rfl rfl) ?_
          refine WS.rd rfl rfl rfl (Rd.cut_l rfl S22 rfl rfl rfl (by repeat (first | assumption | exact List.mem_cons_self | refine List.mem_cons_of_mem _ ?_)) (by omega)) ?_
          refine WS.rd rfl rfl rfl (Rd.move rfl rfl) ?_
          refine WS.rd rfl rfl rfl (Rd.move rfl rfl) ?_
          refine WS.rd rfl rfl rfl (Rd.cut_l rfl S22 rfl rfl rfl (by repeat (first | assumption | exact List.mem_cons_self | refine List.mem_cons_of_mem _ ?_)) (by omega)) ?_
          refine WS.switch ?_
          refine WL.heap (fun w h => h.weaken ha (fun w hp => SlE.subl (size := 1) (lo := k) (fun _ => rfl) h1 hp)) ?_
          refine WL.heap (fun w h => h.weaken (List.mem_cons_of_mem _ hb) (fun w hp => SlE.subl (size := 1) (lo := k) (fun _ => rfl) h2 hp)) ?_
          refine WL.op rfl ?_
          refine OpW.call rfl rfl (by repeat (first | exact Evs.nil | apply Evs.cons rfl)) (by kernel_rfl) rfl rfl rfl ?_
          refine common_spec (xs := xs.drop k) (ys := ys.drop k) (by repeat (first | assumption | exact List.mem_cons_self | refine List.mem_cons_of_mem _ ?_)) (by repeat (first | assumption | exact List.mem_cons_self | refine List.mem_cons_of_mem _ ?_)) (by rw [List.length_drop]; omega) (by rw [List.length_drop]; omega) ?_
          intro cv vsl hvl
          refine WL.rd rfl rfl rfl (Rd.assign rfl rfl) ?_
          refine WL.nil ?_
          refine thenQ.normal ?_
          refine WC.seq ?_
          refine WC.region ?_
          refine WL.rd rfl rfl rfl (Rd.move rfl rfl) ?_
          refine WL.rd rfl rfl rfl (Rd.move rfl rfl) ?_
          refine WL.rd rfl rfl rfl (Rd.assign rfl rfl) ?_
          refine WL.rd rfl rfl rfl (Rd.assign rfl rfl) ?_
          refine WL.nil ?_
          refine thenQ.normal ?_
          refine WC.seq ?_
          refine WC.block ?_
          refine WC.pick [7, 8, 0, 1, 2, 9, 10, 11] (by repeat (first | exact Pick.nil | apply Pick.cons rfl)) ?_
          refine WC.loop4r 2 (fun (i : Nat) (j : Nat) (fs : List (Nat × Nat × Nat)) (O2 : List Own) => [(7, .int .i64 i), (8, .int .i64 j)]) (fun (i : Nat) (j : Nat) (fs : List (Nat × Nat × Nat)) (O2 : List Own) => SlE (one vid) cv vsl :: Rows vsl (xs.drop k) (ys.drop k) 0 :: R) (fun (i : Nat) (j : Nat) (fs : List (Nat × Nat × Nat)) (O2 : List Own) => O2) (fun (i : Nat) (j : Nat) (fs : List (Nat × Nat × Nat)) (O2 : List Own) => (k ≤ i ∧ i ≤ xs.length) ∧ (k ≤ j ∧ j ≤ ys.length) ∧ St fs O2 ∧ fs ++ trace i j (xs.drop i) (ys.drop j) = trace 0 0 xs ys) (fun (i : Nat) (j : Nat) (fs : List (Nat × Nat × Nat)) (O2 : List Own) => xs.length - i + (ys.length - j)) (k) (k) (es) (O1) (by repeat (first | exact Split.zero | apply Split.succ)) ?hinv2 (by repeat (first | exact Sub.nil | refine Sub.cons rfl (by first | rfl | (congr 1; omega) | assumption) ?_)) (fun _ h => h.thin (SubL.mem (by repeat (first | exact SubL.refl | refine SubL.cons (by repeat (first | assumption | exact List.mem_cons_self | refine List.mem_cons_of_mem _ ?_)) ?_ | refine SubL.skip ?_)))) ?_
          case hinv2 =>
            exact ⟨⟨Nat.le_refl _, h1⟩, ⟨Nat.le_refl _, h2⟩, hS, hE⟩
          intro i j fs O2
          rintro ⟨⟨i1, i2⟩, ⟨j1, j2⟩, hS2, hE2⟩
          have hvl' : vsl.length = xs.length - k + 1 := by rw [hvl, List.length_drop]
          refine WC.seq ?_
          refine WC.pick [0, 1, 2, 7, 8, 9, 10, 11] (by repeat (first | exact Pick.nil | apply Pick.cons rfl)) ?_
          refine WC.val 67 (.bool (decide (i < xs.length ∨ j < ys.length))) ?_ ?_
          · skip
            refine WC.region ?_
            refine WL.rd rfl rfl rfl (Rd.move rfl rfl) ?_
            refine WL.rd rfl rfl rfl (Rd.move rfl rfl) ?_
            refine WL.rd rfl rfl rfl ((by first | exact Rd.lenE rfl rfl Try.underlying22 (by repeat (first | assumption | exact List.mem_cons_self | refine List.mem_cons_of_mem _ ?_)) | exact Rd.lenA rfl rfl Try.underlying22 (by repeat (first | assumption | exact List.mem_cons_self | refine List.mem_cons_of_mem _ ?_)) | exact Rd.len rfl rfl Try.underlying22)) ?_
            refine WL.rd rfl rfl rfl (Rd.lss rfl rfl rfl) ?_
            refine WL.rd rfl rfl rfl (Rd.move rfl rfl) ?_
            refine WL.case 62 rfl (fun hg62 => ?_) (fun hg62 => ?_)
            · skip
              refine WL.no rfl rfl rfl rfl rfl rfl ?_
              refine WL.no rfl rfl rfl rfl rfl rfl ?_
              refine WL.no rfl rfl rfl rfl rfl rfl ?_
              refine WL.no rfl rfl rfl rfl rfl rfl ?_
              refine WL.rd rfl rfl rfl (Rd.pick_t rfl rfl rfl) ?_
              refine WL.nil ?_
              exact ⟨by repeat (first | exact Sub.nil | refine Sub.cons rfl (by first | rfl | (first | rfl | exact vb (by omega) | exact vb_t (by omega) | exact vb_f (by omega) | (simp [*]; done) | (simp_all; done))) ?_), by first | exact (fun _ h => h.thin (SubL.mem (by repeat (first | exact SubL.refl | refine SubL.cons (by repeat (first | assumption | exact List.mem_cons_self | refine List.mem_cons_of_mem _ ?_)) ?_ | refine SubL.skip ?_)))) | exact (fun w h => OwnL.sat (by repeat (first | exact OwnL.refl | apply OwnL.take (by repeat (first | exact Take.head _ | apply Take.tail)) | apply OwnL.drop)) w (h.thin (SubL.mem (by repeat (first | exact SubL.refl | refine SubL.cons (by repeat (first | assumption | exact List.mem_cons_self | refine List.mem_cons_of_mem _ ?_)) ?_ | refine SubL.skip ?_)))))⟩
            · skip
              refine WL.rd_yes rfl rfl rfl rfl rfl rfl (Rd.move rfl rfl) ?_
              refine WL.rd_yes rfl rfl rfl rfl rfl rfl (Rd.move rfl rfl) ?_
              refine WL.rd_yes rfl rfl rfl rfl rfl rfl ((by first | exact Rd.lenE rfl rfl Try.underlying22 (by repeat (first | assumption | exact List.mem_cons_self | refine List.mem_cons_of_mem _ ?_)) | exact Rd.lenA rfl rfl Try.underlying22 (by repeat (first | assumption | exact List.mem_cons_self | refine List.mem_cons_of_mem _ ?_)) | exact Rd.len rfl rfl Try.underlying22)) ?_
              refine WL.rd_yes rfl rfl rfl rfl rfl rfl (Rd.lss rfl rfl rfl) ?_
              refine WL.rd rfl rfl rfl (Rd.pick_f rfl rfl rfl) ?_
              refine WL.nil ?_
              exact ⟨by repeat (first | exact Sub.nil | refine Sub.cons rfl (by first | rfl | (first | rfl | exact vb (by omega) | exact vb_t (by omega) | exact vb_f (by omega) | (simp [*]; done) | (simp_all; done))) ?_), by first | exact (fun _ h => h.thin (SubL.mem (by repeat (first | exact SubL.refl | refine SubL.cons (by repeat (first | assumption | exact List.mem_cons_self | refine List.mem_cons_of_mem _ ?_)) ?_ | refine SubL.skip ?_)))) | exact (fun w h => OwnL.sat (by repeat (first | exact OwnL.refl | apply OwnL.take (by repeat (first | exact Take.head _ | apply Take.tail)) | apply OwnL.drop)) w (h.thin (SubL.mem (by repeat (first | exact SubL.refl | refine SubL.cons (by repeat (first | assumption | exact List.mem_cons_self | refine List.mem_cons_of_mem _ ?_)) ?_ | refine SubL.skip ?_)))))⟩
          · skip
            first | refine WC.ite rfl (fun hc3 => ?_) (fun hc3 => ?_) | refine WC.cond rfl (fun hc3 => ?_) (fun hc3 => ?_)
            · skip
              refine WC.skip ?_
              refine thenQ.normal ?_
              refine WC.block ?_
              refine WC.block ?_
              refine WC.pick [0, 1, 2, 7, 8, 9, 10, 11] (by repeat (first | exact Pick.nil | apply Pick.cons rfl)) ?_
              refine WC.val 74 (.bool (decide ((i < xs.length ∧ j < ys.length) ∧ xs[i]! = ys[j]!))) ?_ ?_
              · skip
                refine WC.still mixed (by kernel_rfl) ?_
                refine WA.rd rfl rfl rfl (Rd.move rfl rfl) ?_
                refine WA.rd rfl rfl rfl (Rd.move rfl rfl) ?_
                refine WA.rd rfl rfl rfl ((by first | exact Rd.lenE rfl rfl Try.underlying22 (by repeat (first | assumption | exact List.mem_cons_self | refine List.mem_cons_of_mem _ ?_)) | exact Rd.lenA rfl rfl Try.underlying22 (by repeat (first | assumption | exact List.mem_cons_self | refine List.mem_cons_of_mem _ ?_)) | exact Rd.len rfl rfl Try.underlying22)) ?_
                refine WA.rd rfl rfl rfl (Rd.lss rfl rfl rfl) ?_
                refine WA.rd rfl rfl rfl (Rd.move rfl rfl) ?_
                refine WA.case 79 rfl (fun hg79 => ?_) (fun hg79 => ?_)
                · skip
                  refine WA.rd_yes rfl rfl rfl rfl rfl rfl (Rd.move rfl rfl) ?_
                  refine WA.rd_yes rfl rfl rfl rfl rfl rfl (Rd.move rfl rfl) ?_
                  refine WA.rd_yes rfl rfl rfl rfl rfl rfl ((by first | exact Rd.lenE rfl rfl Try.underlying22 (by repeat (first | assumption | exact List.mem_cons_self | refine List.mem_cons_of_mem _ ?_)) | exact Rd.lenA rfl rfl Try.underlying22 (by repeat (first | assumption | exact List.mem_cons_self | refine List.mem_cons_of_mem _ ?_)) | exact Rd.len rfl rfl Try.underlying22)) ?_
                  refine WA.rd_yes rfl rfl rfl rfl rfl rfl (Rd.lss rfl rfl rfl) ?_
                  refine WA.rd rfl rfl rfl (Rd.pick_t rfl rfl rfl) ?_
                  refine WA.rd rfl rfl rfl (Rd.move rfl rfl) ?_
                  refine WA.case 85 rfl (fun hg85 => ?_) (fun hg85 => ?_)
                  · skip
                    refine WA.rd_yes rfl rfl rfl rfl rfl rfl (Rd.move rfl rfl) ?_
                    refine WA.rd_yes rfl rfl rfl rfl rfl rfl (Rd.move rfl rfl) ?_
                    refine WA.rd_yes rfl rfl rfl rfl rfl rfl ((by first | exact Rd.idx1 rfl S22 rfl rfl rfl (by repeat (first | assumption | exact List.mem_cons_self | refine List.mem_cons_of_mem _ ?_)) (by first | omega | (simp only [List.length_cons, List.length_nil, List.length_append, List.length_map]; omega)) | exact Rd.idxA1 rfl S22 rfl rfl rfl (by repeat (first | assumption | exact List.mem_cons_self | refine List.mem_cons_of_mem _ ?_)) (by first | omega | (simp only [List.length_cons, List.length_nil, List.length_append, List.length_map]; omega)) | exact Rd.idxR1 rfl S22 rfl rfl rfl (by omega))) ?_
                    refine WA.rd_yes rfl rfl rfl rfl rfl rfl ((by first | exact Rd.get rfl C9 rfl (by repeat (first | assumption | exact List.mem_cons_self | refine List.mem_cons_of_mem _ ?_)) (by first | assumption | rfl | exact get!_of_lt (by omega)) | exact Rd.getA rfl C9 rfl (by repeat (first | assumption | exact List.mem_cons_self | refine List.mem_cons_of_mem _ ?_)) (by first | assumption | rfl | exact get!_of_lt (by omega)) | exact Rd.row1 rfl C9 rfl (by repeat (first | assumption | exact List.mem_cons_self | refine List.mem_cons_of_mem _ ?_)) (by rfl) | exact Rd.getF rfl C9 rfl (by repeat (first | assumption | exact List.mem_cons_self | refine List.mem_cons_of_mem _ ?_)) (by intro x; first | rfl | (cases x; rfl) | (rcases x with ⟨_, _, _⟩; rfl) | (rcases x with ⟨_, _, _, _⟩; rfl)) rfl (by first | assumption | rfl | exact get!_of_lt (by omega)) (by rfl) | exact Rd.getFA rfl C9 rfl (by repeat (first | assumption | exact List.mem_cons_self | refine List.mem_cons_of_mem _ ?_)) (by intro x; first | rfl | (cases x; rfl) | (rcases x with ⟨_, _, _⟩; rfl) | (rcases x with ⟨_, _, _, _⟩; rfl)) rfl (by first | assumption | rfl | exact get!_of_lt (by omega)) (by rfl))) ?_
                    refine WA.rd_yes rfl rfl rfl rfl rfl rfl (Rd.move rfl rfl) ?_
                    refine WA.rd_yes rfl rfl rfl rfl rfl rfl (Rd.move rfl rfl) ?_
                    refine WA.rd_yes rfl rfl rfl rfl rfl rfl ((by first | exact Rd.idx1 rfl S22 rfl rfl rfl (by repeat (first | assumption | exact List.mem_cons_self | refine List.mem_cons_of_mem _ ?_)) (by first | omega | (simp only [List.length_cons, List.length_nil, List.length_append, List.length_map]; omega)) | exact Rd.idxA1 rfl S22 rfl rfl rfl (by repeat (first | assumption | exact List.mem_cons_self | refine List.mem_cons_of_mem _ ?_)) (by first | omega | (simp only [List.length_cons, List.length_nil, List.length_append, List.length_map]; omega)) | exact Rd.idxR1 rfl S22 rfl rfl rfl (by omega))) ?_
                    refine WA.rd_yes rfl rfl rfl rfl rfl rfl ((by first | exact Rd.get rfl C9 rfl (by repeat (first | assumption | exact List.mem_cons_self | refine List.mem_cons_of_mem _ ?_)) (by first | assumption | rfl | exact get!_of_lt (by omega)) | exact Rd.getA rfl C9 rfl (by repeat (first | assumption | exact List.mem_cons_self | refine List.mem_cons_of_mem _ ?_)) (by first | assumption | rfl | exact get!_of_lt (by omega)) | exact Rd.row1 rfl C9 rfl (by repeat (first | assumption | exact List.mem_cons_self | refine List.mem_cons_of_mem _ ?_)) (by rfl) | exact Rd.getF rfl C9 rfl (by repeat (first | assumption | exact List.mem_cons_self | refine List.mem_cons_of_mem _ ?_)) (by intro x; first | rfl | (cases x; rfl) | (rcases x with ⟨_, _, _⟩; rfl) | (rcases x with ⟨_, _, _, _⟩; rfl)) rfl (by first | assumption | rfl | exact get!_of_lt (by omega)) (by rfl) | exact Rd.getFA rfl C9 rfl (by repeat (first | assumption | exact List.mem_cons_self | refine List.mem_cons_of_mem _ ?_)) (by intro x; first | rfl | (cases x; rfl) | (rcases x with ⟨_, _, _⟩; rfl) | (rcases x with ⟨_, _, _, _⟩; rfl)) rfl (by first | assumption | rfl | exact get!_of_lt (by omega)) (by rfl))) ?_
                    refine WA.rd_yes rfl rfl rfl rfl rfl rfl (Rd.seql rfl rfl rfl) ?_
                    refine WA.rd rfl rfl rfl (Rd.pick_t rfl rfl rfl) ?_
                    refine WA.rd rfl rfl rfl (Rd.assign rfl rfl) ?_
                    refine WA.nil ?_
                    exact ⟨by repeat (first | exact Sub.nil | refine Sub.cons rfl (by first | rfl | (first | exact vb_f (by omega) | exact vb ⟨fun h => ⟨by omega, h⟩, fun h => h.2⟩)) ?_), by first | exact (fun _ h => h.thin (SubL.mem (by repeat (first | exact SubL.refl | refine SubL.cons (by repeat (first | assumption | exact List.mem_cons_self | refine List.mem_cons_of_mem _ ?_)) ?_ | refine SubL.skip ?_)))) | exact (fun w h => OwnL.sat (by repeat (first | exact OwnL.refl | apply OwnL.take (by repeat (first | exact Take.head _ | apply Take.tail)) | apply OwnL.drop)) w (h.thin (SubL.mem (by repeat (first | exact SubL.refl | refine SubL.cons (by repeat (first | assumption | exact List.mem_cons_self | refine List.mem_cons_of_mem _ ?_)) ?_ | refine SubL.skip ?_)))))⟩
                  · skip
                    refine WA.no rfl rfl rfl rfl rfl rfl ?_
                    refine WA.no rfl rfl rfl rfl rfl rfl ?_
                    refine WA.no rfl rfl rfl rfl rfl rfl ?_
                    refine WA.no rfl rfl rfl rfl rfl rfl ?_
                    refine WA.no rfl rfl rfl rfl rfl rfl ?_
                    refine WA.no rfl rfl rfl rfl rfl rfl ?_
                    refine WA.no rfl rfl rfl rfl rfl rfl ?_
                    refine WA.no rfl rfl rfl rfl rfl rfl ?_
                    refine WA.no rfl rfl rfl rfl rfl rfl ?_
                    refine WA.rd rfl rfl rfl (Rd.pick_f rfl rfl rfl) ?_
                    refine WA.rd rfl rfl rfl (Rd.assign rfl rfl) ?_
                    refine WA.nil ?_
                    exact ⟨by repeat (first | exact Sub.nil | refine Sub.cons rfl (by first | rfl | (first | exact vb_f (by omega) | exact vb ⟨fun h => ⟨by omega, h⟩, fun h => h.2⟩)) ?_), by first | exact (fun _ h => h.thin (SubL.mem (by repeat (first | exact SubL.refl | refine SubL.cons (by repeat (first | assumption | exact List.mem_cons_self | refine List.mem_cons_of_mem _ ?_)) ?_ | refine SubL.skip ?_)))) | exact (fun w h => OwnL.sat (by repeat (first | exact OwnL.refl | apply OwnL.take (by repeat (first | exact Take.head _ | apply Take.tail)) | apply OwnL.drop)) w (h.thin (SubL.mem (by repeat (first | exact SubL.refl | refine SubL.cons (by repeat (first | assumption | exact List.mem_cons_self | refine List.mem_cons_of_mem _ ?_)) ?_ | refine SubL.skip ?_)))))⟩
                · skip
                  refine WA.no rfl rfl rfl rfl rfl rfl ?_
                  refine WA.no rfl rfl rfl rfl rfl rfl ?_
                  refine WA.no rfl rfl rfl rfl rfl rfl ?_
                  refine WA.no rfl rfl rfl rfl rfl rfl ?_
                  refine WA.rd rfl rfl rfl (Rd.pick_f rfl rfl rfl) ?_
                  refine WA.rd rfl rfl rfl (Rd.move rfl rfl) ?_
                  refine WA.no rfl rfl rfl rfl rfl rfl ?_
                  refine WA.no rfl rfl rfl rfl rfl rfl ?_
                  refine WA.no rfl rfl rfl rfl rfl rfl ?_
                  refine WA.no rfl rfl rfl rfl rfl rfl ?_
                  refine WA.no rfl rfl rfl rfl rfl rfl ?_
                  refine WA.no rfl rfl rfl rfl rfl rfl ?_
                  refine WA.no rfl rfl rfl rfl rfl rfl ?_
                  refine WA.no rfl rfl rfl rfl rfl rfl ?_
                  refine WA.no rfl rfl rfl rfl rfl rfl ?_
                  refine WA.rd rfl rfl rfl (Rd.pick_f rfl rfl rfl) ?_
                  refine WA.rd rfl rfl rfl (Rd.assign rfl rfl) ?_
                  refine WA.nil ?_
                  exact ⟨by repeat (first | exact Sub.nil | refine Sub.cons rfl (by first | rfl | (first | exact vb_f (by omega) | exact vb ⟨fun h => ⟨by omega, h⟩, fun h => h.2⟩)) ?_), by first | exact (fun _ h => h.thin (SubL.mem (by repeat (first | exact SubL.refl | refine SubL.cons (by repeat (first | assumption | exact List.mem_cons_self | refine List.mem_cons_of_mem _ ?_)) ?_ | refine SubL.skip ?_)))) | exact (fun w h => OwnL.sat (by repeat (first | exact OwnL.refl | apply OwnL.take (by repeat (first | exact Take.head _ | apply Take.tail)) | apply OwnL.drop)) w (h.thin (SubL.mem (by repeat (first | exact SubL.refl | refine SubL.cons (by repeat (first | assumption | exact List.mem_cons_self | refine List.mem_cons_of_mem _ ?_)) ?_ | refine SubL.skip ?_)))))⟩
              · skip
                first | refine WC.ite rfl (fun hc4 => ?_) (fun hc4 => ?_) | refine WC.cond rfl (fun hc4 => ?_) (fun hc4 => ?_)
                · skip
                  refine WC.seq ?_
                  refine WC.region ?_
                  refine WL.rd rfl rfl rfl (Rd.move rfl rfl) ?_
                  refine WL.rd rfl rfl rfl (Rd.move rfl rfl) ?_
                  refine WL.rd rfl rfl rfl (Rd.move rfl rfl) ?_
                  refine WL.op rfl ?_
                  refine OpW.call rfl rfl (by repeat (first | exact Evs.nil | apply Evs.cons rfl)) hf rfl rfl rfl ?_
                  refine hT _ (SubL.mem (by repeat (first | exact SubL.refl | refine SubL.cons (by repeat (first | assumption | exact List.mem_cons_self | refine List.mem_cons_of_mem _ ?_)) ?_ | refine SubL.skip ?_))) fs O2 0 i j hS2 (tlen hE2 htl) (by omega) _ ?_
                  intro O3 hS3
                  refine WL.nil ?_
                  refine thenQ.normal ?_
                  refine WC.region ?_
                  refine WL.rd rfl rfl rfl (Rd.move rfl rfl) ?_
                  refine WL.rd rfl rfl rfl (Rd.add rfl rfl rfl (by omega)) ?_
                  refine WL.rd rfl rfl rfl (Rd.move rfl rfl) ?_
                  refine WL.rd rfl rfl rfl (Rd.add rfl rfl rfl (by omega)) ?_
                  refine WL.rd rfl rfl rfl (Rd.assign rfl rfl) ?_
                  refine WL.rd rfl rfl rfl (Rd.assign rfl rfl) ?_
                  refine WL.nil ?_
                  refine blockQ.normal ?_
                  refine blockQ.normal ?_
                  -- next2_1
                  exact loopQ4.mk (i + 1) (j + 1) (fs ++ [(0, i, j)]) O3 ⟨by omega, by omega, hS3, by rw [List.append_assoc, ← hE2, trace_same hc4.1.1 hc4.1.2 hc4.2]; rfl⟩ (by first | omega | (dsimp only; omega)) (by repeat (first | exact Sub.nil | refine Sub.cons rfl (by first | rfl | (congr 1; omega) | assumption) ?_)) (fun w h => OwnL.sat (by repeat (first | exact OwnL.refl | apply OwnL.take (by repeat (first | exact Take.head _ | apply Take.tail)) | apply OwnL.drop)) w (h.thin (SubL.mem (by repeat (first | exact SubL.refl | refine SubL.cons (by repeat (first | assumption | exact List.mem_cons_self | refine List.mem_cons_of_mem _ ?_)) ?_ | refine SubL.skip ?_)))))
                · skip
                  refine WC.pick [0, 1, 2, 7, 8, 9, 10, 11] (by repeat (first | exact Pick.nil | apply Pick.cons rfl)) ?_
                  refine WC.val 104 (.bool (decide (i < xs.length ∧ (j = ys.length ∨ lcs (xs.drop i) (ys.drop (j + 1)) ≤ lcs (xs.drop (i + 1)) (ys.drop j))))) ?_ ?_
                  · skip
                    refine WC.still mixed (by kernel_rfl) ?_
                    refine WA.rd rfl rfl rfl (Rd.move rfl rfl) ?_
                    refine WA.rd rfl rfl rfl (Rd.move rfl rfl) ?_
                    refine WA.rd rfl rfl rfl ((by first | exact Rd.lenE rfl rfl Try.underlying22 (by repeat (first | assumption | exact List.mem_cons_self | refine List.mem_cons_of_mem _ ?_)) | exact Rd.lenA rfl rfl Try.underlying22 (by repeat (first | assumption | exact List.mem_cons_self | refine List.mem_cons_of_mem _ ?_)) | exact Rd.len rfl rfl Try.underlying22)) ?_
                    refine WA.rd rfl rfl rfl (Rd.lss rfl rfl rfl) ?_
                    refine WA.rd rfl rfl rfl (Rd.move rfl rfl) ?_
                    refine WA.case 109 rfl (fun hg109 => ?_) (fun hg109 => ?_)
                    · skip
                      refine WA.rd_yes rfl rfl rfl rfl rfl rfl (Rd.move rfl rfl) ?_
                      refine WA.rd_yes rfl rfl rfl rfl rfl rfl (Rd.move rfl rfl) ?_
                      refine WA.rd_yes rfl rfl rfl rfl rfl rfl ((by first | exact Rd.lenE rfl rfl Try.underlying22 (by repeat (first | assumption | exact List.mem_cons_self | refine List.mem_cons_of_mem _ ?_)) | exact Rd.lenA rfl rfl Try.underlying22 (by repeat (first | assumption | exact List.mem_cons_self | refine List.mem_cons_of_mem _ ?_)) | exact Rd.len rfl rfl Try.underlying22)) ?_
                      refine WA.rd_yes rfl rfl rfl rfl rfl rfl (Rd.eql rfl rfl rfl) ?_
                      refine WA.rd_yes rfl rfl rfl rfl rfl rfl (Rd.move rfl rfl) ?_
                      refine WA.case 114 rfl (fun hg114 => ?_) (fun hg114 => ?_)
                      · skip
                        refine WA.no rfl rfl rfl rfl rfl rfl ?_
                        refine WA.no rfl rfl rfl rfl rfl rfl ?_
                        refine WA.no rfl rfl rfl rfl rfl rfl ?_
                        refine WA.no rfl rfl rfl rfl rfl rfl ?_
                        refine WA.no rfl rfl rfl rfl rfl rfl ?_
                        refine WA.no rfl rfl rfl rfl rfl rfl ?_
                        refine WA.no rfl rfl rfl rfl rfl rfl ?_
                        refine WA.no rfl rfl rfl rfl rfl rfl ?_
                        refine WA.no rfl rfl rfl rfl rfl rfl ?_
                        refine WA.no rfl rfl rfl rfl rfl rfl ?_
                        refine WA.no rfl rfl rfl rfl rfl rfl ?_
                        refine WA.no rfl rfl rfl rfl rfl rfl ?_
                        refine WA.no rfl rfl rfl rfl rfl rfl ?_
                        refine WA.no rfl rfl rfl rfl rfl rfl ?_
                        refine WA.no rfl rfl rfl rfl rfl rfl ?_
                        refine WA.no rfl rfl rfl rfl rfl rfl ?_
                        refine WA.no rfl rfl rfl rfl rfl rfl ?_
                        refine WA.no rfl rfl rfl rfl rfl rfl ?_
                        refine WA.no rfl rfl rfl rfl rfl rfl ?_
                        refine WA.no rfl rfl rfl rfl rfl rfl ?_
                        refine WA.no rfl rfl rfl rfl rfl rfl ?_
                        refine WA.no rfl rfl rfl rfl rfl rfl ?_
                        refine WA.no rfl rfl rfl rfl rfl rfl ?_
                        refine WA.no rfl rfl rfl rfl rfl rfl ?_
                        refine WA.no rfl rfl rfl rfl rfl rfl ?_
                        refine WA.rd_yes rfl rfl rfl rfl rfl rfl (Rd.pick_t rfl rfl rfl) ?_
                        refine WA.rd rfl rfl rfl (Rd.pick_t rfl rfl rfl) ?_
                        refine WA.rd rfl rfl rfl (Rd.assign rfl rfl) ?_
                        refine WA.nil ?_
                        exact ⟨by repeat (first | exact Sub.nil | refine Sub.cons rfl (by first | rfl | (first | exact vb_f (by omega) | exact vb_t ⟨by omega, .inl (by omega)⟩ | exact vb ⟨fun h => ⟨by omega, .inr (by omega)⟩, fun h => by omega⟩)) ?_), by first | exact (fun _ h => h.thin (SubL.mem (by repeat (first | exact SubL.refl | refine SubL.cons (by repeat (first | assumption | exact List.mem_cons_self | refine List.mem_cons_of_mem _ ?_)) ?_ | refine SubL.skip ?_)))) | exact (fun w h => OwnL.sat (by repeat (first | exact OwnL.refl | apply OwnL.take (by repeat (first | exact Take.head _ | apply Take.tail)) | apply OwnL.drop)) w (h.thin (SubL.mem (by repeat (first | exact SubL.refl | refine SubL.cons (by repeat (first | assumption | exact List.mem_cons_self | refine List.mem_cons_of_mem _ ?_)) ?_ | refine SubL.skip ?_)))))⟩
                      · skip
                        have r1 := lrow_length ((xs.drop k).drop (0 + (i + 1 - k))) (ys.drop k)
                        have r2 := lrow_length ((xs.drop k).drop (0 + (i - k))) (ys.drop k)
                        rw [List.length_drop] at r1 r2
                        have hRows : Rows vsl (xs.drop k) (ys.drop k) 0 ∈ SlE (one vid) cv vsl :: Rows vsl (xs.drop k) (ys.drop k) 0 :: R := (by repeat (first | assumption | exact List.mem_cons_self | refine List.mem_cons_of_mem _ ?_))
                        refine WA.heap (fun w h => h.weaken hRows (fun w hp => hp (i + 1 - k) (by omega))) ?_
                        refine WA.heap (fun w h => h.weaken (List.mem_cons_of_mem _ hRows) (fun w hp => hp (i - k) (by omega))) ?_
                        refine WA.rd_yes rfl rfl rfl rfl rfl rfl (Rd.move rfl rfl) ?_
                        refine WA.rd_yes rfl rfl rfl rfl rfl rfl (Rd.move rfl rfl) ?_
                        refine WA.rd_yes rfl rfl rfl rfl rfl rfl (Rd.add rfl rfl rfl (by omega)) ?_
                        refine WA.rd_yes rfl rfl rfl rfl rfl rfl (Rd.move rfl rfl) ?_
                        refine WA.rd_yes rfl rfl rfl rfl rfl rfl (Rd.sub rfl rfl rfl (by omega)) ?_
                        refine WA.rd_yes rfl rfl rfl rfl rfl rfl ((by first | exact Rd.idx1 (k := i + 1 - k) rfl S75 rfl rfl (by omega) (by repeat (first | assumption | exact List.mem_cons_self | refine List.mem_cons_of_mem _ ?_)) (by first | omega | (simp only [List.length_cons, List.length_nil, List.length_append, List.length_map]; omega)) | exact Rd.idxA1 (k := i + 1 - k) rfl S75 rfl rfl (by omega) (by repeat (first | assumption | exact List.mem_cons_self | refine List.mem_cons_of_mem _ ?_)) (by first | omega | (simp only [List.length_cons, List.length_nil, List.length_append, List.length_map]; omega)) | exact Rd.idxR1 (k := i + 1 - k) rfl S75 rfl rfl (by omega) (by omega))) ?_
                        refine WA.rd_yes rfl rfl rfl rfl rfl rfl ((by first | exact Rd.get rfl C78 rfl (by repeat (first | assumption | exact List.mem_cons_self | refine List.mem_cons_of_mem _ ?_)) (by first | assumption | rfl | exact get!_of_lt (by omega)) | exact Rd.getA rfl C78 rfl (by repeat (first | assumption | exact List.mem_cons_self | refine List.mem_cons_of_mem _ ?_)) (by first | assumption | rfl | exact get!_of_lt (by omega)) | exact Rd.row1 rfl C78 rfl (by repeat (first | assumption | exact List.mem_cons_self | refine List.mem_cons_of_mem _ ?_)) (by rfl) | exact Rd.getF rfl C78 rfl (by repeat (first | assumption | exact List.mem_cons_self | refine List.mem_cons_of_mem _ ?_)) (by intro x; first | rfl | (cases x; rfl) | (rcases x with ⟨_, _, _⟩; rfl) | (rcases x with ⟨_, _, _, _⟩; rfl)) rfl (by first | assumption | rfl | exact get!_of_lt (by omega)) (by rfl) | exact Rd.getFA rfl C78 rfl (by repeat (first | assumption | exact List.mem_cons_self | refine List.mem_cons_of_mem _ ?_)) (by intro x; first | rfl | (cases x; rfl) | (rcases x with ⟨_, _, _⟩; rfl) | (rcases x with ⟨_, _, _, _⟩; rfl)) rfl (by first | assumption | rfl | exact get!_of_lt (by omega)) (by rfl))) ?_
                        refine WA.rd_yes rfl rfl rfl rfl rfl rfl (Rd.move rfl rfl) ?_
                        refine WA.rd_yes rfl rfl rfl rfl rfl rfl (Rd.move rfl rfl) ?_
                        refine WA.rd_yes rfl rfl rfl rfl rfl rfl (Rd.sub rfl rfl rfl (by omega)) ?_
                        refine WA.rd_yes rfl rfl rfl rfl rfl rfl ((by first | exact Rd.idx1 (k := j - k) rfl S78 rfl rfl (by omega) (by repeat (first | assumption | exact List.mem_cons_self | refine List.mem_cons_of_mem _ ?_)) (by first | omega | (simp only [List.length_cons, List.length_nil, List.length_append, List.length_map]; omega)) | exact Rd.idxA1 (k := j - k) rfl S78 rfl rfl (by omega) (by repeat (first | assumption | exact List.mem_cons_self | refine List.mem_cons_of_mem _ ?_)) (by first | omega | (simp only [List.length_cons, List.length_nil, List.length_append, List.length_map]; omega)) | exact Rd.idxR1 (k := j - k) rfl S78 rfl rfl (by omega) (by omega))) ?_
                        refine WA.rd_yes rfl rfl rfl rfl rfl rfl (Rd.get (k := j - k) (a := lcs (xs.drop (i + 1)) (ys.drop j)) rfl C77 rfl (by repeat (first | assumption | exact List.mem_cons_self | refine List.mem_cons_of_mem _ ?_)) (by rw [lrow_get _ _ (by rw [List.length_drop]; omega), List.drop_drop, List.drop_drop, show k + (0 + (i + 1 - k)) = i + 1 from by omega, show k + (j - k) = j from by omega])) ?_
                        refine WA.rd_yes rfl rfl rfl rfl rfl rfl (Rd.move rfl rfl) ?_
                        refine WA.rd_yes rfl rfl rfl rfl rfl rfl (Rd.move rfl rfl) ?_
                        refine WA.rd_yes rfl rfl rfl rfl rfl rfl (Rd.move rfl rfl) ?_
                        refine WA.rd_yes rfl rfl rfl rfl rfl rfl (Rd.sub rfl rfl rfl (by omega)) ?_
                        refine WA.rd_yes rfl rfl rfl rfl rfl rfl ((by first | exact Rd.idx1 (k := i - k) rfl S75 rfl rfl (by omega) (by repeat (first | assumption | exact List.mem_cons_self | refine List.mem_cons_of_mem _ ?_)) (by first | omega | (simp only [List.length_cons, List.length_nil, List.length_append, List.length_map]; omega)) | exact Rd.idxA1 (k := i - k) rfl S75 rfl rfl (by omega) (by repeat (first | assumption | exact List.mem_cons_self | refine List.mem_cons_of_mem _ ?_)) (by first | omega | (simp only [List.length_cons, List.length_nil, List.length_append, List.length_map]; omega)) | exact Rd.idxR1 (k := i - k) rfl S75 rfl rfl (by omega) (by omega))) ?_
                        refine WA.rd_yes rfl rfl rfl rfl rfl rfl ((by first | exact Rd.get rfl C78 rfl (by repeat (first | assumption | exact List.mem_cons_self | refine List.mem_cons_of_mem _ ?_)) (by first | assumption | rfl | exact get!_of_lt (by omega)) | exact Rd.getA rfl C78 rfl (by repeat (first | assumption | exact List.mem_cons_self | refine List.mem_cons_of_mem _ ?_)) (by first | assumption | rfl | exact get!_of_lt (by omega)) | exact Rd.row1 rfl C78 rfl (by repeat (first | assumption | exact List.mem_cons_self | refine List.mem_cons_of_mem _ ?_)) (by rfl) | exact Rd.getF rfl C78 rfl (by repeat (first | assumption | exact List.mem_cons_self | refine List.mem_cons_of_mem _ ?_)) (by intro x; first | rfl | (cases x; rfl) | (rcases x with ⟨_, _, _⟩; rfl) | (rcases x with ⟨_, _, _, _⟩; rfl)) rfl (by first | assumption | rfl | exact get!_of_lt (by omega)) (by rfl) | exact Rd.getFA rfl C78 rfl (by repeat (first | assumption | exact List.mem_cons_self | refine List.mem_cons_of_mem _ ?_)) (by intro x; first | rfl | (cases x; rfl) | (rcases x with ⟨_, _, _⟩; rfl) | (rcases x with ⟨_, _, _, _⟩; rfl)) rfl (by first | assumption | rfl | exact get!_of_lt (by omega)) (by rfl))) ?_
                        refine WA.rd_yes rfl rfl rfl rfl rfl rfl (Rd.move rfl rfl) ?_
                        refine WA.rd_yes rfl rfl rfl rfl rfl rfl (Rd.add rfl rfl rfl (by omega)) ?_
                        refine WA.rd_yes rfl rfl rfl rfl rfl rfl (Rd.move rfl rfl) ?_
                        refine WA.rd_yes rfl rfl rfl rfl rfl rfl (Rd.sub rfl rfl rfl (by omega)) ?_
                        refine WA.rd_yes rfl rfl rfl rfl rfl rfl ((by first | exact Rd.idx1 (k := j + 1 - k) rfl S78 rfl rfl (by omega) (by repeat (first | assumption | exact List.mem_cons_self | refine List.mem_cons_of_mem _ ?_)) (by first | omega | (simp only [List.length_cons, List.length_nil, List.length_append, List.length_map]; omega)) | exact Rd.idxA1 (k := j + 1 - k) rfl S78 rfl rfl (by omega) (by repeat (first | assumption | exact List.mem_cons_self | refine List.mem_cons_of_mem _ ?_)) (by first | omega | (simp only [List.length_cons, List.length_nil, List.length_append, List.length_map]; omega)) | exact Rd.idxR1 (k := j + 1 - k) rfl S78 rfl rfl (by omega) (by omega))) ?_
                        refine WA.rd_yes rfl rfl rfl rfl rfl rfl (Rd.get (k := j + 1 - k) (a := lcs (xs.drop i) (ys.drop (j + 1))) rfl C77 rfl (by repeat (first | assumption | exact List.mem_cons_self | refine List.mem_cons_of_mem _ ?_)) (by rw [lrow_get _ _ (by rw [List.length_drop]; omega), List.drop_drop, List.drop_drop, show k + (0 + (i - k)) = i from by omega, show k + (j + 1 - k) = j + 1 from by omega])) ?_
                        refine WA.rd_yes rfl rfl rfl rfl rfl rfl (Rd.geq rfl rfl rfl) ?_
                        refine WA.rd_yes rfl rfl rfl rfl rfl rfl (Rd.pick_f rfl rfl rfl) ?_
                        refine WA.rd rfl rfl rfl (Rd.pick_t rfl rfl rfl) ?_
                        refine WA.rd rfl rfl rfl (Rd.assign rfl rfl) ?_
                        refine WA.nil ?_
                        exact ⟨by repeat (first | exact Sub.nil | refine Sub.cons rfl (by first | rfl | (first | exact vb_f (by omega) | exact vb_t ⟨by omega, .inl (by omega)⟩ | exact vb ⟨fun h => ⟨by omega, .inr (by omega)⟩, fun h => by omega⟩)) ?_), by first | exact (fun _ h => h.thin (SubL.mem (by repeat (first | exact SubL.refl | refine SubL.cons (by repeat (first | assumption | exact List.mem_cons_self | refine List.mem_cons_of_mem _ ?_)) ?_ | refine SubL.skip ?_)))) | exact (fun w h => OwnL.sat (by repeat (first | exact OwnL.refl | apply OwnL.take (by repeat (first | exact Take.head _ | apply Take.tail)) | apply OwnL.drop)) w (h.thin (SubL.mem (by repeat (first | exact SubL.refl | refine SubL.cons (by repeat (first | assumption | exact List.mem_cons_self | refine List.mem_cons_of_mem _ ?_)) ?_ | refine SubL.skip ?_)))))⟩
                    · skip
                      refine WA.no rfl rfl rfl rfl rfl rfl ?_
                      refine WA.no rfl rfl rfl rfl rfl rfl ?_
                      refine WA.no rfl rfl rfl rfl rfl rfl ?_
                      refine WA.no rfl rfl rfl rfl rfl rfl ?_
                      refine WA.no rfl rfl rfl rfl rfl rfl ?_
                      refine WA.noU rfl rfl rfl rfl rfl rfl ?_
                      refine WA.noU rfl rfl rfl rfl rfl rfl ?_
                      refine WA.noU rfl rfl rfl rfl rfl rfl ?_
                      refine WA.noU rfl rfl rfl rfl rfl rfl ?_
                      refine WA.noU rfl rfl rfl rfl rfl rfl ?_
                      refine WA.noU rfl rfl rfl rfl rfl rfl ?_
                      refine WA.noU rfl rfl rfl rfl rfl rfl ?_
                      refine WA.noU rfl rfl rfl rfl rfl rfl ?_
                      refine WA.noU rfl rfl rfl rfl rfl rfl ?_
                      refine WA.noU rfl rfl rfl rfl rfl rfl ?_
                      refine WA.noU rfl rfl rfl rfl rfl rfl ?_
                      refine WA.noU rfl rfl rfl rfl rfl rfl ?_
                      refine WA.noU rfl rfl rfl rfl rfl rfl ?_
                      refine WA.noU rfl rfl rfl rfl rfl rfl ?_
                      refine WA.noU rfl rfl rfl rfl rfl rfl ?_
                      refine WA.noU rfl rfl rfl rfl rfl rfl ?_
                      refine WA.noU rfl rfl rfl rfl rfl rfl ?_
                      refine WA.noU rfl rfl rfl rfl rfl rfl ?_
                      refine WA.noU rfl rfl rfl rfl rfl rfl ?_
                      refine WA.noU rfl rfl rfl rfl rfl rfl ?_
                      refine WA.noU rfl rfl rfl rfl rfl rfl ?_
                      refine WA.noU rfl rfl rfl rfl rfl rfl ?_
                      refine WA.noU rfl rfl rfl rfl rfl rfl ?_
                      refine WA.noU rfl rfl rfl rfl rfl rfl ?_
                      refine WA.noU rfl rfl rfl rfl rfl rfl ?_
                      refine WA.no rfl rfl rfl rfl rfl rfl ?_
                      refine WA.rd rfl rfl rfl (Rd.pick_f rfl rfl rfl) ?_
                      refine WA.rd rfl rfl rfl (Rd.assign rfl rfl) ?_
                      refine WA.nil ?_
                      exact ⟨by repeat (first | exact Sub.nil | refine Sub.cons rfl (by first | rfl | (first | exact vb_f (by omega) | exact vb_t ⟨by omega, .inl (by omega)⟩ | exact vb ⟨fun h => ⟨by omega, .inr (by omega)⟩, fun h => by omega⟩)) ?_), by first | exact (fun _ h => h.thin (SubL.mem (by repeat (first | exact SubL.refl | refine SubL.cons (by repeat (first | assumption | exact List.mem_cons_self | refine List.mem_cons_of_mem _ ?_)) ?_ | refine SubL.skip ?_)))) | exact (fun w h => OwnL.sat (by repeat (first | exact OwnL.refl | apply OwnL.take (by repeat (first | exact Take.head _ | apply Take.tail)) | apply OwnL.drop)) w (h.thin (SubL.mem (by repeat (first | exact SubL.refl | refine SubL.cons (by repeat (first | assumption | exact List.mem_cons_self | refine List.mem_cons_of_mem _ ?_)) ?_ | refine SubL.skip ?_)))))⟩
                  · skip
                    first | refine WC.ite rfl (fun hc5 => ?_) (fun hc5 => ?_) | refine WC.cond rfl (fun hc5 => ?_) (fun hc5 => ?_)
                    · skip
                      refine WC.seq ?_
                      refine WC.region ?_
                      refine WL.rd rfl rfl rfl (Rd.move rfl rfl) ?_
                      refine WL.rd rfl rfl rfl (Rd.move rfl rfl) ?_
                      refine WL.rd rfl rfl rfl (Rd.move rfl rfl) ?_
                      refine WL.op rfl ?_
                      refine OpW.call rfl rfl (by repeat (first | exact Evs.nil | apply Evs.cons rfl)) hf rfl rfl rfl ?_
                      refine hT _ (SubL.mem (by repeat (first | exact SubL.refl | refine SubL.cons (by repeat (first | assumption | exact List.mem_cons_self | refine List.mem_cons_of_mem _ ?_)) ?_ | refine SubL.skip ?_))) fs O2 1 i j hS2 (tlen hE2 htl) (by omega) _ ?_
                      intro O3 hS3
                      refine WL.nil ?_
                      refine thenQ.normal ?_
                      refine WC.region ?_
                      refine WL.rd rfl rfl rfl (Rd.move rfl rfl) ?_
                      refine WL.rd rfl rfl rfl (Rd.add rfl rfl rfl (by omega)) ?_
                      refine WL.rd rfl rfl rfl (Rd.assign rfl rfl) ?_
                      refine WL.nil ?_
                      refine blockQ.normal ?_
                      refine blockQ.normal ?_
                      -- next2_2
                      exact loopQ4.mk (i + 1) j (fs ++ [(1, i, j)]) O3 ⟨by omega, by omega, hS3, by rw [List.append_assoc, ← hE2, trace_drop hc5.1 (fun hj he => hc4 ⟨⟨hc5.1, hj⟩, he⟩) hc5.2 (by omega)]; rfl⟩ (by first | omega | (dsimp only; omega)) (by repeat (first | exact Sub.nil | refine Sub.cons rfl (by first | rfl | (congr 1; omega) | assumption) ?_)) (fun w h => OwnL.sat (by repeat (first | exact OwnL.refl | apply OwnL.take (by repeat (first | exact Take.head _ | apply Take.tail)) | apply OwnL.drop)) w (h.thin (SubL.mem (by repeat (first | exact SubL.refl | refine SubL.cons (by repeat (first | assumption | exact List.mem_cons_self | refine List.mem_cons_of_mem _ ?_)) ?_ | refine SubL.skip ?_)))))
                    · skip
                      refine WC.seq ?_
                      refine WC.region ?_
                      refine WL.rd rfl rfl rfl (Rd.move rfl rfl) ?_
                      refine WL.rd rfl rfl rfl (Rd.move rfl rfl) ?_
                      refine WL.rd rfl rfl rfl (Rd.move rfl rfl) ?_
                      refine WL.op rfl ?_
                      refine OpW.call rfl rfl (by repeat (first | exact Evs.nil | apply Evs.cons rfl)) hf rfl rfl rfl ?_
                      refine hT _ (SubL.mem (by repeat (first | exact SubL.refl | refine SubL.cons (by repeat (first | assumption | exact List.mem_cons_self | refine List.mem_cons_of_mem _ ?_)) ?_ | refine SubL.skip ?_))) fs O2 2 i j hS2 (tlen hE2 htl) (by omega) _ ?_
                      intro O3 hS3
                      refine WL.nil ?_
                      refine thenQ.normal ?_
                      refine WC.region ?_
                      refine WL.rd rfl rfl rfl (Rd.move rfl rfl) ?_
                      refine WL.rd rfl rfl rfl (Rd.add rfl rfl rfl (by omega)) ?_
                      refine WL.rd rfl rfl rfl (Rd.assign rfl rfl) ?_
                      refine WL.nil ?_
                      refine blockQ.normal ?_
                      refine blockQ.normal ?_
                      -- next2_3
                      exact loopQ4.mk i (j + 1) (fs ++ [(2, i, j)]) O3 ⟨by omega, by omega, hS3, by rw [List.append_assoc, ← hE2, trace_add (by omega) (by omega) (fun hi he => hc4 ⟨⟨hi, by omega⟩, he⟩) (fun hi h => hc5 ⟨hi, .inr h⟩)]; rfl⟩ (by first | omega | (dsimp only; omega)) (by repeat (first | exact Sub.nil | refine Sub.cons rfl (by first | rfl | (congr 1; omega) | assumption) ?_)) (fun w h => OwnL.sat (by repeat (first | exact OwnL.refl | apply OwnL.take (by repeat (first | exact Take.head _ | apply Take.tail)) | apply OwnL.drop)) w (h.thin (SubL.mem (by repeat (first | exact SubL.refl | refine SubL.cons (by repeat (first | assumption | exact List.mem_cons_self | refine List.mem_cons_of_mem _ ?_)) ?_ | refine SubL.skip ?_)))))
            · skip
              refine WC.exit ?_
              refine thenQ.exit ?_
              refine loopQ4.exit ?_
              refine blockQ.exit ?_
              refine thenQ.normal ?_
              refine WC.seq ?_
              refine WC.region ?_
              refine WL.rd rfl rfl rfl (Rd.assign rfl rfl) ?_
              refine WL.nil ?_
              refine thenQ.normal ?_
              -- ret_1
              have hfin := trace_end (xs := xs) (ys := ys) (i := i) (j := j) (by omega) (by omega)
              rw [hfin, List.append_nil] at hE2
              refine WC.heap (R' := R) (O' := O2) (fun w h => OwnL.sat (by repeat (first | exact OwnL.refl | apply OwnL.take (by repeat (first | exact Take.head _ | apply Take.tail)) | apply OwnL.drop)) w (h.thin (SubL.mem (by repeat (first | exact SubL.refl | refine SubL.cons (by repeat (first | assumption | exact List.mem_cons_self | refine List.mem_cons_of_mem _ ?_)) ?_ | refine SubL.skip ?_))))) ?_
              refine WC.ret (Ret.one Try.results35 rfl ?_)
              exact hk O2 (hE2 ▸ hS2)

theorem walk_long {R : List RO} {O : List Own} {POST : Value → List RO → List Own → Prop} {xs ys : List (List UInt8)} {av bv fv : Value} (ha : Strs av xs ∈ R) (hb : Strs bv ys ∈ R) (hl : 4096 < xs.length ∨ 4096 < ys.length)
    (hk : POST (.int .i64 6) R O) : Fun Try.prog 35 #[av, bv, fv] R O POST := by
  refine Fun.enter (l := [_, _, _]) Try.func35 rfl Try.ntmps35 rfl (L0 := [(0, _), (1, _), (2, _)]) rfl ?_
  refine WC.seq ?_
  refine WC.region ?_
  refine WL.rd rfl rfl rfl (Rd.assign rfl rfl) ?_
  refine WL.nil ?_
  refine thenQ.normal ?_
  refine WC.seq ?_
  refine WC.pick [0, 1, 2] (by repeat (first | exact Pick.nil | apply Pick.cons rfl)) ?_
  refine WC.val 19 (.bool (decide (4096 < xs.length ∨ 4096 < ys.length))) ?_ ?_
  · skip
    refine WC.region ?_
    refine WL.rd rfl rfl rfl (Rd.move rfl rfl) ?_
    refine WL.rd rfl rfl rfl ((by first | exact Rd.lenE rfl rfl Try.underlying22 (by repeat (first | assumption | exact List.mem_cons_self | refine List.mem_cons_of_mem _ ?_)) | exact Rd.lenA rfl rfl Try.underlying22 (by repeat (first | assumption | exact List.mem_cons_self | refine List.mem_cons_of_mem _ ?_)) | exact Rd.len rfl rfl Try.underlying22)) ?_
    refine WL.rd rfl rfl rfl (Rd.gtr rfl rfl rfl) ?_
    refine WL.rd rfl rfl rfl (Rd.move rfl rfl) ?_
    refine WL.case 15 rfl (fun hg15 => ?_) (fun hg15 => ?_)
    · skip
      refine WL.no rfl rfl rfl rfl rfl rfl ?_
      refine WL.no rfl rfl rfl rfl rfl rfl ?_
      refine WL.no rfl rfl rfl rfl rfl rfl ?_
      refine WL.rd rfl rfl rfl (Rd.pick_t rfl rfl rfl) ?_
      refine WL.nil ?_
      exact ⟨by repeat (first | exact Sub.nil | refine Sub.cons rfl (by first | rfl | (first | rfl | exact vb (by omega) | exact vb_t (by omega) | exact vb_f (by omega) | (simp [*]; done) | (simp_all; done))) ?_), by first | exact (fun _ h => h.thin (SubL.mem (by repeat (first | exact SubL.refl | refine SubL.cons (by repeat (first | assumption | exact List.mem_cons_self | refine List.mem_cons_of_mem _ ?_)) ?_ | refine SubL.skip ?_)))) | exact (fun w h => OwnL.sat (by repeat (first | exact OwnL.refl | apply OwnL.take (by repeat (first | exact Take.head _ | apply Take.tail)) | apply OwnL.drop)) w (h.thin (SubL.mem (by repeat (first | exact SubL.refl | refine SubL.cons (by repeat (first | assumption | exact List.mem_cons_self | refine List.mem_cons_of_mem _ ?_)) ?_ | refine SubL.skip ?_)))))⟩
    · skip
      refine WL.rd_yes rfl rfl rfl rfl rfl rfl (Rd.move rfl rfl) ?_
      refine WL.rd_yes rfl rfl rfl rfl rfl rfl ((by first | exact Rd.lenE rfl rfl Try.underlying22 (by repeat (first | assumption | exact List.mem_cons_self | refine List.mem_cons_of_mem _ ?_)) | exact Rd.lenA rfl rfl Try.underlying22 (by repeat (first | assumption | exact List.mem_cons_self | refine List.mem_cons_of_mem _ ?_)) | exact Rd.len rfl rfl Try.underlying22)) ?_
      refine WL.rd_yes rfl rfl rfl rfl rfl rfl (Rd.gtr rfl rfl rfl) ?_
      refine WL.rd rfl rfl rfl (Rd.pick_f rfl rfl rfl) ?_
      refine WL.nil ?_
      exact ⟨by repeat (first | exact Sub.nil | refine Sub.cons rfl (by first | rfl | (first | rfl | exact vb (by omega) | exact vb_t (by omega) | exact vb_f (by omega) | (simp [*]; done) | (simp_all; done))) ?_), by first | exact (fun _ h => h.thin (SubL.mem (by repeat (first | exact SubL.refl | refine SubL.cons (by repeat (first | assumption | exact List.mem_cons_self | refine List.mem_cons_of_mem _ ?_)) ?_ | refine SubL.skip ?_)))) | exact (fun w h => OwnL.sat (by repeat (first | exact OwnL.refl | apply OwnL.take (by repeat (first | exact Take.head _ | apply Take.tail)) | apply OwnL.drop)) w (h.thin (SubL.mem (by repeat (first | exact SubL.refl | refine SubL.cons (by repeat (first | assumption | exact List.mem_cons_self | refine List.mem_cons_of_mem _ ?_)) ?_ | refine SubL.skip ?_)))))⟩
  · skip
    first | refine WC.ite rfl (fun hc1 => ?_) (fun hc1 => ?_) | refine WC.cond rfl (fun hc1 => ?_) (fun hc1 => ?_)
    · skip
      refine WC.seq ?_
      refine WC.region ?_
      refine WL.rd rfl rfl rfl (Rd.assign rfl rfl) ?_
      refine WL.nil ?_
      refine thenQ.normal ?_
      -- ret_1
      refine WC.ret (Ret.one Try.results35 rfl ?_)
      exact hk
    · skip
      exfalso; omega
end Go.Proofs.Ytpicbbkmcbhnpaa
