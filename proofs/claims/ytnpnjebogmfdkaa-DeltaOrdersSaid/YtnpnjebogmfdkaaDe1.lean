/-
  Layer 13: a delta's numbers, its head, one order, what is made of them.
-/
import Derived.Test.YtnpnjebogmfdkaaNm8
import Derived.Test.YtnpnjebogmfdkaaBld
import Derived.Test.YtnpnjebogmfdkaaShelf
namespace Go.Proofs.Ytnpnjebogmfdkaa
open Go Go.SL

/-- The number at the beginning, how many bytes it takes, what is wrong. -/
def gN (s : List UInt8) : Nat := (getE s).1.toNat
def gK (s : List UInt8) : Nat := (getE s).2.1.toNat
def gX (s : List UInt8) : Int := (getE s).2.2
theorem getE_err : ∀ {s : List UInt8}, (getE s).2.2 ≠ 0 → (getE s).1 = 0 ∧ (getE s).2.1 = 0
  | [], _ => ⟨rfl, rfl⟩
  | b :: r, h => by
    rw [getE] at h ⊢
    by_cases h1 : 5 < lead b
    · rw [if_pos h1]; exact ⟨rfl, rfl⟩
    · rw [if_neg h1] at h ⊢
      by_cases h2 : r.length < lead b
      · rw [if_pos h2]; exact ⟨rfl, rfl⟩
      · rw [if_neg h2] at h ⊢
        split at h
        · next h3 => rw [if_pos h3]; exact ⟨rfl, rfl⟩
        · exact absurd rfl h
theorem g_is (s : List UInt8) : (getE s).1 = (gN s : Nat) ∧ (getE s).2.1 = (gK s : Nat) ∧ (getE s).2.2 = gX s ∧ gK s ≤ s.length ∧ gN s ≤ 1099511627776 ∧ (gX s = 0 → 1 ≤ gK s) ∧ (gX s ≠ 0 → gN s = 0 ∧ gK s = 0) := by
  unfold gN gK gX
  by_cases h : (getE s).2.2 = 0
  · obtain ⟨n, k, h1, h2, h3, h4, h5⟩ := getE_ok h
    rw [h1, h2]
    exact ⟨by simp, by simp, rfl, by simp; omega, by simp; omega, fun _ => by simp; omega, fun hx => absurd h hx⟩
  · obtain ⟨h1, h2⟩ := getE_err h
    rw [h1, h2]
    exact ⟨by simp, by simp, rfl, by simp, by simp, fun hx => absurd hx h, fun _ => ⟨rfl, rfl⟩⟩
abbrev gR (s : List UInt8) : List UInt8 := s.drop (gK s)
theorem gR_len (s : List UInt8) : (gR s).length ≤ s.length := by unfold gR; rw [List.length_drop]; omega
/-- The head of a delta: two lengths, what stands behind them, what is wrong. -/
def headE (d : List UInt8) : Nat × Nat × List UInt8 × Int :=
  if gX d ≠ 0 then (0, 0, [], gX d)
  else if gX (gR d) ≠ 0 then (0, 0, [], gX (gR d))
  else if 262208 < gN d ∨ 262208 < gN (gR d) then (0, 0, [], 6)
  else (gN d, gN (gR d), gR (gR d), 0)
/-- One order, behind its first byte: what it gives, what stands behind it, what is wrong. -/
def orderE (base : List UInt8) (c : UInt8) (r : List UInt8) : List UInt8 × List UInt8 × Int :=
  if c = 0 then
    if gX r ≠ 0 then ([], [], gX r)
    else if gN r = 0 then ([], [], 2)
    else if (gR r).length < gN r then ([], [], 3)
    else ((gR r).take (gN r), (gR r).drop (gN r), 0)
  else if c = 1 then
    if gX r ≠ 0 then ([], [], gX r)
    else if gX (gR r) ≠ 0 then ([], [], gX (gR r))
    else if gN (gR r) = 0 ∨ base.length < gN r ∨ base.length < gN r + gN (gR r) then ([], [], 2)
    else ((base.take (gN r + gN (gR r))).drop (gN r), gR (gR r), 0)
  else ([], [], 2)
theorem order_next (base : List UInt8) (c : UInt8) (r : List UInt8) : (orderE base c r).2.1.length ≤ r.length := by
  have h1 := gR_len r
  have h2 := gR_len (gR r)
  unfold orderE
  split
  · split
    · exact Nat.zero_le _
    · split
      · exact Nat.zero_le _
      · split
        · exact Nat.zero_le _
        · show ((gR r).drop _).length ≤ _
          rw [List.length_drop]; omega
  · split
    · split
      · exact Nat.zero_le _
      · split
        · exact Nat.zero_le _
        · split
          · exact Nat.zero_le _
          · show (gR (gR r)).length ≤ _; omega
    · exact Nat.zero_le _
theorem order_len (base : List UInt8) (c : UInt8) (r : List UInt8) : (orderE base c r).1.length ≤ max base.length r.length := by
  have h1 := gR_len r
  unfold orderE
  split
  · split
    · exact Nat.zero_le _
    · split
      · exact Nat.zero_le _
      · split
        · exact Nat.zero_le _
        · show ((gR r).take _).length ≤ _
          rw [List.length_take]; omega
  · split
    · split
      · exact Nat.zero_le _
      · split
        · exact Nat.zero_le _
        · split
          · exact Nat.zero_le _
          · show ((base.take _).drop _).length ≤ _
            rw [List.length_drop, List.length_take]; omega
    · exact Nat.zero_le _
/-- Order by order. -/
def runE (base : List UInt8) (to : Nat) : Nat → List UInt8 → List UInt8 → List UInt8 × Int
  | 0, _, _ => ([], 0)
  | _ + 1, out, [] => if out.length < to then ([], 4) else (out, 0)
  | k + 1, out, c :: r => if (orderE base c r).2.2 ≠ 0 then ([], (orderE base c r).2.2) else if to < out.length + (orderE base c r).1.length then ([], 6) else runE base to k (out ++ (orderE base c r).1) (orderE base c r).2.1
theorem run_fuel (base : List UInt8) (to : Nat) : ∀ (k k' : Nat) (out rest : List UInt8), rest.length < k → rest.length < k' → runE base to k out rest = runE base to k' out rest
  | 0, _, _, _, h, _ => absurd h (Nat.not_lt_zero _)
  | _ + 1, 0, _, _, _, h => absurd h (Nat.not_lt_zero _)
  | k + 1, k' + 1, out, [], _, _ => rfl
  | k + 1, k' + 1, out, c :: r, h, h' => by
    have hn := order_next base c r
    rw [List.length_cons] at h h'
    rw [runE, runE, run_fuel base to k k' _ _ (by omega) (by omega)]
/-- What is made of orders. -/
def goE (base : List UInt8) (to : Nat) (out rest : List UInt8) : List UInt8 × Int := runE base to (rest.length + 1) out rest
theorem goE_nil (base : List UInt8) (to : Nat) (out : List UInt8) : goE base to out [] = if out.length < to then ([], 4) else (out, 0) := rfl
theorem goE_cons (base : List UInt8) (to : Nat) (out : List UInt8) (c : UInt8) (r : List UInt8) : goE base to out (c :: r) = if (orderE base c r).2.2 ≠ 0 then ([], (orderE base c r).2.2) else if to < out.length + (orderE base c r).1.length then ([], 6) else goE base to (out ++ (orderE base c r).1) (orderE base c r).2.1 := by
  have hn := order_next base c r
  show runE base to ((c :: r).length + 1) out (c :: r) = _
  rw [List.length_cons, runE]
  split
  · rfl
  · split
    · rfl
    · exact run_fuel _ _ _ _ _ _ (by omega) (by omega)
def applyE (base d : List UInt8) : List UInt8 × Int :=
  if (headE d).2.2.2 ≠ 0 then ([], (headE d).2.2.2)
  else if base.length ≠ (headE d).1 then ([], 13)
  else goE base (headE d).2.1 [] (headE d).2.2.1
theorem head_rest (d : List UInt8) : (headE d).2.2.1.length ≤ d.length := by
  have h1 := gR_len d
  have h2 := gR_len (gR d)
  unfold headE
  split
  · exact Nat.zero_le _
  · split
    · exact Nat.zero_le _
    · split
      · exact Nat.zero_le _
      · show (gR (gR d)).length ≤ _; omega
theorem head_to (d : List UInt8) : (headE d).2.1 ≤ 262208 ∧ (headE d).1 ≤ 262208 := by
  unfold headE
  split
  · exact ⟨Nat.zero_le _, Nat.zero_le _⟩
  · split
    · exact ⟨Nat.zero_le _, Nat.zero_le _⟩
    · split
      · exact ⟨Nat.zero_le _, Nat.zero_le _⟩
      · constructor
        · show gN (gR d) ≤ _; omega
        · show gN d ≤ _; omega

section
variable {R : List RO} {O : List Own} {POST : Value → List RO → List Own → Prop}
abbrev rdr (b : Nat) (rest : List UInt8) (e : Int) : Own := rowC b 69 [vs rest, .int .i64 e]
theorem number_ok {b : Nat} {rest : List UInt8} (hs : rest.length ≤ 9223372036854775807) (hk : POST (.int .i64 (gN rest : Nat)) R (rdr b (gR rest) (gX rest) :: O)) : Fun Try.prog 30 #[pself b 0] R (rdr b rest 0 :: O) POST := by
  obtain ⟨g1, g2, g3, g4, _⟩ := g_is rest
  refine Fun.enter (l := [_]) Try.func30 rfl Try.ntmps30 rfl (L0 := [(0, _)]) rfl ?_
  refine WC.seq ?_
  refine WC.region ?_
  refine WL.rd rfl rfl rfl (Rd.assign rfl rfl) ?_
  refine WL.nil ?_
  refine thenQ.normal ?_
  refine WC.seq ?_
  refine WC.seq ?_
  refine WC.region ?_
  refine WL.rd rfl rfl rfl (Rd.move rfl rfl) ?_
  refine WL.rd rfl rfl rfl (Rd.nilc rfl rfl) ?_
  refine WL.rd rfl rfl rfl ((by first | exact Rd.field rfl F69_1 rfl rfl | exact Rd.fieldE rfl F69_1 rfl (by repeat (first | assumption | exact List.mem_cons_self | refine List.mem_cons_of_mem _ ?_)) (by omega) | exact Rd.fieldA rfl F69_1 rfl (by repeat (first | assumption | exact List.mem_cons_self | refine List.mem_cons_of_mem _ ?_)) (by omega))) ?_
  refine WL.rd rfl rfl rfl (Rd.row1 (off := 1) rfl C26 rfl List.mem_cons_self rfl) ?_
  refine WL.rd rfl rfl rfl (Rd.neq rfl rfl rfl) ?_
  refine WL.nil ?_
  refine thenQ.normal ?_
  first | refine WC.ite rfl (fun hc1 => ?_) (fun hc1 => ?_) | refine WC.cond rfl (fun hc1 => ?_) (fun hc1 => ?_)
  · skip
    exact absurd rfl hc1
  · skip
    refine WC.skip ?_
    refine thenQ.normal ?_
    refine WC.seq ?_
    refine WC.region ?_
    refine WL.rd rfl rfl rfl (Rd.move rfl rfl) ?_
    refine WL.rd rfl rfl rfl (Rd.nilc rfl rfl) ?_
    refine WL.rd rfl rfl rfl ((by first | exact Rd.field rfl F69_0 rfl rfl | exact Rd.fieldE rfl F69_0 rfl (by repeat (first | assumption | exact List.mem_cons_self | refine List.mem_cons_of_mem _ ?_)) (by omega) | exact Rd.fieldA rfl F69_0 rfl (by repeat (first | assumption | exact List.mem_cons_self | refine List.mem_cons_of_mem _ ?_)) (by omega))) ?_
    refine WL.rd rfl rfl rfl (Rd.row1 (off := 0) rfl C9 rfl List.mem_cons_self rfl) ?_
    refine WL.op rfl ?_
    refine OpW.call rfl rfl (by repeat (first | exact Evs.nil | apply Evs.cons rfl)) (by kernel_rfl) rfl rfl rfl ?_
    refine get_spec hs ?_; rw [g1, g2, g3]
    refine WL.rd rfl rfl rfl (Rd.move rfl rfl) ?_
    refine WL.rd rfl rfl rfl (Rd.extract rfl rfl rfl) ?_
    refine WL.rd rfl rfl rfl (Rd.extract rfl rfl rfl) ?_
    refine WL.rd rfl rfl rfl (Rd.extract rfl rfl rfl) ?_
    refine WL.rd rfl rfl rfl (Rd.assign rfl rfl) ?_
    refine WL.rd rfl rfl rfl (Rd.assign rfl rfl) ?_
    refine WL.rd rfl rfl rfl (Rd.assign rfl rfl) ?_
    refine WL.nil ?_
    refine thenQ.normal ?_
    refine WC.seq ?_
    refine WC.drawn (O) 15 rfl mixed ?_
    refine WD.take 0 rfl (by kernel_rfl) (Held.mk' (by repeat (first | exact SubL.refl | refine SubL.cons (by repeat (first | assumption | exact List.mem_cons_self | refine List.mem_cons_of_mem _ ?_)) ?_ | refine SubL.skip ?_)) (by repeat (first | exact OwnL.refl | apply OwnL.take (by repeat (first | exact Take.head _ | apply Take.tail)) | apply OwnL.drop))) rfl rfl rfl (Rd.move rfl rfl) ?_
    refine WD.take 1 rfl (by kernel_rfl) (Held.mk' (by repeat (first | exact SubL.refl | refine SubL.cons (by repeat (first | assumption | exact List.mem_cons_self | refine List.mem_cons_of_mem _ ?_)) ?_ | refine SubL.skip ?_)) (by repeat (first | exact OwnL.refl | apply OwnL.take (by repeat (first | exact Take.head _ | apply Take.tail)) | apply OwnL.drop))) rfl rfl rfl (Rd.move rfl rfl) ?_
    refine WD.take 2 rfl (by kernel_rfl) (Held.mk' (by repeat (first | exact SubL.refl | refine SubL.cons (by repeat (first | assumption | exact List.mem_cons_self | refine List.mem_cons_of_mem _ ?_)) ?_ | refine SubL.skip ?_)) (by repeat (first | exact OwnL.refl | apply OwnL.take (by repeat (first | exact Take.head _ | apply Take.tail)) | apply OwnL.drop))) rfl rfl rfl (Rd.move rfl rfl) ?_
    refine WD.take 3 rfl (by kernel_rfl) (Held.mk' (by repeat (first | exact SubL.refl | refine SubL.cons (by repeat (first | assumption | exact List.mem_cons_self | refine List.mem_cons_of_mem _ ?_)) ?_ | refine SubL.skip ?_)) (by repeat (first | exact OwnL.refl | apply OwnL.take (by repeat (first | exact Take.head _ | apply Take.tail)) | apply OwnL.drop))) rfl rfl rfl (Rd.move rfl rfl) ?_
    refine WD.take 4 rfl (by kernel_rfl) (Held.mk' (by repeat (first | exact SubL.refl | refine SubL.cons (by repeat (first | assumption | exact List.mem_cons_self | refine List.mem_cons_of_mem _ ?_)) ?_ | refine SubL.skip ?_)) (by repeat (first | exact OwnL.refl | apply OwnL.take (by repeat (first | exact Take.head _ | apply Take.tail)) | apply OwnL.drop))) rfl rfl rfl (Rd.nilc rfl rfl) ?_
    refine WD.take 5 rfl (by kernel_rfl) (Held.mk' (by repeat (first | exact SubL.refl | refine SubL.cons (by repeat (first | assumption | exact List.mem_cons_self | refine List.mem_cons_of_mem _ ?_)) ?_ | refine SubL.skip ?_)) (by repeat (first | exact OwnL.refl | apply OwnL.take (by repeat (first | exact Take.head _ | apply Take.tail)) | apply OwnL.drop))) rfl rfl rfl ((by first | exact Rd.field rfl F69_0 rfl rfl | exact Rd.fieldE rfl F69_0 rfl (by repeat (first | assumption | exact List.mem_cons_self | refine List.mem_cons_of_mem _ ?_)) (by omega) | exact Rd.fieldA rfl F69_0 rfl (by repeat (first | assumption | exact List.mem_cons_self | refine List.mem_cons_of_mem _ ?_)) (by omega))) ?_
    refine WD.take 7 rfl (by kernel_rfl) (Held.mk' (by repeat (first | exact SubL.refl | refine SubL.cons (by repeat (first | assumption | exact List.mem_cons_self | refine List.mem_cons_of_mem _ ?_)) ?_ | refine SubL.skip ?_)) (by repeat (first | exact OwnL.refl | apply OwnL.take (by repeat (first | exact Take.head _ | apply Take.tail)) | apply OwnL.drop))) rfl rfl rfl (Rd.move rfl rfl) ?_
    refine WD.one 6 rfl (by kernel_rfl) rfl ?_
    refine OpW.rd rfl rfl (Rd.row1 (off := 0) rfl C9 rfl List.mem_cons_self rfl) ?_
    refine ⟨(Held.mk' (by repeat (first | exact SubL.refl | refine SubL.cons (by repeat (first | assumption | exact List.mem_cons_self | refine List.mem_cons_of_mem _ ?_)) ?_ | refine SubL.skip ?_)) (by repeat (first | exact OwnL.refl | apply OwnL.take (by repeat (first | exact Take.head _ | apply Take.tail)) | apply OwnL.drop))), ?_⟩
    refine WD.take 8 rfl (by kernel_rfl) (Held.mk' (by repeat (first | exact SubL.refl | refine SubL.cons (by repeat (first | assumption | exact List.mem_cons_self | refine List.mem_cons_of_mem _ ?_)) ?_ | refine SubL.skip ?_)) (by repeat (first | exact OwnL.refl | apply OwnL.take (by repeat (first | exact Take.head _ | apply Take.tail)) | apply OwnL.drop))) rfl rfl rfl (Rd.scut_l (lo := gK rest) rfl Try.underlying9 rfl rfl rfl g4) ?_
    refine WD.take 9 rfl (by kernel_rfl) (Held.mk' (by repeat (first | exact SubL.refl | refine SubL.cons (by repeat (first | assumption | exact List.mem_cons_self | refine List.mem_cons_of_mem _ ?_)) ?_ | refine SubL.skip ?_)) (by repeat (first | exact OwnL.refl | apply OwnL.take (by repeat (first | exact Take.head _ | apply Take.tail)) | apply OwnL.drop))) rfl rfl rfl (Rd.nilc rfl rfl) ?_
    refine WD.take 10 rfl (by kernel_rfl) (Held.mk' (by repeat (first | exact SubL.refl | refine SubL.cons (by repeat (first | assumption | exact List.mem_cons_self | refine List.mem_cons_of_mem _ ?_)) ?_ | refine SubL.skip ?_)) (by repeat (first | exact OwnL.refl | apply OwnL.take (by repeat (first | exact Take.head _ | apply Take.tail)) | apply OwnL.drop))) rfl rfl rfl ((by first | exact Rd.field rfl F69_1 rfl rfl | exact Rd.fieldE rfl F69_1 rfl (by repeat (first | assumption | exact List.mem_cons_self | refine List.mem_cons_of_mem _ ?_)) (by omega) | exact Rd.fieldA rfl F69_1 rfl (by repeat (first | assumption | exact List.mem_cons_self | refine List.mem_cons_of_mem _ ?_)) (by omega))) ?_
    refine WD.one 11 rfl (by kernel_rfl) rfl ?_
    refine OpW.store1 rfl Z26 rfl rfl (by first | exact ⟨rfl, rfl⟩ | assumption) (by repeat (first | assumption | exact Take.head _ | apply Take.tail)) (by first | (simp; done) | omega | exact of_decide_eq_true rfl | (simp only [List.length_append, List.length_replicate, List.length_map, List.length_set]; omega)) rfl ?_
    refine ⟨(Held.mk' (by repeat (first | exact SubL.refl | refine SubL.cons (by repeat (first | assumption | exact List.mem_cons_self | refine List.mem_cons_of_mem _ ?_)) ?_ | refine SubL.skip ?_)) (by repeat (first | exact OwnL.refl | apply OwnL.take (by repeat (first | exact Take.head _ | apply Take.tail)) | apply OwnL.drop))), ?_⟩
    refine WD.take 12 rfl (by kernel_rfl) (Held.mk' (by repeat (first | exact SubL.refl | refine SubL.cons (by repeat (first | assumption | exact List.mem_cons_self | refine List.mem_cons_of_mem _ ?_)) ?_ | refine SubL.skip ?_)) (by repeat (first | exact OwnL.refl | apply OwnL.take (by repeat (first | exact Take.head _ | apply Take.tail)) | apply OwnL.drop))) rfl rfl rfl (Rd.nilc rfl rfl) ?_
    refine WD.take 13 rfl (by kernel_rfl) (Held.mk' (by repeat (first | exact SubL.refl | refine SubL.cons (by repeat (first | assumption | exact List.mem_cons_self | refine List.mem_cons_of_mem _ ?_)) ?_ | refine SubL.skip ?_)) (by repeat (first | exact OwnL.refl | apply OwnL.take (by repeat (first | exact Take.head _ | apply Take.tail)) | apply OwnL.drop))) rfl rfl rfl ((by first | exact Rd.field rfl F69_0 rfl rfl | exact Rd.fieldE rfl F69_0 rfl (by repeat (first | assumption | exact List.mem_cons_self | refine List.mem_cons_of_mem _ ?_)) (by omega) | exact Rd.fieldA rfl F69_0 rfl (by repeat (first | assumption | exact List.mem_cons_self | refine List.mem_cons_of_mem _ ?_)) (by omega))) ?_
    refine WD.one 14 rfl (by kernel_rfl) rfl ?_
    refine OpW.store1 rfl Z9 rfl rfl (by first | exact ⟨rfl, rfl⟩ | assumption) (by repeat (first | assumption | exact Take.head _ | apply Take.tail)) (by first | (simp; done) | omega | exact of_decide_eq_true rfl | (simp only [List.length_append, List.length_replicate, List.length_map, List.length_set]; omega)) rfl ?_
    refine ⟨(Held.mk' (by repeat (first | exact SubL.refl | refine SubL.cons (by repeat (first | assumption | exact List.mem_cons_self | refine List.mem_cons_of_mem _ ?_)) ?_ | refine SubL.skip ?_)) (by repeat (first | exact OwnL.refl | apply OwnL.take (by repeat (first | exact Take.head _ | apply Take.tail)) | apply OwnL.drop))), ?_⟩
    refine WD.done (by kernel_rfl) ?_
    refine thenQ.normal ?_
    refine WC.seq ?_
    refine WC.region ?_
    refine WL.rd rfl rfl rfl (Rd.move rfl rfl) ?_
    refine WL.rd rfl rfl rfl (Rd.assign rfl rfl) ?_
    refine WL.nil ?_
    refine thenQ.normal ?_
    -- ret_1
    refine WC.ret (Ret.one Try.results30 rfl ?_)
    exact hk
theorem number_err {b : Nat} {rest : List UInt8} {e : Int} (he : e ≠ 0) (hk : POST (.int .i64 0) R (rdr b rest e :: O)) : Fun Try.prog 30 #[pself b 0] R (rdr b rest e :: O) POST := by
  refine Fun.enter (l := [_]) Try.func30 rfl Try.ntmps30 rfl (L0 := [(0, _)]) rfl ?_
  refine WC.seq ?_
  refine WC.region ?_
  refine WL.rd rfl rfl rfl (Rd.assign rfl rfl) ?_
  refine WL.nil ?_
  refine thenQ.normal ?_
  refine WC.seq ?_
  refine WC.seq ?_
  refine WC.region ?_
  refine WL.rd rfl rfl rfl (Rd.move rfl rfl) ?_
  refine WL.rd rfl rfl rfl (Rd.nilc rfl rfl) ?_
  refine WL.rd rfl rfl rfl ((by first | exact Rd.field rfl F69_1 rfl rfl | exact Rd.fieldE rfl F69_1 rfl (by repeat (first | assumption | exact List.mem_cons_self | refine List.mem_cons_of_mem _ ?_)) (by omega) | exact Rd.fieldA rfl F69_1 rfl (by repeat (first | assumption | exact List.mem_cons_self | refine List.mem_cons_of_mem _ ?_)) (by omega))) ?_
  refine WL.rd rfl rfl rfl (Rd.row1 (off := 1) rfl C26 rfl List.mem_cons_self rfl) ?_
  refine WL.rd rfl rfl rfl (Rd.neq rfl rfl rfl) ?_
  refine WL.nil ?_
  refine thenQ.normal ?_
  first | refine WC.ite rfl (fun hc1 => ?_) (fun hc1 => ?_) | refine WC.cond rfl (fun hc1 => ?_) (fun hc1 => ?_)
  · skip
    refine WC.seq ?_
    refine WC.region ?_
    refine WL.rd rfl rfl rfl (Rd.assign rfl rfl) ?_
    refine WL.nil ?_
    refine thenQ.normal ?_
    -- ret_1
    refine WC.ret (Ret.one Try.results30 rfl ?_)
    exact hk
  · skip
    exact absurd he hc1
set_option maxHeartbeats 1000000 in
theorem head_spec {d : List UInt8} (hs : d.length ≤ 9223372036854775807) (hk : POST (.tuple #[.int .i64 ((headE d).1 : Nat), .int .i64 ((headE d).2.1 : Nat), vs (headE d).2.2.1, .int .i64 (headE d).2.2.2]) R O) : Fun Try.prog 22 #[vs d] R O POST := by
  have hl := gR_len d
  obtain ⟨_, _, _, _, _, _, gd⟩ := g_is d
  by_cases h1 : gX d ≠ 0
  · have e : headE d = (0, 0, [], gX d) := if_pos h1
    rw [e] at hk
    refine Fun.enter (l := [_]) Try.func22 rfl Try.ntmps22 rfl (L0 := [(0, _)]) rfl ?_
    refine WC.seq ?_
    refine WC.region ?_
    refine WL.rd rfl rfl rfl (Rd.assign rfl rfl) ?_
    refine WL.rd rfl rfl rfl (Rd.assign rfl rfl) ?_
    refine WL.rd rfl rfl rfl (Rd.assign rfl rfl) ?_
    refine WL.rd rfl rfl rfl (Rd.assign rfl rfl) ?_
    refine WL.nil ?_
    refine thenQ.normal ?_
    refine WC.seq ?_
    refine WC.region ?_
    refine WL.rd rfl rfl rfl (Rd.move rfl rfl) ?_
    refine WL.rd rfl rfl rfl (Rd.buildN (ps := [(0, _)]) rfl Bs69 I69 rfl (by repeat (first | exact Evs.nil | apply Evs.cons rfl)) (by repeat (first | exact CellsOf.nil | apply CellsOf.cons rfl)) (by apply NFo.mk; repeat (first | exact NF.nil | apply NF.cons))) ?_
    refine WL.op rfl ?_
    refine OpW.box rfl rfl (by repeat (first | exact NF.nil | apply NF.cons)) rfl rfl ?_; intro b11
    refine WL.rd rfl rfl rfl (Rd.assign rfl rfl) ?_
    refine WL.nil ?_
    refine thenQ.normal ?_
    refine WC.seq ?_
    refine WC.region ?_
    refine WL.rd rfl rfl rfl (Rd.move rfl rfl) ?_
    refine WL.op rfl ?_
    refine OpW.call rfl rfl (by repeat (first | exact Evs.nil | apply Evs.cons rfl)) (by kernel_rfl) rfl rfl rfl ?_
    refine number_ok hs ?_
    refine WL.rd rfl rfl rfl (Rd.assign rfl rfl) ?_
    refine WL.nil ?_
    refine thenQ.normal ?_
    refine WC.seq ?_
    refine WC.region ?_
    refine WL.rd rfl rfl rfl (Rd.move rfl rfl) ?_
    refine WL.op rfl ?_
    refine OpW.call rfl rfl (by repeat (first | exact Evs.nil | apply Evs.cons rfl)) (by kernel_rfl) rfl rfl rfl ?_
    refine number_err h1 ?_
    refine WL.rd rfl rfl rfl (Rd.assign rfl rfl) ?_
    refine WL.nil ?_
    refine thenQ.normal ?_
    refine WC.seq ?_
    refine WC.block ?_
    refine WC.seq ?_
    refine WC.region ?_
    refine WL.rd rfl rfl rfl (Rd.move rfl rfl) ?_
    refine WL.rd rfl rfl rfl (Rd.nilc rfl rfl) ?_
    refine WL.rd rfl rfl rfl ((by first | exact Rd.field rfl F69_1 rfl rfl | exact Rd.fieldE rfl F69_1 rfl (by repeat (first | assumption | exact List.mem_cons_self | refine List.mem_cons_of_mem _ ?_)) (by omega) | exact Rd.fieldA rfl F69_1 rfl (by repeat (first | assumption | exact List.mem_cons_self | refine List.mem_cons_of_mem _ ?_)) (by omega))) ?_
    refine WL.rd rfl rfl rfl (Rd.row1 (off := 1) rfl C26 rfl List.mem_cons_self rfl) ?_
    refine WL.rd rfl rfl rfl (Rd.neq rfl rfl rfl) ?_
    refine WL.rd rfl rfl rfl (Rd.assign rfl rfl) ?_
    refine WL.nil ?_
    refine thenQ.normal ?_
    first | refine WC.ite rfl (fun hc1 => ?_) (fun hc1 => ?_) | refine WC.cond rfl (fun hc1 => ?_) (fun hc1 => ?_)
    · skip
      refine WC.seq ?_
      refine WC.still mixed (by kernel_rfl) ?_
      refine WA.rd rfl rfl rfl (Rd.move rfl rfl) ?_
      refine WA.rd rfl rfl rfl (Rd.nilc rfl rfl) ?_
      refine WA.rd rfl rfl rfl ((by first | exact Rd.field rfl F69_1 rfl rfl | exact Rd.fieldE rfl F69_1 rfl (by repeat (first | assumption | exact List.mem_cons_self | refine List.mem_cons_of_mem _ ?_)) (by omega) | exact Rd.fieldA rfl F69_1 rfl (by repeat (first | assumption | exact List.mem_cons_self | refine List.mem_cons_of_mem _ ?_)) (by omega))) ?_
      refine WA.rd rfl rfl rfl (Rd.row1 (off := 1) rfl C26 rfl List.mem_cons_self rfl) ?_
      refine WA.rd rfl rfl rfl (Rd.assign rfl rfl) ?_
      refine WA.rd rfl rfl rfl (Rd.assign rfl rfl) ?_
      refine WA.rd rfl rfl rfl (Rd.assign rfl rfl) ?_
      refine WA.rd rfl rfl rfl (Rd.assign rfl rfl) ?_
      refine WA.nil ?_
      refine thenQ.normal ?_
      -- ret_1
      refine WC.heap (R' := R) (O' := O) (fun w h => OwnL.sat (by repeat (first | exact OwnL.refl | apply OwnL.take (by repeat (first | exact Take.head _ | apply Take.tail)) | apply OwnL.drop)) w (h.thin (SubL.mem (by repeat (first | exact SubL.refl | refine SubL.cons (by repeat (first | assumption | exact List.mem_cons_self | refine List.mem_cons_of_mem _ ?_)) ?_ | refine SubL.skip ?_))))) ?_
      refine WC.ret (Ret.four Try.results22 rfl rfl rfl rfl ?_)
      exact hk
    · skip
      exact absurd h1 hc1
  · skip
    refine Fun.enter (l := [_]) Try.func22 rfl Try.ntmps22 rfl (L0 := [(0, _)]) rfl ?_
    refine WC.seq ?_
    refine WC.region ?_
    refine WL.rd rfl rfl rfl (Rd.assign rfl rfl) ?_
    refine WL.rd rfl rfl rfl (Rd.assign rfl rfl) ?_
    refine WL.rd rfl rfl rfl (Rd.assign rfl rfl) ?_
    refine WL.rd rfl rfl rfl (Rd.assign rfl rfl) ?_
    refine WL.nil ?_
    refine thenQ.normal ?_
    refine WC.seq ?_
    refine WC.region ?_
    refine WL.rd rfl rfl rfl (Rd.move rfl rfl) ?_
    refine WL.rd rfl rfl rfl (Rd.buildN (ps := [(0, _)]) rfl Bs69 I69 rfl (by repeat (first | exact Evs.nil | apply Evs.cons rfl)) (by repeat (first | exact CellsOf.nil | apply CellsOf.cons rfl)) (by apply NFo.mk; repeat (first | exact NF.nil | apply NF.cons))) ?_
    refine WL.op rfl ?_
    refine OpW.box rfl rfl (by repeat (first | exact NF.nil | apply NF.cons)) rfl rfl ?_; intro b11
    refine WL.rd rfl rfl rfl (Rd.assign rfl rfl) ?_
    refine WL.nil ?_
    refine thenQ.normal ?_
    refine WC.seq ?_
    refine WC.region ?_
    refine WL.rd rfl rfl rfl (Rd.move rfl rfl) ?_
    refine WL.op rfl ?_
    refine OpW.call rfl rfl (by repeat (first | exact Evs.nil | apply Evs.cons rfl)) (by kernel_rfl) rfl rfl rfl ?_
    refine number_ok hs ?_
    rw [Decidable.not_not.1 h1]
    refine WL.rd rfl rfl rfl (Rd.assign rfl rfl) ?_
    refine WL.nil ?_
    refine thenQ.normal ?_
    refine WC.seq ?_
    refine WC.region ?_
    refine WL.rd rfl rfl rfl (Rd.move rfl rfl) ?_
    refine WL.op rfl ?_
    refine OpW.call rfl rfl (by repeat (first | exact Evs.nil | apply Evs.cons rfl)) (by kernel_rfl) rfl rfl rfl ?_
    refine number_ok (by omega) ?_
    refine WL.rd rfl rfl rfl (Rd.assign rfl rfl) ?_
    refine WL.nil ?_
    refine thenQ.normal ?_
    refine WC.seq ?_
    refine WC.block ?_
    refine WC.seq ?_
    refine WC.region ?_
    refine WL.rd rfl rfl rfl (Rd.move rfl rfl) ?_
    refine WL.rd rfl rfl rfl (Rd.nilc rfl rfl) ?_
    refine WL.rd rfl rfl rfl ((by first | exact Rd.field rfl F69_1 rfl rfl | exact Rd.fieldE rfl F69_1 rfl (by repeat (first | assumption | exact List.mem_cons_self | refine List.mem_cons_of_mem _ ?_)) (by omega) | exact Rd.fieldA rfl F69_1 rfl (by repeat (first | assumption | exact List.mem_cons_self | refine List.mem_cons_of_mem _ ?_)) (by omega))) ?_
    refine WL.rd rfl rfl rfl (Rd.row1 (off := 1) rfl C26 rfl List.mem_cons_self rfl) ?_
    refine WL.rd rfl rfl rfl (Rd.neq rfl rfl rfl) ?_
    refine WL.rd rfl rfl rfl (Rd.assign rfl rfl) ?_
    refine WL.nil ?_
    refine thenQ.normal ?_
    first | refine WC.ite rfl (fun hc1 => ?_) (fun hc1 => ?_) | refine WC.cond rfl (fun hc1 => ?_) (fun hc1 => ?_)
    · skip
      refine WC.seq ?_
      refine WC.still mixed (by kernel_rfl) ?_
      refine WA.rd rfl rfl rfl (Rd.move rfl rfl) ?_
      refine WA.rd rfl rfl rfl (Rd.nilc rfl rfl) ?_
      refine WA.rd rfl rfl rfl ((by first | exact Rd.field rfl F69_1 rfl rfl | exact Rd.fieldE rfl F69_1 rfl (by repeat (first | assumption | exact List.mem_cons_self | refine List.mem_cons_of_mem _ ?_)) (by omega) | exact Rd.fieldA rfl F69_1 rfl (by repeat (first | assumption | exact List.mem_cons_self | refine List.mem_cons_of_mem _ ?_)) (by omega))) ?_
      refine WA.rd rfl rfl rfl (Rd.row1 (off := 1) rfl C26 rfl List.mem_cons_self rfl) ?_
      refine WA.rd rfl rfl rfl (Rd.assign rfl rfl) ?_
      refine WA.rd rfl rfl rfl (Rd.assign rfl rfl) ?_
      refine WA.rd rfl rfl rfl (Rd.assign rfl rfl) ?_
      refine WA.rd rfl rfl rfl (Rd.assign rfl rfl) ?_
      refine WA.nil ?_
      refine thenQ.normal ?_
      -- ret_1
      refine WC.heap (R' := R) (O' := O) (fun w h => OwnL.sat (by repeat (first | exact OwnL.refl | apply OwnL.take (by repeat (first | exact Take.head _ | apply Take.tail)) | apply OwnL.drop)) w (h.thin (SubL.mem (by repeat (first | exact SubL.refl | refine SubL.cons (by repeat (first | assumption | exact List.mem_cons_self | refine List.mem_cons_of_mem _ ?_)) ?_ | refine SubL.skip ?_))))) ?_
      refine WC.ret (Ret.four Try.results22 rfl rfl rfl rfl ?_)
      have e : headE d = (0, 0, [], gX (gR d)) := by unfold headE; rw [if_neg h1, if_pos hc1]
      rw [e] at hk
      exact hk
    · skip
      refine WC.pick [6, 7, 8] (by repeat (first | exact Pick.nil | apply Pick.cons rfl)) ?_
      refine WC.val 26 (.bool (decide (262208 < gN d ∨ 262208 < gN (gR d)))) ?_ ?_
      · skip
        refine WC.region ?_
        refine WL.rd rfl rfl rfl (Rd.move rfl rfl) ?_
        refine WL.rd rfl rfl rfl (Rd.gtr rfl rfl rfl) ?_
        refine WL.rd rfl rfl rfl (Rd.move rfl rfl) ?_
        refine WL.case 29 rfl (fun hg29 => ?_) (fun hg29 => ?_)
        · skip
          refine WL.no rfl rfl rfl rfl rfl rfl ?_
          refine WL.no rfl rfl rfl rfl rfl rfl ?_
          refine WL.rd rfl rfl rfl (Rd.pick_t rfl rfl rfl) ?_
          refine WL.rd rfl rfl rfl (Rd.assign rfl rfl) ?_
          refine WL.nil ?_
          exact ⟨by repeat (first | exact Sub.nil | refine Sub.cons rfl (by first | rfl | (first | exact vb_t (.inl (by omega)) | exact vb ⟨fun h => .inr (by omega), fun h => by omega⟩)) ?_), by first | exact (fun _ h => h.thin (SubL.mem (by repeat (first | exact SubL.refl | refine SubL.cons (by repeat (first | assumption | exact List.mem_cons_self | refine List.mem_cons_of_mem _ ?_)) ?_ | refine SubL.skip ?_)))) | exact (fun w h => OwnL.sat (by repeat (first | exact OwnL.refl | apply OwnL.take (by repeat (first | exact Take.head _ | apply Take.tail)) | apply OwnL.drop)) w (h.thin (SubL.mem (by repeat (first | exact SubL.refl | refine SubL.cons (by repeat (first | assumption | exact List.mem_cons_self | refine List.mem_cons_of_mem _ ?_)) ?_ | refine SubL.skip ?_)))))⟩
        · skip
          refine WL.rd_yes rfl rfl rfl rfl rfl rfl (Rd.move rfl rfl) ?_
          refine WL.rd_yes rfl rfl rfl rfl rfl rfl (Rd.gtr rfl rfl rfl) ?_
          refine WL.rd rfl rfl rfl (Rd.pick_f rfl rfl rfl) ?_
          refine WL.rd rfl rfl rfl (Rd.assign rfl rfl) ?_
          refine WL.nil ?_
          exact ⟨by repeat (first | exact Sub.nil | refine Sub.cons rfl (by first | rfl | (first | exact vb_t (.inl (by omega)) | exact vb ⟨fun h => .inr (by omega), fun h => by omega⟩)) ?_), by first | exact (fun _ h => h.thin (SubL.mem (by repeat (first | exact SubL.refl | refine SubL.cons (by repeat (first | assumption | exact List.mem_cons_self | refine List.mem_cons_of_mem _ ?_)) ?_ | refine SubL.skip ?_)))) | exact (fun w h => OwnL.sat (by repeat (first | exact OwnL.refl | apply OwnL.take (by repeat (first | exact Take.head _ | apply Take.tail)) | apply OwnL.drop)) w (h.thin (SubL.mem (by repeat (first | exact SubL.refl | refine SubL.cons (by repeat (first | assumption | exact List.mem_cons_self | refine List.mem_cons_of_mem _ ?_)) ?_ | refine SubL.skip ?_)))))⟩
      · skip
        first | refine WC.ite rfl (fun hc2 => ?_) (fun hc2 => ?_) | refine WC.cond rfl (fun hc2 => ?_) (fun hc2 => ?_)
        · skip
          refine WC.seq ?_
          refine WC.region ?_
          refine WL.rd rfl rfl rfl (Rd.assign rfl rfl) ?_
          refine WL.rd rfl rfl rfl (Rd.assign rfl rfl) ?_
          refine WL.rd rfl rfl rfl (Rd.assign rfl rfl) ?_
          refine WL.rd rfl rfl rfl (Rd.assign rfl rfl) ?_
          refine WL.nil ?_
          refine thenQ.normal ?_
          -- ret_2
          refine WC.heap (R' := R) (O' := O) (fun w h => OwnL.sat (by repeat (first | exact OwnL.refl | apply OwnL.take (by repeat (first | exact Take.head _ | apply Take.tail)) | apply OwnL.drop)) w (h.thin (SubL.mem (by repeat (first | exact SubL.refl | refine SubL.cons (by repeat (first | assumption | exact List.mem_cons_self | refine List.mem_cons_of_mem _ ?_)) ?_ | refine SubL.skip ?_))))) ?_
          refine WC.ret (Ret.four Try.results22 rfl rfl rfl rfl ?_)
          have e : headE d = (0, 0, [], 6) := by unfold headE; rw [if_neg h1, if_neg hc1, if_pos hc2]
          rw [e] at hk
          exact hk
        · skip
          refine WC.skip ?_
          refine blockQ.normal ?_
          refine thenQ.normal ?_
          refine WC.seq ?_
          refine WC.still mixed (by kernel_rfl) ?_
          refine WA.rd rfl rfl rfl (Rd.move rfl rfl) ?_
          refine WA.rd rfl rfl rfl (Rd.move rfl rfl) ?_
          refine WA.rd rfl rfl rfl (Rd.move rfl rfl) ?_
          refine WA.rd rfl rfl rfl (Rd.nilc rfl rfl) ?_
          refine WA.rd rfl rfl rfl ((by first | exact Rd.field rfl F69_0 rfl rfl | exact Rd.fieldE rfl F69_0 rfl (by repeat (first | assumption | exact List.mem_cons_self | refine List.mem_cons_of_mem _ ?_)) (by omega) | exact Rd.fieldA rfl F69_0 rfl (by repeat (first | assumption | exact List.mem_cons_self | refine List.mem_cons_of_mem _ ?_)) (by omega))) ?_
          refine WA.rd rfl rfl rfl (Rd.row1 (off := 0) rfl C9 rfl List.mem_cons_self rfl) ?_
          refine WA.rd rfl rfl rfl (Rd.assign rfl rfl) ?_
          refine WA.rd rfl rfl rfl (Rd.assign rfl rfl) ?_
          refine WA.rd rfl rfl rfl (Rd.assign rfl rfl) ?_
          refine WA.rd rfl rfl rfl (Rd.assign rfl rfl) ?_
          refine WA.nil ?_
          refine thenQ.normal ?_
          -- ret_3
          refine WC.heap (R' := R) (O' := O) (fun w h => OwnL.sat (by repeat (first | exact OwnL.refl | apply OwnL.take (by repeat (first | exact Take.head _ | apply Take.tail)) | apply OwnL.drop)) w (h.thin (SubL.mem (by repeat (first | exact SubL.refl | refine SubL.cons (by repeat (first | assumption | exact List.mem_cons_self | refine List.mem_cons_of_mem _ ?_)) ?_ | refine SubL.skip ?_))))) ?_
          refine WC.ret (Ret.four Try.results22 rfl rfl rfl rfl ?_)
          have e : headE d = (gN d, gN (gR d), gR (gR d), 0) := by unfold headE; rw [if_neg h1, if_neg hc1, if_neg hc2]
          rw [e] at hk
          exact hk
theorem sizes_spec {d : List UInt8} (hs : d.length ≤ 9223372036854775807) (hk : POST (.tuple #[.int .i64 ((headE d).1 : Nat), .int .i64 ((headE d).2.1 : Nat), .int .i64 (headE d).2.2.2]) R O) : Fun Try.prog 13 #[vs d] R O POST := by
  refine Fun.enter (l := [_]) Try.func13 rfl Try.ntmps13 rfl (L0 := [(0, _)]) rfl ?_
  refine WC.seq ?_
  refine WC.region ?_
  refine WL.rd rfl rfl rfl (Rd.assign rfl rfl) ?_
  refine WL.rd rfl rfl rfl (Rd.assign rfl rfl) ?_
  refine WL.rd rfl rfl rfl (Rd.assign rfl rfl) ?_
  refine WL.nil ?_
  refine thenQ.normal ?_
  refine WC.seq ?_
  refine WC.region ?_
  refine WL.rd rfl rfl rfl (Rd.move rfl rfl) ?_
  refine WL.op rfl ?_
  refine OpW.call rfl rfl (by repeat (first | exact Evs.nil | apply Evs.cons rfl)) (by kernel_rfl) rfl rfl rfl ?_
  refine head_spec hs ?_
  refine WL.rd rfl rfl rfl (Rd.move rfl rfl) ?_
  refine WL.rd rfl rfl rfl (Rd.extract rfl rfl rfl) ?_
  refine WL.rd rfl rfl rfl (Rd.extract rfl rfl rfl) ?_
  refine WL.rd rfl rfl rfl (Rd.extract rfl rfl rfl) ?_
  refine WL.rd rfl rfl rfl (Rd.extract rfl rfl rfl) ?_
  refine WL.rd rfl rfl rfl (Rd.assign rfl rfl) ?_
  refine WL.rd rfl rfl rfl (Rd.assign rfl rfl) ?_
  refine WL.rd rfl rfl rfl (Rd.assign rfl rfl) ?_
  refine WL.rd rfl rfl rfl (Rd.assign rfl rfl) ?_
  refine WL.nil ?_
  refine thenQ.normal ?_
  refine WC.seq ?_
  refine WC.region ?_
  refine WL.rd rfl rfl rfl (Rd.move rfl rfl) ?_
  refine WL.rd rfl rfl rfl (Rd.move rfl rfl) ?_
  refine WL.rd rfl rfl rfl (Rd.move rfl rfl) ?_
  refine WL.rd rfl rfl rfl (Rd.assign rfl rfl) ?_
  refine WL.rd rfl rfl rfl (Rd.assign rfl rfl) ?_
  refine WL.rd rfl rfl rfl (Rd.assign rfl rfl) ?_
  refine WL.nil ?_
  refine thenQ.normal ?_
  -- ret_1
  refine WC.ret (Ret.three Try.results13 rfl rfl rfl ?_)
  exact hk
end
end Go.Proofs.Ytnpnjebogmfdkaa
