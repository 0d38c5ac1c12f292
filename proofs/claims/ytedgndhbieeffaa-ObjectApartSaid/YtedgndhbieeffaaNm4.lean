/-
  Layer 1: Get and Join of the program, and speaks.
-/
import Derived.Test.YtedgndhbieeffaaNm3
namespace Go.Proofs.Ytedgndhbieeffaa
open Go Go.SL

/-- How many bytes stand behind a first byte. -/
def lead (b : UInt8) : Nat := 8 - blen (255 - b.toNat)
def num (n : Nat) (r : List UInt8) : Nat := r.foldl (fun n c => 256 * n + c.toNat) n
def getE : List UInt8 → Int × Int × Int
  | [] => (0, 0, 3)
  | b :: r =>
    if 5 < lead b then (0, 0, 2)
    else if r.length < lead b then (0, 0, 3)
    else if 1099511627776 < num (b.toNat - mask (lead b)) (r.take (lead b)) ∨ more (num (b.toNat - mask (lead b)) (r.take (lead b))) ≠ lead b then (0, 0, 2)
    else (num (b.toNat - mask (lead b)) (r.take (lead b)), lead b + 1, 0)
theorem and_all : ∀ b < 256, 8 - blen (255 - b) ≤ 5 → b &&& (255 / 2 ^ (8 - blen (255 - b))) = b - mask (8 - blen (255 - b)) ∧ mask (8 - blen (255 - b)) ≤ b ∧ b - mask (8 - blen (255 - b)) < 128 := by decide +kernel
theorem and_lead {b : UInt8} (h : lead b ≤ 5) : b.toNat &&& (255 / 2 ^ lead b) = b.toNat - mask (lead b) ∧ mask (lead b) ≤ b.toNat ∧ b.toNat - mask (lead b) < 128 := and_all b.toNat (UInt8.toNat_lt b) h
theorem num_lt : ∀ (r : List UInt8) (n : Nat), num n r < (n + 1) * 256 ^ r.length
  | [], n => by simp [num]
  | c :: r, n => by
    have h := num_lt r (256 * n + c.toNat)
    have hc := UInt8.toNat_lt c
    simp only [num, List.foldl_cons, List.length_cons] at *
    refine Nat.lt_of_lt_of_le h ?_
    rw [Nat.pow_succ, Nat.mul_comm (256 ^ r.length) 256, ← Nat.mul_assoc]
    exact Nat.mul_le_mul_right _ (by omega)
theorem num_snoc {r : List UInt8} {n i : Nat} {c : UInt8} (h : r[i]? = some c) : num n (r.take (i + 1)) = 256 * num n (r.take i) + c.toNat := by
  have : r.take (i + 1) = r.take i ++ [c] := by
    rw [List.take_add_one, h]; rfl
  rw [this, num, List.foldl_append]; rfl

theorem lead_spec {R : List RO} {O : List Own} {POST : Value → List RO → List Own → Prop} {b : UInt8} (hk : POST (.int .i64 (lead b : Nat)) R O) : Fun Try.prog 52 #[.int .u8 ((255 - b.toNat : Nat) : Int)] R O POST :=
  zeros8_spec (by have := UInt8.toNat_lt b; omega) hk
theorem num_small {r : List UInt8} {n i : Nat} (hn : n < 128) (hi : i ≤ 5) : num n (r.take i) < 128 * 256 ^ 5 := by
  have h := num_lt (r.take i) n
  refine Nat.lt_of_lt_of_le h ?_
  refine Nat.mul_le_mul (by omega) (Nat.pow_le_pow_right (by decide) ?_)
  rw [List.length_take]; omega
theorem num_or (a : Nat) (c : UInt8) : a * 2 ^ 8 ||| c.toNat = 256 * a + c.toNat := by
  rw [Nat.mul_comm, ← Nat.two_pow_add_eq_or_of_lt (UInt8.toNat_lt c)]

set_option maxRecDepth 20000 in
set_option maxHeartbeats 1000000 in
theorem get_spec {R : List RO} {O : List Own} {POST : Value → List RO → List Own → Prop} {s : List UInt8} (hs : s.length ≤ 9223372036854775807)
    (hk : POST (.tuple #[.int .i64 (getE s).1, .int .i64 (getE s).2.1, .int .i64 (getE s).2.2]) R O) : Fun Try.prog 46 #[vs s] R O POST := by
  refine Fun.enter (l := [_]) Try.func46 rfl Try.ntmps46 rfl (L0 := [(0, _)]) rfl ?_
  refine WC.seq ?_
  refine WC.region ?_
  refine WL.rd rfl rfl rfl (Rd.assign rfl rfl) ?_
  refine WL.rd rfl rfl rfl (Rd.assign rfl rfl) ?_
  refine WL.rd rfl rfl rfl (Rd.assign rfl rfl) ?_
  refine WL.nil ?_
  refine thenQ.normal ?_
  refine WC.seq ?_
  refine WC.seq ?_
  refine WC.region ?_
  refine WL.rd rfl rfl rfl (Rd.move rfl rfl) ?_
  refine WL.rd rfl rfl rfl (Rd.seql rfl rfl rfl) ?_
  refine WL.nil ?_
  refine thenQ.normal ?_
  first | refine WC.ite rfl (fun hc1 => ?_) (fun hc1 => ?_) | refine WC.cond rfl (fun hc1 => ?_) (fun hc1 => ?_)
  · skip
    obtain rfl : s = [] := by simpa using hc1
    refine WC.seq ?_
    refine WC.region ?_
    refine WL.rd rfl rfl rfl (Rd.assign rfl rfl) ?_
    refine WL.rd rfl rfl rfl (Rd.assign rfl rfl) ?_
    refine WL.rd rfl rfl rfl (Rd.assign rfl rfl) ?_
    refine WL.nil ?_
    refine thenQ.normal ?_
    refine WC.ret (Ret.three Try.results46 rfl rfl rfl ?_)
    exact hk
  · skip
    obtain ⟨b, r, rfl⟩ : ∃ b r, s = b :: r := by
      cases s with
      | nil => exact absurd rfl hc1
      | cons b r => exact ⟨b, r, rfl⟩
    have hb := UInt8.toNat_lt b
    refine WC.skip ?_
    refine thenQ.normal ?_
    refine WC.seq ?_
    refine WC.region ?_
    refine WL.rd rfl rfl rfl (Rd.move rfl rfl) ?_
    refine WL.rd rfl rfl rfl (Rd.sidx (k := 0) rfl Try.underlying9 rfl rfl rfl rfl) ?_
    refine WL.rd rfl rfl rfl (Rd.bnot rfl rfl rfl (UInt8.toNat_lt b)) ?_
    refine WL.op rfl ?_
    refine OpW.call rfl rfl (by repeat (first | exact Evs.nil | apply Evs.cons rfl)) (by kernel_rfl) rfl rfl rfl ?_
    refine lead_spec ?_
    refine WL.rd rfl rfl rfl (Rd.assign rfl rfl) ?_
    refine WL.nil ?_
    refine thenQ.normal ?_
    refine WC.seq ?_
    refine WC.block ?_
    refine WC.seq ?_
    refine WC.region ?_
    refine WL.rd rfl rfl rfl (Rd.move rfl rfl) ?_
    refine WL.rd rfl rfl rfl (Rd.gtr rfl rfl rfl) ?_
    refine WL.rd rfl rfl rfl (Rd.assign rfl rfl) ?_
    refine WL.nil ?_
    refine thenQ.normal ?_
    first | refine WC.ite rfl (fun hc2 => ?_) (fun hc2 => ?_) | refine WC.cond rfl (fun hc2 => ?_) (fun hc2 => ?_)
    · skip
      refine WC.seq ?_
      refine WC.region ?_
      refine WL.rd rfl rfl rfl (Rd.assign rfl rfl) ?_
      refine WL.rd rfl rfl rfl (Rd.assign rfl rfl) ?_
      refine WL.rd rfl rfl rfl (Rd.assign rfl rfl) ?_
      refine WL.nil ?_
      refine thenQ.normal ?_
      refine WC.ret (Ret.three Try.results46 rfl rfl rfl ?_)
      have e : getE (b :: r) = (0, 0, 2) := by rw [getE, if_pos (by omega)]
      rw [e] at hk; exact hk
    · skip
      refine WC.seq ?_
      refine WC.region ?_
      refine WL.rd rfl rfl rfl (Rd.move rfl rfl) ?_
      refine WL.rd rfl rfl rfl (Rd.slen (ts := #[]) (ty := 0) rfl rfl Try.underlying9) ?_
      refine WL.rd rfl rfl rfl (Rd.move rfl rfl) ?_
      refine WL.rd rfl rfl rfl (Rd.leq rfl rfl rfl) ?_
      refine WL.rd rfl rfl rfl (Rd.assign rfl rfl) ?_
      refine WL.nil ?_
      refine thenQ.normal ?_
      first | refine WC.ite rfl (fun hc3 => ?_) (fun hc3 => ?_) | refine WC.cond rfl (fun hc3 => ?_) (fun hc3 => ?_)
      · skip
        refine WC.seq ?_
        refine WC.region ?_
        refine WL.rd rfl rfl rfl (Rd.assign rfl rfl) ?_
        refine WL.rd rfl rfl rfl (Rd.assign rfl rfl) ?_
        refine WL.rd rfl rfl rfl (Rd.assign rfl rfl) ?_
        refine WL.nil ?_
        refine thenQ.normal ?_
        refine WC.ret (Ret.three Try.results46 rfl rfl rfl ?_)
        have e : getE (b :: r) = (0, 0, 3) := by rw [getE, if_neg (by omega), if_pos (by simp at hc3; omega)]
        rw [e] at hk; exact hk
      · skip
        have h5 : lead b ≤ 5 := by omega
        have hr : lead b ≤ r.length := by simp at hc3; omega
        obtain ⟨ha1, ha2, ha3⟩ := and_lead h5
        refine WC.skip ?_
        refine blockQ.normal ?_
        refine thenQ.normal ?_
        refine WC.seq ?_
        refine WC.still mixed (by kernel_rfl) ?_
        refine WA.rd rfl rfl rfl (Rd.move rfl rfl) ?_
        refine WA.rd rfl rfl rfl (Rd.sidx (k := 0) rfl Try.underlying9 rfl rfl rfl rfl) ?_
        refine WA.rd rfl rfl rfl (Rd.move rfl rfl) ?_
        refine WA.rd rfl rfl rfl (Rd.shrN (a := 255) (n := lead b) rfl rfl rfl rfl rfl (by show lead b ≤ 8; omega)) ?_
        refine WA.rd rfl rfl rfl (Rd.andU rfl rfl rfl rfl rfl rfl (UInt8.toNat_lt b) (Nat.lt_of_le_of_lt (Nat.div_le_self _ _) (by decide))) ?_
        refine WA.say 26 (u := .int .u8 ((b.toNat - mask (lead b) : Nat) : Int)) rfl (by rw [ha1]) ?_
        refine WA.rd rfl rfl rfl (Rd.conv rfl rfl Try.underlying3 (wrap_natS (k := .i64) (Nat.lt_of_lt_of_le ha3 (by decide))) (hS := Try.underlying5)) ?_
        refine WA.rd rfl rfl rfl (Rd.assign rfl rfl) ?_
        refine WA.nil ?_
        refine thenQ.normal ?_
        refine WC.seq ?_
        refine WC.seq ?_
        refine WC.region ?_
        refine WL.rd rfl rfl rfl (Rd.assign rfl rfl) ?_
        refine WL.nil ?_
        refine thenQ.normal ?_
        refine WC.block ?_
        refine WC.pick [7, 6, 0, 5] (by repeat (first | exact Pick.nil | apply Pick.cons rfl)) ?_
        refine WC.loop1o 2 (fun (i : Nat) => [(7, .int .i64 ((i : Int) + 1)), (6, .int .i64 ((num (b.toNat - mask (lead b)) (r.take i) : Nat) : Int))]) (fun (i : Nat) => i ≤ lead b) (fun (i : Nat) => lead b - i) (0) (by repeat (first | exact Split.zero | apply Split.succ)) ?hinv1 (by repeat (first | exact Sub.nil | refine Sub.cons rfl (by first | rfl | (congr 1; omega) | assumption) ?_)) (fun _ h => h) ?_
        case hinv1 =>
          exact Nat.zero_le _
        intro i
        rintro h1
        refine WC.seq ?_
        refine WC.seq ?_
        refine WC.region ?_
        refine WL.rd rfl rfl rfl (Rd.move rfl rfl) ?_
        refine WL.rd rfl rfl rfl (Rd.move rfl rfl) ?_
        refine WL.rd rfl rfl rfl (Rd.leq rfl rfl rfl) ?_
        refine WL.nil ?_
        refine thenQ.normal ?_
        first | refine WC.ite rfl (fun hc4 => ?_) (fun hc4 => ?_) | refine WC.cond rfl (fun hc4 => ?_) (fun hc4 => ?_)
        · skip
          have hsm := num_small (r := r) (i := i) ha3 (by omega); have hc := UInt8.toNat_lt r[i]!
          refine WC.skip ?_
          refine thenQ.normal ?_
          refine WC.seq ?_
          refine WC.block ?_
          refine WC.region ?_
          refine WL.rd rfl rfl rfl (Rd.move rfl rfl) ?_
          refine WL.rd rfl rfl rfl (Rd.shlS (n := 8) rfl rfl rfl rfl rfl (by decide) (by omega)) ?_
          refine WL.rd rfl rfl rfl (Rd.move rfl rfl) ?_
          refine WL.rd rfl rfl rfl (Rd.move rfl rfl) ?_
          refine WL.rd rfl rfl rfl (Rd.sidx (k := i + 1) (b := r[i]!) rfl Try.underlying9 rfl rfl (by omega) (by rw [List.getElem?_cons_succ]; exact get!_of_lt (by omega))) ?_
          refine WL.rd rfl rfl rfl (Rd.conv rfl rfl Try.underlying3 (wrap_natS (k := .i64) (Nat.lt_of_lt_of_le hc (by decide))) (hS := Try.underlying5)) ?_
          refine WL.rd rfl rfl rfl (Rd.orS rfl rfl rfl rfl rfl (show _ < 9223372036854775808 by omega) (show _ < 9223372036854775808 by omega)) ?_
          refine WL.say 39 (u := .int .i64 ((num (b.toNat - mask (lead b)) (r.take (i + 1)) : Nat) : Int)) rfl (by rw [num_snoc (get!_of_lt (xs := r) (by omega)), num_or]) ?_
          refine WL.rd rfl rfl rfl (Rd.assign rfl rfl) ?_
          refine WL.nil ?_
          refine blockQ.normal ?_
          refine thenQ.normal ?_
          refine WC.region ?_
          refine WL.rd rfl rfl rfl (Rd.move rfl rfl) ?_
          refine WL.rd rfl rfl rfl (Rd.add rfl rfl rfl (by omega)) ?_
          refine WL.rd rfl rfl rfl (Rd.assign rfl rfl) ?_
          refine WL.nil ?_
          exact loopQ1.mk (i + 1) (by omega) (by omega) (by repeat (first | exact Sub.nil | refine Sub.cons rfl (by first | rfl | (congr 1; omega) | assumption) ?_)) (fun w h => OwnL.sat (by repeat (first | exact OwnL.refl | apply OwnL.take (by repeat (first | exact Take.head _ | apply Take.tail)) | apply OwnL.drop)) w (h.thin (SubL.mem (by repeat (first | exact SubL.refl | refine SubL.cons (by repeat (first | assumption | exact mS | apply mT)) ?_ | refine SubL.skip ?_)))))
        · skip
          obtain rfl : i = lead b := by omega
          have hsm := num_small (r := r) (i := lead b) ha3 h5
          refine WC.exit ?_
          refine thenQ.exit ?_
          refine loopQ1.exit ?_
          refine blockQ.exit ?_
          refine thenQ.normal ?_
          refine WC.seq ?_
          refine WC.pick [5, 6] (by repeat (first | exact Pick.nil | apply Pick.cons rfl)) ?_
          refine WC.val 47 (.bool (decide (1099511627776 < num (b.toNat - mask (lead b)) (r.take (lead b)) ∨ more (num (b.toNat - mask (lead b)) (r.take (lead b))) ≠ lead b))) ?_ ?_
          · skip
            refine WC.region ?_
            refine WL.rd rfl rfl rfl (Rd.move rfl rfl) ?_
            refine WL.rd rfl rfl rfl (Rd.gtr rfl rfl rfl) ?_
            refine WL.rd rfl rfl rfl (Rd.move rfl rfl) ?_
            refine WL.case 42 rfl (fun hg42 => ?_) (fun hg42 => ?_)
            · skip
              refine WL.no rfl rfl rfl rfl rfl rfl ?_
              refine WL.no rfl rfl rfl rfl rfl rfl ?_
              refine WL.no rfl rfl rfl rfl rfl rfl ?_
              refine WL.no rfl rfl rfl rfl rfl rfl ?_
              refine WL.rd rfl rfl rfl (Rd.pick_t rfl rfl rfl) ?_
              refine WL.nil ?_
              exact ⟨by repeat (first | exact Sub.nil | refine Sub.cons rfl (by first | rfl | (first | exact vb_t (.inl (by omega)) | exact vb ⟨fun h => .inr (by omega), fun h => by omega⟩)) ?_), by first | exact (fun _ h => h.thin (SubL.mem (by repeat (first | exact SubL.refl | refine SubL.cons (by repeat (first | assumption | exact mS | apply mT)) ?_ | refine SubL.skip ?_)))) | exact (fun w h => OwnL.sat (by repeat (first | exact OwnL.refl | apply OwnL.take (by repeat (first | exact Take.head _ | apply Take.tail)) | apply OwnL.drop)) w (h.thin (SubL.mem (by repeat (first | exact SubL.refl | refine SubL.cons (by repeat (first | assumption | exact mS | apply mT)) ?_ | refine SubL.skip ?_)))))⟩
            · skip
              refine WL.rd_yes rfl rfl rfl rfl rfl rfl (Rd.move rfl rfl) ?_
              refine WL.op_yes rfl rfl rfl rfl ?_
              refine OpW.call rfl rfl (by repeat (first | exact Evs.nil | apply Evs.cons rfl)) (by kernel_rfl) rfl rfl rfl ?_
              refine behind_spec (by omega) ?_
              refine WL.rd_yes rfl rfl rfl rfl rfl rfl (Rd.move rfl rfl) ?_
              refine WL.rd_yes rfl rfl rfl rfl rfl rfl (Rd.neq rfl rfl rfl) ?_
              refine WL.rd rfl rfl rfl (Rd.pick_f rfl rfl rfl) ?_
              refine WL.nil ?_
              exact ⟨by repeat (first | exact Sub.nil | refine Sub.cons rfl (by first | rfl | (first | exact vb_t (.inl (by omega)) | exact vb ⟨fun h => .inr (by omega), fun h => by omega⟩)) ?_), by first | exact (fun _ h => h.thin (SubL.mem (by repeat (first | exact SubL.refl | refine SubL.cons (by repeat (first | assumption | exact mS | apply mT)) ?_ | refine SubL.skip ?_)))) | exact (fun w h => OwnL.sat (by repeat (first | exact OwnL.refl | apply OwnL.take (by repeat (first | exact Take.head _ | apply Take.tail)) | apply OwnL.drop)) w (h.thin (SubL.mem (by repeat (first | exact SubL.refl | refine SubL.cons (by repeat (first | assumption | exact mS | apply mT)) ?_ | refine SubL.skip ?_)))))⟩
          · skip
            first | refine WC.ite rfl (fun hc5 => ?_) (fun hc5 => ?_) | refine WC.cond rfl (fun hc5 => ?_) (fun hc5 => ?_)
            · skip
              refine WC.seq ?_
              refine WC.region ?_
              refine WL.rd rfl rfl rfl (Rd.assign rfl rfl) ?_
              refine WL.rd rfl rfl rfl (Rd.assign rfl rfl) ?_
              refine WL.rd rfl rfl rfl (Rd.assign rfl rfl) ?_
              refine WL.nil ?_
              refine thenQ.normal ?_
              refine WC.ret (Ret.three Try.results46 rfl rfl rfl ?_)
              have e : getE (b :: r) = (0, 0, 2) := by rw [getE, if_neg (by omega), if_neg (by omega), if_pos hc5]
              rw [e] at hk; exact hk
            · skip
              refine WC.skip ?_
              refine thenQ.normal ?_
              refine WC.seq ?_
              refine WC.region ?_
              refine WL.rd rfl rfl rfl (Rd.move rfl rfl) ?_
              refine WL.rd rfl rfl rfl (Rd.move rfl rfl) ?_
              refine WL.rd rfl rfl rfl (Rd.add rfl rfl rfl (by omega)) ?_
              refine WL.rd rfl rfl rfl (Rd.assign rfl rfl) ?_
              refine WL.rd rfl rfl rfl (Rd.assign rfl rfl) ?_
              refine WL.rd rfl rfl rfl (Rd.assign rfl rfl) ?_
              refine WL.nil ?_
              refine thenQ.normal ?_
              refine WC.ret (Ret.three Try.results46 rfl rfl rfl ?_)
              have e : getE (b :: r) = (((num (b.toNat - mask (lead b)) (r.take (lead b)) : Nat) : Int), (lead b : Int) + 1, (0 : Int)) := by rw [getE, if_neg (by omega), if_neg (by omega), if_neg hc5]
              rw [e] at hk; exact hk
/-- Texts joined. -/
def joinE (l : List (List UInt8)) : List UInt8 := l.flatMap fun s => putI s.length ++ s
theorem joinE_snoc {l : List (List UInt8)} {i : Nat} (h : i < l.length) : joinE (l.take (i + 1)) = (joinE (l.take i) ++ putI (l[i]!.length : Nat)) ++ l[i]! := by
  rw [List.take_add_one, get!_of_lt h, joinE, joinE, List.flatMap_append, List.append_assoc]
  simp
theorem joinE_take_le (l : List (List UInt8)) (i : Nat) : (joinE (l.take i)).length ≤ (joinE l).length := by
  have h : joinE l = joinE (l.take i) ++ joinE (l.drop i) := by
    rw [joinE, joinE, joinE, ← List.flatMap_append, List.take_append_drop]
  rw [h, List.length_append]; omega
set_option maxRecDepth 20000 in
set_option maxHeartbeats 1000000 in
theorem join_spec {R : List RO} {O : List Own} {POST : Value → List RO → List Own → Prop} {l : List (List UInt8)} {lv : Value} (hl : SlE (one vs) lv l ∈ R) (hj : (joinE l).length ≤ 140737488355328) (hk : POST (vs (joinE l)) R O) : Fun Try.prog 18 #[lv] R O POST := by
  refine Fun.len hl fun hll => ?_
  refine Fun.enter (l := [_]) Try.func18 rfl Try.ntmps18 rfl (L0 := [(0, _)]) rfl ?_
  refine WC.seq ?_
  refine WC.region ?_
  refine WL.rd rfl rfl rfl (Rd.assign rfl rfl) ?_
  refine WL.nil ?_
  refine thenQ.normal ?_
  refine WC.seq ?_
  refine WC.region ?_
  refine WL.op rfl ?_
  refine OpW.alloc rfl I77 rfl (by repeat (first | exact NF.nil | apply NF.cons)) rfl rfl ?_; intro b3
  refine WL.nil ?_
  refine thenQ.normal ?_
  refine WC.seq ?_
  refine WC.seq ?_
  refine WC.heap (fun w h => (h.accNil (α := UInt8) (e := 5) (size := 1) (enc := one vy)).swap) ?_
  refine WC.region ?_
  refine WL.rd rfl rfl rfl (Rd.move rfl rfl) ?_
  refine WL.rd rfl rfl rfl ((by first | exact Rd.lenE rfl rfl Try.underlying23 (by repeat (first | assumption | exact mS | apply mT)) | exact Rd.lenA rfl rfl Try.underlying23 (by repeat (first | assumption | exact mS | apply mT)) | exact Rd.len rfl rfl Try.underlying23)) ?_
  refine WL.rd rfl rfl rfl (Rd.move rfl rfl) ?_
  refine WL.nil ?_
  refine thenQ.normal ?_
  refine WC.block ?_
  refine WC.pick [8, 3, 6, 7] (by repeat (first | exact Pick.nil | apply Pick.cons rfl)) ?_
  refine WC.loop3 1 (fun (i : Nat) (p : Value) (v : Value) => [(8, .int .i64 (i : Int))]) (fun (i : Nat) (p : Value) (v : Value) => rowC b3 77 [p, v] :: accC 5 1 (one vy) v (joinE (l.take i)) :: O) (fun (i : Nat) (p : Value) (v : Value) => i ≤ l.length ∧ (p = .pointer none ∨ p = .pointer (some ⟨b3, 0, none⟩)) ∧ OneV v) (fun (i : Nat) (p : Value) (v : Value) => l.length - i) (0) (_) (_) (by repeat (first | exact Split.zero | apply Split.succ)) ?hinv1 (by repeat (first | exact Sub.nil | refine Sub.cons rfl (by first | rfl | (congr 1; omega) | assumption) ?_)) (fun _ h => h) ?_
  case hinv1 =>
    exact ⟨Nat.zero_le _, .inl rfl, OneV.sl⟩
  intro i p v
  rintro ⟨h1, h2, h3⟩
  refine WC.seq ?_
  refine WC.region ?_
  refine WL.rd rfl rfl rfl (Rd.lss rfl rfl rfl) ?_
  refine WL.nil ?_
  refine thenQ.normal ?_
  refine WC.seq ?_
  first | refine WC.ite rfl (fun hc1 => ?_) (fun hc1 => ?_) | refine WC.cond rfl (fun hc1 => ?_) (fun hc1 => ?_)
  · skip
    have hjs := joinE_take_le l (i + 1)
    have hje := congrArg List.length (joinE_snoc (l := l) (i := i) (by omega))
    rw [List.length_append, List.length_append] at hje
    refine WC.skip ?_
    refine thenQ.normal ?_
    refine WC.seq ?_
    refine WC.block ?_
    refine WC.seq ?_
    refine WC.region ?_
    refine WL.rd rfl rfl rfl ((by first | exact Rd.idx1 (k := i) rfl S23 rfl rfl (by omega) (by repeat (first | assumption | exact mS | apply mT)) (by first | omega | (simp only [List.length_cons, List.length_nil, List.length_append, List.length_map]; omega)) | exact Rd.idxA1 (k := i) rfl S23 rfl rfl (by omega) (by repeat (first | assumption | exact mS | apply mT)) (by first | omega | (simp only [List.length_cons, List.length_nil, List.length_append, List.length_map]; omega)) | exact Rd.idxR1 (k := i) rfl S23 rfl rfl (by omega) (by omega))) ?_
    refine WL.rd rfl rfl rfl ((by first | exact Rd.get rfl C9 rfl (by repeat (first | assumption | exact mS | apply mT)) (by first | assumption | rfl | exact get!_of_lt (by omega)) | exact Rd.getA rfl C9 rfl (by repeat (first | assumption | exact mS | apply mT)) (by first | assumption | rfl | exact get!_of_lt (by omega)) | exact Rd.row1 rfl C9 rfl (by repeat (first | assumption | exact mS | apply mT)) (by rfl) | exact Rd.getF rfl C9 rfl (by repeat (first | assumption | exact mS | apply mT)) (by intro x; first | rfl | (cases x; rfl) | (rcases x with ⟨_, _, _⟩; rfl) | (rcases x with ⟨_, _, _, _⟩; rfl)) rfl (by first | assumption | rfl | exact get!_of_lt (by omega)) (by rfl) | exact Rd.getFA rfl C9 rfl (by repeat (first | assumption | exact mS | apply mT)) (by intro x; first | rfl | (cases x; rfl) | (rcases x with ⟨_, _, _⟩; rfl) | (rcases x with ⟨_, _, _, _⟩; rfl)) rfl (by first | assumption | rfl | exact get!_of_lt (by omega)) (by rfl))) ?_
    refine WL.rd rfl rfl rfl (Rd.assign rfl rfl) ?_
    refine WL.nil ?_
    refine thenQ.normal ?_
    refine WC.seq ?_
    refine WC.region ?_
    refine WL.rd rfl rfl rfl (Rd.move rfl rfl) ?_
    refine WL.rd rfl rfl rfl (Rd.slen (ts := #[]) (ty := 0) rfl rfl Try.underlying9) ?_
    refine WL.op rfl ?_
    refine OpW.call rfl rfl (by repeat (first | exact Evs.nil | apply Evs.cons rfl)) (by kernel_rfl) rfl rfl rfl ?_
    refine put_spec ?_
    refine WL.op rfl ?_
    refine OpW.call rfl rfl (by repeat (first | exact Evs.nil | apply Evs.cons rfl)) (by kernel_rfl) rfl rfl rfl ?_
    refine writeString_spec h2 (by omega) ?_; intro v15 hv15
    refine WL.nil ?_
    refine thenQ.normal ?_
    refine WC.region ?_
    refine WL.rd rfl rfl rfl (Rd.move rfl rfl) ?_
    refine WL.op rfl ?_
    refine OpW.call rfl rfl (by repeat (first | exact Evs.nil | apply Evs.cons rfl)) (by kernel_rfl) rfl rfl rfl ?_
    refine writeString_spec (.inr rfl) (by rw [List.length_append]; omega) ?_; intro v17 hv17
    refine WL.nil ?_
    refine blockQ.normal ?_
    refine thenQ.normal ?_
    refine WC.region ?_
    refine WL.rd rfl rfl rfl (Rd.add rfl rfl rfl (by omega)) ?_
    refine WL.rd rfl rfl rfl (Rd.move rfl rfl) ?_
    refine WL.nil ?_
    exact loopQ3.mk (i + 1) (.pointer (some ⟨b3, 0, none⟩)) v17 ⟨by omega, .inr rfl, hv17⟩ (by omega) (by repeat (first | exact Sub.nil | refine Sub.cons rfl (by first | rfl | (congr 1; omega) | assumption) ?_)) (fun w h => by rw [joinE_snoc (by omega)]; exact h)
  · skip
    refine WC.exit ?_
    refine thenQ.exit ?_
    refine loopQ3.exit ?_
    refine blockQ.exit ?_
    refine thenQ.normal ?_
    refine WC.seq ?_
    have hi : l.take i = l := List.take_of_length_le (by omega)
    rw [hi]
    refine WC.region ?_
    refine WL.op rfl ?_
    refine OpW.call rfl rfl (by repeat (first | exact Evs.nil | apply Evs.cons rfl)) (by kernel_rfl) rfl rfl rfl ?_
    refine builderString_spec h3 ?_
    refine WL.rd rfl rfl rfl (Rd.assign rfl rfl) ?_
    refine WL.nil ?_
    refine thenQ.normal ?_
    refine WC.ret (Ret.one Try.results18 rfl ?_)
    exact hk

end Go.Proofs.Ytedgndhbieeffaa
