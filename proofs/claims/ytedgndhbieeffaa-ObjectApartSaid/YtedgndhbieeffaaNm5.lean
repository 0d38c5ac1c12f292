/-
  Layer 1: the document's Get, both Next, and NumsGets.
-/
import Derived.Test.YtedgndhbieeffaaNm4
namespace Go.Proofs.Ytedgndhbieeffaa
open Go Go.SL

theorem bit_all : ∀ b < 256, ∀ k < 8, k ≤ 8 - blen (255 - b) → ((b / 2 ^ (7 - k)) &&& 1 = 1 ↔ k < 8 - blen (255 - b)) := by decide +kernel
theorem bit_lead {b : UInt8} {k : Nat} (h8 : k < 8) (h : k ≤ lead b) : (b.toNat / 2 ^ (7 - k)) &&& 1 = 1 ↔ k < lead b := bit_all b.toNat (UInt8.toNat_lt b) k h8 h
theorem lead_le (b : UInt8) : lead b ≤ 8 := Nat.sub_le _ _
theorem num_parts : ∀ (r : List UInt8) (n : Nat), num n r / 256 ^ r.length = n ∧ beb r.length (num n r) = r
  | [], n => by simp [num, beb]
  | c :: r, n => by
    have h := num_parts r (256 * n + c.toNat)
    have hc := UInt8.toNat_lt c
    have e : num n (c :: r) = num (256 * n + c.toNat) r := rfl
    rw [e, List.length_cons, Nat.pow_succ, ← Nat.div_div_eq_div_mul, h.1]
    refine ⟨by omega, ?_⟩
    rw [beb, h.1, h.2]
    congr 1
    rw [show (256 * n + c.toNat) % 256 = c.toNat from by omega]
    simp
theorem put_take {b : UInt8} {r : List UInt8} (h5 : lead b ≤ 5) (hr : lead b ≤ r.length) : putI (num (b.toNat - mask (lead b)) (r.take (lead b)) : Nat) = (b :: r).take (lead b + 1) ↔ ¬ (1099511627776 < num (b.toNat - mask (lead b)) (r.take (lead b)) ∨ more (num (b.toNat - mask (lead b)) (r.take (lead b))) ≠ lead b) := by
  have ht : (r.take (lead b)).length = lead b := by rw [List.length_take]; omega
  have hp := num_parts (r.take (lead b)) (b.toNat - mask (lead b))
  obtain ⟨_, hm, _⟩ := and_lead h5
  rw [ht] at hp
  generalize num (b.toNat - mask (lead b)) (r.take (lead b)) = N at *
  unfold putI
  rw [List.take_succ_cons]
  constructor
  · intro h
    split at h
    · cases h
    · next h1 =>
      have h2 := congrArg List.length h
      rw [Int.toNat_natCast, putE_length, List.length_cons, ht] at h2
      omega
  · intro h
    rw [not_or, Decidable.not_not] at h
    rw [if_neg (by omega), Int.toNat_natCast, putE, h.2, hp.1, hp.2]
    congr 1
    rw [show b.toNat - mask (lead b) + mask (lead b) = b.toNat from by omega]
    simp

theorem _root_.Go.SL.Rd.subN {P : Program} {o : Oper} {t : TypeId} {x y : Operand} {t' : TypeId} {L : Env} {R : List RO} {O : List Own} {p q : Int} {a b : Nat} (ho : o.op = .binOp .sub t x y t') (hx : ev L x = some (.int .i64 p)) (hy : ev L y = some (.int .i64 q)) (hp : p = (a : Int)) (hq : q = (b : Int)) (hb : b ≤ a) (ha : a ≤ 9223372036854775807) : Rd P o L R O (.int .i64 ((a - b : Nat) : Int)) := by
  have h := Rd.sub (R := R) (O := O) (P := P) ho hx hy (by omega)
  rw [show p - q = ((a - b : Nat) : Int) from by omega] at h
  exact h

set_option maxRecDepth 20000 in
set_option maxHeartbeats 1000000 in
theorem rget_spec {R : List RO} {O : List Own} {POST : Value → List RO → List Own → Prop} {s : List UInt8} (hs : s.length ≤ 9223372036854775807)
    (hk : POST (.tuple #[.int .i64 (getE s).1, .int .i64 (getE s).2.1, .int .i64 (getE s).2.2]) R O) : Fun Try.prog 25 #[vs s] R O POST := by
  refine Fun.enter (l := [_]) Try.func25 rfl Try.ntmps25 rfl (L0 := [(0, _)]) rfl ?_
  refine WC.seq ?_
  refine WC.region ?_
  refine WL.rd rfl rfl rfl (Rd.assign rfl rfl) ?_
  refine WL.rd rfl rfl rfl (Rd.assign rfl rfl) ?_
  refine WL.rd rfl rfl rfl (Rd.assign rfl rfl) ?_
  refine WL.nil ?_
  refine thenQ.normal ?_
  refine WC.seq ?_
  refine WC.seq ?_
  refine WC.region ?_
  refine WL.rd rfl rfl rfl (Rd.move rfl rfl) ?_
  refine WL.rd rfl rfl rfl (Rd.seql rfl rfl rfl) ?_
  refine WL.nil ?_
  refine thenQ.normal ?_
  first | refine WC.ite rfl (fun hc1 => ?_) (fun hc1 => ?_) | refine WC.cond rfl (fun hc1 => ?_) (fun hc1 => ?_)
  · skip
    obtain rfl : s = [] := by simpa using hc1
    refine WC.seq ?_
    refine WC.region ?_
    refine WL.rd rfl rfl rfl (Rd.assign rfl rfl) ?_
    refine WL.rd rfl rfl rfl (Rd.assign rfl rfl) ?_
    refine WL.rd rfl rfl rfl (Rd.assign rfl rfl) ?_
    refine WL.nil ?_
    refine thenQ.normal ?_
    refine WC.heap (R' := R) (O' := O) (fun w h => OwnL.sat (by repeat (first | exact OwnL.refl | apply OwnL.take (by repeat (first | exact Take.head _ | apply Take.tail)) | apply OwnL.drop)) w (h.thin (SubL.mem (by repeat (first | exact SubL.refl | refine SubL.cons (by repeat (first | assumption | exact mS | apply mT)) ?_ | refine SubL.skip ?_))))) ?_
    refine WC.ret (Ret.three Try.results25 rfl rfl rfl ?_)
    exact hk
  · skip
    obtain ⟨b, r, rfl⟩ : ∃ b r, s = b :: r := by
      cases s with
      | nil => exact absurd rfl hc1
      | cons b r => exact ⟨b, r, rfl⟩
    have hb := UInt8.toNat_lt b
    have h8 := lead_le b
    refine WC.skip ?_
    refine thenQ.normal ?_
    refine WC.seq ?_
    refine WC.region ?_
    refine WL.rd rfl rfl rfl (Rd.assign rfl rfl) ?_
    refine WL.nil ?_
    refine thenQ.normal ?_
    refine WC.seq ?_
    refine WC.block ?_
    refine WC.pick [5, 0] (by repeat (first | exact Pick.nil | apply Pick.cons rfl)) ?_
    refine WC.loop1o 1 (fun (k : Nat) => [(5, .int .i64 (k : Int))]) (fun (k : Nat) => k ≤ lead b) (fun (k : Nat) => lead b - k) (0) (by repeat (first | exact Split.zero | apply Split.succ)) ?hinv1 (by repeat (first | exact Sub.nil | refine Sub.cons rfl (by first | rfl | (congr 1; omega) | assumption) ?_)) (fun _ h => h) ?_
    case hinv1 =>
      exact Nat.zero_le _
    intro k
    rintro h1
    refine WC.seq ?_
    refine WC.pick [0, 5] (by repeat (first | exact Pick.nil | apply Pick.cons rfl)) ?_
    refine WC.val 21 (.bool (decide (k < lead b))) ?_ ?_
    · skip
      refine WC.region ?_
      refine WL.rd rfl rfl rfl (Rd.move rfl rfl) ?_
      refine WL.rd rfl rfl rfl (Rd.lss rfl rfl rfl) ?_
      refine WL.rd rfl rfl rfl (Rd.move rfl rfl) ?_
      refine WL.case 12 rfl (fun hg12 => ?_) (fun hg12 => ?_)
      · skip
        refine WL.rd_yes rfl rfl rfl rfl rfl rfl (Rd.move rfl rfl) ?_
        refine WL.rd_yes rfl rfl rfl rfl rfl rfl (Rd.sidx (k := 0) rfl Try.underlying9 rfl rfl rfl rfl) ?_
        refine WL.rd_yes rfl rfl rfl rfl rfl rfl (Rd.move rfl rfl) ?_
        refine WL.rd_yes rfl rfl rfl rfl rfl rfl (Rd.sub rfl rfl rfl (by omega)) ?_
        refine WL.say 16 (u := .int .i64 ((7 - k : Nat) : Int)) rfl (by congr 1; omega) ?_
        refine WL.rd_yes rfl rfl rfl rfl rfl rfl (Rd.conv rfl rfl Try.underlying85 (wrap_natU (k := .u64) rfl (show _ < 18446744073709551616 by omega)) (hS := Try.underlying3)) ?_
        refine WL.rd_yes rfl rfl rfl rfl rfl rfl (Rd.shrN rfl rfl rfl rfl rfl (by show 7 - k ≤ 8; omega)) ?_
        refine WL.rd_yes rfl rfl rfl rfl rfl rfl (Rd.andU (b := 1) rfl rfl rfl rfl rfl rfl (Nat.lt_of_le_of_lt (Nat.div_le_self _ _) hb) (by decide)) ?_
        refine WL.rd_yes rfl rfl rfl rfl rfl rfl (Rd.eql rfl rfl rfl) ?_
        refine WL.rd rfl rfl rfl (Rd.pick_t rfl rfl rfl) ?_
        refine WL.nil ?_
        exact ⟨by repeat (first | exact Sub.nil | refine Sub.cons rfl (by first | rfl | (first | exact vb_f (by omega) | exact vb ((show _ ↔ ((b.toNat / 2 ^ (7 - k)) &&& 1 = 1) by omega).trans (bit_lead (by omega) h1)))) ?_), by first | exact (fun _ h => h.thin (SubL.mem (by repeat (first | exact SubL.refl | refine SubL.cons (by repeat (first | assumption | exact mS | apply mT)) ?_ | refine SubL.skip ?_)))) | exact (fun w h => OwnL.sat (by repeat (first | exact OwnL.refl | apply OwnL.take (by repeat (first | exact Take.head _ | apply Take.tail)) | apply OwnL.drop)) w (h.thin (SubL.mem (by repeat (first | exact SubL.refl | refine SubL.cons (by repeat (first | assumption | exact mS | apply mT)) ?_ | refine SubL.skip ?_)))))⟩
      · skip
        refine WL.no rfl rfl rfl rfl rfl rfl ?_
        refine WL.no rfl rfl rfl rfl rfl rfl ?_
        refine WL.no rfl rfl rfl rfl rfl rfl ?_
        refine WL.no rfl rfl rfl rfl rfl rfl ?_
        refine WL.no rfl rfl rfl rfl rfl rfl ?_
        refine WL.no rfl rfl rfl rfl rfl rfl ?_
        refine WL.no rfl rfl rfl rfl rfl rfl ?_
        refine WL.no rfl rfl rfl rfl rfl rfl ?_
        refine WL.rd rfl rfl rfl (Rd.pick_f rfl rfl rfl) ?_
        refine WL.nil ?_
        exact ⟨by repeat (first | exact Sub.nil | refine Sub.cons rfl (by first | rfl | (first | exact vb_f (by omega) | exact vb ((show _ ↔ ((b.toNat / 2 ^ (7 - k)) &&& 1 = 1) by omega).trans (bit_lead (by omega) h1)))) ?_), by first | exact (fun _ h => h.thin (SubL.mem (by repeat (first | exact SubL.refl | refine SubL.cons (by repeat (first | assumption | exact mS | apply mT)) ?_ | refine SubL.skip ?_)))) | exact (fun w h => OwnL.sat (by repeat (first | exact OwnL.refl | apply OwnL.take (by repeat (first | exact Take.head _ | apply Take.tail)) | apply OwnL.drop)) w (h.thin (SubL.mem (by repeat (first | exact SubL.refl | refine SubL.cons (by repeat (first | assumption | exact mS | apply mT)) ?_ | refine SubL.skip ?_)))))⟩
    · skip
      first | refine WC.ite rfl (fun hc2 => ?_) (fun hc2 => ?_) | refine WC.cond rfl (fun hc2 => ?_) (fun hc2 => ?_)
      · skip
        refine WC.skip ?_
        refine thenQ.normal ?_
        refine WC.block ?_
        refine WC.region ?_
        refine WL.rd rfl rfl rfl (Rd.move rfl rfl) ?_
        refine WL.rd rfl rfl rfl (Rd.add rfl rfl rfl (by omega)) ?_
        refine WL.rd rfl rfl rfl (Rd.assign rfl rfl) ?_
        refine WL.nil ?_
        refine blockQ.normal ?_
        exact loopQ1.mk (k + 1) (by omega) (by omega) (by repeat (first | exact Sub.nil | refine Sub.cons rfl (by first | rfl | (congr 1; omega) | assumption) ?_)) (fun w h => OwnL.sat (by repeat (first | exact OwnL.refl | apply OwnL.take (by repeat (first | exact Take.head _ | apply Take.tail)) | apply OwnL.drop)) w (h.thin (SubL.mem (by repeat (first | exact SubL.refl | refine SubL.cons (by repeat (first | assumption | exact mS | apply mT)) ?_ | refine SubL.skip ?_)))))
      · skip
        obtain rfl : k = lead b := by omega
        refine WC.exit ?_
        refine thenQ.exit ?_
        refine loopQ1.exit ?_
        refine blockQ.exit ?_
        refine thenQ.normal ?_
        refine WC.seq ?_
        refine WC.seq ?_
        refine WC.region ?_
        refine WL.rd rfl rfl rfl (Rd.move rfl rfl) ?_
        refine WL.rd rfl rfl rfl (Rd.gtr rfl rfl rfl) ?_
        refine WL.nil ?_
        refine thenQ.normal ?_
        first | refine WC.ite rfl (fun hc3 => ?_) (fun hc3 => ?_) | refine WC.cond rfl (fun hc3 => ?_) (fun hc3 => ?_)
        · skip
          refine WC.seq ?_
          refine WC.region ?_
          refine WL.rd rfl rfl rfl (Rd.assign rfl rfl) ?_
          refine WL.rd rfl rfl rfl (Rd.assign rfl rfl) ?_
          refine WL.rd rfl rfl rfl (Rd.assign rfl rfl) ?_
          refine WL.nil ?_
          refine thenQ.normal ?_
          refine WC.heap (R' := R) (O' := O) (fun w h => OwnL.sat (by repeat (first | exact OwnL.refl | apply OwnL.take (by repeat (first | exact Take.head _ | apply Take.tail)) | apply OwnL.drop)) w (h.thin (SubL.mem (by repeat (first | exact SubL.refl | refine SubL.cons (by repeat (first | assumption | exact mS | apply mT)) ?_ | refine SubL.skip ?_))))) ?_
          refine WC.ret (Ret.three Try.results25 rfl rfl rfl ?_)
          have e : getE (b :: r) = (0, 0, 2) := by rw [getE, if_pos (by omega)]
          rw [e] at hk; exact hk
        · skip
          refine WC.skip ?_
          refine thenQ.normal ?_
          refine WC.seq ?_
          refine WC.seq ?_
          refine WC.region ?_
          refine WL.rd rfl rfl rfl (Rd.move rfl rfl) ?_
          refine WL.rd rfl rfl rfl (Rd.slen (ts := #[]) (ty := 0) rfl rfl Try.underlying9) ?_
          refine WL.rd rfl rfl rfl (Rd.move rfl rfl) ?_
          refine WL.rd rfl rfl rfl (Rd.add rfl rfl rfl (by omega)) ?_
          refine WL.rd rfl rfl rfl (Rd.lss rfl rfl rfl) ?_
          refine WL.nil ?_
          refine thenQ.normal ?_
          first | refine WC.ite rfl (fun hc4 => ?_) (fun hc4 => ?_) | refine WC.cond rfl (fun hc4 => ?_) (fun hc4 => ?_)
          · skip
            refine WC.seq ?_
            refine WC.region ?_
            refine WL.rd rfl rfl rfl (Rd.assign rfl rfl) ?_
            refine WL.rd rfl rfl rfl (Rd.assign rfl rfl) ?_
            refine WL.rd rfl rfl rfl (Rd.assign rfl rfl) ?_
            refine WL.nil ?_
            refine thenQ.normal ?_
            refine WC.heap (R' := R) (O' := O) (fun w h => OwnL.sat (by repeat (first | exact OwnL.refl | apply OwnL.take (by repeat (first | exact Take.head _ | apply Take.tail)) | apply OwnL.drop)) w (h.thin (SubL.mem (by repeat (first | exact SubL.refl | refine SubL.cons (by repeat (first | assumption | exact mS | apply mT)) ?_ | refine SubL.skip ?_))))) ?_
            refine WC.ret (Ret.three Try.results25 rfl rfl rfl ?_)
            have e : getE (b :: r) = (0, 0, 3) := by rw [getE, if_neg (by omega), if_pos (by simp at hc4; omega)]
            rw [e] at hk; exact hk
          · skip
            have h5 : lead b ≤ 5 := by omega
            have hr : lead b ≤ r.length := by simp at hc4; omega
            obtain ⟨ha1, ha2, ha3⟩ := and_lead h5
            have hpt := put_take h5 hr
            refine WC.skip ?_
            refine thenQ.normal ?_
            refine WC.seq ?_
            refine WC.drawnA 9 rfl mixed ?_
            refine WD.take 0 rfl (by kernel_rfl) Held.all rfl rfl rfl (Rd.move rfl rfl) ?_
            refine WD.take 1 rfl (by kernel_rfl) Held.all rfl rfl rfl (Rd.sidx (k := 0) rfl Try.underlying9 rfl rfl rfl rfl) ?_
            refine WD.take 2 rfl (by kernel_rfl) Held.all rfl rfl rfl (Rd.conv rfl rfl Try.underlying3 (wrap_natS (k := .i64) (Nat.lt_of_lt_of_le hb (by decide))) (hS := Try.underlying5)) ?_
            refine WD.take 4 rfl (by kernel_rfl) Held.all rfl rfl rfl (Rd.move rfl rfl) ?_
            refine WD.one 3 rfl (by kernel_rfl) rfl ?_
            refine OpW.buildSl (ps := [(0, _), (1, _), (2, _), (3, _), (4, _), (5, _)]) rfl S72 (by repeat (first | exact Evs.nil | apply Evs.cons rfl)) rfl rfl (by repeat (first | exact CellsOf.nil | apply CellsOf.cons rfl)) (by kernel_rfl) rfl rfl rfl ?_; intro b34
            refine ⟨(Held.mk' (by repeat (first | exact SubL.refl | refine SubL.cons (by repeat (first | assumption | exact mS | apply mT)) ?_ | refine SubL.skip ?_)) (by repeat (first | exact OwnL.refl | apply OwnL.take (by repeat (first | exact Take.head _ | apply Take.tail)) | apply OwnL.drop))), ?_⟩
            refine WD.one 5 rfl (by kernel_rfl) rfl ?_
            refine OpW.rd rfl rfl ((by first | exact Rd.idx1 (k := lead b) rfl S72 rfl rfl (by omega) (by repeat (first | assumption | exact mS | apply mT)) (by first | omega | (simp only [List.length_cons, List.length_nil, List.length_append, List.length_map]; omega)) | exact Rd.idxA1 (k := lead b) rfl S72 rfl rfl (by omega) (by repeat (first | assumption | exact mS | apply mT)) (by first | omega | (simp only [List.length_cons, List.length_nil, List.length_append, List.length_map]; omega)) | exact Rd.idxR1 (k := lead b) rfl S72 rfl rfl (by omega) (by omega))) ?_
            refine ⟨(Held.mk' (by repeat (first | exact SubL.refl | refine SubL.cons (by repeat (first | assumption | exact mS | apply mT)) ?_ | refine SubL.skip ?_)) (by repeat (first | exact OwnL.refl | apply OwnL.take (by repeat (first | exact Take.head _ | apply Take.tail)) | apply OwnL.drop))), ?_⟩
            refine WD.one 6 rfl (by kernel_rfl) rfl ?_
            refine OpW.rd rfl rfl (Rd.row1 rfl C3 rfl (by repeat (first | assumption | exact mS | apply mT)) (first_get _ h5)) ?_
            refine ⟨(Held.mk' (by repeat (first | exact SubL.refl | refine SubL.cons (by repeat (first | assumption | exact mS | apply mT)) ?_ | refine SubL.skip ?_)) (by repeat (first | exact OwnL.refl | apply OwnL.take (by repeat (first | exact Take.head _ | apply Take.tail)) | apply OwnL.drop))), ?_⟩
            refine WD.take 7 rfl (by kernel_rfl) (Held.mk' (by repeat (first | exact SubL.refl | refine SubL.cons (by repeat (first | assumption | exact mS | apply mT)) ?_ | refine SubL.skip ?_)) (by repeat (first | exact OwnL.refl | apply OwnL.take (by repeat (first | exact Take.head _ | apply Take.tail)) | apply OwnL.drop))) rfl rfl rfl (Rd.subN rfl rfl rfl rfl rfl (by omega) (by omega)) ?_
            refine WD.take 8 rfl (by kernel_rfl) (Held.mk' (by repeat (first | exact SubL.refl | refine SubL.cons (by repeat (first | assumption | exact mS | apply mT)) ?_ | refine SubL.skip ?_)) (by repeat (first | exact OwnL.refl | apply OwnL.take (by repeat (first | exact Take.head _ | apply Take.tail)) | apply OwnL.drop))) rfl rfl rfl (Rd.assign rfl rfl) ?_
            refine WD.done (by kernel_rfl) ?_
            refine thenQ.normal ?_
            refine WC.seq ?_
            refine WC.seq ?_
            refine WC.region ?_
            refine WL.rd rfl rfl rfl (Rd.assign rfl rfl) ?_
            refine WL.nil ?_
            refine thenQ.normal ?_
            refine WC.block ?_
            refine WC.pick [7, 6, 0, 5] (by repeat (first | exact Pick.nil | apply Pick.cons rfl)) ?_
            refine WC.loop1o 2 (fun (i : Nat) => [(7, .int .i64 ((i : Int) + 1)), (6, .int .i64 ((num (b.toNat - mask (lead b)) (r.take i) : Nat) : Int))]) (fun (i : Nat) => i ≤ lead b) (fun (i : Nat) => lead b - i) (0) (by repeat (first | exact Split.zero | apply Split.succ)) ?hinv2 (by repeat (first | exact Sub.nil | refine Sub.cons rfl (by first | rfl | (congr 1; omega) | assumption) ?_)) (fun _ h => h) ?_
            case hinv2 =>
              exact Nat.zero_le _
            intro i
            rintro h2
            refine WC.seq ?_
            refine WC.seq ?_
            refine WC.region ?_
            refine WL.rd rfl rfl rfl (Rd.move rfl rfl) ?_
            refine WL.rd rfl rfl rfl (Rd.move rfl rfl) ?_
            refine WL.rd rfl rfl rfl (Rd.leq rfl rfl rfl) ?_
            refine WL.nil ?_
            refine thenQ.normal ?_
            first | refine WC.ite rfl (fun hc5 => ?_) (fun hc5 => ?_) | refine WC.cond rfl (fun hc5 => ?_) (fun hc5 => ?_)
            · skip
              have hsm := num_small (r := r) (i := i) ha3 (by omega); have hc := UInt8.toNat_lt r[i]!
              refine WC.skip ?_
              refine thenQ.normal ?_
              refine WC.seq ?_
              refine WC.block ?_
              refine WC.region ?_
              refine WL.rd rfl rfl rfl (Rd.move rfl rfl) ?_
              refine WL.rd rfl rfl rfl (Rd.mul rfl rfl rfl (by omega)) ?_
              refine WL.rd rfl rfl rfl (Rd.move rfl rfl) ?_
              refine WL.rd rfl rfl rfl (Rd.move rfl rfl) ?_
              refine WL.rd rfl rfl rfl (Rd.sidx (k := i + 1) (b := r[i]!) rfl Try.underlying9 rfl rfl (by omega) (by rw [List.getElem?_cons_succ]; exact get!_of_lt (by omega))) ?_
              refine WL.rd rfl rfl rfl (Rd.conv rfl rfl Try.underlying3 (wrap_natS (k := .i64) (Nat.lt_of_lt_of_le hc (by decide))) (hS := Try.underlying5)) ?_
              refine WL.rd rfl rfl rfl (Rd.add rfl rfl rfl (by omega)) ?_
              refine WL.say 50 (u := .int .i64 ((num (b.toNat - mask (lead b)) (r.take (i + 1)) : Nat) : Int)) rfl (by rw [num_snoc (get!_of_lt (xs := r) (by omega))]; first | done | rfl | (congr 1; done) | (congr 1; omega)) ?_
              refine WL.rd rfl rfl rfl (Rd.assign rfl rfl) ?_
              refine WL.nil ?_
              refine blockQ.normal ?_
              refine thenQ.normal ?_
              refine WC.region ?_
              refine WL.rd rfl rfl rfl (Rd.move rfl rfl) ?_
              refine WL.rd rfl rfl rfl (Rd.add rfl rfl rfl (by omega)) ?_
              refine WL.rd rfl rfl rfl (Rd.assign rfl rfl) ?_
              refine WL.nil ?_
              exact loopQ1.mk (i + 1) (by omega) (by omega) (by repeat (first | exact Sub.nil | refine Sub.cons rfl (by first | rfl | (congr 1; omega) | assumption) ?_)) (fun w h => OwnL.sat (by repeat (first | exact OwnL.refl | apply OwnL.take (by repeat (first | exact Take.head _ | apply Take.tail)) | apply OwnL.drop)) w (h.thin (SubL.mem (by repeat (first | exact SubL.refl | refine SubL.cons (by repeat (first | assumption | exact mS | apply mT)) ?_ | refine SubL.skip ?_)))))
            · skip
              obtain rfl : i = lead b := by omega
              have hsm := num_small (r := r) (i := lead b) ha3 h5
              refine WC.exit ?_
              refine thenQ.exit ?_
              refine loopQ1.exit ?_
              refine blockQ.exit ?_
              refine thenQ.normal ?_
              refine WC.seq ?_
              refine WC.seq ?_
              refine WC.drawnA 7 rfl mixed ?_
              refine WD.take 0 rfl (by kernel_rfl) Held.all rfl rfl rfl (Rd.move rfl rfl) ?_
              refine WD.take 2 rfl (by kernel_rfl) Held.all rfl rfl rfl (Rd.move rfl rfl) ?_
              refine WD.take 3 rfl (by kernel_rfl) Held.all rfl rfl rfl (Rd.move rfl rfl) ?_
              refine WD.take 4 rfl (by kernel_rfl) Held.all rfl rfl rfl (Rd.add rfl rfl rfl (by omega)) ?_
              refine WD.take 5 rfl (by kernel_rfl) Held.all rfl rfl rfl (Rd.scut_h (hi := lead b + 1) rfl Try.underlying9 rfl rfl (by omega) (by omega)) ?_
              refine WD.one 1 rfl (by kernel_rfl) rfl ?_
              refine OpW.call rfl rfl (by repeat (first | exact Evs.nil | apply Evs.cons rfl)) (by kernel_rfl) rfl rfl rfl ?_
              refine rput_spec ?_
              refine ⟨(Held.mk' (by repeat (first | exact SubL.refl | refine SubL.cons (by repeat (first | assumption | exact mS | apply mT)) ?_ | refine SubL.skip ?_)) (by repeat (first | exact OwnL.refl | apply OwnL.take (by repeat (first | exact Take.head _ | apply Take.tail)) | apply OwnL.drop))), ?_⟩
              refine WD.take 6 rfl (by kernel_rfl) (Held.mk' (by repeat (first | exact SubL.refl | refine SubL.cons (by repeat (first | assumption | exact mS | apply mT)) ?_ | refine SubL.skip ?_)) (by repeat (first | exact OwnL.refl | apply OwnL.take (by repeat (first | exact Take.head _ | apply Take.tail)) | apply OwnL.drop))) rfl rfl rfl (Rd.sneq rfl rfl rfl) ?_
              refine WD.done (by kernel_rfl) ?_
              refine thenQ.normal ?_
              first | refine WC.ite rfl (fun hc6 => ?_) (fun hc6 => ?_) | refine WC.cond rfl (fun hc6 => ?_) (fun hc6 => ?_)
              · skip
                have e : getE (b :: r) = (0, 0, 2) := by rw [getE, if_neg (by omega), if_neg (by omega), if_pos (Decidable.not_not.1 (fun h => hc6 (hpt.2 h)))]
                refine WC.seq ?_
                refine WC.region ?_
                refine WL.rd rfl rfl rfl (Rd.assign rfl rfl) ?_
                refine WL.rd rfl rfl rfl (Rd.assign rfl rfl) ?_
                refine WL.rd rfl rfl rfl (Rd.assign rfl rfl) ?_
                refine WL.nil ?_
                refine thenQ.normal ?_
                refine WC.heap (R' := R) (O' := O) (fun w h => OwnL.sat (by repeat (first | exact OwnL.refl | apply OwnL.take (by repeat (first | exact Take.head _ | apply Take.tail)) | apply OwnL.drop)) w (h.thin (SubL.mem (by repeat (first | exact SubL.refl | refine SubL.cons (by repeat (first | assumption | exact mS | apply mT)) ?_ | refine SubL.skip ?_))))) ?_
                refine WC.ret (Ret.three Try.results25 rfl rfl rfl ?_)
                rw [e] at hk; exact hk
              · skip
                have e : getE (b :: r) = (((num (b.toNat - mask (lead b)) (r.take (lead b)) : Nat) : Int), (lead b : Int) + 1, (0 : Int)) := by rw [getE, if_neg (by omega), if_neg (by omega), if_neg (hpt.1 (Decidable.not_not.1 hc6))]
                refine WC.skip ?_
                refine thenQ.normal ?_
                refine WC.seq ?_
                refine WC.region ?_
                refine WL.rd rfl rfl rfl (Rd.move rfl rfl) ?_
                refine WL.rd rfl rfl rfl (Rd.move rfl rfl) ?_
                refine WL.rd rfl rfl rfl (Rd.add rfl rfl rfl (by omega)) ?_
                refine WL.rd rfl rfl rfl (Rd.assign rfl rfl) ?_
                refine WL.rd rfl rfl rfl (Rd.assign rfl rfl) ?_
                refine WL.rd rfl rfl rfl (Rd.assign rfl rfl) ?_
                refine WL.nil ?_
                refine thenQ.normal ?_
                refine WC.heap (R' := R) (O' := O) (fun w h => OwnL.sat (by repeat (first | exact OwnL.refl | apply OwnL.take (by repeat (first | exact Take.head _ | apply Take.tail)) | apply OwnL.drop)) w (h.thin (SubL.mem (by repeat (first | exact SubL.refl | refine SubL.cons (by repeat (first | assumption | exact mS | apply mT)) ?_ | refine SubL.skip ?_))))) ?_
                refine WC.ret (Ret.three Try.results25 rfl rfl rfl ?_)
                rw [e] at hk; exact hk
end Go.Proofs.Ytedgndhbieeffaa
