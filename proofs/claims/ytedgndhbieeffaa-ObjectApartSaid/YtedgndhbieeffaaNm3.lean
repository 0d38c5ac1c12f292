/-
  Layer 1: the bytes of a number, by the program and by the document.
-/
import Derived.Test.YtedgndhbieeffaaNm2
namespace Go.Proofs.Ytedgndhbieeffaa
open Go Go.SL

/-- The i lowest bytes of a number, the highest of them first. -/
def beb : Nat → Nat → List UInt8
  | 0, _ => []
  | i + 1, n => UInt8.ofNat (n / 256 ^ i % 256) :: beb i n
theorem beb_length : ∀ (i n : Nat), (beb i n).length = i
  | 0, _ => rfl
  | i + 1, n => by rw [beb, List.length_cons, beb_length i n]
/-- What is added to a first byte. -/
def mask (k : Nat) : Nat := 256 - 2 ^ (8 - k)
/-- The bytes of a number. -/
def putE (n : Nat) : List UInt8 := UInt8.ofNat (n / 256 ^ more n + mask (more n)) :: beb (more n) n
def putI (p : Int) : List UInt8 := if p < 0 ∨ 1099511627776 < p then [] else putE p.toNat
theorem putE_length (n : Nat) : (putE n).length = more n + 1 := by rw [putE, List.length_cons, beb_length]
theorem more_lt {n k : Nat} : n < 128 ^ (k + 1) ↔ more n ≤ k := by
  have e : (128 : Nat) ^ (k + 1) = 2 ^ (7 * (k + 1)) := by rw [Nat.pow_mul]
  rw [e]
  constructor
  · intro h
    have := blen_lt h
    unfold more; omega
  · intro h
    rcases Nat.lt_or_ge n (2 ^ (7 * (k + 1))) with h1 | h1
    · exact h1
    · have := blen_ge h1
      unfold more at h; omega
theorem more_le {n : Nat} (h : n ≤ 1099511627776) : more n ≤ 5 := more_lt.1 (Nat.lt_of_le_of_lt h (by decide))
theorem head_lt {n : Nat} (h : n ≤ 1099511627776) : n / 256 ^ more n < 2 ^ (7 - more n) := by
  have h5 := more_le h
  have h1 : n < 128 ^ (more n + 1) := more_lt.2 (Nat.le_refl _)
  generalize more n = k at *
  rw [Nat.div_lt_iff_lt_mul (Nat.pow_pos (by decide))]
  refine Nat.lt_of_lt_of_le h1 ?_
  have : ∀ k, k ≤ 5 → 128 ^ (k + 1) ≤ 2 ^ (7 - k) * 256 ^ k := by decide
  exact this k h5
theorem or_mask : ∀ k, k ≤ 5 → ∀ x, x < 2 ^ (7 - k) → x ||| (255 - 255 / 2 ^ k) = x + mask k := by decide +kernel
theorem mask_sum : ∀ k, k ≤ 5 → 2 ^ (7 - k) + mask k ≤ 256 := by decide
theorem mask_le (k : Nat) : mask k ≤ 256 := Nat.sub_le _ _
theorem u8_toNat {x : Nat} (h : x < 256) : (UInt8.ofNat x).toNat = x := by simp; omega
theorem wrap_byte (a : Nat) : IntKind.u8.wrap (a : Int) = ((UInt8.ofNat (a % 256)).toNat : Int) := by
  rw [u8_toNat (Nat.mod_lt _ (by decide))]
  simp only [IntKind.wrap, IntKind.signed, IntKind.bits, Bool.false_and, Bool.false_eq_true, if_false]; omega
theorem set_lastb {α : Type} (k : Nat) (z v : α) (l : List α) : (List.replicate (k + 1) z ++ l).set k v = List.replicate k z ++ v :: l := by
  rw [List.set_append_left _ _ (by simp), List.replicate_succ', List.set_append_right _ _ (by simp)]
  simp
theorem beb_step {n m j : Nat} (hj : j ≤ m) : (List.replicate (m + 1 - j) (Value.int .u8 0) ++ (beb j n).map vy).set (m - j) (vy (UInt8.ofNat (n / 256 ^ j % 256))) = List.replicate (m + 1 - (j + 1)) (Value.int .u8 0) ++ (beb (j + 1) n).map vy := by
  rw [show m + 1 - j = (m - j) + 1 from by omega, set_lastb, show m + 1 - (j + 1) = m - j from by omega]
  rfl
theorem div_step (n j : Nat) : n / 256 ^ j / 2 ^ 8 = n / 256 ^ (j + 1) := by rw [Nat.div_div_eq_div_mul]; rfl

set_option maxRecDepth 20000 in
theorem put_bad {R : List RO} {O : List Own} {POST : Value → List RO → List Own → Prop} {p : Int} (hp : p < 0 ∨ 1099511627776 < p) (hk : POST (vs []) R O) : Fun Try.prog 39 #[.int .i64 p] R O POST := by
  refine Fun.enter (l := [_]) Try.func39 rfl Try.ntmps39 rfl (L0 := [(0, _)]) rfl ?_
  refine WC.seq ?_
  refine WC.region ?_
  refine WL.rd rfl rfl rfl (Rd.assign rfl rfl) ?_
  refine WL.nil ?_
  refine thenQ.normal ?_
  refine WC.seq ?_
  refine WC.pick [0] (by repeat (first | exact Pick.nil | apply Pick.cons rfl)) ?_
  refine WC.val 11 (.bool (decide (p < 0 ∨ 1099511627776 < p))) ?_ ?_
  · skip
    refine WC.region ?_
    refine WL.rd rfl rfl rfl (Rd.move rfl rfl) ?_
    refine WL.rd rfl rfl rfl (Rd.lss rfl rfl rfl) ?_
    refine WL.rd rfl rfl rfl (Rd.move rfl rfl) ?_
    refine WL.case 8 rfl (fun hg8 => ?_) (fun hg8 => ?_)
    · skip
      refine WL.no rfl rfl rfl rfl rfl rfl ?_
      refine WL.no rfl rfl rfl rfl rfl rfl ?_
      refine WL.rd rfl rfl rfl (Rd.pick_t rfl rfl rfl) ?_
      refine WL.nil ?_
      exact ⟨by repeat (first | exact Sub.nil | refine Sub.cons rfl (by first | rfl | (first | rfl | exact vb (by omega) | exact vb_t (by omega) | exact vb_f (by omega) | (simp [*]; done) | (simp_all; done))) ?_), by first | exact (fun _ h => h.thin (SubL.mem (by repeat (first | exact SubL.refl | refine SubL.cons (by repeat (first | assumption | exact mS | apply mT)) ?_ | refine SubL.skip ?_)))) | exact (fun w h => OwnL.sat (by repeat (first | exact OwnL.refl | apply OwnL.take (by repeat (first | exact Take.head _ | apply Take.tail)) | apply OwnL.drop)) w (h.thin (SubL.mem (by repeat (first | exact SubL.refl | refine SubL.cons (by repeat (first | assumption | exact mS | apply mT)) ?_ | refine SubL.skip ?_)))))⟩
    · skip
      refine WL.rd_yes rfl rfl rfl rfl rfl rfl (Rd.move rfl rfl) ?_
      refine WL.rd_yes rfl rfl rfl rfl rfl rfl (Rd.gtr rfl rfl rfl) ?_
      refine WL.rd rfl rfl rfl (Rd.pick_f rfl rfl rfl) ?_
      refine WL.nil ?_
      exact ⟨by repeat (first | exact Sub.nil | refine Sub.cons rfl (by first | rfl | (first | rfl | exact vb (by omega) | exact vb_t (by omega) | exact vb_f (by omega) | (simp [*]; done) | (simp_all; done))) ?_), by first | exact (fun _ h => h.thin (SubL.mem (by repeat (first | exact SubL.refl | refine SubL.cons (by repeat (first | assumption | exact mS | apply mT)) ?_ | refine SubL.skip ?_)))) | exact (fun w h => OwnL.sat (by repeat (first | exact OwnL.refl | apply OwnL.take (by repeat (first | exact Take.head _ | apply Take.tail)) | apply OwnL.drop)) w (h.thin (SubL.mem (by repeat (first | exact SubL.refl | refine SubL.cons (by repeat (first | assumption | exact mS | apply mT)) ?_ | refine SubL.skip ?_)))))⟩
  · skip
    first | refine WC.ite rfl (fun hc1 => ?_) (fun hc1 => ?_) | refine WC.cond rfl (fun hc1 => ?_) (fun hc1 => ?_)
    · skip
      refine WC.seq ?_
      refine WC.region ?_
      refine WL.rd rfl rfl rfl (Rd.assign rfl rfl) ?_
      refine WL.nil ?_
      refine thenQ.normal ?_
      refine WC.ret (Ret.one Try.results39 rfl ?_)
      exact hk
    · skip
      exfalso; omega
set_option maxRecDepth 20000 in
set_option maxHeartbeats 1000000 in
theorem put_good {R : List RO} {O : List Own} {POST : Value → List RO → List Own → Prop} {n : Nat} (hn : n ≤ 1099511627776) (hk : POST (vs (putE n)) R O) : Fun Try.prog 39 #[.int .i64 n] R O POST := by
  have h5 := more_le hn
  have hh := head_lt hn
  have hms := mask_sum _ h5
  have hpl := putE_length n
  refine Fun.enter (l := [_]) Try.func39 rfl Try.ntmps39 rfl (L0 := [(0, _)]) rfl ?_
  refine WC.seq ?_
  refine WC.region ?_
  refine WL.rd rfl rfl rfl (Rd.assign rfl rfl) ?_
  refine WL.nil ?_
  refine thenQ.normal ?_
  refine WC.seq ?_
  refine WC.pick [0] (by repeat (first | exact Pick.nil | apply Pick.cons rfl)) ?_
  refine WC.val 11 (.bool (decide ((n : Int) < 0 ∨ 1099511627776 < (n : Int)))) ?_ ?_
  · skip
    refine WC.region ?_
    refine WL.rd rfl rfl rfl (Rd.move rfl rfl) ?_
    refine WL.rd rfl rfl rfl (Rd.lss rfl rfl rfl) ?_
    refine WL.rd rfl rfl rfl (Rd.move rfl rfl) ?_
    refine WL.case 8 rfl (fun hg8 => ?_) (fun hg8 => ?_)
    · skip
      refine WL.no rfl rfl rfl rfl rfl rfl ?_
      refine WL.no rfl rfl rfl rfl rfl rfl ?_
      refine WL.rd rfl rfl rfl (Rd.pick_t rfl rfl rfl) ?_
      refine WL.nil ?_
      exact ⟨by repeat (first | exact Sub.nil | refine Sub.cons rfl (by first | rfl | (first | rfl | exact vb (by omega) | exact vb_t (by omega) | exact vb_f (by omega) | (simp [*]; done) | (simp_all; done))) ?_), by first | exact (fun _ h => h.thin (SubL.mem (by repeat (first | exact SubL.refl | refine SubL.cons (by repeat (first | assumption | exact mS | apply mT)) ?_ | refine SubL.skip ?_)))) | exact (fun w h => OwnL.sat (by repeat (first | exact OwnL.refl | apply OwnL.take (by repeat (first | exact Take.head _ | apply Take.tail)) | apply OwnL.drop)) w (h.thin (SubL.mem (by repeat (first | exact SubL.refl | refine SubL.cons (by repeat (first | assumption | exact mS | apply mT)) ?_ | refine SubL.skip ?_)))))⟩
    · skip
      refine WL.rd_yes rfl rfl rfl rfl rfl rfl (Rd.move rfl rfl) ?_
      refine WL.rd_yes rfl rfl rfl rfl rfl rfl (Rd.gtr rfl rfl rfl) ?_
      refine WL.rd rfl rfl rfl (Rd.pick_f rfl rfl rfl) ?_
      refine WL.nil ?_
      exact ⟨by repeat (first | exact Sub.nil | refine Sub.cons rfl (by first | rfl | (first | rfl | exact vb (by omega) | exact vb_t (by omega) | exact vb_f (by omega) | (simp [*]; done) | (simp_all; done))) ?_), by first | exact (fun _ h => h.thin (SubL.mem (by repeat (first | exact SubL.refl | refine SubL.cons (by repeat (first | assumption | exact mS | apply mT)) ?_ | refine SubL.skip ?_)))) | exact (fun w h => OwnL.sat (by repeat (first | exact OwnL.refl | apply OwnL.take (by repeat (first | exact Take.head _ | apply Take.tail)) | apply OwnL.drop)) w (h.thin (SubL.mem (by repeat (first | exact SubL.refl | refine SubL.cons (by repeat (first | assumption | exact mS | apply mT)) ?_ | refine SubL.skip ?_)))))⟩
  · skip
    first | refine WC.ite rfl (fun hc1 => ?_) (fun hc1 => ?_) | refine WC.cond rfl (fun hc1 => ?_) (fun hc1 => ?_)
    · skip
      exfalso; omega
    · skip
      refine WC.skip ?_
      refine thenQ.normal ?_
      refine WC.seq ?_
      refine WC.region ?_
      refine WL.rd rfl rfl rfl (Rd.move rfl rfl) ?_
      refine WL.op rfl ?_
      refine OpW.call rfl rfl (by repeat (first | exact Evs.nil | apply Evs.cons rfl)) (by kernel_rfl) rfl rfl rfl ?_
      refine behind_spec (by omega) ?_
      refine WL.rd rfl rfl rfl (Rd.assign rfl rfl) ?_
      refine WL.nil ?_
      refine thenQ.normal ?_
      refine WC.seq ?_
      refine WC.region ?_
      refine WL.rd rfl rfl rfl (Rd.move rfl rfl) ?_
      refine WL.rd rfl rfl rfl (Rd.add rfl rfl rfl (by omega)) ?_
      refine WL.op rfl ?_
      refine OpW.make1 (m := more n + 1) (c := more n + 1) rfl S61 rfl rfl rfl rfl rfl (by omega) (by omega) (by omega) rfl rfl ?_; intro b16
      refine WL.rd rfl rfl rfl (Rd.assign rfl rfl) ?_
      refine WL.nil ?_
      refine thenQ.normal ?_
      refine WC.seq ?_
      refine WC.seq ?_
      refine WC.region ?_
      refine WL.rd rfl rfl rfl (Rd.move rfl rfl) ?_
      refine WL.rd rfl rfl rfl (Rd.assign rfl rfl) ?_
      refine WL.nil ?_
      refine thenQ.normal ?_
      refine WC.block ?_
      refine WC.pick [5, 0, 3, 4] (by repeat (first | exact Pick.nil | apply Pick.cons rfl)) ?_
      refine WC.loop1 2 (fun (j : Nat) => [(5, .int .i64 ((more n : Int) - j)), (0, .int .i64 ((n / 256 ^ j : Nat) : Int))]) (fun (j : Nat) => rowC b16 5 (List.replicate (more n + 1 - j) (.int .u8 0) ++ (beb j n).map vy) :: O) (fun (j : Nat) => j ≤ more n + 1) (fun (j : Nat) => more n + 1 - j) (0) (by repeat (first | exact Split.zero | apply Split.succ)) ?hinv1 (by repeat (first | exact Sub.nil | refine Sub.cons rfl (by first | rfl | (congr 1; omega) | assumption) ?_)) (fun w h => by simpa [beb] using h) ?_
      case hinv1 =>
        exact Nat.zero_le _
      intro j
      rintro h1
      refine WC.seq ?_
      refine WC.seq ?_
      refine WC.region ?_
      refine WL.rd rfl rfl rfl (Rd.move rfl rfl) ?_
      refine WL.rd rfl rfl rfl (Rd.geq rfl rfl rfl) ?_
      refine WL.nil ?_
      refine thenQ.normal ?_
      first | refine WC.ite rfl (fun hc2 => ?_) (fun hc2 => ?_) | refine WC.cond rfl (fun hc2 => ?_) (fun hc2 => ?_)
      · skip
        refine WC.skip ?_
        refine thenQ.normal ?_
        refine WC.seq ?_
        refine WC.block ?_
        refine WC.seq ?_
        refine WC.region ?_
        refine WL.rd rfl rfl rfl (Rd.move rfl rfl) ?_
        refine WL.rd rfl rfl rfl (Rd.move rfl rfl) ?_
        refine WL.rd rfl rfl rfl (Rd.move rfl rfl) ?_
        refine WL.rd rfl rfl rfl ((by first | exact Rd.conv rfl rfl Try.underlying5 (by first | rfl | omega) (hS := Try.underlying3) | exact Rd.convw rfl rfl Try.underlying5 (hS := Try.underlying3))) ?_
        refine WL.say 25 (u := vy (UInt8.ofNat (n / 256 ^ j % 256))) rfl (by rw [wrap_byte]) ?_
        refine WL.rd rfl rfl rfl ((by first | exact Rd.idx1 (k := more n - j) rfl S61 rfl rfl (by omega) (by repeat (first | assumption | exact mS | apply mT)) (by first | omega | (simp only [List.length_cons, List.length_nil, List.length_append, List.length_map]; omega)) | exact Rd.idxA1 (k := more n - j) rfl S61 rfl rfl (by omega) (by repeat (first | assumption | exact mS | apply mT)) (by first | omega | (simp only [List.length_cons, List.length_nil, List.length_append, List.length_map]; omega)) | exact Rd.idxR1 (k := more n - j) rfl S61 rfl rfl (by omega) (by omega))) ?_
        refine WL.op rfl ?_
        refine OpW.store1 rfl Z5 rfl rfl (by first | exact ⟨rfl, rfl⟩ | assumption) (by repeat (first | assumption | exact Take.head _ | apply Take.tail)) (by first | (simp; done) | omega | exact of_decide_eq_true rfl | (simp only [List.length_append, List.length_replicate, List.length_map, List.length_set]; omega)) rfl ?_
        refine WL.heap (fun w h => by rw [beb_step (by omega)] at h; exact h) ?_
        refine WL.nil ?_
        refine thenQ.normal ?_
        refine WC.region ?_
        refine WL.rd rfl rfl rfl (Rd.move rfl rfl) ?_
        refine WL.rd rfl rfl rfl (Rd.shrN (n := 8) rfl rfl rfl rfl rfl (by decide)) ?_
        refine WL.say 28 (u := .int .i64 ((n / 256 ^ (j + 1) : Nat) : Int)) rfl (by rw [div_step]) ?_
        refine WL.rd rfl rfl rfl (Rd.assign rfl rfl) ?_
        refine WL.nil ?_
        refine blockQ.normal ?_
        refine thenQ.normal ?_
        refine WC.region ?_
        refine WL.rd rfl rfl rfl (Rd.move rfl rfl) ?_
        refine WL.rd rfl rfl rfl (Rd.sub rfl rfl rfl (by omega)) ?_
        refine WL.rd rfl rfl rfl (Rd.assign rfl rfl) ?_
        refine WL.nil ?_
        exact loopQ1.mk (j + 1) (by omega) (by omega) (by repeat (first | exact Sub.nil | refine Sub.cons rfl (by first | rfl | (congr 1; omega) | assumption) ?_)) (fun w h => OwnL.sat (by repeat (first | exact OwnL.refl | apply OwnL.take (by repeat (first | exact Take.head _ | apply Take.tail)) | apply OwnL.drop)) w (h.thin (SubL.mem (by repeat (first | exact SubL.refl | refine SubL.cons (by repeat (first | assumption | exact mS | apply mT)) ?_ | refine SubL.skip ?_)))))
      · skip
        refine WC.exit ?_
        refine thenQ.exit ?_
        refine loopQ1.exit ?_
        refine blockQ.exit ?_
        refine thenQ.normal ?_
        refine WC.seq ?_
        refine WC.heap (R' := R) (O' := rowC b16 5 (vy (UInt8.ofNat (n / 256 ^ more n % 256)) :: (beb (more n) n).map vy) :: O) (fun w h => by
        obtain rfl : j = more n + 1 := by omega
        rw [Nat.sub_self] at h
        exact h) ?_
        refine WC.tail 8 mixed (by kernel_rfl) ?_
        refine WS.rd rfl rfl rfl (Rd.move rfl rfl) ?_
        refine WS.rd rfl rfl rfl ((by first | exact Rd.idx1 (k := 0) rfl S61 rfl rfl (by omega) (by repeat (first | assumption | exact mS | apply mT)) (by first | omega | (simp only [List.length_cons, List.length_nil, List.length_append, List.length_map]; omega)) | exact Rd.idxA1 (k := 0) rfl S61 rfl rfl (by omega) (by repeat (first | assumption | exact mS | apply mT)) (by first | omega | (simp only [List.length_cons, List.length_nil, List.length_append, List.length_map]; omega)) | exact Rd.idxR1 (k := 0) rfl S61 rfl rfl (by omega) (by omega))) ?_
        refine WS.rd rfl rfl rfl ((by first | exact Rd.get rfl C5 rfl (by repeat (first | assumption | exact mS | apply mT)) (by first | assumption | rfl | exact get!_of_lt (by omega)) | exact Rd.getA rfl C5 rfl (by repeat (first | assumption | exact mS | apply mT)) (by first | assumption | rfl | exact get!_of_lt (by omega)) | exact Rd.row1 rfl C5 rfl (by repeat (first | assumption | exact mS | apply mT)) (by rfl) | exact Rd.getF rfl C5 rfl (by repeat (first | assumption | exact mS | apply mT)) (by intro x; first | rfl | (cases x; rfl) | (rcases x with ⟨_, _, _⟩; rfl) | (rcases x with ⟨_, _, _, _⟩; rfl)) rfl (by first | assumption | rfl | exact get!_of_lt (by omega)) (by rfl) | exact Rd.getFA rfl C5 rfl (by repeat (first | assumption | exact mS | apply mT)) (by intro x; first | rfl | (cases x; rfl) | (rcases x with ⟨_, _, _⟩; rfl) | (rcases x with ⟨_, _, _, _⟩; rfl)) rfl (by first | assumption | rfl | exact get!_of_lt (by omega)) (by rfl))) ?_
        refine WS.rd rfl rfl rfl (Rd.move rfl rfl) ?_
        refine WS.rd rfl rfl rfl (Rd.shrN (a := 255) (n := more n) rfl rfl rfl rfl rfl (by show more n ≤ 8; omega)) ?_
        refine WS.rd rfl rfl rfl (Rd.bnot rfl rfl rfl (Nat.lt_of_le_of_lt (Nat.div_le_self _ _) (by decide))) ?_
        refine WS.rd rfl rfl rfl (Rd.orU rfl rfl rfl rfl rfl rfl (UInt8.toNat_lt _) (Nat.lt_of_le_of_lt (Nat.sub_le _ _) (by decide))) ?_
        refine WS.say 35 (u := vy (UInt8.ofNat (n / 256 ^ more n + mask (more n)))) rfl (by rw [u8_toNat (Nat.mod_lt _ (by decide)), Nat.mod_eq_of_lt (Nat.lt_of_lt_of_le hh (by omega)), or_mask _ h5 _ hh, vy, u8_toNat (by omega)]) ?_
        refine WS.rd rfl rfl rfl ((by first | exact Rd.idx1 (k := 0) rfl S61 rfl rfl (by omega) (by repeat (first | assumption | exact mS | apply mT)) (by first | omega | (simp only [List.length_cons, List.length_nil, List.length_append, List.length_map]; omega)) | exact Rd.idxA1 (k := 0) rfl S61 rfl rfl (by omega) (by repeat (first | assumption | exact mS | apply mT)) (by first | omega | (simp only [List.length_cons, List.length_nil, List.length_append, List.length_map]; omega)) | exact Rd.idxR1 (k := 0) rfl S61 rfl rfl (by omega) (by omega))) ?_
        refine WS.switch ?_
        refine WL.op rfl ?_
        refine OpW.store1 rfl Z5 rfl rfl (by first | exact ⟨rfl, rfl⟩ | assumption) (by repeat (first | assumption | exact Take.head _ | apply Take.tail)) (by first | (simp; done) | omega | exact of_decide_eq_true rfl | (simp only [List.length_append, List.length_replicate, List.length_map, List.length_set]; omega)) rfl ?_
        refine WL.nil ?_
        refine thenQ.normal ?_
        refine WC.seq ?_
        refine WC.region ?_
        refine WL.rd rfl rfl rfl (Rd.move rfl rfl) ?_
        refine WL.rd rfl rfl rfl (Rd.strOfR (bs := putE n) rfl Try.underlying61 Try.underlying9 Try.underlying5 rfl (by repeat (first | assumption | exact mS | apply mT)) rfl hpl (by omega)) ?_
        refine WL.rd rfl rfl rfl (Rd.assign rfl rfl) ?_
        refine WL.nil ?_
        refine thenQ.normal ?_
        refine WC.heap (R' := R) (O' := O) (fun w h => OwnL.sat (by repeat (first | exact OwnL.refl | apply OwnL.take (by repeat (first | exact Take.head _ | apply Take.tail)) | apply OwnL.drop)) w (h.thin (SubL.mem (by repeat (first | exact SubL.refl | refine SubL.cons (by repeat (first | assumption | exact mS | apply mT)) ?_ | refine SubL.skip ?_))))) ?_
        refine WC.ret (Ret.one Try.results39 rfl ?_)
        exact hk
theorem put_spec {R : List RO} {O : List Own} {POST : Value → List RO → List Own → Prop} {p : Int} (hk : POST (vs (putI p)) R O) : Fun Try.prog 39 #[.int .i64 p] R O POST := by
  unfold putI at hk
  by_cases h : p < 0 ∨ 1099511627776 < p
  · rw [if_pos h] at hk
    exact put_bad h hk
  · rw [if_neg h] at hk
    obtain ⟨n, rfl⟩ : ∃ n : Nat, p = n := ⟨p.toNat, by omega⟩
    exact put_good (by omega) hk

set_option maxRecDepth 20000 in
theorem rput_bad {R : List RO} {O : List Own} {POST : Value → List RO → List Own → Prop} {p : Int} (hp : p < 0 ∨ 1099511627776 < p) (hk : POST (vs []) R O) : Fun Try.prog 21 #[.int .i64 p] R O POST := by
  refine Fun.enter (l := [_]) Try.func21 rfl Try.ntmps21 rfl (L0 := [(0, _)]) rfl ?_
  refine WC.seq ?_
  refine WC.region ?_
  refine WL.rd rfl rfl rfl (Rd.assign rfl rfl) ?_
  refine WL.nil ?_
  refine thenQ.normal ?_
  refine WC.seq ?_
  refine WC.pick [0] (by repeat (first | exact Pick.nil | apply Pick.cons rfl)) ?_
  refine WC.val 13 (.bool (decide (p < 0 ∨ 1099511627776 < p))) ?_ ?_
  · skip
    refine WC.region ?_
    refine WL.rd rfl rfl rfl (Rd.move rfl rfl) ?_
    refine WL.rd rfl rfl rfl (Rd.lss rfl rfl rfl) ?_
    refine WL.rd rfl rfl rfl (Rd.move rfl rfl) ?_
    refine WL.case 10 rfl (fun hg10 => ?_) (fun hg10 => ?_)
    · skip
      refine WL.no rfl rfl rfl rfl rfl rfl ?_
      refine WL.no rfl rfl rfl rfl rfl rfl ?_
      refine WL.rd rfl rfl rfl (Rd.pick_t rfl rfl rfl) ?_
      refine WL.nil ?_
      exact ⟨by repeat (first | exact Sub.nil | refine Sub.cons rfl (by first | rfl | (first | rfl | exact vb (by omega) | exact vb_t (by omega) | exact vb_f (by omega) | (simp [*]; done) | (simp_all; done))) ?_), by first | exact (fun _ h => h.thin (SubL.mem (by repeat (first | exact SubL.refl | refine SubL.cons (by repeat (first | assumption | exact mS | apply mT)) ?_ | refine SubL.skip ?_)))) | exact (fun w h => OwnL.sat (by repeat (first | exact OwnL.refl | apply OwnL.take (by repeat (first | exact Take.head _ | apply Take.tail)) | apply OwnL.drop)) w (h.thin (SubL.mem (by repeat (first | exact SubL.refl | refine SubL.cons (by repeat (first | assumption | exact mS | apply mT)) ?_ | refine SubL.skip ?_)))))⟩
    · skip
      refine WL.rd_yes rfl rfl rfl rfl rfl rfl (Rd.move rfl rfl) ?_
      refine WL.rd_yes rfl rfl rfl rfl rfl rfl (Rd.gtr rfl rfl rfl) ?_
      refine WL.rd rfl rfl rfl (Rd.pick_f rfl rfl rfl) ?_
      refine WL.nil ?_
      exact ⟨by repeat (first | exact Sub.nil | refine Sub.cons rfl (by first | rfl | (first | rfl | exact vb (by omega) | exact vb_t (by omega) | exact vb_f (by omega) | (simp [*]; done) | (simp_all; done))) ?_), by first | exact (fun _ h => h.thin (SubL.mem (by repeat (first | exact SubL.refl | refine SubL.cons (by repeat (first | assumption | exact mS | apply mT)) ?_ | refine SubL.skip ?_)))) | exact (fun w h => OwnL.sat (by repeat (first | exact OwnL.refl | apply OwnL.take (by repeat (first | exact Take.head _ | apply Take.tail)) | apply OwnL.drop)) w (h.thin (SubL.mem (by repeat (first | exact SubL.refl | refine SubL.cons (by repeat (first | assumption | exact mS | apply mT)) ?_ | refine SubL.skip ?_)))))⟩
  · skip
    first | refine WC.ite rfl (fun hc1 => ?_) (fun hc1 => ?_) | refine WC.cond rfl (fun hc1 => ?_) (fun hc1 => ?_)
    · skip
      refine WC.seq ?_
      refine WC.region ?_
      refine WL.rd rfl rfl rfl (Rd.assign rfl rfl) ?_
      refine WL.nil ?_
      refine thenQ.normal ?_
      refine WC.ret (Ret.one Try.results21 rfl ?_)
      exact hk
    · skip
      exfalso; omega
theorem first_get : ∀ k, k ≤ 5 → [vi 0, vi 128, vi 192, vi 224, vi 240, vi 248][k]? = some (vi (mask k : Nat))
  | 0, _ | 1, _ | 2, _ | 3, _ | 4, _ | 5, _ => rfl
  | k + 6, h => by omega
set_option maxRecDepth 20000 in
set_option maxHeartbeats 1000000 in
theorem rput_good {R : List RO} {O : List Own} {POST : Value → List RO → List Own → Prop} {n : Nat} (hn : n ≤ 1099511627776) (hk : POST (vs (putE n)) R O) : Fun Try.prog 21 #[.int .i64 n] R O POST := by
  have h5 := more_le hn
  have hh := head_lt hn
  have hms := mask_sum _ h5
  have hpl := putE_length n
  refine Fun.enter (l := [_]) Try.func21 rfl Try.ntmps21 rfl (L0 := [(0, _)]) rfl ?_
  refine WC.seq ?_
  refine WC.region ?_
  refine WL.rd rfl rfl rfl (Rd.assign rfl rfl) ?_
  refine WL.nil ?_
  refine thenQ.normal ?_
  refine WC.seq ?_
  refine WC.pick [0] (by repeat (first | exact Pick.nil | apply Pick.cons rfl)) ?_
  refine WC.val 13 (.bool (decide ((n : Int) < 0 ∨ 1099511627776 < (n : Int)))) ?_ ?_
  · skip
    refine WC.region ?_
    refine WL.rd rfl rfl rfl (Rd.move rfl rfl) ?_
    refine WL.rd rfl rfl rfl (Rd.lss rfl rfl rfl) ?_
    refine WL.rd rfl rfl rfl (Rd.move rfl rfl) ?_
    refine WL.case 10 rfl (fun hg10 => ?_) (fun hg10 => ?_)
    · skip
      refine WL.no rfl rfl rfl rfl rfl rfl ?_
      refine WL.no rfl rfl rfl rfl rfl rfl ?_
      refine WL.rd rfl rfl rfl (Rd.pick_t rfl rfl rfl) ?_
      refine WL.nil ?_
      exact ⟨by repeat (first | exact Sub.nil | refine Sub.cons rfl (by first | rfl | (first | rfl | exact vb (by omega) | exact vb_t (by omega) | exact vb_f (by omega) | (simp [*]; done) | (simp_all; done))) ?_), by first | exact (fun _ h => h.thin (SubL.mem (by repeat (first | exact SubL.refl | refine SubL.cons (by repeat (first | assumption | exact mS | apply mT)) ?_ | refine SubL.skip ?_)))) | exact (fun w h => OwnL.sat (by repeat (first | exact OwnL.refl | apply OwnL.take (by repeat (first | exact Take.head _ | apply Take.tail)) | apply OwnL.drop)) w (h.thin (SubL.mem (by repeat (first | exact SubL.refl | refine SubL.cons (by repeat (first | assumption | exact mS | apply mT)) ?_ | refine SubL.skip ?_)))))⟩
    · skip
      refine WL.rd_yes rfl rfl rfl rfl rfl rfl (Rd.move rfl rfl) ?_
      refine WL.rd_yes rfl rfl rfl rfl rfl rfl (Rd.gtr rfl rfl rfl) ?_
      refine WL.rd rfl rfl rfl (Rd.pick_f rfl rfl rfl) ?_
      refine WL.nil ?_
      exact ⟨by repeat (first | exact Sub.nil | refine Sub.cons rfl (by first | rfl | (first | rfl | exact vb (by omega) | exact vb_t (by omega) | exact vb_f (by omega) | (simp [*]; done) | (simp_all; done))) ?_), by first | exact (fun _ h => h.thin (SubL.mem (by repeat (first | exact SubL.refl | refine SubL.cons (by repeat (first | assumption | exact mS | apply mT)) ?_ | refine SubL.skip ?_)))) | exact (fun w h => OwnL.sat (by repeat (first | exact OwnL.refl | apply OwnL.take (by repeat (first | exact Take.head _ | apply Take.tail)) | apply OwnL.drop)) w (h.thin (SubL.mem (by repeat (first | exact SubL.refl | refine SubL.cons (by repeat (first | assumption | exact mS | apply mT)) ?_ | refine SubL.skip ?_)))))⟩
  · skip
    first | refine WC.ite rfl (fun hc1 => ?_) (fun hc1 => ?_) | refine WC.cond rfl (fun hc1 => ?_) (fun hc1 => ?_)
    · skip
      exfalso; omega
    · skip
      refine WC.skip ?_
      refine thenQ.normal ?_
      refine WC.seq ?_
      refine WC.region ?_
      refine WL.rd rfl rfl rfl (Rd.assign rfl rfl) ?_
      refine WL.rd rfl rfl rfl (Rd.assign rfl rfl) ?_
      refine WL.nil ?_
      refine thenQ.normal ?_
      refine WC.seq ?_
      refine WC.block ?_
      refine WC.pick [3, 4, 0] (by repeat (first | exact Pick.nil | apply Pick.cons rfl)) ?_
      refine WC.loop1o 2 (fun (k : Nat) => [(3, .int .i64 (k : Int)), (4, .int .i64 ((128 ^ (k + 1) : Nat) : Int))]) (fun (k : Nat) => k ≤ more n) (fun (k : Nat) => more n - k) (0) (by repeat (first | exact Split.zero | apply Split.succ)) ?hinv1 (by repeat (first | exact Sub.nil | refine Sub.cons rfl (by first | rfl | (congr 1; omega) | assumption) ?_)) (fun _ h => h) ?_
      case hinv1 =>
        exact Nat.zero_le _
      intro k
      rintro h1
      refine WC.seq ?_
      refine WC.seq ?_
      refine WC.region ?_
      refine WL.rd rfl rfl rfl (Rd.move rfl rfl) ?_
      refine WL.rd rfl rfl rfl (Rd.move rfl rfl) ?_
      refine WL.rd rfl rfl rfl (Rd.geq rfl rfl rfl) ?_
      refine WL.nil ?_
      refine thenQ.normal ?_
      first | refine WC.ite rfl (fun hc2 => ?_) (fun hc2 => ?_) | refine WC.cond rfl (fun hc2 => ?_) (fun hc2 => ?_)
      · skip
        have hk1 : k < more n := by rcases Nat.lt_or_ge k (more n) with h | h; exact h; exact absurd (more_lt.2 h) (by omega)
        refine WC.skip ?_
        refine thenQ.normal ?_
        refine WC.block ?_
        refine WC.seq ?_
        refine WC.region ?_
        refine WL.rd rfl rfl rfl (Rd.move rfl rfl) ?_
        refine WL.rd rfl rfl rfl (Rd.add rfl rfl rfl (by omega)) ?_
        refine WL.rd rfl rfl rfl (Rd.assign rfl rfl) ?_
        refine WL.nil ?_
        refine thenQ.normal ?_
        refine WC.region ?_
        refine WL.rd rfl rfl rfl (Rd.move rfl rfl) ?_
        have hb : 128 ^ (k + 1) ≤ 128 ^ 5 := Nat.pow_le_pow_right (by decide) (by omega); have hb0 : 0 < 128 ^ (k + 1) := Nat.pow_pos (by decide)
        refine WL.rd rfl rfl rfl (Rd.mul rfl rfl rfl (by generalize 128 ^ (k + 1) = g at *; omega)) ?_
        refine WL.say 20 (u := .int .i64 ((128 ^ (k + 1 + 1) : Nat) : Int)) rfl (by rw [Nat.pow_succ 128 (k + 1), Int.natCast_mul]; rfl) ?_
        refine WL.rd rfl rfl rfl (Rd.assign rfl rfl) ?_
        refine WL.nil ?_
        refine blockQ.normal ?_
        exact loopQ1.mk (k + 1) (by omega) (by omega) (by repeat (first | exact Sub.nil | refine Sub.cons rfl (by first | rfl | (congr 1; omega) | assumption) ?_)) (fun w h => OwnL.sat (by repeat (first | exact OwnL.refl | apply OwnL.take (by repeat (first | exact Take.head _ | apply Take.tail)) | apply OwnL.drop)) w (h.thin (SubL.mem (by repeat (first | exact SubL.refl | refine SubL.cons (by repeat (first | assumption | exact mS | apply mT)) ?_ | refine SubL.skip ?_)))))
      · skip
        have hk2 : k = more n := Nat.le_antisymm h1 (more_lt.1 (by omega))
        refine WC.exit ?_
        refine thenQ.exit ?_
        refine loopQ1.exit ?_
        refine blockQ.exit ?_
        refine thenQ.normal ?_
        refine WC.seq ?_
        refine WC.region ?_
        refine WL.rd rfl rfl rfl (Rd.assign rfl rfl) ?_
        refine WL.nil ?_
        refine thenQ.normal ?_
        refine WC.seq ?_
        refine WC.seq ?_
        refine WC.region ?_
        refine WL.rd rfl rfl rfl (Rd.assign rfl rfl) ?_
        refine WL.nil ?_
        refine thenQ.normal ?_
        refine WC.block ?_
        refine WC.pick [6, 5, 0, 3] (by repeat (first | exact Pick.nil | apply Pick.cons rfl)) ?_
        refine WC.loop1o 3 (fun (i : Nat) => [(6, .int .i64 (i : Int)), (5, vs (beb i n)), (0, .int .i64 ((n / 256 ^ i : Nat) : Int))]) (fun (i : Nat) => i ≤ more n) (fun (i : Nat) => more n - i) (0) (by repeat (first | exact Split.zero | apply Split.succ)) ?hinv2 (by repeat (first | exact Sub.nil | refine Sub.cons rfl (by first | rfl | (congr 1; omega) | assumption) ?_)) (fun _ h => h) ?_
        case hinv2 =>
          exact Nat.zero_le _
        intro i
        rintro h2
        refine WC.seq ?_
        refine WC.seq ?_
        refine WC.region ?_
        refine WL.rd rfl rfl rfl (Rd.move rfl rfl) ?_
        refine WL.rd rfl rfl rfl (Rd.move rfl rfl) ?_
        refine WL.rd rfl rfl rfl (Rd.lss rfl rfl rfl) ?_
        refine WL.nil ?_
        refine thenQ.normal ?_
        first | refine WC.ite rfl (fun hc3 => ?_) (fun hc3 => ?_) | refine WC.cond rfl (fun hc3 => ?_) (fun hc3 => ?_)
        · skip
          refine WC.skip ?_
          refine thenQ.normal ?_
          refine WC.seq ?_
          refine WC.block ?_
          refine WC.seq ?_
          refine WC.region ?_
          refine WL.rd rfl rfl rfl (Rd.move rfl rfl) ?_
          refine WL.rd rfl rfl rfl (Rd.remN (b := 256) rfl rfl rfl rfl rfl (by decide)) ?_
          refine WL.rd rfl rfl rfl (Rd.conv rfl rfl Try.underlying5 (wrap_natU (k := .u8) rfl (Nat.mod_lt _ (by decide))) (hS := Try.underlying3)) ?_
          refine WL.op rfl ?_
          refine OpW.buildSl (ps := [(0, _)]) rfl S61 (by repeat (first | exact Evs.nil | apply Evs.cons rfl)) rfl rfl (by repeat (first | exact CellsOf.nil | apply CellsOf.cons rfl)) (by kernel_rfl) rfl rfl rfl ?_; intro b29
          refine WL.rd rfl rfl rfl (Rd.strOfR (bs := [UInt8.ofNat (n / 256 ^ i % 256)]) rfl Try.underlying61 Try.underlying9 Try.underlying5 rfl (by repeat (first | assumption | exact mS | apply mT)) (by show [vy _] = _; rw [vy, u8_toNat (Nat.mod_lt _ (by decide))]; rfl) rfl (by omega)) ?_
          refine WL.rd rfl rfl rfl (Rd.move rfl rfl) ?_
          refine WL.rd rfl rfl rfl (Rd.scat rfl rfl rfl (by rw [beb_length]; simp; omega)) ?_
          refine WL.rd rfl rfl rfl (Rd.assign rfl rfl) ?_
          refine WL.nil ?_
          refine thenQ.normal ?_
          refine WC.region ?_
          refine WL.rd rfl rfl rfl (Rd.move rfl rfl) ?_
          have hd0 := Nat.div_le_self n (256 ^ i)
          refine WL.rd rfl rfl rfl (Rd.quoI (b := 256) rfl rfl rfl rfl rfl (by decide) (by omega)) ?_
          refine WL.say 34 (u := .int .i64 ((n / 256 ^ (i + 1) : Nat) : Int)) rfl (by rw [← div_step]) ?_
          refine WL.rd rfl rfl rfl (Rd.assign rfl rfl) ?_
          refine WL.nil ?_
          refine blockQ.normal ?_
          refine thenQ.normal ?_
          refine WC.region ?_
          refine WL.rd rfl rfl rfl (Rd.move rfl rfl) ?_
          refine WL.rd rfl rfl rfl (Rd.add rfl rfl rfl (by omega)) ?_
          refine WL.rd rfl rfl rfl (Rd.assign rfl rfl) ?_
          refine WL.nil ?_
          exact loopQ1.mk (i + 1) (by omega) (by omega) (by repeat (first | exact Sub.nil | refine Sub.cons rfl (by first | rfl | (congr 1; omega) | assumption) ?_)) (fun w h => OwnL.sat (by repeat (first | exact OwnL.refl | apply OwnL.take (by repeat (first | exact Take.head _ | apply Take.tail)) | apply OwnL.drop)) w (h.thin (SubL.mem (by repeat (first | exact SubL.refl | refine SubL.cons (by repeat (first | assumption | exact mS | apply mT)) ?_ | refine SubL.skip ?_)))))
        · skip
          refine WC.exit ?_
          refine thenQ.exit ?_
          refine loopQ1.exit ?_
          refine blockQ.exit ?_
          refine thenQ.normal ?_
          refine WC.seq ?_
          obtain rfl : i = more n := by omega
          refine WC.region ?_
          refine WL.op rfl ?_
          refine OpW.buildSl (ps := [(0, _), (1, _), (2, _), (3, _), (4, _), (5, _)]) rfl S72 (by repeat (first | exact Evs.nil | apply Evs.cons rfl)) rfl rfl (by repeat (first | exact CellsOf.nil | apply CellsOf.cons rfl)) (by kernel_rfl) rfl rfl rfl ?_; intro b35
          refine WL.rd rfl rfl rfl (Rd.move rfl rfl) ?_
          refine WL.rd rfl rfl rfl ((by first | exact Rd.idx1 (k := more n) rfl S72 rfl rfl (by omega) (by repeat (first | assumption | exact mS | apply mT)) (by first | omega | (simp only [List.length_cons, List.length_nil, List.length_append, List.length_map]; omega)) | exact Rd.idxA1 (k := more n) rfl S72 rfl rfl (by omega) (by repeat (first | assumption | exact mS | apply mT)) (by first | omega | (simp only [List.length_cons, List.length_nil, List.length_append, List.length_map]; omega)) | exact Rd.idxR1 (k := more n) rfl S72 rfl rfl (by omega) (by omega))) ?_
          refine WL.rd rfl rfl rfl (Rd.row1 rfl C3 rfl (by repeat (first | assumption | exact mS | apply mT)) (first_get _ h5)) ?_
          refine WL.rd rfl rfl rfl (Rd.assign rfl rfl) ?_
          refine WL.nil ?_
          refine thenQ.normal ?_
          refine WC.seq ?_
          refine WC.region ?_
          refine WL.rd rfl rfl rfl (Rd.move rfl rfl) ?_
          refine WL.rd rfl rfl rfl (Rd.move rfl rfl) ?_
          have hd1 := Nat.div_le_self n (256 ^ more n)
          refine WL.rd rfl rfl rfl (Rd.add rfl rfl rfl (by have := mask_le (more n); generalize n / 256 ^ more n = g at *; omega)) ?_
          refine WL.say 41 (u := .int .i64 ((n / 256 ^ more n + mask (more n) : Nat) : Int)) rfl (by congr 1; omega) ?_
          refine WL.rd rfl rfl rfl (Rd.conv rfl rfl Try.underlying5 (wrap_natU (k := .u8) rfl (show _ < 256 by omega)) (hS := Try.underlying3)) ?_
          refine WL.op rfl ?_
          refine OpW.buildSl (ps := [(0, _)]) rfl S61 (by repeat (first | exact Evs.nil | apply Evs.cons rfl)) rfl rfl (by repeat (first | exact CellsOf.nil | apply CellsOf.cons rfl)) (by kernel_rfl) rfl rfl rfl ?_; intro b43
          refine WL.rd rfl rfl rfl (Rd.strOfR (bs := [UInt8.ofNat (n / 256 ^ more n + mask (more n))]) rfl Try.underlying61 Try.underlying9 Try.underlying5 rfl (by repeat (first | assumption | exact mS | apply mT)) (by show [vy _] = _; rw [vy, u8_toNat (by omega)]; rfl) rfl (by omega)) ?_
          refine WL.rd rfl rfl rfl (Rd.move rfl rfl) ?_
          refine WL.rd rfl rfl rfl (Rd.scat rfl rfl rfl (by rw [beb_length]; simp; omega)) ?_
          refine WL.rd rfl rfl rfl (Rd.assign rfl rfl) ?_
          refine WL.nil ?_
          refine thenQ.normal ?_
          refine WC.heap (R' := R) (O' := O) (fun w h => OwnL.sat (by repeat (first | exact OwnL.refl | apply OwnL.take (by repeat (first | exact Take.head _ | apply Take.tail)) | apply OwnL.drop)) w (h.thin (SubL.mem (by repeat (first | exact SubL.refl | refine SubL.cons (by repeat (first | assumption | exact mS | apply mT)) ?_ | refine SubL.skip ?_))))) ?_
          refine WC.ret (Ret.one Try.results21 rfl ?_)
          exact hk
theorem rput_spec {R : List RO} {O : List Own} {POST : Value → List RO → List Own → Prop} {p : Int} (hk : POST (vs (putI p)) R O) : Fun Try.prog 21 #[.int .i64 p] R O POST := by
  unfold putI at hk
  by_cases h : p < 0 ∨ 1099511627776 < p
  · rw [if_pos h] at hk
    exact rput_bad h hk
  · rw [if_neg h] at hk
    obtain ⟨n, rfl⟩ : ∃ n : Nat, p = n := ⟨p.toNat, by omega⟩
    exact rput_good (by omega) hk
end Go.Proofs.Ytedgndhbieeffaa
