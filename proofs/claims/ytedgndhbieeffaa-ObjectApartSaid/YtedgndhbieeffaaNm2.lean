/-
  Layer 1: how many bits a number has; behind.
-/
import Derived.Test.YtedgndhbieeffaaNm1
namespace Go.Proofs.Ytedgndhbieeffaa
open Go Go.SL

/-- How many bits a number has. -/
def blen (n : Nat) : Nat := if n = 0 then 0 else Nat.log2 n + 1
theorem blen_div {n k : Nat} (h : 2 ^ k ≤ n) : blen n = blen (n / 2 ^ k) + k := by
  have h1 : 0 < n / 2 ^ k := Nat.div_pos h (Nat.two_pow_pos k)
  have h0 : n ≠ 0 := by have := Nat.two_pow_pos k; omega
  unfold blen
  rw [if_neg h0, if_neg (by omega)]
  have : Nat.log2 n = Nat.log2 (n / 2 ^ k) + k := by
    rw [Nat.log2_eq_iff h0]
    have h3 := Nat.log2_self_le (n := n / 2 ^ k) (by omega)
    have h4 := Nat.lt_log2_self (n := n / 2 ^ k)
    constructor
    · rw [Nat.pow_add]
      exact (Nat.le_div_iff_mul_le (Nat.two_pow_pos k)).1 h3
    · rw [show Nat.log2 (n / 2 ^ k) + k + 1 = (Nat.log2 (n / 2 ^ k) + 1) + k from by omega, Nat.pow_add]
      exact (Nat.div_lt_iff_lt_mul (Nat.two_pow_pos k)).1 h4
  omega
theorem blen_lt {n k : Nat} (h : n < 2 ^ k) : blen n ≤ k := by
  unfold blen
  split
  · omega
  · have := (Nat.log2_lt (n := n) (k := k) (by omega)).2 h; omega
theorem blen_ge {n k : Nat} (h : 2 ^ k ≤ n) : k < blen n := by
  have h0 : n ≠ 0 := by have := Nat.two_pow_pos k; omega
  unfold blen
  rw [if_neg h0]
  have := (Nat.le_log2 h0).2 h; omega
/-- The library's table. -/
def len8tab : List UInt8 := [0, 1, 2, 2, 3, 3, 3, 3, 4, 4, 4, 4, 4, 4, 4, 4, 5, 5, 5, 5, 5, 5, 5, 5, 5, 5, 5, 5, 5, 5, 5, 5, 6, 6, 6, 6, 6, 6, 6, 6, 6, 6, 6, 6, 6, 6, 6, 6, 6, 6, 6, 6, 6, 6, 6, 6, 6, 6, 6, 6, 6, 6, 6, 6, 7, 7, 7, 7, 7, 7, 7, 7, 7, 7, 7, 7, 7, 7, 7, 7, 7, 7, 7, 7, 7, 7, 7, 7, 7, 7, 7, 7, 7, 7, 7, 7, 7, 7, 7, 7, 7, 7, 7, 7, 7, 7, 7, 7, 7, 7, 7, 7, 7, 7, 7, 7, 7, 7, 7, 7, 7, 7, 7, 7, 7, 7, 7, 7, 8, 8, 8, 8, 8, 8, 8, 8, 8, 8, 8, 8, 8, 8, 8, 8, 8, 8, 8, 8, 8, 8, 8, 8, 8, 8, 8, 8, 8, 8, 8, 8, 8, 8, 8, 8, 8, 8, 8, 8, 8, 8, 8, 8, 8, 8, 8, 8, 8, 8, 8, 8, 8, 8, 8, 8, 8, 8, 8, 8, 8, 8, 8, 8, 8, 8, 8, 8, 8, 8, 8, 8, 8, 8, 8, 8, 8, 8, 8, 8, 8, 8, 8, 8, 8, 8, 8, 8, 8, 8, 8, 8, 8, 8, 8, 8, 8, 8, 8, 8, 8, 8, 8, 8, 8, 8, 8, 8, 8, 8, 8, 8, 8, 8, 8, 8, 8, 8, 8, 8, 8, 8, 8, 8, 8, 8, 8, 8]
theorem len8_all : ∀ n < 256, len8tab[n]? = some (UInt8.ofNat (blen n)) := by decide +kernel
theorem blen_u8 {n : Nat} (h : n < 256) : (UInt8.ofNat (blen n)).toNat = blen n := by
  have := blen_lt (n := n) (k := 8) h
  simp; omega
theorem _root_.Go.SL.Rd.len8 {P : Program} {o : Oper} {t : TypeId} {x y : Operand} {L : Env} {R : List RO} {O : List Own} {kd : IntKind} {p : Int} {k : Nat} (ho : o.op = .index t x y) (hT : P.underlying t = some .string) (hx : ev L x = some (vs len8tab)) (hy : ev L y = some (.int kd p)) (hp : p = (k : Int)) (hk : k < 256) : Rd P o L R O (.int .u8 (blen k : Nat)) := by
  have h := Rd.sidx (R := R) (O := O) ho hT hx hy hp (len8_all k hk)
  rw [blen_u8 hk] at h; exact h
theorem vi_eq {POST : Value → List RO → List Own → Prop} {R : List RO} {O : List Own} {a b : Int} (h : POST (.int .i64 a) R O) (e : a = b) : POST (.int .i64 b) R O := e ▸ h
theorem len8_le (n : Nat) (h : n < 256) : blen n ≤ 8 := blen_lt (k := 8) h

set_option maxRecDepth 20000 in
theorem len64_spec {R : List RO} {O : List Own} {POST : Value → List RO → List Own → Prop} {n : Nat} (hn : n < 18446744073709551616) (hk : POST (.int .i64 (blen n)) R O) : Fun Try.prog 58 #[.int .u64 n] R O POST := by
  refine Fun.enter (l := [_]) Try.func58 rfl Try.ntmps58 rfl (L0 := [(0, _)]) rfl ?_
  refine WC.seq ?_
  refine WC.region ?_
  refine WL.rd rfl rfl rfl (Rd.assign rfl rfl) ?_
  refine WL.nil ?_
  refine thenQ.normal ?_
  refine WC.seq ?_
  refine WC.seq ?_
  refine WC.region ?_
  refine WL.rd rfl rfl rfl (Rd.move rfl rfl) ?_
  refine WL.rd rfl rfl rfl (Rd.geq rfl rfl rfl) ?_
  refine WL.nil ?_
  refine thenQ.normal ?_
  first | refine WC.ite rfl (fun hc1 => ?_) (fun hc1 => ?_) | refine WC.cond rfl (fun hc1 => ?_) (fun hc1 => ?_)
  · skip
    have e1 := blen_div (n := n) (k := 32) (by omega)
    refine WC.seq ?_
    refine WC.region ?_
    refine WL.rd rfl rfl rfl (Rd.move rfl rfl) ?_
    refine WL.rd rfl rfl rfl (Rd.shrN (n := 32) rfl rfl rfl rfl rfl (by decide)) ?_
    refine WL.rd rfl rfl rfl (Rd.assign rfl rfl) ?_
    refine WL.nil ?_
    refine thenQ.normal ?_
    refine WC.region ?_
    refine WL.rd rfl rfl rfl (Rd.assign rfl rfl) ?_
    refine WL.nil ?_
    refine thenQ.normal ?_
    refine WC.seq ?_
    refine WC.seq ?_
    refine WC.region ?_
    refine WL.rd rfl rfl rfl (Rd.move rfl rfl) ?_
    refine WL.rd rfl rfl rfl (Rd.geq rfl rfl rfl) ?_
    refine WL.nil ?_
    refine thenQ.normal ?_
    first | refine WC.ite rfl (fun hc2 => ?_) (fun hc2 => ?_) | refine WC.cond rfl (fun hc2 => ?_) (fun hc2 => ?_)
    · skip
      first | have e2 := blen_div (n := n / 2 ^ 32) (k := 16) (by omega) | have e2 := blen_div (n := n) (k := 16) (by omega)
      refine WC.seq ?_
      refine WC.region ?_
      refine WL.rd rfl rfl rfl (Rd.move rfl rfl) ?_
      refine WL.rd rfl rfl rfl (Rd.shrN (n := 16) rfl rfl rfl rfl rfl (by decide)) ?_
      refine WL.rd rfl rfl rfl (Rd.assign rfl rfl) ?_
      refine WL.nil ?_
      refine thenQ.normal ?_
      refine WC.region ?_
      refine WL.rd rfl rfl rfl (Rd.move rfl rfl) ?_
      refine WL.rd rfl rfl rfl (Rd.add rfl rfl rfl (by omega)) ?_
      refine WL.rd rfl rfl rfl (Rd.assign rfl rfl) ?_
      refine WL.nil ?_
      refine thenQ.normal ?_
      refine WC.seq ?_
      refine WC.seq ?_
      refine WC.region ?_
      refine WL.rd rfl rfl rfl (Rd.move rfl rfl) ?_
      refine WL.rd rfl rfl rfl (Rd.geq rfl rfl rfl) ?_
      refine WL.nil ?_
      refine thenQ.normal ?_
      first | refine WC.ite rfl (fun hc3 => ?_) (fun hc3 => ?_) | refine WC.cond rfl (fun hc3 => ?_) (fun hc3 => ?_)
      · skip
        first | have e3 := blen_div (n := n / 2 ^ 32 / 2 ^ 16) (k := 8) (by omega) | have e3 := blen_div (n := n / 2 ^ 32) (k := 8) (by omega) | have e3 := blen_div (n := n / 2 ^ 16) (k := 8) (by omega) | have e3 := blen_div (n := n) (k := 8) (by omega)
        refine WC.seq ?_
        refine WC.region ?_
        refine WL.rd rfl rfl rfl (Rd.move rfl rfl) ?_
        refine WL.rd rfl rfl rfl (Rd.shrN (n := 8) rfl rfl rfl rfl rfl (by decide)) ?_
        refine WL.rd rfl rfl rfl (Rd.assign rfl rfl) ?_
        refine WL.nil ?_
        refine thenQ.normal ?_
        refine WC.region ?_
        refine WL.rd rfl rfl rfl (Rd.move rfl rfl) ?_
        refine WL.rd rfl rfl rfl (Rd.add rfl rfl rfl (by omega)) ?_
        refine WL.rd rfl rfl rfl (Rd.assign rfl rfl) ?_
        refine WL.nil ?_
        refine thenQ.normal ?_
        refine WC.seq ?_
        refine WC.region ?_
        refine WL.rd rfl rfl rfl (Rd.move rfl rfl) ?_
        refine WL.rd rfl rfl rfl (Rd.move rfl rfl) ?_
        refine WL.rd rfl rfl rfl (Rd.conv rfl rfl Try.underlying5 (wrap_natU (k := .u8) rfl (show _ < 256 by omega)) (hS := Try.underlying102)) ?_
        refine WL.rd rfl rfl rfl (Rd.len8 rfl Try.underlying9 rfl rfl rfl (by omega)) ?_
        refine WL.rd rfl rfl rfl (Rd.conv rfl rfl Try.underlying3 (wrap_natS (k := .i64) (Nat.lt_of_le_of_lt (len8_le _ (by omega)) (by decide))) (hS := Try.underlying5)) ?_
        refine WL.rd rfl rfl rfl (Rd.add rfl rfl rfl (by first | (have h8 := len8_le (n) (by omega); omega) | (have h8 := len8_le (n / 2 ^ 8) (by omega); omega) | (have h8 := len8_le (n / 2 ^ 16) (by omega); omega) | (have h8 := len8_le (n / 2 ^ 16 / 2 ^ 8) (by omega); omega) | (have h8 := len8_le (n / 2 ^ 32) (by omega); omega) | (have h8 := len8_le (n / 2 ^ 32 / 2 ^ 8) (by omega); omega) | (have h8 := len8_le (n / 2 ^ 32 / 2 ^ 16) (by omega); omega) | (have h8 := len8_le (n / 2 ^ 32 / 2 ^ 16 / 2 ^ 8) (by omega); omega))) ?_
        refine WL.rd rfl rfl rfl (Rd.assign rfl rfl) ?_
        refine WL.nil ?_
        refine thenQ.normal ?_
        refine WC.ret (Ret.one Try.results58 rfl ?_)
        exact vi_eq hk (by omega)
      · skip
        refine WC.skip ?_
        refine thenQ.normal ?_
        refine WC.seq ?_
        refine WC.region ?_
        refine WL.rd rfl rfl rfl (Rd.move rfl rfl) ?_
        refine WL.rd rfl rfl rfl (Rd.move rfl rfl) ?_
        refine WL.rd rfl rfl rfl (Rd.conv rfl rfl Try.underlying5 (wrap_natU (k := .u8) rfl (show _ < 256 by omega)) (hS := Try.underlying102)) ?_
        refine WL.rd rfl rfl rfl (Rd.len8 rfl Try.underlying9 rfl rfl rfl (by omega)) ?_
        refine WL.rd rfl rfl rfl (Rd.conv rfl rfl Try.underlying3 (wrap_natS (k := .i64) (Nat.lt_of_le_of_lt (len8_le _ (by omega)) (by decide))) (hS := Try.underlying5)) ?_
        refine WL.rd rfl rfl rfl (Rd.add rfl rfl rfl (by first | (have h8 := len8_le (n) (by omega); omega) | (have h8 := len8_le (n / 2 ^ 8) (by omega); omega) | (have h8 := len8_le (n / 2 ^ 16) (by omega); omega) | (have h8 := len8_le (n / 2 ^ 16 / 2 ^ 8) (by omega); omega) | (have h8 := len8_le (n / 2 ^ 32) (by omega); omega) | (have h8 := len8_le (n / 2 ^ 32 / 2 ^ 8) (by omega); omega) | (have h8 := len8_le (n / 2 ^ 32 / 2 ^ 16) (by omega); omega) | (have h8 := len8_le (n / 2 ^ 32 / 2 ^ 16 / 2 ^ 8) (by omega); omega))) ?_
        refine WL.rd rfl rfl rfl (Rd.assign rfl rfl) ?_
        refine WL.nil ?_
        refine thenQ.normal ?_
        refine WC.ret (Ret.one Try.results58 rfl ?_)
        exact vi_eq hk (by omega)
    · skip
      refine WC.skip ?_
      refine thenQ.normal ?_
      refine WC.seq ?_
      refine WC.seq ?_
      refine WC.region ?_
      refine WL.rd rfl rfl rfl (Rd.move rfl rfl) ?_
      refine WL.rd rfl rfl rfl (Rd.geq rfl rfl rfl) ?_
      refine WL.nil ?_
      refine thenQ.normal ?_
      first | refine WC.ite rfl (fun hc3 => ?_) (fun hc3 => ?_) | refine WC.cond rfl (fun hc3 => ?_) (fun hc3 => ?_)
      · skip
        first | have e3 := blen_div (n := n / 2 ^ 32 / 2 ^ 16) (k := 8) (by omega) | have e3 := blen_div (n := n / 2 ^ 32) (k := 8) (by omega) | have e3 := blen_div (n := n / 2 ^ 16) (k := 8) (by omega) | have e3 := blen_div (n := n) (k := 8) (by omega)
        refine WC.seq ?_
        refine WC.region ?_
        refine WL.rd rfl rfl rfl (Rd.move rfl rfl) ?_
        refine WL.rd rfl rfl rfl (Rd.shrN (n := 8) rfl rfl rfl rfl rfl (by decide)) ?_
        refine WL.rd rfl rfl rfl (Rd.assign rfl rfl) ?_
        refine WL.nil ?_
        refine thenQ.normal ?_
        refine WC.region ?_
        refine WL.rd rfl rfl rfl (Rd.move rfl rfl) ?_
        refine WL.rd rfl rfl rfl (Rd.add rfl rfl rfl (by omega)) ?_
        refine WL.rd rfl rfl rfl (Rd.assign rfl rfl) ?_
        refine WL.nil ?_
        refine thenQ.normal ?_
        refine WC.seq ?_
        refine WC.region ?_
        refine WL.rd rfl rfl rfl (Rd.move rfl rfl) ?_
        refine WL.rd rfl rfl rfl (Rd.move rfl rfl) ?_
        refine WL.rd rfl rfl rfl (Rd.conv rfl rfl Try.underlying5 (wrap_natU (k := .u8) rfl (show _ < 256 by omega)) (hS := Try.underlying102)) ?_
        refine WL.rd rfl rfl rfl (Rd.len8 rfl Try.underlying9 rfl rfl rfl (by omega)) ?_
        refine WL.rd rfl rfl rfl (Rd.conv rfl rfl Try.underlying3 (wrap_natS (k := .i64) (Nat.lt_of_le_of_lt (len8_le _ (by omega)) (by decide))) (hS := Try.underlying5)) ?_
        refine WL.rd rfl rfl rfl (Rd.add rfl rfl rfl (by first | (have h8 := len8_le (n) (by omega); omega) | (have h8 := len8_le (n / 2 ^ 8) (by omega); omega) | (have h8 := len8_le (n / 2 ^ 16) (by omega); omega) | (have h8 := len8_le (n / 2 ^ 16 / 2 ^ 8) (by omega); omega) | (have h8 := len8_le (n / 2 ^ 32) (by omega); omega) | (have h8 := len8_le (n / 2 ^ 32 / 2 ^ 8) (by omega); omega) | (have h8 := len8_le (n / 2 ^ 32 / 2 ^ 16) (by omega); omega) | (have h8 := len8_le (n / 2 ^ 32 / 2 ^ 16 / 2 ^ 8) (by omega); omega))) ?_
        refine WL.rd rfl rfl rfl (Rd.assign rfl rfl) ?_
        refine WL.nil ?_
        refine thenQ.normal ?_
        refine WC.ret (Ret.one Try.results58 rfl ?_)
        exact vi_eq hk (by omega)
      · skip
        refine WC.skip ?_
        refine thenQ.normal ?_
        refine WC.seq ?_
        refine WC.region ?_
        refine WL.rd rfl rfl rfl (Rd.move rfl rfl) ?_
        refine WL.rd rfl rfl rfl (Rd.move rfl rfl) ?_
        refine WL.rd rfl rfl rfl (Rd.conv rfl rfl Try.underlying5 (wrap_natU (k := .u8) rfl (show _ < 256 by omega)) (hS := Try.underlying102)) ?_
        refine WL.rd rfl rfl rfl (Rd.len8 rfl Try.underlying9 rfl rfl rfl (by omega)) ?_
        refine WL.rd rfl rfl rfl (Rd.conv rfl rfl Try.underlying3 (wrap_natS (k := .i64) (Nat.lt_of_le_of_lt (len8_le _ (by omega)) (by decide))) (hS := Try.underlying5)) ?_
        refine WL.rd rfl rfl rfl (Rd.add rfl rfl rfl (by first | (have h8 := len8_le (n) (by omega); omega) | (have h8 := len8_le (n / 2 ^ 8) (by omega); omega) | (have h8 := len8_le (n / 2 ^ 16) (by omega); omega) | (have h8 := len8_le (n / 2 ^ 16 / 2 ^ 8) (by omega); omega) | (have h8 := len8_le (n / 2 ^ 32) (by omega); omega) | (have h8 := len8_le (n / 2 ^ 32 / 2 ^ 8) (by omega); omega) | (have h8 := len8_le (n / 2 ^ 32 / 2 ^ 16) (by omega); omega) | (have h8 := len8_le (n / 2 ^ 32 / 2 ^ 16 / 2 ^ 8) (by omega); omega))) ?_
        refine WL.rd rfl rfl rfl (Rd.assign rfl rfl) ?_
        refine WL.nil ?_
        refine thenQ.normal ?_
        refine WC.ret (Ret.one Try.results58 rfl ?_)
        exact vi_eq hk (by omega)
  · skip
    refine WC.skip ?_
    refine thenQ.normal ?_
    refine WC.seq ?_
    refine WC.seq ?_
    refine WC.region ?_
    refine WL.rd rfl rfl rfl (Rd.move rfl rfl) ?_
    refine WL.rd rfl rfl rfl (Rd.geq rfl rfl rfl) ?_
    refine WL.nil ?_
    refine thenQ.normal ?_
    first | refine WC.ite rfl (fun hc2 => ?_) (fun hc2 => ?_) | refine WC.cond rfl (fun hc2 => ?_) (fun hc2 => ?_)
    · skip
      first | have e2 := blen_div (n := n / 2 ^ 32) (k := 16) (by omega) | have e2 := blen_div (n := n) (k := 16) (by omega)
      refine WC.seq ?_
      refine WC.region ?_
      refine WL.rd rfl rfl rfl (Rd.move rfl rfl) ?_
      refine WL.rd rfl rfl rfl (Rd.shrN (n := 16) rfl rfl rfl rfl rfl (by decide)) ?_
      refine WL.rd rfl rfl rfl (Rd.assign rfl rfl) ?_
      refine WL.nil ?_
      refine thenQ.normal ?_
      refine WC.region ?_
      refine WL.rd rfl rfl rfl (Rd.move rfl rfl) ?_
      refine WL.rd rfl rfl rfl (Rd.add rfl rfl rfl (by omega)) ?_
      refine WL.rd rfl rfl rfl (Rd.assign rfl rfl) ?_
      refine WL.nil ?_
      refine thenQ.normal ?_
      refine WC.seq ?_
      refine WC.seq ?_
      refine WC.region ?_
      refine WL.rd rfl rfl rfl (Rd.move rfl rfl) ?_
      refine WL.rd rfl rfl rfl (Rd.geq rfl rfl rfl) ?_
      refine WL.nil ?_
      refine thenQ.normal ?_
      first | refine WC.ite rfl (fun hc3 => ?_) (fun hc3 => ?_) | refine WC.cond rfl (fun hc3 => ?_) (fun hc3 => ?_)
      · skip
        first | have e3 := blen_div (n := n / 2 ^ 32 / 2 ^ 16) (k := 8) (by omega) | have e3 := blen_div (n := n / 2 ^ 32) (k := 8) (by omega) | have e3 := blen_div (n := n / 2 ^ 16) (k := 8) (by omega) | have e3 := blen_div (n := n) (k := 8) (by omega)
        refine WC.seq ?_
        refine WC.region ?_
        refine WL.rd rfl rfl rfl (Rd.move rfl rfl) ?_
        refine WL.rd rfl rfl rfl (Rd.shrN (n := 8) rfl rfl rfl rfl rfl (by decide)) ?_
        refine WL.rd rfl rfl rfl (Rd.assign rfl rfl) ?_
        refine WL.nil ?_
        refine thenQ.normal ?_
        refine WC.region ?_
        refine WL.rd rfl rfl rfl (Rd.move rfl rfl) ?_
        refine WL.rd rfl rfl rfl (Rd.add rfl rfl rfl (by omega)) ?_
        refine WL.rd rfl rfl rfl (Rd.assign rfl rfl) ?_
        refine WL.nil ?_
        refine thenQ.normal ?_
        refine WC.seq ?_
        refine WC.region ?_
        refine WL.rd rfl rfl rfl (Rd.move rfl rfl) ?_
        refine WL.rd rfl rfl rfl (Rd.move rfl rfl) ?_
        refine WL.rd rfl rfl rfl (Rd.conv rfl rfl Try.underlying5 (wrap_natU (k := .u8) rfl (show _ < 256 by omega)) (hS := Try.underlying102)) ?_
        refine WL.rd rfl rfl rfl (Rd.len8 rfl Try.underlying9 rfl rfl rfl (by omega)) ?_
        refine WL.rd rfl rfl rfl (Rd.conv rfl rfl Try.underlying3 (wrap_natS (k := .i64) (Nat.lt_of_le_of_lt (len8_le _ (by omega)) (by decide))) (hS := Try.underlying5)) ?_
        refine WL.rd rfl rfl rfl (Rd.add rfl rfl rfl (by first | (have h8 := len8_le (n) (by omega); omega) | (have h8 := len8_le (n / 2 ^ 8) (by omega); omega) | (have h8 := len8_le (n / 2 ^ 16) (by omega); omega) | (have h8 := len8_le (n / 2 ^ 16 / 2 ^ 8) (by omega); omega) | (have h8 := len8_le (n / 2 ^ 32) (by omega); omega) | (have h8 := len8_le (n / 2 ^ 32 / 2 ^ 8) (by omega); omega) | (have h8 := len8_le (n / 2 ^ 32 / 2 ^ 16) (by omega); omega) | (have h8 := len8_le (n / 2 ^ 32 / 2 ^ 16 / 2 ^ 8) (by omega); omega))) ?_
        refine WL.rd rfl rfl rfl (Rd.assign rfl rfl) ?_
        refine WL.nil ?_
        refine thenQ.normal ?_
        refine WC.ret (Ret.one Try.results58 rfl ?_)
        exact vi_eq hk (by omega)
      · skip
        refine WC.skip ?_
        refine thenQ.normal ?_
        refine WC.seq ?_
        refine WC.region ?_
        refine WL.rd rfl rfl rfl (Rd.move rfl rfl) ?_
        refine WL.rd rfl rfl rfl (Rd.move rfl rfl) ?_
        refine WL.rd rfl rfl rfl (Rd.conv rfl rfl Try.underlying5 (wrap_natU (k := .u8) rfl (show _ < 256 by omega)) (hS := Try.underlying102)) ?_
        refine WL.rd rfl rfl rfl (Rd.len8 rfl Try.underlying9 rfl rfl rfl (by omega)) ?_
        refine WL.rd rfl rfl rfl (Rd.conv rfl rfl Try.underlying3 (wrap_natS (k := .i64) (Nat.lt_of_le_of_lt (len8_le _ (by omega)) (by decide))) (hS := Try.underlying5)) ?_
        refine WL.rd rfl rfl rfl (Rd.add rfl rfl rfl (by first | (have h8 := len8_le (n) (by omega); omega) | (have h8 := len8_le (n / 2 ^ 8) (by omega); omega) | (have h8 := len8_le (n / 2 ^ 16) (by omega); omega) | (have h8 := len8_le (n / 2 ^ 16 / 2 ^ 8) (by omega); omega) | (have h8 := len8_le (n / 2 ^ 32) (by omega); omega) | (have h8 := len8_le (n / 2 ^ 32 / 2 ^ 8) (by omega); omega) | (have h8 := len8_le (n / 2 ^ 32 / 2 ^ 16) (by omega); omega) | (have h8 := len8_le (n / 2 ^ 32 / 2 ^ 16 / 2 ^ 8) (by omega); omega))) ?_
        refine WL.rd rfl rfl rfl (Rd.assign rfl rfl) ?_
        refine WL.nil ?_
        refine thenQ.normal ?_
        refine WC.ret (Ret.one Try.results58 rfl ?_)
        exact vi_eq hk (by omega)
    · skip
      refine WC.skip ?_
      refine thenQ.normal ?_
      refine WC.seq ?_
      refine WC.seq ?_
      refine WC.region ?_
      refine WL.rd rfl rfl rfl (Rd.move rfl rfl) ?_
      refine WL.rd rfl rfl rfl (Rd.geq rfl rfl rfl) ?_
      refine WL.nil ?_
      refine thenQ.normal ?_
      first | refine WC.ite rfl (fun hc3 => ?_) (fun hc3 => ?_) | refine WC.cond rfl (fun hc3 => ?_) (fun hc3 => ?_)
      · skip
        first | have e3 := blen_div (n := n / 2 ^ 32 / 2 ^ 16) (k := 8) (by omega) | have e3 := blen_div (n := n / 2 ^ 32) (k := 8) (by omega) | have e3 := blen_div (n := n / 2 ^ 16) (k := 8) (by omega) | have e3 := blen_div (n := n) (k := 8) (by omega)
        refine WC.seq ?_
        refine WC.region ?_
        refine WL.rd rfl rfl rfl (Rd.move rfl rfl) ?_
        refine WL.rd rfl rfl rfl (Rd.shrN (n := 8) rfl rfl rfl rfl rfl (by decide)) ?_
        refine WL.rd rfl rfl rfl (Rd.assign rfl rfl) ?_
        refine WL.nil ?_
        refine thenQ.normal ?_
        refine WC.region ?_
        refine WL.rd rfl rfl rfl (Rd.move rfl rfl) ?_
        refine WL.rd rfl rfl rfl (Rd.add rfl rfl rfl (by omega)) ?_
        refine WL.rd rfl rfl rfl (Rd.assign rfl rfl) ?_
        refine WL.nil ?_
        refine thenQ.normal ?_
        refine WC.seq ?_
        refine WC.region ?_
        refine WL.rd rfl rfl rfl (Rd.move rfl rfl) ?_
        refine WL.rd rfl rfl rfl (Rd.move rfl rfl) ?_
        refine WL.rd rfl rfl rfl (Rd.conv rfl rfl Try.underlying5 (wrap_natU (k := .u8) rfl (show _ < 256 by omega)) (hS := Try.underlying102)) ?_
        refine WL.rd rfl rfl rfl (Rd.len8 rfl Try.underlying9 rfl rfl rfl (by omega)) ?_
        refine WL.rd rfl rfl rfl (Rd.conv rfl rfl Try.underlying3 (wrap_natS (k := .i64) (Nat.lt_of_le_of_lt (len8_le _ (by omega)) (by decide))) (hS := Try.underlying5)) ?_
        refine WL.rd rfl rfl rfl (Rd.add rfl rfl rfl (by first | (have h8 := len8_le (n) (by omega); omega) | (have h8 := len8_le (n / 2 ^ 8) (by omega); omega) | (have h8 := len8_le (n / 2 ^ 16) (by omega); omega) | (have h8 := len8_le (n / 2 ^ 16 / 2 ^ 8) (by omega); omega) | (have h8 := len8_le (n / 2 ^ 32) (by omega); omega) | (have h8 := len8_le (n / 2 ^ 32 / 2 ^ 8) (by omega); omega) | (have h8 := len8_le (n / 2 ^ 32 / 2 ^ 16) (by omega); omega) | (have h8 := len8_le (n / 2 ^ 32 / 2 ^ 16 / 2 ^ 8) (by omega); omega))) ?_
        refine WL.rd rfl rfl rfl (Rd.assign rfl rfl) ?_
        refine WL.nil ?_
        refine thenQ.normal ?_
        refine WC.ret (Ret.one Try.results58 rfl ?_)
        exact vi_eq hk (by omega)
      · skip
        refine WC.skip ?_
        refine thenQ.normal ?_
        refine WC.seq ?_
        refine WC.region ?_
        refine WL.rd rfl rfl rfl (Rd.move rfl rfl) ?_
        refine WL.rd rfl rfl rfl (Rd.move rfl rfl) ?_
        refine WL.rd rfl rfl rfl (Rd.conv rfl rfl Try.underlying5 (wrap_natU (k := .u8) rfl (show _ < 256 by omega)) (hS := Try.underlying102)) ?_
        refine WL.rd rfl rfl rfl (Rd.len8 rfl Try.underlying9 rfl rfl rfl (by omega)) ?_
        refine WL.rd rfl rfl rfl (Rd.conv rfl rfl Try.underlying3 (wrap_natS (k := .i64) (Nat.lt_of_le_of_lt (len8_le _ (by omega)) (by decide))) (hS := Try.underlying5)) ?_
        refine WL.rd rfl rfl rfl (Rd.add rfl rfl rfl (by first | (have h8 := len8_le (n) (by omega); omega) | (have h8 := len8_le (n / 2 ^ 8) (by omega); omega) | (have h8 := len8_le (n / 2 ^ 16) (by omega); omega) | (have h8 := len8_le (n / 2 ^ 16 / 2 ^ 8) (by omega); omega) | (have h8 := len8_le (n / 2 ^ 32) (by omega); omega) | (have h8 := len8_le (n / 2 ^ 32 / 2 ^ 8) (by omega); omega) | (have h8 := len8_le (n / 2 ^ 32 / 2 ^ 16) (by omega); omega) | (have h8 := len8_le (n / 2 ^ 32 / 2 ^ 16 / 2 ^ 8) (by omega); omega))) ?_
        refine WL.rd rfl rfl rfl (Rd.assign rfl rfl) ?_
        refine WL.nil ?_
        refine thenQ.normal ?_
        refine WC.ret (Ret.one Try.results58 rfl ?_)
        exact vi_eq hk (by omega)
set_option maxRecDepth 20000 in
theorem len_spec {R : List RO} {O : List Own} {POST : Value → List RO → List Own → Prop} {n : Nat} (hn : n < 18446744073709551616) (hk : POST (.int .i64 (blen n)) R O) : Fun Try.prog 54 #[.int .u64 n] R O POST := by
  refine Fun.enter (l := [_]) Try.func54 rfl Try.ntmps54 rfl (L0 := [(0, _)]) rfl ?_
  refine WC.seq ?_
  refine WC.region ?_
  refine WL.rd rfl rfl rfl (Rd.assign rfl rfl) ?_
  refine WL.nil ?_
  refine thenQ.normal ?_
  refine WC.seq ?_
  first | refine WC.ite rfl (fun hc1 => ?_) (fun hc1 => ?_) | refine WC.cond rfl (fun hc1 => ?_) (fun hc1 => ?_)
  · skip
    simp at hc1
  · skip
    refine WC.skip ?_
    refine thenQ.normal ?_
    refine WC.seq ?_
    refine WC.region ?_
    refine WL.rd rfl rfl rfl (Rd.move rfl rfl) ?_
    refine WL.op rfl ?_
    refine OpW.call rfl rfl (by repeat (first | exact Evs.nil | apply Evs.cons rfl)) (by kernel_rfl) rfl rfl rfl ?_
    refine len64_spec hn ?_
    refine WL.rd rfl rfl rfl (Rd.assign rfl rfl) ?_
    refine WL.nil ?_
    refine thenQ.normal ?_
    refine WC.ret (Ret.one Try.results54 rfl ?_)
    exact hk
set_option maxRecDepth 20000 in
theorem len8_spec {R : List RO} {O : List Own} {POST : Value → List RO → List Own → Prop} {n : Nat} (hn : n < 256) (hk : POST (.int .i64 (blen n)) R O) : Fun Try.prog 56 #[.int .u8 n] R O POST := by
  refine Fun.enter (l := [_]) Try.func56 rfl Try.ntmps56 rfl (L0 := [(0, _)]) rfl ?_
  refine WC.seq ?_
  refine WC.region ?_
  refine WL.rd rfl rfl rfl (Rd.assign rfl rfl) ?_
  refine WL.nil ?_
  refine thenQ.normal ?_
  refine WC.seq ?_
  refine WC.region ?_
  refine WL.rd rfl rfl rfl (Rd.move rfl rfl) ?_
  refine WL.rd rfl rfl rfl (Rd.len8 rfl Try.underlying9 rfl rfl rfl hn) ?_
  refine WL.rd rfl rfl rfl (Rd.conv rfl rfl Try.underlying3 (wrap_natS (k := .i64) (Nat.lt_of_le_of_lt (len8_le _ hn) (by decide))) (hS := Try.underlying5)) ?_
  refine WL.rd rfl rfl rfl (Rd.assign rfl rfl) ?_
  refine WL.nil ?_
  refine thenQ.normal ?_
  refine WC.ret (Ret.one Try.results56 rfl ?_)
  exact hk
set_option maxRecDepth 20000 in
theorem zeros8_spec {R : List RO} {O : List Own} {POST : Value → List RO → List Own → Prop} {n : Nat} (hn : n < 256) (hk : POST (.int .i64 ((8 - blen n : Nat) : Int)) R O) : Fun Try.prog 52 #[.int .u8 n] R O POST := by
  have h8 := len8_le n hn
  refine Fun.enter (l := [_]) Try.func52 rfl Try.ntmps52 rfl (L0 := [(0, _)]) rfl ?_
  refine WC.seq ?_
  refine WC.region ?_
  refine WL.rd rfl rfl rfl (Rd.assign rfl rfl) ?_
  refine WL.nil ?_
  refine thenQ.normal ?_
  refine WC.seq ?_
  refine WC.region ?_
  refine WL.rd rfl rfl rfl (Rd.move rfl rfl) ?_
  refine WL.op rfl ?_
  refine OpW.call rfl rfl (by repeat (first | exact Evs.nil | apply Evs.cons rfl)) (by kernel_rfl) rfl rfl rfl ?_
  refine len8_spec hn ?_
  refine WL.rd rfl rfl rfl (Rd.sub rfl rfl rfl (by omega)) ?_
  refine WL.rd rfl rfl rfl (Rd.assign rfl rfl) ?_
  refine WL.nil ?_
  refine thenQ.normal ?_
  refine WC.ret (Ret.one Try.results52 rfl ?_)
  exact vi_eq hk (by omega)
/-- How many bytes stand behind the first one. -/
def more (n : Nat) : Nat := (blen n - 1) / 7
set_option maxRecDepth 20000 in
theorem behind_spec {R : List RO} {O : List Own} {POST : Value → List RO → List Own → Prop} {n : Nat} (hn : n ≤ 9223372036854775807) (hk : POST (.int .i64 (more n)) R O) : Fun Try.prog 48 #[.int .i64 n] R O POST := by
  have h8 := blen_lt (n := n) (k := 63) (by omega)
  refine Fun.enter (l := [_]) Try.func48 rfl Try.ntmps48 rfl (L0 := [(0, _)]) rfl ?_
  refine WC.seq ?_
  refine WC.region ?_
  refine WL.rd rfl rfl rfl (Rd.assign rfl rfl) ?_
  refine WL.nil ?_
  refine thenQ.normal ?_
  refine WC.seq ?_
  refine WC.region ?_
  refine WL.rd rfl rfl rfl (Rd.move rfl rfl) ?_
  refine WL.rd rfl rfl rfl (Rd.conv rfl rfl Try.underlying85 (wrap_natU (k := .u64) rfl (show _ < 18446744073709551616 by omega)) (hS := Try.underlying3)) ?_
  refine WL.op rfl ?_
  refine OpW.call rfl rfl (by repeat (first | exact Evs.nil | apply Evs.cons rfl)) (by kernel_rfl) rfl rfl rfl ?_
  refine len_spec (by omega) ?_
  refine WL.rd rfl rfl rfl (Rd.sub rfl rfl rfl (by omega)) ?_
  refine WL.rd rfl rfl rfl (Rd.max2 rfl rfl rfl) ?_
  refine WL.say 7 (u := .int .i64 ((blen n - 1 : Nat) : Int)) rfl (by congr 1; omega) ?_
  refine WL.rd rfl rfl rfl (Rd.quoI (b := 7) rfl rfl rfl rfl rfl (by decide) (by omega)) ?_
  refine WL.rd rfl rfl rfl (Rd.assign rfl rfl) ?_
  refine WL.nil ?_
  refine thenQ.normal ?_
  refine WC.ret (Ret.one Try.results48 rfl ?_)
  exact hk
end Go.Proofs.Ytedgndhbieeffaa
