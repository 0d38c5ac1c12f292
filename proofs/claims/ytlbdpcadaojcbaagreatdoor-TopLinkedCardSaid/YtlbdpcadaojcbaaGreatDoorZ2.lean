/-
  Part 2 of the texts that the law TopLinked is proved with: Nm1, Nm2, Nm3, Nm4, Nm5, Nm6, Nm7, Nm8, Acc, Copy, Bld, Shelf, Ret, Ob1, Ob2, Ob3, Ob4. No premise.
-/
import Derived.Test.YtlbdpcadaojcbaaGreatDoorZ1
import Derived.Lib.SliceRun
import Derived.Laws.CopyRow
import Derived.Shelf.Strings.Builder1
import Derived.Shelf.Strings.Builder2
import Derived.Shelf.Strings.OnBuilder
import Derived.Shelf.Small.Bits
import Derived.Shelf.Small.Strs
import Derived.Shelf.Strings.BuilderF
import Derived.Shelf.Strconv.Itoa0
import Derived.Shelf.Strings.Search1
import Derived.Shelf.Strings.Search2
import Derived.Shelf.Strings.Search3
import Derived.Shelf.Strings.Cut
import Derived.Shelf.Strings.Count
import Derived.Shelf.LaysM
import Derived.Shelf.Strings.Shaped
import Derived.Shelf.GgClosure.StringsIndexFunc
import Derived.Ground.GgwProg
import Derived.Shelf.GgClosure.StringsIndexFuncTop
import Derived.Shelf.GgClosure.StringsRunes
import Derived.Shelf.Strings.Prefix
import Derived.Shelf.Bits.Mul64
import Derived.Shelf.Strings.Repeat
import Derived.Shelf.Unicode.DecodeSlow
import Derived.Shelf.Unicode.DecodeAny
import Derived.Shelf.Slices.Turned
import Derived.Shelf.Slices.In.SortNone
import Derived.Test.YtlbdpcadaojcbaaGreatDoorProg
namespace Go.Proofs.YtlbdpcadaojcbaaGreatDoor
open Go Go.SL
set_option maxRecDepth 20000 in
theorem copyCheck_new {R : List RO} {O : List Own} {POST : Value → List RO → List Own → Prop} {b : Nat} {v : Value}
 (hk : POST (.tuple #[]) R (rowC b 72 [.pointer (some ⟨b, 0, none⟩), v] :: O)) :
 Fun Tryz.prog 62 #[.pointer (some ⟨b, 0, none⟩)] R (rowC b 72 [.pointer none, v] :: O) POST := by
 refine Fun.enter (l := [_]) Tryz.func62 rfl Tryz.ntmps62 rfl (L0 := [(0, _)]) rfl ?_
 refine WC.seq ?_
 refine WC.region ?_
 refine WL.rd rfl rfl rfl (Rd.move rfl rfl) ?_
 refine WL.rd rfl rfl rfl (Rd.nilc rfl rfl) ?_
 refine WL.rd rfl rfl rfl ((by exact Rd.field rfl F72_0 rfl rfl)) ?_
 refine WL.rd rfl rfl rfl ((by exact Rd.row1 rfl C70 rfl Z.M (by rfl))) ?_
 refine WL.rd rfl rfl rfl ((by exact Rd.peq_nn rfl Tryz.underlying70 rfl rfl)) ?_
 refine WL.nil ?_
 refine thenQ.normal ?_
 refine WC.cond rfl (fun hc1 => ?_) (fun hc1 => ?_)
 ·
  refine WC.region ?_
  refine WL.rd rfl rfl rfl (Rd.move rfl rfl) ?_
  refine WL.rd rfl rfl rfl (Rd.move rfl rfl) ?_
  refine WL.rd rfl rfl rfl (Rd.toUnsafe rfl Tryz.underlying70 Tryz.underlying190 I72 (by decide) rfl Z.M (by simp)) ?_
  refine WL.op rfl ?_
  refine OpW.rd rfl rfl (Rd.extern (ef := Extern.AbiNoEscape.same) rfl rfl Z.E Tryz.func105 rfl rfl Z.K Z.K (fun w => Lib.run_noEscape w _)) ?_
  refine WL.rd rfl rfl rfl (Rd.ofUnsafe rfl Tryz.underlying190 Tryz.underlying70 I72 rfl Z.M Z.K) ?_
  refine WL.rd rfl rfl rfl (Rd.nilc rfl rfl) ?_
  refine WL.rd rfl rfl rfl ((by exact Rd.field rfl F72_0 rfl rfl)) ?_
  refine WL.op rfl ?_
  refine OpW.store1 rfl Z70 rfl rfl (by exact ⟨rfl, rfl⟩) Z.T (by (simp; done)) rfl ?_
  refine WL.nil ?_
  refine Ret.normal (Ret.zero Tryz.results62 ?_)
  exact hk
 ·
  simp at hc1
set_option maxRecDepth 20000 in
theorem copyCheck_used {R : List RO} {O : List Own} {POST : Value → List RO → List Own → Prop} {b : Nat} {v : Value}
 (hk : POST (.tuple #[]) R (rowC b 72 [.pointer (some ⟨b, 0, none⟩), v] :: O)) :
 Fun Tryz.prog 62 #[.pointer (some ⟨b, 0, none⟩)] R (rowC b 72 [.pointer (some ⟨b, 0, none⟩), v] :: O) POST := by
 refine Fun.enter (l := [_]) Tryz.func62 rfl Tryz.ntmps62 rfl (L0 := [(0, _)]) rfl ?_
 refine WC.seq ?_
 refine WC.region ?_
 refine WL.rd rfl rfl rfl (Rd.move rfl rfl) ?_
 refine WL.rd rfl rfl rfl (Rd.nilc rfl rfl) ?_
 refine WL.rd rfl rfl rfl ((by exact Rd.field rfl F72_0 rfl rfl)) ?_
 refine WL.rd rfl rfl rfl ((by exact Rd.row1 rfl C70 rfl Z.M (by rfl))) ?_
 refine WL.rd rfl rfl rfl ((by exact Rd.peq_sn rfl Tryz.underlying70 rfl rfl)) ?_
 refine WL.nil ?_
 refine thenQ.normal ?_
 refine WC.cond rfl (fun hc1 => ?_) (fun hc1 => ?_)
 ·
  simp at hc1
 ·
  refine WC.seq ?_
  refine WC.region ?_
  refine WL.rd rfl rfl rfl (Rd.move rfl rfl) ?_
  refine WL.rd rfl rfl rfl (Rd.nilc rfl rfl) ?_
  refine WL.rd rfl rfl rfl ((by exact Rd.field rfl F72_0 rfl rfl)) ?_
  refine WL.rd rfl rfl rfl ((by exact Rd.row1 rfl C70 rfl Z.M (by rfl))) ?_
  refine WL.rd rfl rfl rfl (Rd.move rfl rfl) ?_
  refine WL.rd rfl rfl rfl (Rd.pneq_self rfl Tryz.underlying70 I72 rfl rfl) ?_
  refine WL.nil ?_
  refine thenQ.normal ?_
  refine WC.cond rfl (fun hc2 => ?_) (fun hc2 => ?_)
  ·
   simp at hc2
  ·
   refine WC.skip ?_
   refine Ret.normal (Ret.zero Tryz.results62 ?_)
   exact hk
theorem copyCheck_spec {R : List RO} {O : List Own} {POST : Value → List RO → List Own → Prop} {b : Nat} {p v : Value} (hp : p = .pointer none ∨ p = .pointer (some ⟨b, 0, none⟩))
 (hk : POST (.tuple #[]) R (rowC b 72 [.pointer (some ⟨b, 0, none⟩), v] :: O)) :
 Fun Tryz.prog 62 #[.pointer (some ⟨b, 0, none⟩)] R (rowC b 72 [p, v] :: O) POST := by
 rcases hp with rfl | rfl
 · exact copyCheck_new hk
 · exact copyCheck_used hk
set_option maxRecDepth 20000 in
theorem writeString_spec {R : List RO} {O : List Own} {POST : Value → List RO → List Own → Prop} {b : Nat} {p v : Value} {bs s : List UInt8} (hp : p = .pointer none ∨ p = .pointer (some ⟨b, 0, none⟩)) (hl : bs.length + s.length ≤ 140737488355328)
 (hk : ∀ v', OneV v' → POST (.tuple #[.int .i64 s.length, .nilIface]) R (rowC b 72 [.pointer (some ⟨b, 0, none⟩), v'] :: accC 5 1 (SL.one vy) v' (bs ++ s) :: O)) :
 Fun Tryz.prog 35 #[.pointer (some ⟨b, 0, none⟩), vs s] R (rowC b 72 [p, v] :: accC 5 1 (SL.one vy) v bs :: O) POST := by
 refine Fun.enter (l := [_, _]) Tryz.func35 rfl Tryz.ntmps35 rfl (L0 := [(0, _), (1, _)]) rfl ?_
 refine WC.seq ?_
 refine WC.region ?_
 refine WL.rd rfl rfl rfl (Rd.assign rfl rfl) ?_
 refine WL.rd rfl rfl rfl (Rd.assign rfl rfl) ?_
 refine WL.nil ?_
 refine thenQ.normal ?_
 refine WC.seq ?_
 refine WC.region ?_
 refine WL.rd rfl rfl rfl (Rd.move rfl rfl) ?_
 refine WL.op rfl ?_
 refine OpW.call rfl rfl Z.E Z.K rfl rfl rfl ?_
 refine copyCheck_spec hp ?_
 refine WL.nil ?_
 refine thenQ.normal ?_
 refine WC.seq ?_
 refine WC.region ?_
 refine WL.rd rfl rfl rfl (Rd.move rfl rfl) ?_
 refine WL.rd rfl rfl rfl (Rd.move rfl rfl) ?_
 refine WL.rd rfl rfl rfl (Rd.nilc rfl rfl) ?_
 refine WL.rd rfl rfl rfl ((by exact Rd.field rfl F72_1 rfl rfl)) ?_
 refine WL.rd rfl rfl rfl ((by exact Rd.row1 rfl C48 rfl Z.M (by rfl))) ?_
 refine WL.rd rfl rfl rfl (Rd.move rfl rfl) ?_
 refine WL.op rfl ?_
 refine OpW.appendStr rfl S48 Tryz.underlying9 rfl rfl Z.T (by exact ⟨by simp only [maxLen, List.length_append, List.length_nil, List.length_cons, List.length_drop, List.length_take, List.length_map]; omega, by omega⟩) rfl rfl ?_; intro v14 hv14
 refine WL.rd rfl rfl rfl (Rd.nilc rfl rfl) ?_
 refine WL.rd rfl rfl rfl ((by exact Rd.field rfl F72_1 rfl rfl)) ?_
 refine WL.op rfl ?_
 refine OpW.store1 rfl Z48 rfl rfl (by assumption) Z.T (by (simp; done)) rfl ?_
 refine WL.nil ?_
 refine thenQ.normal ?_
 refine WC.seq ?_
 refine WC.region ?_
 refine WL.rd rfl rfl rfl (Rd.move rfl rfl) ?_
 refine WL.rd rfl rfl rfl (Rd.slen (ts := #[]) (ty := 0) rfl rfl Tryz.underlying9) ?_
 refine WL.rd rfl rfl rfl (Rd.assign rfl rfl) ?_
 refine WL.rd rfl rfl rfl (Rd.assign rfl rfl) ?_
 refine WL.nil ?_
 refine thenQ.normal ?_
 refine WC.ret (Ret.two Tryz.results35 rfl rfl ?_)
 exact hk _ hv14
set_option maxRecDepth 20000 in
theorem builderString_spec {R : List RO} {O : List Own} {POST : Value → List RO → List Own → Prop} {b : Nat} {p v : Value} {bs : List UInt8} (hv : OneV v)
 (hk : POST (vs bs) R O) :
 Fun Tryz.prog 37 #[.pointer (some ⟨b, 0, none⟩)] R (rowC b 72 [p, v] :: accC 5 1 (SL.one vy) v bs :: O) POST := by
 refine Fun.enter (l := [_]) Tryz.func37 rfl Tryz.ntmps37 rfl (L0 := [(0, _)]) rfl ?_
 refine WC.seq ?_
 refine WC.region ?_
 refine WL.rd rfl rfl rfl (Rd.assign rfl rfl) ?_
 refine WL.nil ?_
 refine thenQ.normal ?_
 refine WC.seq ?_
 refine WC.drawn (rowC b 72 [p, v] :: O) 12 rfl mixed ?_
 refine WD.take 0 rfl Z.K Z.H rfl rfl rfl (Rd.move rfl rfl) ?_
 refine WD.take 1 rfl Z.K Z.H rfl rfl rfl (Rd.nilc rfl rfl) ?_
 refine WD.take 2 rfl Z.K Z.H rfl rfl rfl ((by exact Rd.field rfl F72_1 rfl rfl)) ?_
 refine WD.take 3 rfl Z.K Z.H rfl rfl rfl ((by exact Rd.row1 rfl C48 rfl Z.M (by rfl))) ?_
 refine WD.take 5 rfl Z.K Z.H rfl rfl rfl (Rd.move rfl rfl) ?_
 refine WD.take 6 rfl Z.K Z.H rfl rfl rfl (Rd.nilc rfl rfl) ?_
 refine WD.take 7 rfl Z.K Z.H rfl rfl rfl ((by exact Rd.field rfl F72_1 rfl rfl)) ?_
 refine WD.take 8 rfl Z.K Z.H rfl rfl rfl ((by exact Rd.row1 rfl C48 rfl Z.M (by rfl))) ?_
 refine WD.two 4 9 rfl rfl Z.K rfl rfl ?_ ?_
 ·
  refine OpW.sliceData rfl Tryz.underlying136 rfl Z.M rfl rfl ?_; intro q7 hq7
  refine ⟨Z.H, ?_⟩
  refine WD.one 9 rfl Z.K rfl ?_
  refine OpW.rd rfl rfl ((by exact Rd.lenA rfl rfl Tryz.underlying48 Z.M)) ?_
  refine ⟨Z.H, ?_⟩
  refine WD.one 10 rfl Z.K rfl ?_
  refine OpW.unsafeStr rfl Tryz.underlying136 Z.K rfl rfl rfl rfl Z.T hq7 rfl rfl ?_
  refine ⟨Z.H, ?_⟩
  refine WD.take 11 rfl Z.K Z.H rfl rfl rfl (Rd.assign rfl rfl) ?_
  refine WD.done Z.K ?_
  refine thenQ.normal ?_
  refine WC.heap (R' := R) (O' := O) Z.F ?_
  refine WC.ret (Ret.one Tryz.results37 rfl ?_)
  exact hk
 ·
  refine OpW.rd rfl rfl ((by exact Rd.lenA rfl rfl Tryz.underlying48 Z.M)) ?_
  refine ⟨Z.H, ?_⟩
  refine WD.one 4 rfl Z.K rfl ?_
  refine OpW.sliceData rfl Tryz.underlying136 rfl Z.M rfl rfl ?_; intro q7 hq7
  refine ⟨Z.H, ?_⟩
  refine WD.one 10 rfl Z.K rfl ?_
  refine OpW.unsafeStr rfl Tryz.underlying136 Z.K rfl rfl rfl rfl Z.T hq7 rfl rfl ?_
  refine ⟨Z.H, ?_⟩
  refine WD.take 11 rfl Z.K Z.H rfl rfl rfl (Rd.assign rfl rfl) ?_
  refine WD.done Z.K ?_
  refine thenQ.normal ?_
  refine WC.heap (R' := R) (O' := O) Z.F ?_
  refine WC.ret (Ret.one Tryz.results37 rfl ?_)
  exact hk
end Go.Proofs.YtlbdpcadaojcbaaGreatDoor
namespace Go.Proofs.YtlbdpcadaojcbaaGreatDoor
open Go Go.SL
/-- How many bits a number has. -/
def blen (n : Nat) : Nat := if n = 0 then 0 else Nat.log2 n + 1
theorem blen_div {n k : Nat} (h : 2 ^ k ≤ n) : blen n = blen (n / 2 ^ k) + k := by
 have h1 : 0 < n / 2 ^ k := Nat.div_pos h (Nat.two_pow_pos k)
 have h0 : n ≠ 0 := by have := Nat.two_pow_pos k; omega
 unfold blen
 rw [if_neg h0, if_neg Z.W]
 have : Nat.log2 n = Nat.log2 (n / 2 ^ k) + k := by
  rw [Nat.log2_eq_iff h0]
  have h3 := Nat.log2_self_le (n := n / 2 ^ k) Z.W
  have h4 := Nat.lt_log2_self (n := n / 2 ^ k)
  constructor
  · rw [Nat.pow_add]
    exact (Nat.le_div_iff_mul_le (Nat.two_pow_pos k)).1 h3
  · rw [show Nat.log2 (n / 2 ^ k) + k + 1 = (Nat.log2 (n / 2 ^ k) + 1) + k from by omega, Nat.pow_add]
    exact (Nat.div_lt_iff_lt_mul (Nat.two_pow_pos k)).1 h4
 omega
theorem blen_lt {n k : Nat} (h : n < 2 ^ k) : blen n ≤ k := by
 unfold blen
 split
 · omega
 · have := (Nat.log2_lt (n := n) (k := k) Z.W).2 h; omega
theorem blen_ge {n k : Nat} (h : 2 ^ k ≤ n) : k < blen n := by
 have h0 : n ≠ 0 := by have := Nat.two_pow_pos k; omega
 unfold blen
 rw [if_neg h0]
 have := (Nat.le_log2 h0).2 h; omega
/-- The library's table. -/
def len8tab : List UInt8 := [0, 1, 2, 2, 3, 3, 3, 3, 4, 4, 4, 4, 4, 4, 4, 4, 5, 5, 5, 5, 5, 5, 5, 5, 5, 5, 5, 5, 5, 5, 5, 5, 6, 6, 6, 6, 6, 6, 6, 6, 6, 6, 6, 6, 6, 6, 6, 6, 6, 6, 6, 6, 6, 6, 6, 6, 6, 6, 6, 6, 6, 6, 6, 6, 7, 7, 7, 7, 7, 7, 7, 7, 7, 7, 7, 7, 7, 7, 7, 7, 7, 7, 7, 7, 7, 7, 7, 7, 7, 7, 7, 7, 7, 7, 7, 7, 7, 7, 7, 7, 7, 7, 7, 7, 7, 7, 7, 7, 7, 7, 7, 7, 7, 7, 7, 7, 7, 7, 7, 7, 7, 7, 7, 7, 7, 7, 7, 7, 8, 8, 8, 8, 8, 8, 8, 8, 8, 8, 8, 8, 8, 8, 8, 8, 8, 8, 8, 8, 8, 8, 8, 8, 8, 8, 8, 8, 8, 8, 8, 8, 8, 8, 8, 8, 8, 8, 8, 8, 8, 8, 8, 8, 8, 8, 8, 8, 8, 8, 8, 8, 8, 8, 8, 8, 8, 8, 8, 8, 8, 8, 8, 8, 8, 8, 8, 8, 8, 8, 8, 8, 8, 8, 8, 8, 8, 8, 8, 8, 8, 8, 8, 8, 8, 8, 8, 8, 8, 8, 8, 8, 8, 8, 8, 8, 8, 8, 8, 8, 8, 8, 8, 8, 8, 8, 8, 8, 8, 8, 8, 8, 8, 8, 8, 8, 8, 8, 8, 8, 8, 8, 8, 8, 8, 8, 8, 8]
theorem len8_all : ∀ n < 256, len8tab[n]? = some (UInt8.ofNat (blen n)) := by decide +kernel
theorem blen_u8 {n : Nat} (h : n < 256) : (UInt8.ofNat (blen n)).toNat = blen n := by
 have := blen_lt (n := n) (k := 8) h
 simp; omega
theorem _root_.Go.SL.Rd.len8 {P : Program} {o : Oper} {t : TypeId} {x y : Operand} {L : Env} {R : List RO} {O : List Own} {kd : IntKind} {p : Int} {k : Nat} (ho : o.op = .index t x y) (hT : P.underlying t = some .string) (hx : ev L x = some (vs len8tab)) (hy : ev L y = some (.int kd p)) (hp : p = (k : Int)) (hk : k < 256) : Rd P o L R O (.int .u8 (blen k : Nat)) := by
 have h := Rd.sidx (R := R) (O := O) ho hT hx hy hp (len8_all k hk)
 rw [blen_u8 hk] at h; exact h
theorem vi_eq {POST : Value → List RO → List Own → Prop} {R : List RO} {O : List Own} {a b : Int} (h : POST (.int .i64 a) R O) (e : a = b) : POST (.int .i64 b) R O := e ▸ h
theorem len8_le (n : Nat) (h : n < 256) : blen n ≤ 8 := blen_lt (k := 8) h
set_option maxRecDepth 20000 in
theorem len64_spec {R : List RO} {O : List Own} {POST : Value → List RO → List Own → Prop} {n : Nat} (hn : n < 18446744073709551616) (hk : POST (.int .i64 (blen n)) R O) : Fun Tryz.prog 151 #[.int .u64 n] R O POST := by
 refine Fun.enter (l := [_]) Tryz.func151 rfl Tryz.ntmps151 rfl (L0 := [(0, _)]) rfl ?_
 refine WC.seq ?_
 refine WC.region ?_
 refine WL.rd rfl rfl rfl (Rd.assign rfl rfl) ?_
 refine WL.nil ?_
 refine thenQ.normal ?_
 refine WC.seq ?_
 refine WC.seq ?_
 refine WC.region ?_
 refine WL.rd rfl rfl rfl (Rd.move rfl rfl) ?_
 refine WL.rd rfl rfl rfl (Rd.geq rfl rfl rfl) ?_
 refine WL.nil ?_
 refine thenQ.normal ?_
 refine WC.ite rfl (fun hc1 => ?_) (fun hc1 => ?_)
 ·
  have e1 := blen_div (n := n) (k := 32) Z.W
  refine WC.seq ?_
  refine WC.region ?_
  refine WL.rd rfl rfl rfl (Rd.move rfl rfl) ?_
  refine WL.rd rfl rfl rfl (Rd.shrN (n := 32) rfl rfl rfl rfl rfl (by decide)) ?_
  refine WL.rd rfl rfl rfl (Rd.assign rfl rfl) ?_
  refine WL.nil ?_
  refine thenQ.normal ?_
  refine WC.region ?_
  refine WL.rd rfl rfl rfl (Rd.assign rfl rfl) ?_
  refine WL.nil ?_
  refine thenQ.normal ?_
  refine WC.seq ?_
  refine WC.seq ?_
  refine WC.region ?_
  refine WL.rd rfl rfl rfl (Rd.move rfl rfl) ?_
  refine WL.rd rfl rfl rfl (Rd.geq rfl rfl rfl) ?_
  refine WL.nil ?_
  refine thenQ.normal ?_
  refine WC.ite rfl (fun hc2 => ?_) (fun hc2 => ?_)
  ·
   first | have e2 := blen_div (n := n / 2 ^ 32) (k := 16) Z.W | have e2 := blen_div (n := n) (k := 16) Z.W
   refine WC.seq ?_
   refine WC.region ?_
   refine WL.rd rfl rfl rfl (Rd.move rfl rfl) ?_
   refine WL.rd rfl rfl rfl (Rd.shrN (n := 16) rfl rfl rfl rfl rfl (by decide)) ?_
   refine WL.rd rfl rfl rfl (Rd.assign rfl rfl) ?_
   refine WL.nil ?_
   refine thenQ.normal ?_
   refine WC.region ?_
   refine WL.rd rfl rfl rfl (Rd.move rfl rfl) ?_
   refine WL.rd rfl rfl rfl (Rd.add rfl rfl rfl Z.W) ?_
   refine WL.rd rfl rfl rfl (Rd.assign rfl rfl) ?_
   refine WL.nil ?_
   refine thenQ.normal ?_
   refine WC.seq ?_
   refine WC.seq ?_
   refine WC.region ?_
   refine WL.rd rfl rfl rfl (Rd.move rfl rfl) ?_
   refine WL.rd rfl rfl rfl (Rd.geq rfl rfl rfl) ?_
   refine WL.nil ?_
   refine thenQ.normal ?_
   refine WC.ite rfl (fun hc3 => ?_) (fun hc3 => ?_)
   ·
    first | have e3 := blen_div (n := n / 2 ^ 32 / 2 ^ 16) (k := 8) Z.W | have e3 := blen_div (n := n / 2 ^ 32) (k := 8) Z.W | have e3 := blen_div (n := n / 2 ^ 16) (k := 8) Z.W | have e3 := blen_div (n := n) (k := 8) Z.W
    refine WC.seq ?_
    refine WC.region ?_
    refine WL.rd rfl rfl rfl (Rd.move rfl rfl) ?_
    refine WL.rd rfl rfl rfl (Rd.shrN (n := 8) rfl rfl rfl rfl rfl (by decide)) ?_
    refine WL.rd rfl rfl rfl (Rd.assign rfl rfl) ?_
    refine WL.nil ?_
    refine thenQ.normal ?_
    refine WC.region ?_
    refine WL.rd rfl rfl rfl (Rd.move rfl rfl) ?_
    refine WL.rd rfl rfl rfl (Rd.add rfl rfl rfl Z.W) ?_
    refine WL.rd rfl rfl rfl (Rd.assign rfl rfl) ?_
    refine WL.nil ?_
    refine thenQ.normal ?_
    refine WC.seq ?_
    refine WC.region ?_
    refine WL.rd rfl rfl rfl (Rd.move rfl rfl) ?_
    refine WL.rd rfl rfl rfl (Rd.move rfl rfl) ?_
    refine WL.rd rfl rfl rfl (Rd.conv rfl rfl Tryz.underlying5 (wrap_natU (k := .u8) rfl (show _ < 256 by omega)) (hS := Tryz.underlying241)) ?_
    refine WL.rd rfl rfl rfl (Rd.len8 rfl Tryz.underlying9 rfl rfl rfl Z.W) ?_
    refine WL.rd rfl rfl rfl (Rd.conv rfl rfl Tryz.underlying3 (wrap_natS (k := .i64) (Nat.lt_of_le_of_lt (len8_le _ Z.W) (by decide))) (hS := Tryz.underlying5)) ?_
    refine WL.rd rfl rfl rfl (Rd.add rfl rfl rfl (by (have h8 := len8_le (n / 2 ^ 32 / 2 ^ 16 / 2 ^ 8) Z.W; omega))) ?_
    refine WL.rd rfl rfl rfl (Rd.assign rfl rfl) ?_
    refine WL.nil ?_
    refine thenQ.normal ?_
    refine WC.ret (Ret.one Tryz.results151 rfl ?_)
    exact vi_eq hk Z.W
   ·
    refine WC.skip ?_
    refine thenQ.normal ?_
    refine WC.seq ?_
    refine WC.region ?_
    refine WL.rd rfl rfl rfl (Rd.move rfl rfl) ?_
    refine WL.rd rfl rfl rfl (Rd.move rfl rfl) ?_
    refine WL.rd rfl rfl rfl (Rd.conv rfl rfl Tryz.underlying5 (wrap_natU (k := .u8) rfl (show _ < 256 by omega)) (hS := Tryz.underlying241)) ?_
    refine WL.rd rfl rfl rfl (Rd.len8 rfl Tryz.underlying9 rfl rfl rfl Z.W) ?_
    refine WL.rd rfl rfl rfl (Rd.conv rfl rfl Tryz.underlying3 (wrap_natS (k := .i64) (Nat.lt_of_le_of_lt (len8_le _ Z.W) (by decide))) (hS := Tryz.underlying5)) ?_
    refine WL.rd rfl rfl rfl (Rd.add rfl rfl rfl (by (have h8 := len8_le (n / 2 ^ 32 / 2 ^ 16) Z.W; omega))) ?_
    refine WL.rd rfl rfl rfl (Rd.assign rfl rfl) ?_
    refine WL.nil ?_
    refine thenQ.normal ?_
    refine WC.ret (Ret.one Tryz.results151 rfl ?_)
    exact vi_eq hk Z.W
  ·
   refine WC.skip ?_
   refine thenQ.normal ?_
   refine WC.seq ?_
   refine WC.seq ?_
   refine WC.region ?_
   refine WL.rd rfl rfl rfl (Rd.move rfl rfl) ?_
   refine WL.rd rfl rfl rfl (Rd.geq rfl rfl rfl) ?_
   refine WL.nil ?_
   refine thenQ.normal ?_
   refine WC.ite rfl (fun hc3 => ?_) (fun hc3 => ?_)
   ·
    first | have e3 := blen_div (n := n / 2 ^ 32 / 2 ^ 16) (k := 8) Z.W | have e3 := blen_div (n := n / 2 ^ 32) (k := 8) Z.W | have e3 := blen_div (n := n / 2 ^ 16) (k := 8) Z.W | have e3 := blen_div (n := n) (k := 8) Z.W
    refine WC.seq ?_
    refine WC.region ?_
    refine WL.rd rfl rfl rfl (Rd.move rfl rfl) ?_
    refine WL.rd rfl rfl rfl (Rd.shrN (n := 8) rfl rfl rfl rfl rfl (by decide)) ?_
    refine WL.rd rfl rfl rfl (Rd.assign rfl rfl) ?_
    refine WL.nil ?_
    refine thenQ.normal ?_
    refine WC.region ?_
    refine WL.rd rfl rfl rfl (Rd.move rfl rfl) ?_
    refine WL.rd rfl rfl rfl (Rd.add rfl rfl rfl Z.W) ?_
    refine WL.rd rfl rfl rfl (Rd.assign rfl rfl) ?_
    refine WL.nil ?_
    refine thenQ.normal ?_
    refine WC.seq ?_
    refine WC.region ?_
    refine WL.rd rfl rfl rfl (Rd.move rfl rfl) ?_
    refine WL.rd rfl rfl rfl (Rd.move rfl rfl) ?_
    refine WL.rd rfl rfl rfl (Rd.conv rfl rfl Tryz.underlying5 (wrap_natU (k := .u8) rfl (show _ < 256 by omega)) (hS := Tryz.underlying241)) ?_
    refine WL.rd rfl rfl rfl (Rd.len8 rfl Tryz.underlying9 rfl rfl rfl Z.W) ?_
    refine WL.rd rfl rfl rfl (Rd.conv rfl rfl Tryz.underlying3 (wrap_natS (k := .i64) (Nat.lt_of_le_of_lt (len8_le _ Z.W) (by decide))) (hS := Tryz.underlying5)) ?_
    refine WL.rd rfl rfl rfl (Rd.add rfl rfl rfl (by (have h8 := len8_le (n / 2 ^ 32 / 2 ^ 8) Z.W; omega))) ?_
    refine WL.rd rfl rfl rfl (Rd.assign rfl rfl) ?_
    refine WL.nil ?_
    refine thenQ.normal ?_
    refine WC.ret (Ret.one Tryz.results151 rfl ?_)
    exact vi_eq hk Z.W
   ·
    refine WC.skip ?_
    refine thenQ.normal ?_
    refine WC.seq ?_
    refine WC.region ?_
    refine WL.rd rfl rfl rfl (Rd.move rfl rfl) ?_
    refine WL.rd rfl rfl rfl (Rd.move rfl rfl) ?_
    refine WL.rd rfl rfl rfl (Rd.conv rfl rfl Tryz.underlying5 (wrap_natU (k := .u8) rfl (show _ < 256 by omega)) (hS := Tryz.underlying241)) ?_
    refine WL.rd rfl rfl rfl (Rd.len8 rfl Tryz.underlying9 rfl rfl rfl Z.W) ?_
    refine WL.rd rfl rfl rfl (Rd.conv rfl rfl Tryz.underlying3 (wrap_natS (k := .i64) (Nat.lt_of_le_of_lt (len8_le _ Z.W) (by decide))) (hS := Tryz.underlying5)) ?_
    refine WL.rd rfl rfl rfl (Rd.add rfl rfl rfl (by (have h8 := len8_le (n / 2 ^ 32) Z.W; omega))) ?_
    refine WL.rd rfl rfl rfl (Rd.assign rfl rfl) ?_
    refine WL.nil ?_
    refine thenQ.normal ?_
    refine WC.ret (Ret.one Tryz.results151 rfl ?_)
    exact vi_eq hk Z.W
 ·
  refine WC.skip ?_
  refine thenQ.normal ?_
  refine WC.seq ?_
  refine WC.seq ?_
  refine WC.region ?_
  refine WL.rd rfl rfl rfl (Rd.move rfl rfl) ?_
  refine WL.rd rfl rfl rfl (Rd.geq rfl rfl rfl) ?_
  refine WL.nil ?_
  refine thenQ.normal ?_
  refine WC.ite rfl (fun hc2 => ?_) (fun hc2 => ?_)
  ·
   first | have e2 := blen_div (n := n / 2 ^ 32) (k := 16) Z.W | have e2 := blen_div (n := n) (k := 16) Z.W
   refine WC.seq ?_
   refine WC.region ?_
   refine WL.rd rfl rfl rfl (Rd.move rfl rfl) ?_
   refine WL.rd rfl rfl rfl (Rd.shrN (n := 16) rfl rfl rfl rfl rfl (by decide)) ?_
   refine WL.rd rfl rfl rfl (Rd.assign rfl rfl) ?_
   refine WL.nil ?_
   refine thenQ.normal ?_
   refine WC.region ?_
   refine WL.rd rfl rfl rfl (Rd.move rfl rfl) ?_
   refine WL.rd rfl rfl rfl (Rd.add rfl rfl rfl Z.W) ?_
   refine WL.rd rfl rfl rfl (Rd.assign rfl rfl) ?_
   refine WL.nil ?_
   refine thenQ.normal ?_
   refine WC.seq ?_
   refine WC.seq ?_
   refine WC.region ?_
   refine WL.rd rfl rfl rfl (Rd.move rfl rfl) ?_
   refine WL.rd rfl rfl rfl (Rd.geq rfl rfl rfl) ?_
   refine WL.nil ?_
   refine thenQ.normal ?_
   refine WC.ite rfl (fun hc3 => ?_) (fun hc3 => ?_)
   ·
    first | have e3 := blen_div (n := n / 2 ^ 32 / 2 ^ 16) (k := 8) Z.W | have e3 := blen_div (n := n / 2 ^ 32) (k := 8) Z.W | have e3 := blen_div (n := n / 2 ^ 16) (k := 8) Z.W | have e3 := blen_div (n := n) (k := 8) Z.W
    refine WC.seq ?_
    refine WC.region ?_
    refine WL.rd rfl rfl rfl (Rd.move rfl rfl) ?_
    refine WL.rd rfl rfl rfl (Rd.shrN (n := 8) rfl rfl rfl rfl rfl (by decide)) ?_
    refine WL.rd rfl rfl rfl (Rd.assign rfl rfl) ?_
    refine WL.nil ?_
    refine thenQ.normal ?_
    refine WC.region ?_
    refine WL.rd rfl rfl rfl (Rd.move rfl rfl) ?_
    refine WL.rd rfl rfl rfl (Rd.add rfl rfl rfl Z.W) ?_
    refine WL.rd rfl rfl rfl (Rd.assign rfl rfl) ?_
    refine WL.nil ?_
    refine thenQ.normal ?_
    refine WC.seq ?_
    refine WC.region ?_
    refine WL.rd rfl rfl rfl (Rd.move rfl rfl) ?_
    refine WL.rd rfl rfl rfl (Rd.move rfl rfl) ?_
    refine WL.rd rfl rfl rfl (Rd.conv rfl rfl Tryz.underlying5 (wrap_natU (k := .u8) rfl (show _ < 256 by omega)) (hS := Tryz.underlying241)) ?_
    refine WL.rd rfl rfl rfl (Rd.len8 rfl Tryz.underlying9 rfl rfl rfl Z.W) ?_
    refine WL.rd rfl rfl rfl (Rd.conv rfl rfl Tryz.underlying3 (wrap_natS (k := .i64) (Nat.lt_of_le_of_lt (len8_le _ Z.W) (by decide))) (hS := Tryz.underlying5)) ?_
    refine WL.rd rfl rfl rfl (Rd.add rfl rfl rfl (by (have h8 := len8_le (n / 2 ^ 16 / 2 ^ 8) Z.W; omega))) ?_
    refine WL.rd rfl rfl rfl (Rd.assign rfl rfl) ?_
    refine WL.nil ?_
    refine thenQ.normal ?_
    refine WC.ret (Ret.one Tryz.results151 rfl ?_)
    exact vi_eq hk Z.W
   ·
    refine WC.skip ?_
    refine thenQ.normal ?_
    refine WC.seq ?_
    refine WC.region ?_
    refine WL.rd rfl rfl rfl (Rd.move rfl rfl) ?_
    refine WL.rd rfl rfl rfl (Rd.move rfl rfl) ?_
    refine WL.rd rfl rfl rfl (Rd.conv rfl rfl Tryz.underlying5 (wrap_natU (k := .u8) rfl (show _ < 256 by omega)) (hS := Tryz.underlying241)) ?_
    refine WL.rd rfl rfl rfl (Rd.len8 rfl Tryz.underlying9 rfl rfl rfl Z.W) ?_
    refine WL.rd rfl rfl rfl (Rd.conv rfl rfl Tryz.underlying3 (wrap_natS (k := .i64) (Nat.lt_of_le_of_lt (len8_le _ Z.W) (by decide))) (hS := Tryz.underlying5)) ?_
    refine WL.rd rfl rfl rfl (Rd.add rfl rfl rfl (by (have h8 := len8_le (n / 2 ^ 16) Z.W; omega))) ?_
    refine WL.rd rfl rfl rfl (Rd.assign rfl rfl) ?_
    refine WL.nil ?_
    refine thenQ.normal ?_
    refine WC.ret (Ret.one Tryz.results151 rfl ?_)
    exact vi_eq hk Z.W
  ·
   refine WC.skip ?_
   refine thenQ.normal ?_
   refine WC.seq ?_
   refine WC.seq ?_
   refine WC.region ?_
   refine WL.rd rfl rfl rfl (Rd.move rfl rfl) ?_
   refine WL.rd rfl rfl rfl (Rd.geq rfl rfl rfl) ?_
   refine WL.nil ?_
   refine thenQ.normal ?_
   refine WC.ite rfl (fun hc3 => ?_) (fun hc3 => ?_)
   ·
    first | have e3 := blen_div (n := n / 2 ^ 32 / 2 ^ 16) (k := 8) Z.W | have e3 := blen_div (n := n / 2 ^ 32) (k := 8) Z.W | have e3 := blen_div (n := n / 2 ^ 16) (k := 8) Z.W | have e3 := blen_div (n := n) (k := 8) Z.W
    refine WC.seq ?_
    refine WC.region ?_
    refine WL.rd rfl rfl rfl (Rd.move rfl rfl) ?_
    refine WL.rd rfl rfl rfl (Rd.shrN (n := 8) rfl rfl rfl rfl rfl (by decide)) ?_
    refine WL.rd rfl rfl rfl (Rd.assign rfl rfl) ?_
    refine WL.nil ?_
    refine thenQ.normal ?_
    refine WC.region ?_
    refine WL.rd rfl rfl rfl (Rd.move rfl rfl) ?_
    refine WL.rd rfl rfl rfl (Rd.add rfl rfl rfl Z.W) ?_
    refine WL.rd rfl rfl rfl (Rd.assign rfl rfl) ?_
    refine WL.nil ?_
    refine thenQ.normal ?_
    refine WC.seq ?_
    refine WC.region ?_
    refine WL.rd rfl rfl rfl (Rd.move rfl rfl) ?_
    refine WL.rd rfl rfl rfl (Rd.move rfl rfl) ?_
    refine WL.rd rfl rfl rfl (Rd.conv rfl rfl Tryz.underlying5 (wrap_natU (k := .u8) rfl (show _ < 256 by omega)) (hS := Tryz.underlying241)) ?_
    refine WL.rd rfl rfl rfl (Rd.len8 rfl Tryz.underlying9 rfl rfl rfl Z.W) ?_
    refine WL.rd rfl rfl rfl (Rd.conv rfl rfl Tryz.underlying3 (wrap_natS (k := .i64) (Nat.lt_of_le_of_lt (len8_le _ Z.W) (by decide))) (hS := Tryz.underlying5)) ?_
    refine WL.rd rfl rfl rfl (Rd.add rfl rfl rfl (by (have h8 := len8_le (n / 2 ^ 8) Z.W; omega))) ?_
    refine WL.rd rfl rfl rfl (Rd.assign rfl rfl) ?_
    refine WL.nil ?_
    refine thenQ.normal ?_
    refine WC.ret (Ret.one Tryz.results151 rfl ?_)
    exact vi_eq hk Z.W
   ·
    refine WC.skip ?_
    refine thenQ.normal ?_
    refine WC.seq ?_
    refine WC.region ?_
    refine WL.rd rfl rfl rfl (Rd.move rfl rfl) ?_
    refine WL.rd rfl rfl rfl (Rd.move rfl rfl) ?_
    refine WL.rd rfl rfl rfl (Rd.conv rfl rfl Tryz.underlying5 (wrap_natU (k := .u8) rfl (show _ < 256 by omega)) (hS := Tryz.underlying241)) ?_
    refine WL.rd rfl rfl rfl (Rd.len8 rfl Tryz.underlying9 rfl rfl rfl Z.W) ?_
    refine WL.rd rfl rfl rfl (Rd.conv rfl rfl Tryz.underlying3 (wrap_natS (k := .i64) (Nat.lt_of_le_of_lt (len8_le _ Z.W) (by decide))) (hS := Tryz.underlying5)) ?_
    refine WL.rd rfl rfl rfl (Rd.add rfl rfl rfl (by (have h8 := len8_le (n) Z.W; omega))) ?_
    refine WL.rd rfl rfl rfl (Rd.assign rfl rfl) ?_
    refine WL.nil ?_
    refine thenQ.normal ?_
    refine WC.ret (Ret.one Tryz.results151 rfl ?_)
    exact vi_eq hk Z.W
set_option maxRecDepth 20000 in
theorem len_spec {R : List RO} {O : List Own} {POST : Value → List RO → List Own → Prop} {n : Nat} (hn : n < 18446744073709551616) (hk : POST (.int .i64 (blen n)) R O) : Fun Tryz.prog 106 #[.int .u64 n] R O POST := by
 refine Fun.enter (l := [_]) Tryz.func106 rfl Tryz.ntmps106 rfl (L0 := [(0, _)]) rfl ?_
 refine WC.seq ?_
 refine WC.region ?_
 refine WL.rd rfl rfl rfl (Rd.assign rfl rfl) ?_
 refine WL.nil ?_
 refine thenQ.normal ?_
 refine WC.seq ?_
 refine WC.cond rfl (fun hc1 => ?_) (fun hc1 => ?_)
 ·
  simp at hc1
 ·
  refine WC.skip ?_
  refine thenQ.normal ?_
  refine WC.seq ?_
  refine WC.region ?_
  refine WL.rd rfl rfl rfl (Rd.move rfl rfl) ?_
  refine WL.op rfl ?_
  refine OpW.call rfl rfl Z.E Z.K rfl rfl rfl ?_
  refine len64_spec hn ?_
  refine WL.rd rfl rfl rfl (Rd.assign rfl rfl) ?_
  refine WL.nil ?_
  refine thenQ.normal ?_
  refine WC.ret (Ret.one Tryz.results106 rfl ?_)
  exact hk
set_option maxRecDepth 20000 in
theorem len8_spec {R : List RO} {O : List Own} {POST : Value → List RO → List Own → Prop} {n : Nat} (hn : n < 256) (hk : POST (.int .i64 (blen n)) R O) : Fun Tryz.prog 149 #[.int .u8 n] R O POST := by
 refine Fun.enter (l := [_]) Tryz.func149 rfl Tryz.ntmps149 rfl (L0 := [(0, _)]) rfl ?_
 refine WC.seq ?_
 refine WC.region ?_
 refine WL.rd rfl rfl rfl (Rd.assign rfl rfl) ?_
 refine WL.nil ?_
 refine thenQ.normal ?_
 refine WC.seq ?_
 refine WC.region ?_
 refine WL.rd rfl rfl rfl (Rd.move rfl rfl) ?_
 refine WL.rd rfl rfl rfl (Rd.len8 rfl Tryz.underlying9 rfl rfl rfl hn) ?_
 refine WL.rd rfl rfl rfl (Rd.conv rfl rfl Tryz.underlying3 (wrap_natS (k := .i64) (Nat.lt_of_le_of_lt (len8_le _ hn) (by decide))) (hS := Tryz.underlying5)) ?_
 refine WL.rd rfl rfl rfl (Rd.assign rfl rfl) ?_
 refine WL.nil ?_
 refine thenQ.normal ?_
 refine WC.ret (Ret.one Tryz.results149 rfl ?_)
 exact hk
set_option maxRecDepth 20000 in
theorem zeros8_spec {R : List RO} {O : List Own} {POST : Value → List RO → List Own → Prop} {n : Nat} (hn : n < 256) (hk : POST (.int .i64 ((8 - blen n : Nat) : Int)) R O) : Fun Tryz.prog 104 #[.int .u8 n] R O POST := by
 have h8 := len8_le n hn
 refine Fun.enter (l := [_]) Tryz.func104 rfl Tryz.ntmps104 rfl (L0 := [(0, _)]) rfl ?_
 refine WC.seq ?_
 refine WC.region ?_
 refine WL.rd rfl rfl rfl (Rd.assign rfl rfl) ?_
 refine WL.nil ?_
 refine thenQ.normal ?_
 refine WC.seq ?_
 refine WC.region ?_
 refine WL.rd rfl rfl rfl (Rd.move rfl rfl) ?_
 refine WL.op rfl ?_
 refine OpW.call rfl rfl Z.E Z.K rfl rfl rfl ?_
 refine len8_spec hn ?_
 refine WL.rd rfl rfl rfl (Rd.sub rfl rfl rfl Z.W) ?_
 refine WL.rd rfl rfl rfl (Rd.assign rfl rfl) ?_
 refine WL.nil ?_
 refine thenQ.normal ?_
 refine WC.ret (Ret.one Tryz.results104 rfl ?_)
 exact vi_eq hk Z.W
/-- How many bytes stand behind the first one. -/
def more (n : Nat) : Nat := (blen n - 1) / 7
set_option maxRecDepth 20000 in
theorem behind_spec {R : List RO} {O : List Own} {POST : Value → List RO → List Own → Prop} {n : Nat} (hn : n ≤ 9223372036854775807) (hk : POST (.int .i64 (more n)) R O) : Fun Tryz.prog 63 #[.int .i64 n] R O POST := by
 have h8 := blen_lt (n := n) (k := 63) Z.W
 refine Fun.enter (l := [_]) Tryz.func63 rfl Tryz.ntmps63 rfl (L0 := [(0, _)]) rfl ?_
 refine WC.seq ?_
 refine WC.region ?_
 refine WL.rd rfl rfl rfl (Rd.assign rfl rfl) ?_
 refine WL.nil ?_
 refine thenQ.normal ?_
 refine WC.seq ?_
 refine WC.region ?_
 refine WL.rd rfl rfl rfl (Rd.move rfl rfl) ?_
 refine WL.rd rfl rfl rfl (Rd.conv rfl rfl Tryz.underlying135 (wrap_natU (k := .u64) rfl (show _ < 18446744073709551616 by omega)) (hS := Tryz.underlying3)) ?_
 refine WL.op rfl ?_
 refine OpW.call rfl rfl Z.E Z.K rfl rfl rfl ?_
 refine len_spec Z.W ?_
 refine WL.rd rfl rfl rfl (Rd.sub rfl rfl rfl Z.W) ?_
 refine WL.rd rfl rfl rfl (Rd.max2 rfl rfl rfl) ?_
 refine WL.say 7 (u := .int .i64 ((blen n - 1 : Nat) : Int)) rfl (by congr 1; omega) ?_
 refine WL.rd rfl rfl rfl (Rd.quoI (b := 7) rfl rfl rfl rfl rfl (by decide) Z.W) ?_
 refine WL.rd rfl rfl rfl (Rd.assign rfl rfl) ?_
 refine WL.nil ?_
 refine thenQ.normal ?_
 refine WC.ret (Ret.one Tryz.results63 rfl ?_)
 exact hk
end Go.Proofs.YtlbdpcadaojcbaaGreatDoor
namespace Go.Proofs.YtlbdpcadaojcbaaGreatDoor
open Go Go.SL
/-- The i lowest bytes of a number, the highest of them first. -/
def beb : Nat → Nat → List UInt8
 | 0, _ => []
 | i + 1, n => UInt8.ofNat (n / 256 ^ i % 256) :: beb i n
theorem beb_length : ∀ (i n : Nat), (beb i n).length = i
 | 0, _ => rfl
 | i + 1, n => by rw [beb, List.length_cons, beb_length i n]
/-- What is added to a first byte. -/
def mask (k : Nat) : Nat := 256 - 2 ^ (8 - k)
/-- The bytes of a number. -/
def putE (n : Nat) : List UInt8 := UInt8.ofNat (n / 256 ^ more n + mask (more n)) :: beb (more n) n
def putI (p : Int) : List UInt8 := if p < 0 ∨ 1099511627776 < p then [] else putE p.toNat
theorem putE_length (n : Nat) : (putE n).length = more n + 1 := by rw [putE, List.length_cons, beb_length]
theorem more_lt {n k : Nat} : n < 128 ^ (k + 1) ↔ more n ≤ k := by
 have e : (128 : Nat) ^ (k + 1) = 2 ^ (7 * (k + 1)) := by rw [Nat.pow_mul]
 rw [e]
 constructor
 · intro h
   have := blen_lt h
   unfold more; omega
 · intro h
   rcases Nat.lt_or_ge n (2 ^ (7 * (k + 1))) with h1 | h1
   · exact h1
   · have := blen_ge h1
     unfold more at h; omega
theorem more_le {n : Nat} (h : n ≤ 1099511627776) : more n ≤ 5 := more_lt.1 (Nat.lt_of_le_of_lt h (by decide))
theorem head_lt {n : Nat} (h : n ≤ 1099511627776) : n / 256 ^ more n < 2 ^ (7 - more n) := by
 have h5 := more_le h
 have h1 : n < 128 ^ (more n + 1) := more_lt.2 (Nat.le_refl _)
 generalize more n = k at *
 rw [Nat.div_lt_iff_lt_mul (Nat.pow_pos (by decide))]
 refine Nat.lt_of_lt_of_le h1 ?_
 have : ∀ k, k ≤ 5 → 128 ^ (k + 1) ≤ 2 ^ (7 - k) * 256 ^ k := by decide
 exact this k h5
theorem or_mask : ∀ k, k ≤ 5 → ∀ x, x < 2 ^ (7 - k) → x ||| (255 - 255 / 2 ^ k) = x + mask k := by decide +kernel
theorem mask_sum : ∀ k, k ≤ 5 → 2 ^ (7 - k) + mask k ≤ 256 := by decide
theorem u8_toNat {x : Nat} (h : x < 256) : (UInt8.ofNat x).toNat = x := by simp; omega
theorem wrap_byte (a : Nat) : IntKind.u8.wrap (a : Int) = ((UInt8.ofNat (a % 256)).toNat : Int) := by
 rw [u8_toNat (Nat.mod_lt _ (by decide))]
 simp only [IntKind.wrap, IntKind.signed, IntKind.bits, Bool.false_and, Bool.false_eq_true, if_false]; omega
theorem set_lastb {α : Type} (k : Nat) (z v : α) (l : List α) : (List.replicate (k + 1) z ++ l).set k v = List.replicate k z ++ v :: l := by
 rw [List.set_append_left _ _ (by simp), List.replicate_succ', List.set_append_right _ _ (by simp)]
 simp
theorem beb_step {n m j : Nat} (hj : j ≤ m) : (List.replicate (m + 1 - j) (Value.int .u8 0) ++ (beb j n).map vy).set (m - j) (vy (UInt8.ofNat (n / 256 ^ j % 256))) = List.replicate (m + 1 - (j + 1)) (Value.int .u8 0) ++ (beb (j + 1) n).map vy := by
 rw [show m + 1 - j = (m - j) + 1 from by omega, set_lastb, show m + 1 - (j + 1) = m - j from by omega]
 rfl
theorem div_step (n j : Nat) : n / 256 ^ j / 2 ^ 8 = n / 256 ^ (j + 1) := by rw [Nat.div_div_eq_div_mul]; rfl
set_option maxRecDepth 20000 in
theorem put_bad {R : List RO} {O : List Own} {POST : Value → List RO → List Own → Prop} {p : Int} (hp : p < 0 ∨ 1099511627776 < p) (hk : POST (vs []) R O) : Fun Tryz.prog 36 #[.int .i64 p] R O POST := by
 refine Fun.enter (l := [_]) Tryz.func36 rfl Tryz.ntmps36 rfl (L0 := [(0, _)]) rfl ?_
 refine WC.seq ?_
 refine WC.region ?_
 refine WL.rd rfl rfl rfl (Rd.assign rfl rfl) ?_
 refine WL.nil ?_
 refine thenQ.normal ?_
 refine WC.seq ?_
 refine WC.pick [0] Z.P ?_
 refine WC.val 11 (.bool (decide (p < 0 ∨ 1099511627776 < p))) ?_ ?_
 ·
  refine WC.region ?_
  refine WL.rd rfl rfl rfl (Rd.move rfl rfl) ?_
  refine WL.rd rfl rfl rfl (Rd.lss rfl rfl rfl) ?_
  refine WL.rd rfl rfl rfl (Rd.move rfl rfl) ?_
  refine WL.case 8 rfl (fun hg8 => ?_) (fun hg8 => ?_)
  ·
   refine WL.no rfl rfl rfl rfl rfl rfl ?_
   refine WL.no rfl rfl rfl rfl rfl rfl ?_
   refine WL.rd rfl rfl rfl (Rd.pick_t rfl rfl rfl) ?_
   refine WL.nil ?_
   exact ⟨by repeat (first | exact Sub.nil | refine Sub.cons rfl (by first | rfl | (exact vb_t Z.W)) ?_), by exact (fun _ h => h.thin (SubL.mem Z.S))⟩
  ·
   refine WL.rd_yes rfl rfl rfl rfl rfl rfl (Rd.move rfl rfl) ?_
   refine WL.rd_yes rfl rfl rfl rfl rfl rfl (Rd.gtr rfl rfl rfl) ?_
   refine WL.rd rfl rfl rfl (Rd.pick_f rfl rfl rfl) ?_
   refine WL.nil ?_
   exact ⟨by repeat (first | exact Sub.nil | refine Sub.cons rfl (by first | rfl | (exact vb Z.W)) ?_), by exact (fun _ h => h.thin (SubL.mem Z.S))⟩
 ·
  refine WC.ite rfl (fun hc1 => ?_) (fun hc1 => ?_)
  ·
   refine WC.seq ?_
   refine WC.region ?_
   refine WL.rd rfl rfl rfl (Rd.assign rfl rfl) ?_
   refine WL.nil ?_
   refine thenQ.normal ?_
   refine WC.ret (Ret.one Tryz.results36 rfl ?_)
   exact hk
  ·
   exfalso; omega
set_option maxRecDepth 20000 in
set_option maxHeartbeats 1000000 in
theorem put_good {R : List RO} {O : List Own} {POST : Value → List RO → List Own → Prop} {n : Nat} (hn : n ≤ 1099511627776) (hk : POST (vs (putE n)) R O) : Fun Tryz.prog 36 #[.int .i64 n] R O POST := by
 have h5 := more_le hn
 have hh := head_lt hn
 have hms := mask_sum _ h5
 have hpl := putE_length n
 refine Fun.enter (l := [_]) Tryz.func36 rfl Tryz.ntmps36 rfl (L0 := [(0, _)]) rfl ?_
 refine WC.seq ?_
 refine WC.region ?_
 refine WL.rd rfl rfl rfl (Rd.assign rfl rfl) ?_
 refine WL.nil ?_
 refine thenQ.normal ?_
 refine WC.seq ?_
 refine WC.pick [0] Z.P ?_
 refine WC.val 11 (.bool (decide ((n : Int) < 0 ∨ 1099511627776 < (n : Int)))) ?_ ?_
 ·
  refine WC.region ?_
  refine WL.rd rfl rfl rfl (Rd.move rfl rfl) ?_
  refine WL.rd rfl rfl rfl (Rd.lss rfl rfl rfl) ?_
  refine WL.rd rfl rfl rfl (Rd.move rfl rfl) ?_
  refine WL.case 8 rfl (fun hg8 => ?_) (fun hg8 => ?_)
  ·
   refine WL.no rfl rfl rfl rfl rfl rfl ?_
   refine WL.no rfl rfl rfl rfl rfl rfl ?_
   refine WL.rd rfl rfl rfl (Rd.pick_t rfl rfl rfl) ?_
   refine WL.nil ?_
   exact ⟨by repeat (first | exact Sub.nil | refine Sub.cons rfl (by first | rfl | (exact vb_t Z.W)) ?_), by exact (fun _ h => h.thin (SubL.mem Z.S))⟩
  ·
   refine WL.rd_yes rfl rfl rfl rfl rfl rfl (Rd.move rfl rfl) ?_
   refine WL.rd_yes rfl rfl rfl rfl rfl rfl (Rd.gtr rfl rfl rfl) ?_
   refine WL.rd rfl rfl rfl (Rd.pick_f rfl rfl rfl) ?_
   refine WL.nil ?_
   exact ⟨by repeat (first | exact Sub.nil | refine Sub.cons rfl (by first | rfl | (exact vb Z.W)) ?_), by exact (fun _ h => h.thin (SubL.mem Z.S))⟩
 ·
  refine WC.ite rfl (fun hc1 => ?_) (fun hc1 => ?_)
  ·
   exfalso; omega
  ·
   refine WC.skip ?_
   refine thenQ.normal ?_
   refine WC.seq ?_
   refine WC.region ?_
   refine WL.rd rfl rfl rfl (Rd.move rfl rfl) ?_
   refine WL.op rfl ?_
   refine OpW.call rfl rfl Z.E Z.K rfl rfl rfl ?_
   refine behind_spec Z.W ?_
   refine WL.rd rfl rfl rfl (Rd.assign rfl rfl) ?_
   refine WL.nil ?_
   refine thenQ.normal ?_
   refine WC.seq ?_
   refine WC.region ?_
   refine WL.rd rfl rfl rfl (Rd.move rfl rfl) ?_
   refine WL.rd rfl rfl rfl (Rd.add rfl rfl rfl Z.W) ?_
   refine WL.op rfl ?_
   refine OpW.make1 (m := more n + 1) (c := more n + 1) rfl S48 rfl rfl rfl rfl rfl Z.W Z.W Z.W rfl rfl ?_; intro b16
   refine WL.rd rfl rfl rfl (Rd.assign rfl rfl) ?_
   refine WL.nil ?_
   refine thenQ.normal ?_
   refine WC.seq ?_
   refine WC.seq ?_
   refine WC.region ?_
   refine WL.rd rfl rfl rfl (Rd.move rfl rfl) ?_
   refine WL.rd rfl rfl rfl (Rd.assign rfl rfl) ?_
   refine WL.nil ?_
   refine thenQ.normal ?_
   refine WC.block ?_
   refine WC.pick [5, 0, 3, 4] Z.P ?_
   refine WC.loop1 2 (fun (j : Nat) => [(5, .int .i64 ((more n : Int) - j)), (0, .int .i64 ((n / 256 ^ j : Nat) : Int))]) (fun (j : Nat) => rowC b16 5 (List.replicate (more n + 1 - j) (.int .u8 0) ++ (beb j n).map vy) :: O) (fun (j : Nat) => j ≤ more n + 1) (fun (j : Nat) => more n + 1 - j) (0) Z.L ?hinv1 (by repeat (first | exact Sub.nil | refine Sub.cons rfl (by first | rfl | (congr 1; omega)) ?_)) (fun w h => by simpa [beb] using h) ?_
   case hinv1 =>
    exact Nat.zero_le _
   intro j
   rintro h1
   refine WC.seq ?_
   refine WC.seq ?_
   refine WC.region ?_
   refine WL.rd rfl rfl rfl (Rd.move rfl rfl) ?_
   refine WL.rd rfl rfl rfl (Rd.geq rfl rfl rfl) ?_
   refine WL.nil ?_
   refine thenQ.normal ?_
   refine WC.ite rfl (fun hc2 => ?_) (fun hc2 => ?_)
   ·
    refine WC.skip ?_
    refine thenQ.normal ?_
    refine WC.seq ?_
    refine WC.block ?_
    refine WC.seq ?_
    refine WC.region ?_
    refine WL.rd rfl rfl rfl (Rd.move rfl rfl) ?_
    refine WL.rd rfl rfl rfl (Rd.move rfl rfl) ?_
    refine WL.rd rfl rfl rfl (Rd.move rfl rfl) ?_
    refine WL.rd rfl rfl rfl ((by exact Rd.convw rfl rfl Tryz.underlying5 (hS := Tryz.underlying3))) ?_
    refine WL.say 25 (u := vy (UInt8.ofNat (n / 256 ^ j % 256))) rfl (by rw [wrap_byte]) ?_
    refine WL.rd rfl rfl rfl ((by exact Rd.idxR1 (k := more n - j) rfl S48 rfl rfl Z.W Z.W)) ?_
    refine WL.op rfl ?_
    refine OpW.store1 rfl Z5 rfl rfl (by exact ⟨rfl, rfl⟩) Z.T (by (simp only [List.length_append, List.length_replicate, List.length_map, List.length_set]; omega)) rfl ?_
    refine WL.heap (fun w h => by rw [beb_step Z.W] at h; exact h) ?_
    refine WL.nil ?_
    refine thenQ.normal ?_
    refine WC.region ?_
    refine WL.rd rfl rfl rfl (Rd.move rfl rfl) ?_
    refine WL.rd rfl rfl rfl (Rd.shrN (n := 8) rfl rfl rfl rfl rfl (by decide)) ?_
    refine WL.say 28 (u := .int .i64 ((n / 256 ^ (j + 1) : Nat) : Int)) rfl (by rw [div_step]) ?_
    refine WL.rd rfl rfl rfl (Rd.assign rfl rfl) ?_
    refine WL.nil ?_
    refine blockQ.normal ?_
    refine thenQ.normal ?_
    refine WC.region ?_
    refine WL.rd rfl rfl rfl (Rd.move rfl rfl) ?_
    refine WL.rd rfl rfl rfl (Rd.sub rfl rfl rfl Z.W) ?_
    refine WL.rd rfl rfl rfl (Rd.assign rfl rfl) ?_
    refine WL.nil ?_
    exact loopQ1.mk (j + 1) Z.W Z.W (by repeat (first | exact Sub.nil | refine Sub.cons rfl (by first | rfl | (congr 1; omega)) ?_)) Z.F
   ·
    refine WC.exit ?_
    refine thenQ.exit ?_
    refine loopQ1.exit ?_
    refine blockQ.exit ?_
    refine thenQ.normal ?_
    refine WC.seq ?_
    refine WC.heap (R' := R) (O' := rowC b16 5 (vy (UInt8.ofNat (n / 256 ^ more n % 256)) :: (beb (more n) n).map vy) :: O) (fun w h => by
    obtain rfl : j = more n + 1 := by omega
    rw [Nat.sub_self] at h
    exact h) ?_
    refine WC.tail 8 mixed Z.K ?_
    refine WS.rd rfl rfl rfl (Rd.move rfl rfl) ?_
    refine WS.rd rfl rfl rfl ((by exact Rd.idxR1 (k := 0) rfl S48 rfl rfl Z.W Z.W)) ?_
    refine WS.rd rfl rfl rfl ((by exact Rd.row1 rfl C5 rfl Z.M (by rfl))) ?_
    refine WS.rd rfl rfl rfl (Rd.move rfl rfl) ?_
    refine WS.rd rfl rfl rfl (Rd.shrN (a := 255) (n := more n) rfl rfl rfl rfl rfl (by show more n ≤ 8; omega)) ?_
    refine WS.rd rfl rfl rfl (Rd.bnot rfl rfl rfl (Nat.lt_of_le_of_lt (Nat.div_le_self _ _) (by decide))) ?_
    refine WS.rd rfl rfl rfl (Rd.orU rfl rfl rfl rfl rfl rfl (UInt8.toNat_lt _) (Nat.lt_of_le_of_lt (Nat.sub_le _ _) (by decide))) ?_
    refine WS.say 35 (u := vy (UInt8.ofNat (n / 256 ^ more n + mask (more n)))) rfl (by rw [u8_toNat (Nat.mod_lt _ (by decide)), Nat.mod_eq_of_lt (Nat.lt_of_lt_of_le hh Z.W), or_mask _ h5 _ hh, vy, u8_toNat Z.W]) ?_
    refine WS.rd rfl rfl rfl ((by exact Rd.idxR1 (k := 0) rfl S48 rfl rfl Z.W Z.W)) ?_
    refine WS.switch ?_
    refine WL.op rfl ?_
    refine OpW.store1 rfl Z5 rfl rfl (by exact ⟨rfl, rfl⟩) Z.T (by (simp; done)) rfl ?_
    refine WL.nil ?_
    refine thenQ.normal ?_
    refine WC.seq ?_
    refine WC.region ?_
    refine WL.rd rfl rfl rfl (Rd.move rfl rfl) ?_
    refine WL.rd rfl rfl rfl (Rd.strOfR (bs := putE n) rfl Tryz.underlying48 Tryz.underlying9 Tryz.underlying5 rfl Z.M rfl hpl Z.W) ?_
    refine WL.rd rfl rfl rfl (Rd.assign rfl rfl) ?_
    refine WL.nil ?_
    refine thenQ.normal ?_
    refine WC.heap (R' := R) (O' := O) Z.F ?_
    refine WC.ret (Ret.one Tryz.results36 rfl ?_)
    exact hk
theorem put_spec {R : List RO} {O : List Own} {POST : Value → List RO → List Own → Prop} {p : Int} (hk : POST (vs (putI p)) R O) : Fun Tryz.prog 36 #[.int .i64 p] R O POST := by
 unfold putI at hk
 by_cases h : p < 0 ∨ 1099511627776 < p
 · rw [if_pos h] at hk
   exact put_bad h hk
 · rw [if_neg h] at hk
   obtain ⟨n, rfl⟩ : ∃ n : Nat, p = n := ⟨p.toNat, by omega⟩
   exact put_good Z.W hk
end Go.Proofs.YtlbdpcadaojcbaaGreatDoor
namespace Go.Proofs.YtlbdpcadaojcbaaGreatDoor
open Go Go.SL
/-- How many bytes stand behind a first byte. -/
def lead (b : UInt8) : Nat := 8 - blen (255 - b.toNat)
def num (n : Nat) (r : List UInt8) : Nat := r.foldl (fun n c => 256 * n + c.toNat) n
def getE : List UInt8 → Int × Int × Int
 | [] => (0, 0, 3)
 | b :: r =>
   if 5 < lead b then (0, 0, 2)
   else if r.length < lead b then (0, 0, 3)
   else if 1099511627776 < num (b.toNat - mask (lead b)) (r.take (lead b)) ∨ more (num (b.toNat - mask (lead b)) (r.take (lead b))) ≠ lead b then (0, 0, 2)
   else (num (b.toNat - mask (lead b)) (r.take (lead b)), lead b + 1, 0)
theorem and_all : ∀ b < 256, 8 - blen (255 - b) ≤ 5 → b &&& (255 / 2 ^ (8 - blen (255 - b))) = b - mask (8 - blen (255 - b)) ∧ mask (8 - blen (255 - b)) ≤ b ∧ b - mask (8 - blen (255 - b)) < 128 := by decide +kernel
theorem and_lead {b : UInt8} (h : lead b ≤ 5) : b.toNat &&& (255 / 2 ^ lead b) = b.toNat - mask (lead b) ∧ mask (lead b) ≤ b.toNat ∧ b.toNat - mask (lead b) < 128 := and_all b.toNat (UInt8.toNat_lt b) h
theorem num_lt : ∀ (r : List UInt8) (n : Nat), num n r < (n + 1) * 256 ^ r.length
 | [], n => by simp [num]
 | c :: r, n => by
   have h := num_lt r (256 * n + c.toNat)
   have hc := UInt8.toNat_lt c
   simp only [num, List.foldl_cons, List.length_cons] at *
   refine Nat.lt_of_lt_of_le h ?_
   rw [Nat.pow_succ, Nat.mul_comm (256 ^ r.length) 256, ← Nat.mul_assoc]
   exact Nat.mul_le_mul_right _ Z.W
theorem num_snoc {r : List UInt8} {n i : Nat} {c : UInt8} (h : r[i]? = some c) : num n (r.take (i + 1)) = 256 * num n (r.take i) + c.toNat := by
 have : r.take (i + 1) = r.take i ++ [c] := by
  rw [List.take_add_one, h]; rfl
 rw [this, num, List.foldl_append]; rfl
theorem lead_spec {R : List RO} {O : List Own} {POST : Value → List RO → List Own → Prop} {b : UInt8} (hk : POST (.int .i64 (lead b : Nat)) R O) : Fun Tryz.prog 104 #[.int .u8 ((255 - b.toNat : Nat) : Int)] R O POST :=
 zeros8_spec (by have := UInt8.toNat_lt b; omega) hk
theorem num_small {r : List UInt8} {n i : Nat} (hn : n < 128) (hi : i ≤ 5) : num n (r.take i) < 128 * 256 ^ 5 := by
 have h := num_lt (r.take i) n
 refine Nat.lt_of_lt_of_le h ?_
 refine Nat.mul_le_mul Z.W (Nat.pow_le_pow_right (by decide) ?_)
 rw [List.length_take]; omega
theorem num_or (a : Nat) (c : UInt8) : a * 2 ^ 8 ||| c.toNat = 256 * a + c.toNat := by
 rw [Nat.mul_comm, ← Nat.two_pow_add_eq_or_of_lt (UInt8.toNat_lt c)]
set_option maxRecDepth 20000 in
set_option maxHeartbeats 1000000 in
theorem get_spec {R : List RO} {O : List Own} {POST : Value → List RO → List Own → Prop} {s : List UInt8} (hs : s.length ≤ 9223372036854775807)
 (hk : POST (.tuple #[.int .i64 (getE s).1, .int .i64 (getE s).2.1, .int .i64 (getE s).2.2]) R O) : Fun Tryz.prog 61 #[vs s] R O POST := by
 refine Fun.enter (l := [_]) Tryz.func61 rfl Tryz.ntmps61 rfl (L0 := [(0, _)]) rfl ?_
 refine WC.seq ?_
 refine WC.region ?_
 refine WL.rd rfl rfl rfl (Rd.assign rfl rfl) ?_
 refine WL.rd rfl rfl rfl (Rd.assign rfl rfl) ?_
 refine WL.rd rfl rfl rfl (Rd.assign rfl rfl) ?_
 refine WL.nil ?_
 refine thenQ.normal ?_
 refine WC.seq ?_
 refine WC.seq ?_
 refine WC.region ?_
 refine WL.rd rfl rfl rfl (Rd.move rfl rfl) ?_
 refine WL.rd rfl rfl rfl (Rd.seql rfl rfl rfl) ?_
 refine WL.nil ?_
 refine thenQ.normal ?_
 refine WC.ite rfl (fun hc1 => ?_) (fun hc1 => ?_)
 ·
  obtain rfl : s = [] := by simpa using hc1
  refine WC.seq ?_
  refine WC.region ?_
  refine WL.rd rfl rfl rfl (Rd.assign rfl rfl) ?_
  refine WL.rd rfl rfl rfl (Rd.assign rfl rfl) ?_
  refine WL.rd rfl rfl rfl (Rd.assign rfl rfl) ?_
  refine WL.nil ?_
  refine thenQ.normal ?_
  refine WC.ret (Ret.three Tryz.results61 rfl rfl rfl ?_)
  exact hk
 ·
  obtain ⟨b, r, rfl⟩ : ∃ b r, s = b :: r := by
   cases s with
   | nil => exact absurd rfl hc1
   | cons b r => exact ⟨b, r, rfl⟩
  have hb := UInt8.toNat_lt b
  refine WC.skip ?_
  refine thenQ.normal ?_
  refine WC.seq ?_
  refine WC.region ?_
  refine WL.rd rfl rfl rfl (Rd.move rfl rfl) ?_
  refine WL.rd rfl rfl rfl (Rd.sidx (k := 0) rfl Tryz.underlying9 rfl rfl rfl rfl) ?_
  refine WL.rd rfl rfl rfl (Rd.bnot rfl rfl rfl (UInt8.toNat_lt b)) ?_
  refine WL.op rfl ?_
  refine OpW.call rfl rfl Z.E Z.K rfl rfl rfl ?_
  refine lead_spec ?_
  refine WL.rd rfl rfl rfl (Rd.assign rfl rfl) ?_
  refine WL.nil ?_
  refine thenQ.normal ?_
  refine WC.seq ?_
  refine WC.block ?_
  refine WC.seq ?_
  refine WC.region ?_
  refine WL.rd rfl rfl rfl (Rd.move rfl rfl) ?_
  refine WL.rd rfl rfl rfl (Rd.gtr rfl rfl rfl) ?_
  refine WL.rd rfl rfl rfl (Rd.assign rfl rfl) ?_
  refine WL.nil ?_
  refine thenQ.normal ?_
  refine WC.ite rfl (fun hc2 => ?_) (fun hc2 => ?_)
  ·
   refine WC.seq ?_
   refine WC.region ?_
   refine WL.rd rfl rfl rfl (Rd.assign rfl rfl) ?_
   refine WL.rd rfl rfl rfl (Rd.assign rfl rfl) ?_
   refine WL.rd rfl rfl rfl (Rd.assign rfl rfl) ?_
   refine WL.nil ?_
   refine thenQ.normal ?_
   refine WC.ret (Ret.three Tryz.results61 rfl rfl rfl ?_)
   have e : getE (b :: r) = (0, 0, 2) := by rw [getE, if_pos Z.W]
   rw [e] at hk; exact hk
  ·
   refine WC.seq ?_
   refine WC.region ?_
   refine WL.rd rfl rfl rfl (Rd.move rfl rfl) ?_
   refine WL.rd rfl rfl rfl (Rd.slen (ts := #[]) (ty := 0) rfl rfl Tryz.underlying9) ?_
   refine WL.rd rfl rfl rfl (Rd.move rfl rfl) ?_
   refine WL.rd rfl rfl rfl (Rd.leq rfl rfl rfl) ?_
   refine WL.rd rfl rfl rfl (Rd.assign rfl rfl) ?_
   refine WL.nil ?_
   refine thenQ.normal ?_
   refine WC.ite rfl (fun hc3 => ?_) (fun hc3 => ?_)
   ·
    refine WC.seq ?_
    refine WC.region ?_
    refine WL.rd rfl rfl rfl (Rd.assign rfl rfl) ?_
    refine WL.rd rfl rfl rfl (Rd.assign rfl rfl) ?_
    refine WL.rd rfl rfl rfl (Rd.assign rfl rfl) ?_
    refine WL.nil ?_
    refine thenQ.normal ?_
    refine WC.ret (Ret.three Tryz.results61 rfl rfl rfl ?_)
    have e : getE (b :: r) = (0, 0, 3) := by rw [getE, if_neg Z.W, if_pos (by simp at hc3; omega)]
    rw [e] at hk; exact hk
   ·
    have h5 : lead b ≤ 5 := by omega
    have hr : lead b ≤ r.length := by simp at hc3; omega
    obtain ⟨ha1, ha2, ha3⟩ := and_lead h5
    refine WC.skip ?_
    refine blockQ.normal ?_
    refine thenQ.normal ?_
    refine WC.seq ?_
    refine WC.still mixed Z.K ?_
    refine WA.rd rfl rfl rfl (Rd.move rfl rfl) ?_
    refine WA.rd rfl rfl rfl (Rd.sidx (k := 0) rfl Tryz.underlying9 rfl rfl rfl rfl) ?_
    refine WA.rd rfl rfl rfl (Rd.move rfl rfl) ?_
    refine WA.rd rfl rfl rfl (Rd.shrN (a := 255) (n := lead b) rfl rfl rfl rfl rfl (by show lead b ≤ 8; omega)) ?_
    refine WA.rd rfl rfl rfl (Rd.andU rfl rfl rfl rfl rfl rfl (UInt8.toNat_lt b) (Nat.lt_of_le_of_lt (Nat.div_le_self _ _) (by decide))) ?_
    refine WA.say 26 (u := .int .u8 ((b.toNat - mask (lead b) : Nat) : Int)) rfl (by rw [ha1]) ?_
    refine WA.rd rfl rfl rfl (Rd.conv rfl rfl Tryz.underlying3 (wrap_natS (k := .i64) (Nat.lt_of_lt_of_le ha3 (by decide))) (hS := Tryz.underlying5)) ?_
    refine WA.rd rfl rfl rfl (Rd.assign rfl rfl) ?_
    refine WA.nil ?_
    refine thenQ.normal ?_
    refine WC.seq ?_
    refine WC.seq ?_
    refine WC.region ?_
    refine WL.rd rfl rfl rfl (Rd.assign rfl rfl) ?_
    refine WL.nil ?_
    refine thenQ.normal ?_
    refine WC.block ?_
    refine WC.pick [7, 6, 0, 5] Z.P ?_
    refine WC.loop1o 2 (fun (i : Nat) => [(7, .int .i64 ((i : Int) + 1)), (6, .int .i64 ((num (b.toNat - mask (lead b)) (r.take i) : Nat) : Int))]) (fun (i : Nat) => i ≤ lead b) (fun (i : Nat) => lead b - i) (0) Z.L ?hinv1 (by repeat (first | exact Sub.nil | refine Sub.cons rfl (by rfl) ?_)) (fun _ h => h) ?_
    case hinv1 =>
     exact Nat.zero_le _
    intro i
    rintro h1
    refine WC.seq ?_
    refine WC.seq ?_
    refine WC.region ?_
    refine WL.rd rfl rfl rfl (Rd.move rfl rfl) ?_
    refine WL.rd rfl rfl rfl (Rd.move rfl rfl) ?_
    refine WL.rd rfl rfl rfl (Rd.leq rfl rfl rfl) ?_
    refine WL.nil ?_
    refine thenQ.normal ?_
    refine WC.ite rfl (fun hc4 => ?_) (fun hc4 => ?_)
    ·
     have hsm := num_small (r := r) (i := i) ha3 Z.W; have hc := UInt8.toNat_lt r[i]!
     refine WC.skip ?_
     refine thenQ.normal ?_
     refine WC.seq ?_
     refine WC.block ?_
     refine WC.region ?_
     refine WL.rd rfl rfl rfl (Rd.move rfl rfl) ?_
     refine WL.rd rfl rfl rfl (Rd.shlS (n := 8) rfl rfl rfl rfl rfl (by decide) Z.W) ?_
     refine WL.rd rfl rfl rfl (Rd.move rfl rfl) ?_
     refine WL.rd rfl rfl rfl (Rd.move rfl rfl) ?_
     refine WL.rd rfl rfl rfl (Rd.sidx (k := i + 1) (b := r[i]!) rfl Tryz.underlying9 rfl rfl Z.W (by rw [List.getElem?_cons_succ]; exact get!_of_lt Z.W)) ?_
     refine WL.rd rfl rfl rfl (Rd.conv rfl rfl Tryz.underlying3 (wrap_natS (k := .i64) (Nat.lt_of_lt_of_le hc (by decide))) (hS := Tryz.underlying5)) ?_
     refine WL.rd rfl rfl rfl (Rd.orS rfl rfl rfl rfl rfl (show _ < 9223372036854775808 by omega) (show _ < 9223372036854775808 by omega)) ?_
     refine WL.say 39 (u := .int .i64 ((num (b.toNat - mask (lead b)) (r.take (i + 1)) : Nat) : Int)) rfl (by rw [num_snoc (get!_of_lt (xs := r) Z.W), num_or]) ?_
     refine WL.rd rfl rfl rfl (Rd.assign rfl rfl) ?_
     refine WL.nil ?_
     refine blockQ.normal ?_
     refine thenQ.normal ?_
     refine WC.region ?_
     refine WL.rd rfl rfl rfl (Rd.move rfl rfl) ?_
     refine WL.rd rfl rfl rfl (Rd.add rfl rfl rfl Z.W) ?_
     refine WL.rd rfl rfl rfl (Rd.assign rfl rfl) ?_
     refine WL.nil ?_
     exact loopQ1.mk (i + 1) Z.W Z.W (by repeat (first | exact Sub.nil | refine Sub.cons rfl (by rfl) ?_)) Z.F
    ·
     obtain rfl : i = lead b := by omega
     have hsm := num_small (r := r) (i := lead b) ha3 h5
     refine WC.exit ?_
     refine thenQ.exit ?_
     refine loopQ1.exit ?_
     refine blockQ.exit ?_
     refine thenQ.normal ?_
     refine WC.seq ?_
     refine WC.pick [5, 6] Z.P ?_
     refine WC.val 47 (.bool (decide (1099511627776 < num (b.toNat - mask (lead b)) (r.take (lead b)) ∨ more (num (b.toNat - mask (lead b)) (r.take (lead b))) ≠ lead b))) ?_ ?_
     ·
      refine WC.region ?_
      refine WL.rd rfl rfl rfl (Rd.move rfl rfl) ?_
      refine WL.rd rfl rfl rfl (Rd.gtr rfl rfl rfl) ?_
      refine WL.rd rfl rfl rfl (Rd.move rfl rfl) ?_
      refine WL.case 42 rfl (fun hg42 => ?_) (fun hg42 => ?_)
      ·
       refine WL.no rfl rfl rfl rfl rfl rfl ?_
       refine WL.no rfl rfl rfl rfl rfl rfl ?_
       refine WL.no rfl rfl rfl rfl rfl rfl ?_
       refine WL.no rfl rfl rfl rfl rfl rfl ?_
       refine WL.rd rfl rfl rfl (Rd.pick_t rfl rfl rfl) ?_
       refine WL.nil ?_
       exact ⟨by repeat (first | exact Sub.nil | refine Sub.cons rfl (by first | rfl | (exact vb_t (.inl Z.W))) ?_), by exact (fun _ h => h.thin (SubL.mem Z.S))⟩
      ·
       refine WL.rd_yes rfl rfl rfl rfl rfl rfl (Rd.move rfl rfl) ?_
       refine WL.op_yes rfl rfl rfl rfl ?_
       refine OpW.call rfl rfl Z.E Z.K rfl rfl rfl ?_
       refine behind_spec Z.W ?_
       refine WL.rd_yes rfl rfl rfl rfl rfl rfl (Rd.move rfl rfl) ?_
       refine WL.rd_yes rfl rfl rfl rfl rfl rfl (Rd.neq rfl rfl rfl) ?_
       refine WL.rd rfl rfl rfl (Rd.pick_f rfl rfl rfl) ?_
       refine WL.nil ?_
       exact ⟨by repeat (first | exact Sub.nil | refine Sub.cons rfl (by first | rfl | (exact vb ⟨fun h => .inr Z.W, fun h => by omega⟩)) ?_), by exact (fun _ h => h.thin (SubL.mem Z.S))⟩
     ·
      refine WC.ite rfl (fun hc5 => ?_) (fun hc5 => ?_)
      ·
       refine WC.seq ?_
       refine WC.region ?_
       refine WL.rd rfl rfl rfl (Rd.assign rfl rfl) ?_
       refine WL.rd rfl rfl rfl (Rd.assign rfl rfl) ?_
       refine WL.rd rfl rfl rfl (Rd.assign rfl rfl) ?_
       refine WL.nil ?_
       refine thenQ.normal ?_
       refine WC.ret (Ret.three Tryz.results61 rfl rfl rfl ?_)
       have e : getE (b :: r) = (0, 0, 2) := by rw [getE, if_neg Z.W, if_neg Z.W, if_pos hc5]
       rw [e] at hk; exact hk
      ·
       refine WC.skip ?_
       refine thenQ.normal ?_
       refine WC.seq ?_
       refine WC.region ?_
       refine WL.rd rfl rfl rfl (Rd.move rfl rfl) ?_
       refine WL.rd rfl rfl rfl (Rd.move rfl rfl) ?_
       refine WL.rd rfl rfl rfl (Rd.add rfl rfl rfl Z.W) ?_
       refine WL.rd rfl rfl rfl (Rd.assign rfl rfl) ?_
       refine WL.rd rfl rfl rfl (Rd.assign rfl rfl) ?_
       refine WL.rd rfl rfl rfl (Rd.assign rfl rfl) ?_
       refine WL.nil ?_
       refine thenQ.normal ?_
       refine WC.ret (Ret.three Tryz.results61 rfl rfl rfl ?_)
       have e : getE (b :: r) = (((num (b.toNat - mask (lead b)) (r.take (lead b)) : Nat) : Int), (lead b : Int) + 1, (0 : Int)) := by rw [getE, if_neg Z.W, if_neg Z.W, if_neg hc5]
       rw [e] at hk; exact hk
/-- Texts joined. -/
def joinE (l : List (List UInt8)) : List UInt8 := l.flatMap fun s => putI s.length ++ s
theorem joinE_snoc {l : List (List UInt8)} {i : Nat} (h : i < l.length) : joinE (l.take (i + 1)) = (joinE (l.take i) ++ putI (l[i]!.length : Nat)) ++ l[i]! := by
 rw [List.take_add_one, get!_of_lt h, joinE, joinE, List.flatMap_append, List.append_assoc]
 simp
theorem joinE_take_le (l : List (List UInt8)) (i : Nat) : (joinE (l.take i)).length ≤ (joinE l).length := by
 have h : joinE l = joinE (l.take i) ++ joinE (l.drop i) := by
  rw [joinE, joinE, joinE, ← List.flatMap_append, List.take_append_drop]
 rw [h, List.length_append]; omega
set_option maxRecDepth 20000 in
set_option maxHeartbeats 1000000 in
theorem join_spec {R : List RO} {O : List Own} {POST : Value → List RO → List Own → Prop} {l : List (List UInt8)} {lv : Value} (hl : SlE (SL.one vs) lv l ∈ R) (hj : (joinE l).length ≤ 140737488355328) (hk : POST (vs (joinE l)) R O) : Fun Tryz.prog 12 #[lv] R O POST := by
 refine Fun.len hl fun hll => ?_
 refine Fun.enter (l := [_]) Tryz.func12 rfl Tryz.ntmps12 rfl (L0 := [(0, _)]) rfl ?_
 refine WC.seq ?_
 refine WC.region ?_
 refine WL.rd rfl rfl rfl (Rd.assign rfl rfl) ?_
 refine WL.nil ?_
 refine thenQ.normal ?_
 refine WC.seq ?_
 refine WC.region ?_
 refine WL.op rfl ?_
 refine OpW.alloc rfl I72 rfl Z.N rfl rfl ?_; intro b3
 refine WL.nil ?_
 refine thenQ.normal ?_
 refine WC.seq ?_
 refine WC.seq ?_
 refine WC.heap (fun w h => (h.accNil (α := UInt8) (e := 5) (size := 1) (enc := SL.one vy)).swap) ?_
 refine WC.region ?_
 refine WL.rd rfl rfl rfl (Rd.move rfl rfl) ?_
 refine WL.rd rfl rfl rfl ((by exact Rd.lenE rfl rfl Tryz.underlying22 Z.M)) ?_
 refine WL.rd rfl rfl rfl (Rd.move rfl rfl) ?_
 refine WL.nil ?_
 refine thenQ.normal ?_
 refine WC.block ?_
 refine WC.pick [8, 3, 6, 7] Z.P ?_
 refine WC.loop3 1 (fun (i : Nat) (p : Value) (v : Value) => [(8, .int .i64 (i : Int))]) (fun (i : Nat) (p : Value) (v : Value) => rowC b3 72 [p, v] :: accC 5 1 (SL.one vy) v (joinE (l.take i)) :: O) (fun (i : Nat) (p : Value) (v : Value) => i ≤ l.length ∧ (p = .pointer none ∨ p = .pointer (some ⟨b3, 0, none⟩)) ∧ OneV v) (fun (i : Nat) (p : Value) (v : Value) => l.length - i) (0) (_) (_) Z.L ?hinv1 (by repeat (first | exact Sub.nil | refine Sub.cons rfl (by rfl) ?_)) (fun _ h => h) ?_
 case hinv1 =>
  exact ⟨Nat.zero_le _, .inl rfl, OneV.sl⟩
 intro i p v
 rintro ⟨h1, h2, h3⟩
 refine WC.seq ?_
 refine WC.region ?_
 refine WL.rd rfl rfl rfl (Rd.lss rfl rfl rfl) ?_
 refine WL.nil ?_
 refine thenQ.normal ?_
 refine WC.seq ?_
 refine WC.ite rfl (fun hc1 => ?_) (fun hc1 => ?_)
 ·
  have hjs := joinE_take_le l (i + 1)
  have hje := congrArg List.length (joinE_snoc (l := l) (i := i) Z.W)
  rw [List.length_append, List.length_append] at hje
  refine WC.skip ?_
  refine thenQ.normal ?_
  refine WC.seq ?_
  refine WC.block ?_
  refine WC.seq ?_
  refine WC.region ?_
  refine WL.rd rfl rfl rfl ((by exact Rd.idx1 (k := i) rfl S22 rfl rfl Z.W Z.M Z.W)) ?_
  refine WL.rd rfl rfl rfl ((by exact Rd.get rfl C9 rfl Z.M (by exact get!_of_lt Z.W))) ?_
  refine WL.rd rfl rfl rfl (Rd.assign rfl rfl) ?_
  refine WL.nil ?_
  refine thenQ.normal ?_
  refine WC.seq ?_
  refine WC.region ?_
  refine WL.rd rfl rfl rfl (Rd.move rfl rfl) ?_
  refine WL.rd rfl rfl rfl (Rd.slen (ts := #[]) (ty := 0) rfl rfl Tryz.underlying9) ?_
  refine WL.op rfl ?_
  refine OpW.call rfl rfl Z.E Z.K rfl rfl rfl ?_
  refine put_spec ?_
  refine WL.op rfl ?_
  refine OpW.call rfl rfl Z.E Z.K rfl rfl rfl ?_
  refine writeString_spec h2 Z.W ?_; intro v15 hv15
  refine WL.nil ?_
  refine thenQ.normal ?_
  refine WC.region ?_
  refine WL.rd rfl rfl rfl (Rd.move rfl rfl) ?_
  refine WL.op rfl ?_
  refine OpW.call rfl rfl Z.E Z.K rfl rfl rfl ?_
  refine writeString_spec (.inr rfl) (by rw [List.length_append]; omega) ?_; intro v17 hv17
  refine WL.nil ?_
  refine blockQ.normal ?_
  refine thenQ.normal ?_
  refine WC.region ?_
  refine WL.rd rfl rfl rfl (Rd.add rfl rfl rfl Z.W) ?_
  refine WL.rd rfl rfl rfl (Rd.move rfl rfl) ?_
  refine WL.nil ?_
  exact loopQ3.mk (i + 1) (.pointer (some ⟨b3, 0, none⟩)) v17 ⟨by omega, .inr rfl, hv17⟩ Z.W (by repeat (first | exact Sub.nil | refine Sub.cons rfl (by rfl) ?_)) (fun w h => by rw [joinE_snoc Z.W]; exact h)
 ·
  refine WC.exit ?_
  refine thenQ.exit ?_
  refine loopQ3.exit ?_
  refine blockQ.exit ?_
  refine thenQ.normal ?_
  refine WC.seq ?_
  have hi : l.take i = l := List.take_of_length_le Z.W
  rw [hi]
  refine WC.region ?_
  refine WL.op rfl ?_
  refine OpW.call rfl rfl Z.E Z.K rfl rfl rfl ?_
  refine builderString_spec h3 ?_
  refine WL.rd rfl rfl rfl (Rd.assign rfl rfl) ?_
  refine WL.nil ?_
  refine thenQ.normal ?_
  refine WC.ret (Ret.one Tryz.results12 rfl ?_)
  exact hk
end Go.Proofs.YtlbdpcadaojcbaaGreatDoor
namespace Go.Proofs.YtlbdpcadaojcbaaGreatDoor
open Go Go.SL
theorem getE_ok : ∀ {s : List UInt8}, (getE s).2.2 = 0 → ∃ n k : Nat, (getE s).1 = (n : Int) ∧ (getE s).2.1 = (k : Int) ∧ 1 ≤ k ∧ k ≤ s.length ∧ n ≤ 1099511627776
 | [], h => by simp [getE] at h
 | b :: r, h => by
   rw [getE] at h ⊢
   by_cases h1 : 5 < lead b
   · rw [if_pos h1] at h; simp at h
   · rw [if_neg h1] at h ⊢
     by_cases h2 : r.length < lead b
     · rw [if_pos h2] at h; simp at h
     · rw [if_neg h2] at h ⊢
       split at h
       · simp at h
       · next h3 =>
         rw [if_neg h3]
         exact ⟨_, lead b + 1, rfl, rfl, by omega, by rw [List.length_cons]; omega, by omega⟩
def nextE (s : List UInt8) : List UInt8 × Int × Int :=
 if (getE s).2.2 ≠ 0 then ([], 0, (getE s).2.2)
 else if 262144 < (getE s).1 then ([], 0, 6)
 else if (s.length : Int) - (getE s).2.1 < (getE s).1 then ([], 0, 3)
 else ((s.take ((getE s).2.1.toNat + (getE s).1.toNat)).drop (getE s).2.1.toNat, (getE s).2.1 + (getE s).1, 0)
set_option maxRecDepth 20000 in
theorem next_spec {R : List RO} {O : List Own} {POST : Value → List RO → List Own → Prop} {s : List UInt8} (hs : s.length ≤ 9223372036854775807)
 (hk : POST (.tuple #[vs (nextE s).1, .int .i64 (nextE s).2.1, .int .i64 (nextE s).2.2]) R O) : Fun Tryz.prog 40 #[vs s] R O POST := by
 refine Fun.enter (l := [_]) Tryz.func40 rfl Tryz.ntmps40 rfl (L0 := [(0, _)]) rfl ?_
 refine WC.seq ?_
 refine WC.region ?_
 refine WL.rd rfl rfl rfl (Rd.assign rfl rfl) ?_
 refine WL.rd rfl rfl rfl (Rd.assign rfl rfl) ?_
 refine WL.rd rfl rfl rfl (Rd.assign rfl rfl) ?_
 refine WL.nil ?_
 refine thenQ.normal ?_
 refine WC.seq ?_
 refine WC.region ?_
 refine WL.rd rfl rfl rfl (Rd.move rfl rfl) ?_
 refine WL.op rfl ?_
 refine OpW.call rfl rfl Z.E Z.K rfl rfl rfl ?_
 refine get_spec hs ?_
 refine WL.rd rfl rfl rfl (Rd.move rfl rfl) ?_
 refine WL.rd rfl rfl rfl (Rd.extract rfl rfl rfl) ?_
 refine WL.rd rfl rfl rfl (Rd.extract rfl rfl rfl) ?_
 refine WL.rd rfl rfl rfl (Rd.extract rfl rfl rfl) ?_
 refine WL.rd rfl rfl rfl (Rd.assign rfl rfl) ?_
 refine WL.rd rfl rfl rfl (Rd.assign rfl rfl) ?_
 refine WL.rd rfl rfl rfl (Rd.assign rfl rfl) ?_
 refine WL.nil ?_
 refine thenQ.normal ?_
 refine WC.seq ?_
 refine WC.block ?_
 refine WC.seq ?_
 refine WC.region ?_
 refine WL.rd rfl rfl rfl (Rd.move rfl rfl) ?_
 refine WL.rd rfl rfl rfl (Rd.neq rfl rfl rfl) ?_
 refine WL.rd rfl rfl rfl (Rd.assign rfl rfl) ?_
 refine WL.nil ?_
 refine thenQ.normal ?_
 refine WC.ite rfl (fun hc1 => ?_) (fun hc1 => ?_)
 ·
  refine WC.seq ?_
  refine WC.region ?_
  refine WL.rd rfl rfl rfl (Rd.move rfl rfl) ?_
  refine WL.rd rfl rfl rfl (Rd.assign rfl rfl) ?_
  refine WL.rd rfl rfl rfl (Rd.assign rfl rfl) ?_
  refine WL.rd rfl rfl rfl (Rd.assign rfl rfl) ?_
  refine WL.nil ?_
  refine thenQ.normal ?_
  refine WC.ret (Ret.three Tryz.results40 rfl rfl rfl ?_)
  rw [nextE, if_pos hc1] at hk; exact hk
 ·
  obtain ⟨n, k, hg1, hg2, hk1, hk2, hk3⟩ := getE_ok (s := s) (Decidable.not_not.1 hc1)
  rw [nextE, if_neg hc1] at hk
  rw [hg1, hg2] at hk ⊢
  refine WC.seq ?_
  refine WC.region ?_
  refine WL.rd rfl rfl rfl (Rd.move rfl rfl) ?_
  refine WL.rd rfl rfl rfl (Rd.gtr rfl rfl rfl) ?_
  refine WL.rd rfl rfl rfl (Rd.assign rfl rfl) ?_
  refine WL.nil ?_
  refine thenQ.normal ?_
  refine WC.ite rfl (fun hc2 => ?_) (fun hc2 => ?_)
  ·
   refine WC.seq ?_
   refine WC.region ?_
   refine WL.rd rfl rfl rfl (Rd.assign rfl rfl) ?_
   refine WL.rd rfl rfl rfl (Rd.assign rfl rfl) ?_
   refine WL.rd rfl rfl rfl (Rd.assign rfl rfl) ?_
   refine WL.nil ?_
   refine thenQ.normal ?_
   refine WC.ret (Ret.three Tryz.results40 rfl rfl rfl ?_)
   rw [if_pos Z.W] at hk; exact hk
  ·
   refine WC.seq ?_
   refine WC.region ?_
   refine WL.rd rfl rfl rfl (Rd.move rfl rfl) ?_
   refine WL.rd rfl rfl rfl (Rd.move rfl rfl) ?_
   refine WL.rd rfl rfl rfl (Rd.slen (ts := #[]) (ty := 0) rfl rfl Tryz.underlying9) ?_
   refine WL.rd rfl rfl rfl (Rd.move rfl rfl) ?_
   refine WL.rd rfl rfl rfl (Rd.sub rfl rfl rfl Z.W) ?_
   refine WL.rd rfl rfl rfl (Rd.gtr rfl rfl rfl) ?_
   refine WL.rd rfl rfl rfl (Rd.assign rfl rfl) ?_
   refine WL.nil ?_
   refine thenQ.normal ?_
   refine WC.ite rfl (fun hc3 => ?_) (fun hc3 => ?_)
   ·
    refine WC.seq ?_
    refine WC.region ?_
    refine WL.rd rfl rfl rfl (Rd.assign rfl rfl) ?_
    refine WL.rd rfl rfl rfl (Rd.assign rfl rfl) ?_
    refine WL.rd rfl rfl rfl (Rd.assign rfl rfl) ?_
    refine WL.nil ?_
    refine thenQ.normal ?_
    refine WC.ret (Ret.three Tryz.results40 rfl rfl rfl ?_)
    rw [if_neg Z.W, if_pos Z.W] at hk; exact hk
   ·
    refine WC.skip ?_
    refine blockQ.normal ?_
    refine thenQ.normal ?_
    refine WC.seq ?_
    refine WC.region ?_
    refine WL.rd rfl rfl rfl (Rd.move rfl rfl) ?_
    refine WL.rd rfl rfl rfl (Rd.move rfl rfl) ?_
    refine WL.rd rfl rfl rfl (Rd.move rfl rfl) ?_
    refine WL.rd rfl rfl rfl (Rd.move rfl rfl) ?_
    refine WL.rd rfl rfl rfl (Rd.add rfl rfl rfl Z.W) ?_
    refine WL.rd rfl rfl rfl (Rd.scut_lh (lo := k) (hi := k + n) rfl Tryz.underlying9 rfl rfl rfl Z.W Z.W Z.W Z.W) ?_
    refine WL.rd rfl rfl rfl (Rd.move rfl rfl) ?_
    refine WL.rd rfl rfl rfl (Rd.move rfl rfl) ?_
    refine WL.rd rfl rfl rfl (Rd.add rfl rfl rfl Z.W) ?_
    refine WL.rd rfl rfl rfl (Rd.assign rfl rfl) ?_
    refine WL.rd rfl rfl rfl (Rd.assign rfl rfl) ?_
    refine WL.rd rfl rfl rfl (Rd.assign rfl rfl) ?_
    refine WL.nil ?_
    refine thenQ.normal ?_
    refine WC.ret (Ret.three Tryz.results40 rfl rfl rfl ?_)
    rw [if_neg Z.W, if_neg Z.W] at hk; simpa using hk
end Go.Proofs.YtlbdpcadaojcbaaGreatDoor
namespace Go.Proofs.YtlbdpcadaojcbaaGreatDoor
open Go Go.SL
theorem num_beb (n : Nat) : ∀ k, num (n / 256 ^ k) (beb k n) = n
 | 0 => by simp [num, beb]
 | k + 1 => by
   have h := num_beb n k
   have e : num (n / 256 ^ (k + 1)) (beb (k + 1) n) = num (256 * (n / 256 ^ (k + 1)) + (UInt8.ofNat (n / 256 ^ k % 256)).toNat) (beb k n) := rfl
   rw [e, u8_toNat (Nat.mod_lt _ (by decide)), Nat.pow_succ, ← Nat.div_div_eq_div_mul, Nat.div_add_mod, h]
theorem lead_all : ∀ k, k ≤ 5 → ∀ x, x < 2 ^ (7 - k) → 8 - blen (255 - (x + mask k)) = k := by decide +kernel
/-- What is read off the bytes of a number, whatever stands behind them. -/
theorem getE_put {n : Nat} (hn : n ≤ 1099511627776) (t : List UInt8) : getE (putE n ++ t) = ((n : Int), (more n : Int) + 1, 0) := by
 have h5 := more_le hn
 have hh := head_lt hn
 have hms := mask_sum _ h5
 have hb : (UInt8.ofNat (n / 256 ^ more n + mask (more n))).toNat = n / 256 ^ more n + mask (more n) := u8_toNat Z.W
 have hl : lead (UInt8.ofNat (n / 256 ^ more n + mask (more n))) = more n := by rw [lead, hb]; exact lead_all _ h5 _ hh
 have htk : (beb (more n) n ++ t).take (more n) = beb (more n) n := by
  rw [List.take_append_of_le_length (by rw [beb_length]; exact Nat.le_refl _), List.take_of_length_le (by rw [beb_length]; exact Nat.le_refl _)]
 have hnum : num ((UInt8.ofNat (n / 256 ^ more n + mask (more n))).toNat - mask (more n)) ((beb (more n) n ++ t).take (more n)) = n := by
  rw [hb, htk, Nat.add_sub_cancel, num_beb]
 rw [putE, List.cons_append, getE, hl, if_neg Z.W, if_neg (by rw [List.length_append, beb_length]; omega), hnum, if_neg Z.W]
theorem less_same (c : UInt8) (x y : List UInt8) : Op.bytesLess (c :: x) (c :: y) = Op.bytesLess x y := by simp [Op.bytesLess]
theorem putI_nat {a : Nat} (ha : a ≤ 1099511627776) : putI (a : Int) = putE a := by
 rw [putI, if_neg Z.W, Int.toNat_natCast]
theorem putE_short {n : Nat} (hn : n ≤ 1099511627776) : (putE n).length ≤ 6 := by
 have := more_le hn
 rw [putE_length]; omega
end Go.Proofs.YtlbdpcadaojcbaaGreatDoor
namespace Go.Proofs.YtlbdpcadaojcbaaGreatDoor
open Go Go.SL
theorem beb_num : ∀ (r : List UInt8) (h : Nat), beb r.length (num h r) = r ∧ num h r / 256 ^ r.length = h
 | [], h => by simp [beb, num]
 | c :: r, h => by
   obtain ⟨h1, h2⟩ := beb_num r (256 * h + c.toNat)
   have hc := UInt8.toNat_lt c
   have e : num h (c :: r) = num (256 * h + c.toNat) r := rfl
   rw [e, List.length_cons]
   refine ⟨?_, ?_⟩
   · rw [beb, h1, h2]
     congr 1
     apply UInt8.toNat_inj.1
     rw [u8_toNat (Nat.mod_lt _ (by decide))]; omega
   · rw [Nat.pow_succ, ← Nat.div_div_eq_div_mul, h2]; omega
/-- What is read is what was written. -/
theorem getE_can : ∀ {s : List UInt8}, (getE s).2.2 = 0 → ∃ n : Nat, n ≤ 1099511627776 ∧ (getE s).1 = (n : Int) ∧ (getE s).2.1 = (more n : Int) + 1 ∧ s = putE n ++ s.drop (more n + 1)
 | [], h => by simp [getE] at h
 | b :: r, h => by
   rw [getE] at h ⊢
   by_cases h1 : 5 < lead b
   · rw [if_pos h1] at h; simp at h
   · rw [if_neg h1] at h ⊢
     by_cases h2 : r.length < lead b
     · rw [if_pos h2] at h; simp at h
     · rw [if_neg h2] at h ⊢
       split at h
       · simp at h
       · next h3 =>
         rw [if_neg h3]
         obtain ⟨ha1, ha2, ha3⟩ := and_lead (b := b) Z.W
         obtain ⟨e1, e2⟩ := beb_num (r.take (lead b)) (b.toNat - mask (lead b))
         rw [List.length_take, Nat.min_eq_left Z.W] at e1 e2
         have hm : more (num (b.toNat - mask (lead b)) (r.take (lead b))) = lead b := by omega
         refine ⟨_, by omega, rfl, by rw [hm], ?_⟩
         rw [putE, hm, e1, e2, Nat.sub_add_cancel ha2, List.drop_succ_cons, List.cons_append, List.take_append_drop]
         congr 1
         apply UInt8.toNat_inj.1
         rw [u8_toNat (UInt8.toNat_lt b)]
theorem nextE_ok {s : List UInt8} (h : (nextE s).2.2 = 0) : ∃ rest, s = putE (nextE s).1.length ++ ((nextE s).1 ++ rest) ∧ (nextE s).1.length ≤ 262144 ∧ (nextE s).2.1 = ((putE (nextE s).1.length).length + (nextE s).1.length : Nat) ∧ s.drop (nextE s).2.1.toNat = rest := by
 by_cases h1 : (getE s).2.2 ≠ 0
 · rw [nextE, if_pos h1] at h; exact absurd h h1
 · obtain ⟨n, hn, g1, g2, hs⟩ := getE_can (Decidable.not_not.1 h1)
   have hl := congrArg List.length hs
   rw [List.length_append, putE_length] at hl
   have hle : (s.drop (more n + 1)).length = s.length - (more n + 1) := List.length_drop
   rw [nextE, if_neg h1, g1, g2] at h ⊢
   by_cases h2 : (262144 : Int) < n
   · rw [if_pos h2] at h; simp at h
   · rw [if_neg h2] at h ⊢
     by_cases h3 : (s.length : Int) - ((more n : Int) + 1) < n
     · rw [if_pos h3] at h; simp at h
     · rw [if_neg h3]
       have e1 : ((more n : Int) + 1).toNat = more n + 1 := by omega
       simp only [e1, Int.toNat_natCast]
       have e2 : (s.take (more n + 1 + n)).drop (more n + 1) = (s.drop (more n + 1)).take n := by rw [List.drop_take]; congr 1; omega
       have e3 : ((s.take (more n + 1 + n)).drop (more n + 1)).length = n := by rw [e2, List.length_take, List.length_drop]; omega
       rw [e3, e2]
       refine ⟨(s.drop (more n + 1)).drop n, ?_, by omega, by rw [putE_length]; omega, ?_⟩
       · rw [List.take_append_drop]; exact hs
       · rw [List.drop_drop]; congr 1
theorem nextE_put {t : List UInt8} (ht : t.length ≤ 262144) (rest : List UInt8) : nextE (putE t.length ++ (t ++ rest)) = (t, (((putE t.length).length + t.length : Nat) : Int), 0) := by
 have hg := getE_put (n := t.length) Z.W (t ++ rest)
 have e1 : ((more t.length : Int) + 1).toNat = (putE t.length).length := by rw [putE_length]; omega
 rw [nextE, hg]
 simp only [ne_eq, not_true_eq_false, if_false]
 rw [if_neg Z.W, if_neg (by rw [List.length_append, List.length_append, putE_length]; omega), e1, Int.toNat_natCast]
 refine Prod.ext ?_ (Prod.ext ?_ rfl)
 · show ((putE t.length ++ (t ++ rest)).take ((putE t.length).length + t.length)).drop (putE t.length).length = t
   rw [List.take_length_add_append, List.drop_left, List.take_left]
 · show (more t.length : Int) + 1 + (t.length : Int) = (((putE t.length).length + t.length : Nat) : Int)
   rw [putE_length]; omega
def Stuck (r : List UInt8) : Prop := r = [] ∨ (nextE r).2.2 ≠ 0
def Small (l : List (List UInt8)) : Prop := ∀ t ∈ l, t.length ≤ 262144
theorem putI_len {t : List UInt8} (ht : t.length ≤ 262144) : putI (t.length : Int) = putE t.length := putI_nat Z.W
theorem joinE_cons (t : List UInt8) (l : List (List UInt8)) : joinE (t :: l) = putI t.length ++ t ++ joinE l := by simp [joinE]
theorem putE_ne (n : Nat) (r : List UInt8) : putE n ++ r ≠ [] := by simp [putE]
theorem join_uniq : ∀ {l l' : List (List UInt8)} {p r : List UInt8}, Small l → Small l' → Stuck p → Stuck r → joinE l ++ p = joinE l' ++ r → l = l' ∧ p = r
 | [], [], p, r, _, _, _, _, h => ⟨rfl, by simpa [joinE] using h⟩
 | t :: l, [], p, r, hl, _, _, hr, h => by
   have ht := hl t (by simp)
   have e : joinE ([] : List (List UInt8)) ++ r = r := rfl
   rw [e, joinE_cons, putI_len ht, List.append_assoc, List.append_assoc] at h
   subst h
   rcases hr with h1 | h1
   · exact absurd h1 (putE_ne _ _)
   · rw [nextE_put ht] at h1; exact absurd rfl h1
 | [], t :: l, p, r, _, hl, hp, _, h => by
   have ht := hl t (by simp)
   have e : joinE ([] : List (List UInt8)) ++ p = p := rfl
   rw [e, joinE_cons, putI_len ht, List.append_assoc, List.append_assoc] at h
   subst h
   rcases hp with h1 | h1
   · exact absurd h1 (putE_ne _ _)
   · rw [nextE_put ht] at h1; exact absurd rfl h1
 | t :: l, u :: m, p, r, hl, hm, hp, hr, h => by
   have ht := hl t (by simp)
   have hu := hm u (by simp)
   rw [joinE_cons, joinE_cons, putI_len ht, putI_len hu, List.append_assoc, List.append_assoc, List.append_assoc, List.append_assoc] at h
   have h1 := nextE_put ht (joinE l ++ p)
   rw [h, nextE_put hu] at h1
   obtain rfl : u = t := congrArg Prod.fst h1
   have h2 := List.append_cancel_left (List.append_cancel_left h)
   obtain ⟨rfl, rfl⟩ := join_uniq (fun x hx => hl x (by simp [hx])) (fun x hx => hm x (by simp [hx])) hp hr h2
   exact ⟨rfl, rfl⟩
inductive Parts (s : List UInt8) : List (List UInt8) → List UInt8 → Prop
 | nil : Parts s [] s
 | snoc {l : List (List UInt8)} {r : List UInt8} (h : Parts s l r) (ho : (nextE r).2.2 = 0) : Parts s (l ++ [(nextE r).1]) (r.drop (nextE r).2.1.toNat)
theorem Parts.join {s : List UInt8} {l : List (List UInt8)} {r : List UInt8} (h : Parts s l r) : s = joinE l ++ r ∧ Small l ∧ l.length + r.length ≤ s.length := by
 induction h with
 | nil => exact ⟨rfl, fun t ht => by simp at ht, by simp⟩
 | @snoc l r h ho ih =>
   obtain ⟨e, hs, hn⟩ := ih
   obtain ⟨rest, h1, h2, h3, h4⟩ := nextE_ok ho
   rw [h4]
   refine ⟨?_, ?_, ?_⟩
   · rw [e, joinE, joinE, List.flatMap_append, List.append_assoc]
     congr 1
     rw [List.flatMap_cons, List.flatMap_nil, putI_len h2, List.append_nil, List.append_assoc]
     exact h1
   · intro t ht
     rcases List.mem_append.1 ht with ht | ht
     · exact hs t ht
     · simp only [List.mem_singleton] at ht; subst ht; exact h2
   · have := congrArg List.length h1
     rw [List.length_append, List.length_append, putE_length] at this
     simp only [List.length_append, List.length_cons, List.length_nil]; omega
set_option maxRecDepth 20000 in
set_option maxHeartbeats 1000000 in
theorem split_spec {R : List RO} {O : List Own} {POST : Value → List RO → List Own → Prop} {s : List UInt8} (hs : s.length ≤ 8000000000000)
 (hk : ∀ v e out l r, Parts s l r → (e = 0 ∧ r = [] ∧ out = l ∨ e = (nextE r).2.2 ∧ e ≠ 0 ∧ r ≠ [] ∧ out = []) → POST (.tuple #[v, .int .i64 e]) (SlE (SL.one vs) v out :: R) O) : Fun Tryz.prog 14 #[vs s] R O POST := by
 refine Fun.enter (l := [_]) Tryz.func14 rfl Tryz.ntmps14 rfl (L0 := [(0, _)]) rfl ?_
 refine WC.seq ?_
 refine WC.region ?_
 refine WL.rd rfl rfl rfl (Rd.assign rfl rfl) ?_
 refine WL.rd rfl rfl rfl (Rd.assign rfl rfl) ?_
 refine WL.nil ?_
 refine thenQ.normal ?_
 refine WC.seq ?_
 refine WC.region ?_
 refine WL.rd rfl rfl rfl (Rd.assign rfl rfl) ?_
 refine WL.nil ?_
 refine thenQ.normal ?_
 refine WC.seq ?_
 refine WC.block ?_
 refine WC.pick [4, 0] Z.P ?_
 refine WC.loop3 2 (fun (r : List UInt8) (l : List (List UInt8)) (v : Value) => [(4, v), (0, vs r)]) (fun (r : List UInt8) (l : List (List UInt8)) (v : Value) => accC 9 1 (SL.one vs) v l :: O) (fun (r : List UInt8) (l : List (List UInt8)) (v : Value) => Parts s l r ∧ OneV v) (fun (r : List UInt8) (l : List (List UInt8)) (v : Value) => r.length) (s) ([]) (.slice none 0 0) Z.L ?hinv1 (by repeat (first | exact Sub.nil | refine Sub.cons rfl (by rfl) ?_)) (fun w h => h.accNil (α := List UInt8) (e := 9) (size := 1) (enc := SL.one vs)) ?_
 case hinv1 =>
  exact ⟨.nil, OneV.sl⟩
 intro r l v
 rintro ⟨h1, h2⟩
 obtain ⟨hj, hsm, hln⟩ := h1.join
 refine WC.seq ?_
 refine WC.seq ?_
 refine WC.region ?_
 refine WL.rd rfl rfl rfl (Rd.move rfl rfl) ?_
 refine WL.rd rfl rfl rfl (Rd.sneq rfl rfl rfl) ?_
 refine WL.nil ?_
 refine thenQ.normal ?_
 refine WC.ite rfl (fun hc1 => ?_) (fun hc1 => ?_)
 ·
  refine WC.skip ?_
  refine thenQ.normal ?_
  refine WC.block ?_
  refine WC.seq ?_
  refine WC.region ?_
  refine WL.rd rfl rfl rfl (Rd.move rfl rfl) ?_
  refine WL.op rfl ?_
  refine OpW.call rfl rfl Z.E Z.K rfl rfl rfl ?_
  refine next_spec Z.W ?_
  refine WL.rd rfl rfl rfl (Rd.move rfl rfl) ?_
  refine WL.rd rfl rfl rfl (Rd.extract rfl rfl rfl) ?_
  refine WL.rd rfl rfl rfl (Rd.extract rfl rfl rfl) ?_
  refine WL.rd rfl rfl rfl (Rd.extract rfl rfl rfl) ?_
  refine WL.rd rfl rfl rfl (Rd.assign rfl rfl) ?_
  refine WL.rd rfl rfl rfl (Rd.assign rfl rfl) ?_
  refine WL.rd rfl rfl rfl (Rd.assign rfl rfl) ?_
  refine WL.nil ?_
  refine thenQ.normal ?_
  refine WC.seq ?_
  refine WC.seq ?_
  refine WC.region ?_
  refine WL.rd rfl rfl rfl (Rd.move rfl rfl) ?_
  refine WL.rd rfl rfl rfl (Rd.neq rfl rfl rfl) ?_
  refine WL.nil ?_
  refine thenQ.normal ?_
  refine WC.ite rfl (fun hc2 => ?_) (fun hc2 => ?_)
  ·
   refine WC.seq ?_
   refine WC.region ?_
   refine WL.rd rfl rfl rfl (Rd.move rfl rfl) ?_
   refine WL.rd rfl rfl rfl (Rd.assign rfl rfl) ?_
   refine WL.rd rfl rfl rfl (Rd.assign rfl rfl) ?_
   refine WL.nil ?_
   refine thenQ.normal ?_
   refine WC.heap (R' := SlE (SL.one vs) (.slice none 0 0) ([] : List (List UInt8)) :: R) (O' := O) (fun w h => (Sat.nilE h).drop) ?_
   refine WC.ret (Ret.two Tryz.results14 rfl rfl ?_)
   exact hk _ _ _ l r h1 (.inr ⟨rfl, hc2, hc1, rfl⟩)
  ·
   obtain ⟨rest, e1, e2, e3, e4⟩ := nextE_ok (s := r) (Decidable.not_not.1 hc2)
   have e5 := congrArg List.length e1
   rw [List.length_append, List.length_append, putE_length] at e5
   refine WC.skip ?_
   refine thenQ.normal ?_
   refine WC.drawn (O) 9 rfl mixed ?_
   refine WD.take 0 rfl Z.K Z.H rfl rfl rfl (Rd.move rfl rfl) ?_
   refine WD.take 1 rfl Z.K Z.H rfl rfl rfl (Rd.move rfl rfl) ?_
   refine WD.take 4 rfl Z.K Z.H rfl rfl rfl (Rd.move rfl rfl) ?_
   refine WD.take 5 rfl Z.K Z.H rfl rfl rfl (Rd.move rfl rfl) ?_
   refine WD.take 6 rfl Z.K Z.H rfl rfl rfl (Rd.scut_l (lo := (nextE r).2.1.toNat) rfl Tryz.underlying9 rfl rfl Z.W (by rw [e3, putE_length]; omega)) ?_
   refine WD.one 2 rfl Z.K rfl ?_
   refine OpW.buildSl (ps := [(0, _)]) rfl S22 Z.E rfl rfl Z.C Z.K rfl rfl rfl ?_; intro b21
   refine ⟨Z.H, ?_⟩
   refine WD.one 3 rfl Z.K rfl ?_
   refine OpW.appendRow (enc := SL.one vs) rfl S22 rfl rfl Z.T Z.T [(nextE r).1] rfl (by rfl) rfl (by intro x; rfl) (by intro x; rfl) (by exact ⟨by simp only [maxLen, List.length_append, List.length_nil, List.length_cons, List.length_drop, List.length_take, List.length_map]; omega, by omega⟩) rfl rfl ?_; intro v22 hv22
   refine ⟨Z.H, ?_⟩
   refine WD.take 7 rfl Z.K Z.H rfl rfl rfl (Rd.assign rfl rfl) ?_
   refine WD.take 8 rfl Z.K Z.H rfl rfl rfl (Rd.assign rfl rfl) ?_
   refine WD.done Z.K ?_
   refine blockQ.normal ?_
   exact loopQ3.mk (r.drop (nextE r).2.1.toNat) (l ++ [(nextE r).1]) v22 ⟨h1.snoc (Decidable.not_not.1 hc2), hv22⟩ (by rw [e4]; omega) (by repeat (first | exact Sub.nil | refine Sub.cons rfl (by rfl) ?_)) Z.F
 ·
  refine WC.exit ?_
  refine thenQ.exit ?_
  refine loopQ3.exit ?_
  refine blockQ.exit ?_
  refine thenQ.normal ?_
  refine WC.seq ?_
  refine WC.region ?_
  refine WL.rd rfl rfl rfl (Rd.move rfl rfl) ?_
  refine WL.rd rfl rfl rfl (Rd.assign rfl rfl) ?_
  refine WL.rd rfl rfl rfl (Rd.assign rfl rfl) ?_
  refine WL.nil ?_
  refine thenQ.normal ?_
  refine WC.heap (fun w h => h.shareA Z.T) ?_
  refine WC.ret (Ret.two Tryz.results14 rfl rfl ?_)
  obtain rfl : r = [] := Decidable.not_not.1 hc1
  exact hk _ _ _ l [] h1 (.inl ⟨rfl, rfl, rfl⟩)
end Go.Proofs.YtlbdpcadaojcbaaGreatDoor
namespace Go.SL
open Go
section maps
variable {κ β : Type} [DecidableEq κ] {P : Program} {n : Sz} {o : Oper} {L : Env} {R : List RO} {O O' : List Own} {K : Env → List RO → List Own → Prop} {t t' kt et : TypeId} {z : Value} {x y : Operand} {kenc : κ → Value} {venc : β → Value} {m : GoMap κ β} {b : Nat} {k : κ} {kv : Value}
theorem OpW.delete (T : MapT P t kt et z) (KT : KeyT P kt kenc) (ho : o.op = .call { callee := .builtin .delete, args := #[x, y], argTypes := #[t, t'] }) (hx : ev L x = some (.map (some b))) (hy : ev L y = some kv) (hT : Take (mapC kenc venc b m) O O') (hk : kenc k = kv) (hd : o.dst = none)
 (c : K L R (mapC kenc venc b (m.del k) :: O')) : OpW P n o L R O K := by
 intro a w hf hs Q
 have hs' := hs.perm hT.perm
 have hp : mapP kenc venc b m w := hs'.see List.mem_cons_self
 unfold Oper.wp
 have hr : (execOp a.eval o).run P w = .ok (.value (.tuple #[])) { w with heap := w.heap.setIfInBounds b (.map ((m.del k).l.map (ent kenc venc)).toArray (m.del k).clock) } := by
  simp only [execOp, ho, resolve, invoke, builtin, Sem.run_bind, Sem.run_pure, hf.ev hx, hf.ev hy, ← hk, List.map_toArray, List.map_cons, List.map_nil, run_delete T KT hp, Result.andThen_ok]
 rw [hr, Oper.upon_value, hd]
 exact ⟨_, _, _, c, hf.none _, map_put hs' _ hp⟩
end maps
end Go.SL
namespace Go.Proofs.YtlbdpcadaojcbaaGreatDoor
open Go Go.SL
section
variable {R : List RO} {O : List Own} {POST : Value → List RO → List Own → Prop} {b off : Nat} {e : TypeId} {cs : List Value} {p v : Value} {bs : List UInt8}
abbrev pself (b off : Nat) : Value := .pointer (some ⟨b, off, none⟩)
set_option maxRecDepth 20000 in
theorem bcc_new (h0 : cs[off]? = some (.pointer none)) (hl : liesAt Tryz.prog Tryz.prog.depth e (cs.length / Tryz.prog.cellsOf e) off 72 1 = true) (hk : POST (.tuple #[]) R (rowC b e (cs.set off (pself b off)) :: O)) :
 Fun Tryz.prog 62 #[pself b off] R (rowC b e cs :: O) POST := by
 have hlt := (List.getElem?_eq_some_iff.1 h0).1
 refine Fun.enter (l := [_]) Tryz.func62 rfl Tryz.ntmps62 rfl (L0 := [(0, _)]) rfl ?_
 refine WC.seq ?_
 refine WC.region ?_
 refine WL.rd rfl rfl rfl (Rd.move rfl rfl) ?_
 refine WL.rd rfl rfl rfl (Rd.nilc rfl rfl) ?_
 refine WL.rd rfl rfl rfl (Rd.field (off := off) (r := off) rfl F72_0 rfl rfl) ?_
 refine WL.rd rfl rfl rfl (Rd.row1 (off := off) rfl C70 rfl List.mem_cons_self h0) ?_
 refine WL.rd rfl rfl rfl (Rd.peq_nn rfl Tryz.underlying70 rfl rfl) ?_
 refine WL.nil ?_
 refine thenQ.normal ?_
 refine WC.cond rfl (fun hc1 => ?_) (fun hc1 => ?_)
 ·
  refine WC.region ?_
  refine WL.rd rfl rfl rfl (Rd.move rfl rfl) ?_
  refine WL.rd rfl rfl rfl (Rd.move rfl rfl) ?_
  refine WL.rd rfl rfl rfl (Rd.toUnsafe (off := off) rfl Tryz.underlying70 Tryz.underlying190 I72 (by decide) rfl List.mem_cons_self hlt) ?_
  refine WL.op rfl ?_
  refine OpW.rd rfl rfl (Rd.extern (ef := Extern.AbiNoEscape.same) rfl rfl Z.E Tryz.func105 rfl rfl Z.K Z.K (fun w => Lib.run_noEscape w _)) ?_
  refine WL.rd rfl rfl rfl (Rd.ofUnsafe (off := off) rfl Tryz.underlying190 Tryz.underlying70 I72 rfl List.mem_cons_self hl) ?_
  refine WL.rd rfl rfl rfl (Rd.nilc rfl rfl) ?_
  refine WL.rd rfl rfl rfl (Rd.field (off := off) (r := off) rfl F72_0 rfl rfl) ?_
  refine WL.op rfl ?_
  refine OpW.store1 (off := off) rfl Z70 rfl rfl (by exact ⟨rfl, rfl⟩) (Take.head _) hlt rfl ?_
  refine WL.nil ?_
  refine Ret.normal (Ret.zero Tryz.results62 ?_)
  exact hk
 ·
  simp at hc1
set_option maxRecDepth 20000 in
theorem bcc_used (h0 : cs[off]? = some (pself b off)) (hk : POST (.tuple #[]) R (rowC b e (cs.set off (pself b off)) :: O)) :
 Fun Tryz.prog 62 #[pself b off] R (rowC b e cs :: O) POST := by
 have hlt := (List.getElem?_eq_some_iff.1 h0).1
 have hs : cs.set off (pself b off) = cs := by
  apply List.ext_getElem? ; intro i
  rw [List.getElem?_set]
  split
  · rename_i h; subst h; rw [h0]
  · rfl
 rw [hs] at hk
 refine Fun.enter (l := [_]) Tryz.func62 rfl Tryz.ntmps62 rfl (L0 := [(0, _)]) rfl ?_
 refine WC.seq ?_
 refine WC.region ?_
 refine WL.rd rfl rfl rfl (Rd.move rfl rfl) ?_
 refine WL.rd rfl rfl rfl (Rd.nilc rfl rfl) ?_
 refine WL.rd rfl rfl rfl (Rd.field (off := off) (r := off) rfl F72_0 rfl rfl) ?_
 refine WL.rd rfl rfl rfl (Rd.row1 (off := off) rfl C70 rfl List.mem_cons_self h0) ?_
 refine WL.rd rfl rfl rfl (Rd.peq_sn rfl Tryz.underlying70 rfl rfl) ?_
 refine WL.nil ?_
 refine thenQ.normal ?_
 refine WC.cond rfl (fun hc1 => ?_) (fun hc1 => ?_)
 ·
  simp at hc1
 ·
  refine WC.seq ?_
  refine WC.region ?_
  refine WL.rd rfl rfl rfl (Rd.move rfl rfl) ?_
  refine WL.rd rfl rfl rfl (Rd.nilc rfl rfl) ?_
  refine WL.rd rfl rfl rfl (Rd.field (off := off) (r := off) rfl F72_0 rfl rfl) ?_
  refine WL.rd rfl rfl rfl (Rd.row1 (off := off) rfl C70 rfl List.mem_cons_self h0) ?_
  refine WL.rd rfl rfl rfl (Rd.move rfl rfl) ?_
  refine WL.rd rfl rfl rfl (Rd.pneq_self rfl Tryz.underlying70 I72 rfl rfl) ?_
  refine WL.nil ?_
  refine thenQ.normal ?_
  refine WC.cond rfl (fun hc2 => ?_) (fun hc2 => ?_)
  ·
   simp at hc2
  ·
   refine WC.skip ?_
   refine Ret.normal (Ret.zero Tryz.results62 ?_)
   exact hk
theorem bcc_spec (hp : p = .pointer none ∨ p = pself b off) (h0 : cs[off]? = some p) (hl : liesAt Tryz.prog Tryz.prog.depth e (cs.length / Tryz.prog.cellsOf e) off 72 1 = true) (hk : POST (.tuple #[]) R (rowC b e (cs.set off (pself b off)) :: O)) :
 Fun Tryz.prog 62 #[pself b off] R (rowC b e cs :: O) POST := by
 rcases hp with rfl | rfl
 · exact bcc_new h0 hl hk
 · exact bcc_used h0 hk
set_option maxRecDepth 20000 in
theorem bws_spec {s : List UInt8} (hp : p = .pointer none ∨ p = pself b off) (h0 : cs[off]? = some p) (h1 : cs[off + 1]? = some v) (hl : liesAt Tryz.prog Tryz.prog.depth e (cs.length / Tryz.prog.cellsOf e) off 72 1 = true) (hsz : bs.length + s.length ≤ 140737488355328)
 (hk : ∀ v', OneV v' → POST (.tuple #[.int .i64 s.length, .nilIface]) R (rowC b e ((cs.set off (pself b off)).set (off + 1) v') :: accC 5 1 (SL.one vy) v' (bs ++ s) :: O)) :
 Fun Tryz.prog 35 #[pself b off, vs s] R (rowC b e cs :: accC 5 1 (SL.one vy) v bs :: O) POST := by
 have hlt := (List.getElem?_eq_some_iff.1 h1).1
 have h1' : (cs.set off (pself b off))[off + 1]? = some v := by rw [List.getElem?_set_ne Z.W]; exact h1
 refine Fun.enter (l := [_, _]) Tryz.func35 rfl Tryz.ntmps35 rfl (L0 := [(0, _), (1, _)]) rfl ?_
 refine WC.seq ?_
 refine WC.region ?_
 refine WL.rd rfl rfl rfl (Rd.assign rfl rfl) ?_
 refine WL.rd rfl rfl rfl (Rd.assign rfl rfl) ?_
 refine WL.nil ?_
 refine thenQ.normal ?_
 refine WC.seq ?_
 refine WC.region ?_
 refine WL.rd rfl rfl rfl (Rd.move rfl rfl) ?_
 refine WL.op rfl ?_
 refine OpW.call rfl rfl Z.E Z.K rfl rfl rfl ?_
 refine bcc_spec hp h0 hl ?_
 refine WL.nil ?_
 refine thenQ.normal ?_
 refine WC.seq ?_
 refine WC.region ?_
 refine WL.rd rfl rfl rfl (Rd.move rfl rfl) ?_
 refine WL.rd rfl rfl rfl (Rd.move rfl rfl) ?_
 refine WL.rd rfl rfl rfl (Rd.nilc rfl rfl) ?_
 refine WL.rd rfl rfl rfl (Rd.field (off := off) (r := off + 1) rfl F72_1 rfl rfl) ?_
 refine WL.rd rfl rfl rfl (Rd.row1 (off := off + 1) rfl C48 rfl List.mem_cons_self h1') ?_
 refine WL.rd rfl rfl rfl (Rd.move rfl rfl) ?_
 refine WL.op rfl ?_
 refine OpW.appendStr rfl S48 Tryz.underlying9 rfl rfl Z.T (by exact ⟨by simp only [maxLen, List.length_append, List.length_nil, List.length_cons, List.length_drop, List.length_take, List.length_map]; omega, by omega⟩) rfl rfl ?_; intro v14 hv14
 refine WL.rd rfl rfl rfl (Rd.nilc rfl rfl) ?_
 refine WL.rd rfl rfl rfl (Rd.field (off := off) (r := off + 1) rfl F72_1 rfl rfl) ?_
 refine WL.op rfl ?_
 refine OpW.store1 (off := off + 1) rfl Z48 rfl rfl hv14 Z.T (by rw [List.length_set]; exact hlt) rfl ?_
 refine WL.nil ?_
 refine thenQ.normal ?_
 refine WC.seq ?_
 refine WC.region ?_
 refine WL.rd rfl rfl rfl (Rd.move rfl rfl) ?_
 refine WL.rd rfl rfl rfl (Rd.slen (ts := #[]) (ty := 0) rfl rfl Tryz.underlying9) ?_
 refine WL.rd rfl rfl rfl (Rd.assign rfl rfl) ?_
 refine WL.rd rfl rfl rfl (Rd.assign rfl rfl) ?_
 refine WL.nil ?_
 refine thenQ.normal ?_
 refine WC.ret (Ret.two Tryz.results35 rfl rfl ?_)
 exact hk _ hv14
set_option maxRecDepth 20000 in
theorem bstr_spec (h1 : cs[off + 1]? = some v) (hk : POST (vs bs) R (rowC b e cs :: O)) :
 Fun Tryz.prog 37 #[pself b off] R (rowC b e cs :: accC 5 1 (SL.one vy) v bs :: O) POST := by
 refine Fun.enter (l := [_]) Tryz.func37 rfl Tryz.ntmps37 rfl (L0 := [(0, _)]) rfl ?_
 refine WC.seq ?_
 refine WC.region ?_
 refine WL.rd rfl rfl rfl (Rd.assign rfl rfl) ?_
 refine WL.nil ?_
 refine thenQ.normal ?_
 refine WC.seq ?_
 refine WC.drawn (rowC b e cs :: O) 12 rfl mixed ?_
 refine WD.take 0 rfl Z.K Z.H rfl rfl rfl (Rd.move rfl rfl) ?_
 refine WD.take 1 rfl Z.K Z.H rfl rfl rfl (Rd.nilc rfl rfl) ?_
 refine WD.take 2 rfl Z.K Z.H rfl rfl rfl (Rd.field (off := off) (r := off + 1) rfl F72_1 rfl rfl) ?_
 refine WD.take 3 rfl Z.K Z.H rfl rfl rfl (Rd.row1 (off := off + 1) rfl C48 rfl List.mem_cons_self h1) ?_
 refine WD.take 5 rfl Z.K Z.H rfl rfl rfl (Rd.move rfl rfl) ?_
 refine WD.take 6 rfl Z.K Z.H rfl rfl rfl (Rd.nilc rfl rfl) ?_
 refine WD.take 7 rfl Z.K Z.H rfl rfl rfl (Rd.field (off := off) (r := off + 1) rfl F72_1 rfl rfl) ?_
 refine WD.take 8 rfl Z.K Z.H rfl rfl rfl (Rd.row1 (off := off + 1) rfl C48 rfl List.mem_cons_self h1) ?_
 refine WD.two 4 9 rfl rfl Z.K rfl rfl ?_ ?_
 ·
  refine OpW.sliceData rfl Tryz.underlying136 rfl Z.M rfl rfl ?_; intro q7 hq7
  refine ⟨Z.H, ?_⟩
  refine WD.one 9 rfl Z.K rfl ?_
  refine OpW.rd rfl rfl ((by exact Rd.lenA rfl rfl Tryz.underlying48 Z.M)) ?_
  refine ⟨Z.H, ?_⟩
  refine WD.one 10 rfl Z.K rfl ?_
  refine OpW.unsafeStr rfl Tryz.underlying136 Z.K rfl rfl rfl rfl Z.T hq7 rfl rfl ?_
  refine ⟨Z.H, ?_⟩
  refine WD.take 11 rfl Z.K Z.H rfl rfl rfl (Rd.assign rfl rfl) ?_
  refine WD.done Z.K ?_
  refine thenQ.normal ?_
  refine WC.ret (Ret.one Tryz.results37 rfl ?_)
  exact hk
 ·
  refine OpW.rd rfl rfl ((by exact Rd.lenA rfl rfl Tryz.underlying48 Z.M)) ?_
  refine ⟨Z.H, ?_⟩
  refine WD.one 4 rfl Z.K rfl ?_
  refine OpW.sliceData rfl Tryz.underlying136 rfl Z.M rfl rfl ?_; intro q7 hq7
  refine ⟨Z.H, ?_⟩
  refine WD.one 10 rfl Z.K rfl ?_
  refine OpW.unsafeStr rfl Tryz.underlying136 Z.K rfl rfl rfl rfl Z.T hq7 rfl rfl ?_
  refine ⟨Z.H, ?_⟩
  refine WD.take 11 rfl Z.K Z.H rfl rfl rfl (Rd.assign rfl rfl) ?_
  refine WD.done Z.K ?_
  refine thenQ.normal ?_
  refine WC.ret (Ret.one Tryz.results37 rfl ?_)
  exact hk
end
end Go.Proofs.YtlbdpcadaojcbaaGreatDoor
namespace Go.Proofs
open Go.Shelf
def Tryz.lays156_ren : Go.Shelf.Ren := ⟨fun | 156 => 60 | 165 => 103 | 166 => 35 | 169 => 37 | 240 => 62 | 241 => 148 | 276 => 105 | 277 => 190 | n => n, fun | 31 => 22 | 9 => 9 | 3 => 3 | 4 => 4 | 0 => 0 | 20 => 20 | 72 => 72 | 76 => 75 | 70 => 70 | 37 => 48 | 75 => 74 | 127 => 136 | 164 => 190 | 5 => 5 | 80 => 78 | n => n, fun | n => n⟩
theorem Tryz.lays156 : Go.Proofs.Lays.n156 Tryz.prog Tryz.lays156_ren := {
 mixed := by kernel_rfl
 f156 := Tryz.func60.trans (congrArg some (by kernel_rfl))
 f165 := Tryz.func103.trans (congrArg some (by kernel_rfl))
 f166 := Tryz.func35.trans (congrArg some (by kernel_rfl))
 f169 := Tryz.func37.trans (congrArg some (by kernel_rfl))
 f240 := Tryz.func62.trans (congrArg some (by kernel_rfl))
 f241 := Tryz.func148.trans (congrArg some (by kernel_rfl))
 f276 := Tryz.func105.trans (congrArg some (by kernel_rfl))
 f277 := Tryz.func190.trans (congrArg some (by kernel_rfl))
 t0 := Tryz.underlying0
 a0 := Tryz.isAgg0
 z0 := Tryz.sizeOf0
 v0 := Tryz.zeroValue0
 t3 := Tryz.underlying3
 a3 := Tryz.isAgg3
 z3 := Tryz.sizeOf3
 v3 := Tryz.zeroValue3
 t4 := Tryz.underlying4
 a4 := Tryz.isAgg4
 z4 := Tryz.sizeOf4
 v4 := Tryz.zeroValue4
 t9 := Tryz.underlying9
 a9 := Tryz.isAgg9
 z9 := Tryz.sizeOf9
 v9 := Tryz.zeroValue9
 t20 := Tryz.underlying20
 a20 := Tryz.isAgg20
 z20 := Tryz.sizeOf20
 v20 := Tryz.zeroValue20
 t31 := Tryz.underlying22
 a31 := Tryz.isAgg22
 z31 := Tryz.sizeOf22
 v31 := Tryz.zeroValue22
 t37 := Tryz.underlying48
 a37 := Tryz.isAgg48
 z37 := Tryz.sizeOf48
 v37 := Tryz.zeroValue48
 t70 := Tryz.underlying70
 a70 := Tryz.isAgg70
 z70 := Tryz.sizeOf70
 v70 := Tryz.zeroValue70
 t72 := Tryz.underlying72
 a72 := Tryz.isAgg72
 z72 := Tryz.sizeOf72
 v72 := Tryz.zeroValue72
 t75 := Tryz.underlying74
 a75 := Tryz.isAgg74
 z75 := Tryz.sizeOf74
 v75 := Tryz.zeroValue74
 t76 := Tryz.underlying75
 a76 := Tryz.isAgg75
 z76 := Tryz.sizeOf75
 v76 := Tryz.zeroValue75
 t127 := Tryz.underlying136
 a127 := Tryz.isAgg136
 z127 := Tryz.sizeOf136
 v127 := Tryz.zeroValue136
 t164 := Tryz.underlying190
 a164 := Tryz.isAgg190
 z164 := Tryz.sizeOf190
 v164 := Tryz.zeroValue190 }
theorem Tryz.Builder_Extra_156 : Builder.Extra Tryz.prog Tryz.lays156_ren := {
 sizeBuilder := by kernel_rfl
 liesBuilder := by kernel_rfl
 t5 := Tryz.underlying5
 a5 := Tryz.isAgg5
 z5 := Tryz.sizeOf5
 v5 := Tryz.zeroValue5
 infoByte := by kernel_rfl
 cellsByte := by kernel_rfl
 sizeByte := by kernel_rfl
 neB5 := by decide }
open Go.RowKit in
/-- No element: the empty string; the world is as it was. (Whatever the slice's address and capacity: a nil slice too.) (LAID: no walk: one application.) -/
theorem Tryz.strings_Join_none (a : Option Addr) (c : Nat) (sep : ByteArray) (w : World) :
 Calls Tryz.prog 60 #[.slice a 0 c, .string sep] w fun e w' => e = .returned (.string ⟨#[]⟩) ∧ w' = w := Any.strings_Join_none Tryz.lays156 Tryz.Builder_Extra_156 a c sep w
open Go.RowKit in
/-- strings.Join: "Join concatenates the elements of its first argument to create a single string. The separator string sep is placed between elements in the resulting string.": HOWEVER MANY ELEMENTS. Below the heap's end the world is as it was. (LAID: no walk: one application.) -/
theorem Tryz.strings_Join (bk o c : Nat) (xs : List ByteArray) (sep : ByteArray) (w : World) (hcells : ∀ (j : Nat) x, xs[j]? = some x → w.cell? ⟨bk, o + j, none⟩ = some (.string x)) (hbk : bk < w.heap.size) (hN : xs.length ≤ 140737488355328) (hcap : xs.length ≤ c) (hlen : (Lib.join (xs.map (·.data.toList)) sep.data.toList).length ≤ 140737488355328) :
 Calls Tryz.prog 60 #[.slice (some ⟨bk, o, none⟩) xs.length c, .string sep] w fun e w' => e = .returned (.string ⟨(Lib.join (xs.map (·.data.toList)) sep.data.toList).toArray⟩) ∧ Below w.heap.size w w' := Any.strings_Join Tryz.lays156 Tryz.Builder_Extra_156 bk o c xs sep w hcells hbk hN hcap hlen
def Tryz.lays137_ren : Go.Shelf.Ren := ⟨fun | 137 => 101 | 217 => 147 | 266 => 189 | n => n, fun | 9 => 9 | 5 => 5 | 3 => 3 | n => n, fun | n => n⟩
theorem Tryz.lays137 : Go.Proofs.Lays.n137 Tryz.prog Tryz.lays137_ren := {
 mixed := by kernel_rfl
 f137 := Tryz.func101.trans (congrArg some (by kernel_rfl))
 f217 := Tryz.func147.trans (congrArg some (by kernel_rfl))
 f266 := Tryz.func189.trans (congrArg some (by kernel_rfl))
 t3 := Tryz.underlying3
 a3 := Tryz.isAgg3
 z3 := Tryz.sizeOf3
 v3 := Tryz.zeroValue3
 t5 := Tryz.underlying5
 a5 := Tryz.isAgg5
 z5 := Tryz.sizeOf5
 v5 := Tryz.zeroValue5
 t9 := Tryz.underlying9
 a9 := Tryz.isAgg9
 z9 := Tryz.sizeOf9
 v9 := Tryz.zeroValue9 }
open Go.RowKit in
/-- strings.IndexByte: "IndexByte returns the index of the first instance of c in s, or -1 if c is not present in s.": IT RETURNS 'Lib.indexByte s c'; the world is as it was. (LAID: no walk: one application.) -/
theorem Tryz.strings_IndexByte (s : ByteArray) (c : Int) (w : World) :
 Calls Tryz.prog 101 #[.string s, .int .u8 c] w fun e w' => e = .returned (.int .i64 (Lib.indexByte s.data.toList c.toNat.toUInt8)) ∧ w' = w := Any.strings_IndexByte Tryz.lays137 s c w
def Tryz.lays105_ren : Go.Shelf.Ren := ⟨fun | 105 => 66 | 212 => 109 | 99 => 110 | 165 => 103 | 166 => 35 | 170 => 111 | 169 => 37 | 263 => 153 | 264 => 154 | 206 => 155 | 240 => 62 | 241 => 148 | 276 => 105 | 277 => 190 | n => n, fun | 9 => 9 | 3 => 3 | 4 => 4 | 20 => 20 | 0 => 0 | 46 => 135 | 109 => 196 | 5 => 5 | 72 => 72 | 76 => 75 | 51 => 79 | 146 => 242 | 53 => 241 | 148 => 244 | 70 => 70 | 37 => 48 | 75 => 74 | 127 => 136 | 164 => 190 | 80 => 78 | n => n, fun | n => n⟩
theorem Tryz.lays105 : Go.Proofs.Lays.n105 Tryz.prog Tryz.lays105_ren := {
 mixed := by kernel_rfl
 f99 := Tryz.func110.trans (congrArg some (by kernel_rfl))
 f105 := Tryz.func66.trans (congrArg some (by kernel_rfl))
 f165 := Tryz.func103.trans (congrArg some (by kernel_rfl))
 f166 := Tryz.func35.trans (congrArg some (by kernel_rfl))
 f169 := Tryz.func37.trans (congrArg some (by kernel_rfl))
 f170 := Tryz.func111.trans (congrArg some (by kernel_rfl))
 f206 := Tryz.func155.trans (congrArg some (by kernel_rfl))
 f212 := Tryz.func109.trans (congrArg some (by kernel_rfl))
 f240 := Tryz.func62.trans (congrArg some (by kernel_rfl))
 f241 := Tryz.func148.trans (congrArg some (by kernel_rfl))
 f263 := Tryz.func153.trans (congrArg some (by kernel_rfl))
 f264 := Tryz.func154.trans (congrArg some (by kernel_rfl))
 f276 := Tryz.func105.trans (congrArg some (by kernel_rfl))
 f277 := Tryz.func190.trans (congrArg some (by kernel_rfl))
 t0 := Tryz.underlying0
 a0 := Tryz.isAgg0
 z0 := Tryz.sizeOf0
 v0 := Tryz.zeroValue0
 t3 := Tryz.underlying3
 a3 := Tryz.isAgg3
 z3 := Tryz.sizeOf3
 v3 := Tryz.zeroValue3
 t4 := Tryz.underlying4
 a4 := Tryz.isAgg4
 z4 := Tryz.sizeOf4
 v4 := Tryz.zeroValue4
 t5 := Tryz.underlying5
 a5 := Tryz.isAgg5
 z5 := Tryz.sizeOf5
 v5 := Tryz.zeroValue5
 t9 := Tryz.underlying9
 a9 := Tryz.isAgg9
 z9 := Tryz.sizeOf9
 v9 := Tryz.zeroValue9
 t20 := Tryz.underlying20
 a20 := Tryz.isAgg20
 z20 := Tryz.sizeOf20
 v20 := Tryz.zeroValue20
 t37 := Tryz.underlying48
 a37 := Tryz.isAgg48
 z37 := Tryz.sizeOf48
 v37 := Tryz.zeroValue48
 t46 := Tryz.underlying135
 a46 := Tryz.isAgg135
 z46 := Tryz.sizeOf135
 v46 := Tryz.zeroValue135
 t51 := Tryz.underlying79
 a51 := Tryz.isAgg79
 z51 := Tryz.sizeOf79
 v51 := Tryz.zeroValue79
 t53 := Tryz.underlying241
 a53 := Tryz.isAgg241
 z53 := Tryz.sizeOf241
 v53 := Tryz.zeroValue241
 t70 := Tryz.underlying70
 a70 := Tryz.isAgg70
 z70 := Tryz.sizeOf70
 v70 := Tryz.zeroValue70
 t72 := Tryz.underlying72
 a72 := Tryz.isAgg72
 z72 := Tryz.sizeOf72
 v72 := Tryz.zeroValue72
 t75 := Tryz.underlying74
 a75 := Tryz.isAgg74
 z75 := Tryz.sizeOf74
 v75 := Tryz.zeroValue74
 t76 := Tryz.underlying75
 a76 := Tryz.isAgg75
 z76 := Tryz.sizeOf75
 v76 := Tryz.zeroValue75
 t109 := Tryz.underlying196
 a109 := Tryz.isAgg196
 z109 := Tryz.sizeOf196
 v109 := Tryz.zeroValue196
 t127 := Tryz.underlying136
 a127 := Tryz.isAgg136
 z127 := Tryz.sizeOf136
 v127 := Tryz.zeroValue136
 t146 := Tryz.underlying242
 a146 := Tryz.isAgg242
 z146 := Tryz.sizeOf242
 v146 := Tryz.zeroValue242
 t148 := Tryz.underlying244
 a148 := Tryz.isAgg244
 z148 := Tryz.sizeOf244
 v148 := Tryz.zeroValue244
 t164 := Tryz.underlying190
 a164 := Tryz.isAgg190
 z164 := Tryz.sizeOf190
 v164 := Tryz.zeroValue190 }
theorem Tryz.Builder_Extra_105 : Builder.Extra Tryz.prog Tryz.lays105_ren := {
 sizeBuilder := by kernel_rfl
 liesBuilder := by kernel_rfl
 t5 := Tryz.underlying5
 a5 := Tryz.isAgg5
 z5 := Tryz.sizeOf5
 v5 := Tryz.zeroValue5
 infoByte := by kernel_rfl
 cellsByte := by kernel_rfl
 sizeByte := by kernel_rfl
 neB5 := by decide }
open Go.RowKit Go.Lib in
/-- **strings.Repeat: count ≥ 0, the result within one allocation: count copies of s.** (LAID: no walk: one application.) -/
theorem Tryz.strings_Repeat (s : ByteArray) (c : Nat) (w : World) (hc : c ≤ 9223372036854775807) (hlen : s.size * c ≤ 140737488355328) :
 Calls Tryz.prog 66 #[.string s, .int .i64 c] w fun e w' => e = .returned (.string ⟨(Lib.repeatL s.data.toList c).toArray⟩) ∧ Below w.heap.size w w' := Any.strings_Repeat Tryz.lays105 Tryz.Builder_Extra_105 s c w hc hlen
def Tryz.lays110_ren : Go.Shelf.Ren := ⟨fun | 110 => 59 | 109 => 102 | n => n, fun | 31 => 22 | 9 => 9 | 4 => 4 | 3 => 3 | 0 => 0 | n => n, fun | n => n⟩
theorem Tryz.lays110 : Go.Proofs.Lays.n110 Tryz.prog Tryz.lays110_ren := {
 mixed := by kernel_rfl
 f109 := Tryz.func102.trans (congrArg some (by kernel_rfl))
 f110 := Tryz.func59.trans (congrArg some (by kernel_rfl))
 t0 := Tryz.underlying0
 a0 := Tryz.isAgg0
 z0 := Tryz.sizeOf0
 v0 := Tryz.zeroValue0
 t3 := Tryz.underlying3
 a3 := Tryz.isAgg3
 z3 := Tryz.sizeOf3
 v3 := Tryz.zeroValue3
 t4 := Tryz.underlying4
 a4 := Tryz.isAgg4
 z4 := Tryz.sizeOf4
 v4 := Tryz.zeroValue4
 t9 := Tryz.underlying9
 a9 := Tryz.isAgg9
 z9 := Tryz.sizeOf9
 v9 := Tryz.zeroValue9
 t31 := Tryz.underlying22
 a31 := Tryz.isAgg22
 z31 := Tryz.sizeOf22
 v31 := Tryz.zeroValue22 }
open Go.Lib in
/-- slices.Contains at []string: "Contains reports whether v is present in s.": IT RETURNS 'Lib.containsS (the elements) v', which is true just where v is among them ('Lib.containsS_iff'); the world is as it was. ITS CALLEE slices.Index IS MET BY ITS OWN CONTRACT OFF THE SHELF (lay that first): no loop is walked here. (LAID: no walk: one application.) -/
theorem Tryz.slices_Contains_string (b off n c : Nat) (zs : List ByteArray) (x : ByteArray) (w : World) (hz : n ≤ zs.length) (hbig : n ≤ 9223372036854775807) (hc : ∀ j, j < zs.length → w.cell? ⟨b, off + j, none⟩ = some (.string (zs.getD j ByteArray.empty))) :
 Calls Tryz.prog 59 #[.slice (some ⟨b, off, none⟩) n c, .string x] w fun e w' => e = .returned (.bool (Lib.containsS (zs.take n) x)) ∧ w' = w := Any.slices_Contains_string Tryz.lays110 b off n c zs x w hz hbig hc
open Go.Lib in
/-- The same at a slice of length 0, a nil one too. (LAID: no walk: one application.) -/
theorem Tryz.slices_Contains_string_empty (a : Option Addr) (c : Nat) (x : ByteArray) (w : World) :
 Calls Tryz.prog 59 #[.slice a 0 c, .string x] w fun e w' => e = .returned (.bool false) ∧ w' = w := Any.slices_Contains_string_empty Tryz.lays110 a c x w
end Go.Proofs
namespace Go.SL
open Go Go.RowKit
section ret
variable {P : Program} {fn : Func} {n : Sz} {L : Env} {R : List RO} {O : List Own} {post : Value → List RO → List Own → Prop}
theorem Ret.cellTmp {p t : Tmp} {ty : TypeId} {size b : Nat} {e : TypeId} {cs : List Value} {v : Value} (hr : fn.results = #[.cell p ty, .tmp t]) (ht : Env.find L p = some (.pointer (some ⟨b, 0, none⟩))) (h2 : Env.find L t = some v) (hp : rowC b e cs ∈ O) (hG : Agg P ty size) (hl : cs.length = size) (h : post (.tuple #[.agg cs.toArray, v]) R O) : retQ P fn n post .ret L R O :=
 ⟨_, fun a w _ hf ⟨_, hs⟩ => by
   have e1 := getD_of hf ht
   have e3 := getD_of hf h2
   have e2 := run_loadVar_agg hG hl (hs.see (List.mem_append_right _ hp))
   simp only [Array.getD_eq_getD_getElem?] at e1 e3
   simp [results, hr, e1, e3, asAddr, e2], h⟩
end ret
section
variable {P : Program} {o : Oper} {L : Env} {R : List RO} {O : List Own} {t t' : TypeId} {x y : Operand} {s r : List UInt8}
theorem Rd.sgeq (ho : o.op = .binOp .geq t x y t') (hx : ev L x = some (vs s)) (hy : ev L y = some (vs r)) : Rd P o L R O (.bool (!Op.bytesLess s r)) :=
 run_sbin ho hx hy fun w => by simp [binOp, Op.stringOp]
/-- A contract that reads what is there. -/
theorem Fun.belowR {f : FuncId} {args : Array Value} {post : Value → List RO → List Own → Prop} {v : Value} {p : RO} (hp : p ∈ R) (h : ∀ w, p w → Calls P f args w fun e w' => e = .returned v ∧ Below w.heap.size w w') (hk : post v R O) : Fun P f args R O post :=
 fun w hs => (h w (hs.read hp)).mono fun _ _ ⟨he, hb⟩ => ⟨v, R, O, he, hk, hs.below hb⟩
end
end Go.SL
namespace Go.Proofs.YtlbdpcadaojcbaaGreatDoor
open Go Go.SL
theorem vb_f {q : Prop} [Decidable q] (h : ¬ q) : Value.bool false = Value.bool (decide q) := by rw [decide_eq_false h]
theorem less_flip : ∀ a b : List UInt8, (Op.bytesLess a b || a == b) = !Op.bytesLess b a
 | [], [] => rfl
 | [], _ :: _ => rfl
 | _ :: _, [] => rfl
 | c :: x, d :: y => by
   have ih := less_flip x y
   by_cases h : c = d
   · subst h
     rw [less_same, less_same, ← ih]
     simp
   · have h1 : ¬ c.toNat = d.toNat := fun e => h (UInt8.toNat_inj.1 e)
     by_cases h2 : c < d
     · have h3 : ¬ d < c := by rw [UInt8.lt_iff_toNat_lt] at h2 ⊢; omega
       have h4 : ¬ d = c := fun e => h e.symm
       simp [Op.bytesLess, h, h2, h3, h4]
     · have h3 : d < c := by rw [UInt8.lt_iff_toNat_lt] at h2 ⊢; omega
       simp [Op.bytesLess, h, h2, h3]
abbrev ET := List UInt8 × List UInt8
def encT (x : ET) : List Value := [vs x.1, vs x.2]
/-- An object. -/
structure Ob where
 kind : Int
 body : List UInt8
 ents : List ET
 tree : List UInt8
 pars : List (List UInt8)
 author : List UInt8
 text : List UInt8
 time : Int
 target : List UInt8
 name : List UInt8
def zOb : Ob := ⟨0, [], [], [], [], [], [], 0, [], []⟩
abbrev obC (o : Ob) (ev pv : Value) : List Value := [.int .i64 o.kind, vs o.body, ev, vs o.tree, pv, vs o.author, vs o.text, .int .i64 o.time, vs o.target, vs o.name]
abbrev obV (o : Ob) (ev pv : Value) : Value := .agg #[.int .i64 o.kind, vs o.body, ev, vs o.tree, pv, vs o.author, vs o.text, .int .i64 o.time, vs o.target, vs o.name]
def okC (c : UInt8) (i : Nat) : Prop := (97 ≤ c.toNat ∧ c.toNat ≤ 122) ∨ (48 ≤ c.toNat ∧ c.toNat ≤ 57) ∨ c.toNat = 45 ∨ c.toNat = 95 ∨ (c.toNat = 46 ∧ 0 < i)
instance (c : UInt8) (i : Nat) : Decidable (okC c i) := by unfold okC; infer_instance
def GoodP (s : List UInt8) : Prop := (∀ i, i < s.length → okC s[i]! i) ∧ 0 < s.length ∧ s.length < 65
instance (s : List UInt8) : Decidable (GoodP s) := by unfold GoodP; infer_instance
section
variable {R : List RO} {O : List Own} {POST : Value → List RO → List Own → Prop}
theorem idx_all : ∀ n < 256, (Lib.indexByte [45, 95, 46] (UInt8.ofNat n) < 0 ↔ ¬ (n = 45 ∨ n = 95 ∨ n = 46)) := by decide +kernel
theorem idx_neg (c : UInt8) : Lib.indexByte [45, 95, 46] c < 0 ↔ ¬ (c.toNat = 45 ∨ c.toNat = 95 ∨ c.toNat = 46) := by
 have := idx_all c.toNat (UInt8.toNat_lt c)
 rwa [UInt8.ofNat_toNat] at this
set_option maxRecDepth 20000 in
set_option maxHeartbeats 1000000 in
theorem good_spec {s : List UInt8} (hs : s.length ≤ 9223372036854775000) (hk : POST (.bool (decide (GoodP s))) R O) : Fun Tryz.prog 58 #[vs s] R O POST := by
 refine Fun.enter (l := [_]) Tryz.func58 rfl Tryz.ntmps58 rfl (L0 := [(0, _)]) rfl ?_
 refine WC.seq ?_
 refine WC.region ?_
 refine WL.rd rfl rfl rfl (Rd.assign rfl rfl) ?_
 refine WL.nil ?_
 refine thenQ.normal ?_
 refine WC.seq ?_
 refine WC.pick [0] Z.P ?_
 refine WC.val 17 (.bool (decide (s.length < 1 ∨ 64 < s.length ∨ s[0]!.toNat = 46))) ?_ ?_
 ·
  refine WC.region ?_
  refine WL.rd rfl rfl rfl (Rd.move rfl rfl) ?_
  refine WL.rd rfl rfl rfl (Rd.slen (ts := #[]) (ty := 0) rfl rfl Tryz.underlying9) ?_
  refine WL.rd rfl rfl rfl (Rd.lss rfl rfl rfl) ?_
  refine WL.rd rfl rfl rfl (Rd.move rfl rfl) ?_
  refine WL.case 8 rfl (fun hg8 => ?_) (fun hg8 => ?_)
  ·
   refine WL.no rfl rfl rfl rfl rfl rfl ?_
   refine WL.no rfl rfl rfl rfl rfl rfl ?_
   refine WL.no rfl rfl rfl rfl rfl rfl ?_
   refine WL.rd rfl rfl rfl (Rd.pick_t rfl rfl rfl) ?_
   refine WL.rd rfl rfl rfl (Rd.move rfl rfl) ?_
   refine WL.no rfl rfl rfl rfl rfl rfl ?_
   refine WL.no rfl rfl rfl rfl rfl rfl ?_
   refine WL.no rfl rfl rfl rfl rfl rfl ?_
   refine WL.rd rfl rfl rfl (Rd.pick_t rfl rfl rfl) ?_
   refine WL.nil ?_
   exact ⟨by repeat (first | exact Sub.nil | refine Sub.cons rfl (by first | rfl | ((refine vb_t ?_; omega))) ?_), by exact (fun _ h => h.thin (SubL.mem Z.S))⟩
  ·
   refine WL.rd_yes rfl rfl rfl rfl rfl rfl (Rd.move rfl rfl) ?_
   refine WL.rd_yes rfl rfl rfl rfl rfl rfl (Rd.slen (ts := #[]) (ty := 0) rfl rfl Tryz.underlying9) ?_
   refine WL.rd_yes rfl rfl rfl rfl rfl rfl (Rd.gtr rfl rfl rfl) ?_
   refine WL.rd rfl rfl rfl (Rd.pick_f rfl rfl rfl) ?_
   refine WL.rd rfl rfl rfl (Rd.move rfl rfl) ?_
   refine WL.case 13 rfl (fun hg13 => ?_) (fun hg13 => ?_)
   ·
    refine WL.no rfl rfl rfl rfl rfl rfl ?_
    refine WL.no rfl rfl rfl rfl rfl rfl ?_
    refine WL.no rfl rfl rfl rfl rfl rfl ?_
    refine WL.rd rfl rfl rfl (Rd.pick_t rfl rfl rfl) ?_
    refine WL.nil ?_
    exact ⟨by repeat (first | exact Sub.nil | refine Sub.cons rfl (by first | rfl | ((refine vb_t ?_; omega))) ?_), by exact (fun _ h => h.thin (SubL.mem Z.S))⟩
   ·
    refine WL.rd_yes rfl rfl rfl rfl rfl rfl (Rd.move rfl rfl) ?_
    refine WL.rd_yes rfl rfl rfl rfl rfl rfl (Rd.sidx (k := 0) (b := s[0]!) rfl Tryz.underlying9 rfl rfl rfl (get!_of_lt Z.W)) ?_
    refine WL.rd_yes rfl rfl rfl rfl rfl rfl (Rd.eql rfl rfl rfl) ?_
    refine WL.rd rfl rfl rfl (Rd.pick_f rfl rfl rfl) ?_
    refine WL.nil ?_
    exact ⟨by repeat (first | exact Sub.nil | refine Sub.cons rfl (by first | rfl | ((refine vb ?_; omega))) ?_), by exact (fun _ h => h.thin (SubL.mem Z.S))⟩
 ·
  refine WC.ite rfl (fun hc1 => ?_) (fun hc1 => ?_)
  ·
   refine WC.seq ?_
   refine WC.region ?_
   refine WL.rd rfl rfl rfl (Rd.assign rfl rfl) ?_
   refine WL.nil ?_
   refine thenQ.normal ?_
   skip
   refine WC.ret (Ret.one Tryz.results58 rfl ?_)
   rw [decide_eq_false (fun h => by have h1 := h.2; have h0 := h.1 0 Z.W; unfold okC at h0; omega)] at hk
   exact hk
  ·
   refine WC.skip ?_
   refine thenQ.normal ?_
   refine WC.seq ?_
   refine WC.seq ?_
   refine WC.region ?_
   refine WL.rd rfl rfl rfl (Rd.move rfl rfl) ?_
   refine WL.rd rfl rfl rfl (Rd.slen (ts := #[]) (ty := 0) rfl rfl Tryz.underlying9) ?_
   refine WL.rd rfl rfl rfl (Rd.move rfl rfl) ?_
   refine WL.nil ?_
   refine thenQ.normal ?_
   refine WC.block ?_
   refine WC.pick [20, 0, 19] Z.P ?_
   refine WC.loop1o 1 (fun (i : Nat) => [(20, .int .i64 (i : Int))]) (fun (i : Nat) => i ≤ s.length ∧ ∀ j, j < i → okC s[j]! j) (fun (i : Nat) => s.length - i) (0) Z.L ?hinv1 (by repeat (first | exact Sub.nil | refine Sub.cons rfl (by rfl) ?_)) (fun _ h => h) ?_
   case hinv1 =>
    exact ⟨Nat.zero_le _, fun j hj => absurd hj (Nat.not_lt_zero _)⟩
   intro i
   rintro ⟨i1, i2⟩
   refine WC.seq ?_
   refine WC.region ?_
   refine WL.rd rfl rfl rfl (Rd.lss rfl rfl rfl) ?_
   refine WL.nil ?_
   refine thenQ.normal ?_
   refine WC.seq ?_
   refine WC.ite rfl (fun hc2 => ?_) (fun hc2 => ?_)
   ·
    refine WC.skip ?_
    refine thenQ.normal ?_
    refine WC.seq ?_
    refine WC.block ?_
    refine WC.seq ?_
    refine WC.region ?_
    refine WL.rd rfl rfl rfl (Rd.move rfl rfl) ?_
    refine WL.rd rfl rfl rfl (Rd.assign rfl rfl) ?_
    refine WL.nil ?_
    refine thenQ.normal ?_
    refine WC.seq ?_
    refine WC.region ?_
    refine WL.rd rfl rfl rfl (Rd.move rfl rfl) ?_
    refine WL.rd rfl rfl rfl (Rd.move rfl rfl) ?_
    refine WL.rd rfl rfl rfl (Rd.sidx (k := i) (b := s[i]!) rfl Tryz.underlying9 rfl rfl rfl (get!_of_lt Z.W)) ?_
    refine WL.rd rfl rfl rfl (Rd.assign rfl rfl) ?_
    refine WL.nil ?_
    refine thenQ.normal ?_
    refine WC.pick [0, 4, 19, 20] Z.P ?_
    refine WC.val 44 (.bool (decide (¬ okC s[i]! i))) ?_ ?_
    ·
     refine WC.region ?_
     have h0 : i = 0 → s[i]!.toNat ≠ 46 := fun h => by subst h; omega
     have h8 := idx_neg s[i]!
     refine WL.rd rfl rfl rfl (Rd.move rfl rfl) ?_
     refine WL.rd rfl rfl rfl (Rd.lss rfl rfl rfl) ?_
     refine WL.rd rfl rfl rfl (Rd.move rfl rfl) ?_
     refine WL.case 28 rfl (fun hg28 => ?_) (fun hg28 => ?_)
     ·
      refine WL.no rfl rfl rfl rfl rfl rfl ?_
      refine WL.no rfl rfl rfl rfl rfl rfl ?_
      refine WL.rd rfl rfl rfl (Rd.pick_t rfl rfl rfl) ?_
      refine WL.rd rfl rfl rfl (Rd.move rfl rfl) ?_
      refine WL.rd_yes rfl rfl rfl rfl rfl rfl (Rd.move rfl rfl) ?_
      refine WL.rd_yes rfl rfl rfl rfl rfl rfl (Rd.lss rfl rfl rfl) ?_
      refine WL.rd_yes rfl rfl rfl rfl rfl rfl (Rd.move rfl rfl) ?_
      refine WL.case 35 rfl (fun hg35 => ?_) (fun hg35 => ?_)
      ·
       refine WL.no rfl rfl rfl rfl rfl rfl ?_
       refine WL.no rfl rfl rfl rfl rfl rfl ?_
       refine WL.rd_yes rfl rfl rfl rfl rfl rfl (Rd.pick_t rfl rfl rfl) ?_
       refine WL.rd rfl rfl rfl (Rd.pick_t rfl rfl rfl) ?_
       refine WL.rd rfl rfl rfl (Rd.move rfl rfl) ?_
       refine WL.rd_yes rfl rfl rfl rfl rfl rfl (Rd.move rfl rfl) ?_
       refine WL.op_yes rfl rfl rfl rfl ?_
       refine OpW.call rfl rfl Z.E Z.K rfl rfl rfl ?_
       refine Fun.still (v := .int .i64 (Lib.indexByte [45, 95, 46] s[i]!)) (fun w => by
        have := Tryz.strings_IndexByte ⟨#[45, 95, 46]⟩ (s[i]!.toNat : Int) w
        rw [show (s[i]!.toNat : Int).toNat.toUInt8 = s[i]! from by simp] at this
        exact this) ?_
       refine WL.rd_yes rfl rfl rfl rfl rfl rfl (Rd.lss rfl rfl rfl) ?_
       refine WL.rd rfl rfl rfl (Rd.pick_t rfl rfl rfl) ?_
       refine WL.nil ?_
       exact ⟨by repeat (first | exact Sub.nil | refine Sub.cons rfl (by first | rfl | (exact vb (by unfold okC; omega))) ?_), by exact (fun _ h => h.thin (SubL.mem Z.S))⟩
      ·
       refine WL.rd_yes rfl rfl rfl rfl rfl rfl (Rd.move rfl rfl) ?_
       refine WL.rd_yes rfl rfl rfl rfl rfl rfl (Rd.gtr rfl rfl rfl) ?_
       refine WL.rd_yes rfl rfl rfl rfl rfl rfl (Rd.pick_f rfl rfl rfl) ?_
       refine WL.rd rfl rfl rfl (Rd.pick_t rfl rfl rfl) ?_
       refine WL.rd rfl rfl rfl (Rd.move rfl rfl) ?_
       refine WL.case 40 rfl (fun hg40 => ?_) (fun hg40 => ?_)
       ·
        refine WL.rd_yes rfl rfl rfl rfl rfl rfl (Rd.move rfl rfl) ?_
        refine WL.op_yes rfl rfl rfl rfl ?_
        refine OpW.call rfl rfl Z.E Z.K rfl rfl rfl ?_
        refine Fun.still (v := .int .i64 (Lib.indexByte [45, 95, 46] s[i]!)) (fun w => by
         have := Tryz.strings_IndexByte ⟨#[45, 95, 46]⟩ (s[i]!.toNat : Int) w
         rw [show (s[i]!.toNat : Int).toNat.toUInt8 = s[i]! from by simp] at this
         exact this) ?_
        refine WL.rd_yes rfl rfl rfl rfl rfl rfl (Rd.lss rfl rfl rfl) ?_
        refine WL.rd rfl rfl rfl (Rd.pick_t rfl rfl rfl) ?_
        refine WL.nil ?_
        exact ⟨by repeat (first | exact Sub.nil | refine Sub.cons rfl (by first | rfl | (exact vb (by unfold okC; omega))) ?_), by exact (fun _ h => h.thin (SubL.mem Z.S))⟩
       ·
        refine WL.no rfl rfl rfl rfl rfl rfl ?_
        refine WL.no rfl rfl rfl rfl rfl rfl ?_
        refine WL.no rfl rfl rfl rfl rfl rfl ?_
        refine WL.rd rfl rfl rfl (Rd.pick_f rfl rfl rfl) ?_
        refine WL.nil ?_
        exact ⟨by repeat (first | exact Sub.nil | refine Sub.cons rfl (by first | rfl | (exact vb_f (by unfold okC; omega))) ?_), by exact (fun _ h => h.thin (SubL.mem Z.S))⟩
     ·
      refine WL.rd_yes rfl rfl rfl rfl rfl rfl (Rd.move rfl rfl) ?_
      refine WL.rd_yes rfl rfl rfl rfl rfl rfl (Rd.gtr rfl rfl rfl) ?_
      refine WL.rd rfl rfl rfl (Rd.pick_f rfl rfl rfl) ?_
      refine WL.rd rfl rfl rfl (Rd.move rfl rfl) ?_
      refine WL.case 32 rfl (fun hg32 => ?_) (fun hg32 => ?_)
      ·
       refine WL.rd_yes rfl rfl rfl rfl rfl rfl (Rd.move rfl rfl) ?_
       refine WL.rd_yes rfl rfl rfl rfl rfl rfl (Rd.lss rfl rfl rfl) ?_
       refine WL.rd_yes rfl rfl rfl rfl rfl rfl (Rd.move rfl rfl) ?_
       refine WL.case 35 rfl (fun hg35 => ?_) (fun hg35 => ?_)
       ·
        refine WL.no rfl rfl rfl rfl rfl rfl ?_
        refine WL.no rfl rfl rfl rfl rfl rfl ?_
        refine WL.rd_yes rfl rfl rfl rfl rfl rfl (Rd.pick_t rfl rfl rfl) ?_
        refine WL.rd rfl rfl rfl (Rd.pick_t rfl rfl rfl) ?_
        refine WL.rd rfl rfl rfl (Rd.move rfl rfl) ?_
        refine WL.rd_yes rfl rfl rfl rfl rfl rfl (Rd.move rfl rfl) ?_
        refine WL.op_yes rfl rfl rfl rfl ?_
        refine OpW.call rfl rfl Z.E Z.K rfl rfl rfl ?_
        refine Fun.still (v := .int .i64 (Lib.indexByte [45, 95, 46] s[i]!)) (fun w => by
         have := Tryz.strings_IndexByte ⟨#[45, 95, 46]⟩ (s[i]!.toNat : Int) w
         rw [show (s[i]!.toNat : Int).toNat.toUInt8 = s[i]! from by simp] at this
         exact this) ?_
        refine WL.rd_yes rfl rfl rfl rfl rfl rfl (Rd.lss rfl rfl rfl) ?_
        refine WL.rd rfl rfl rfl (Rd.pick_t rfl rfl rfl) ?_
        refine WL.nil ?_
        exact ⟨by repeat (first | exact Sub.nil | refine Sub.cons rfl (by first | rfl | (exact vb (by unfold okC; omega))) ?_), by exact (fun _ h => h.thin (SubL.mem Z.S))⟩
       ·
        refine WL.rd_yes rfl rfl rfl rfl rfl rfl (Rd.move rfl rfl) ?_
        refine WL.rd_yes rfl rfl rfl rfl rfl rfl (Rd.gtr rfl rfl rfl) ?_
        refine WL.rd_yes rfl rfl rfl rfl rfl rfl (Rd.pick_f rfl rfl rfl) ?_
        refine WL.rd rfl rfl rfl (Rd.pick_t rfl rfl rfl) ?_
        refine WL.rd rfl rfl rfl (Rd.move rfl rfl) ?_
        refine WL.case 40 rfl (fun hg40 => ?_) (fun hg40 => ?_)
        ·
         refine WL.rd_yes rfl rfl rfl rfl rfl rfl (Rd.move rfl rfl) ?_
         refine WL.op_yes rfl rfl rfl rfl ?_
         refine OpW.call rfl rfl Z.E Z.K rfl rfl rfl ?_
         refine Fun.still (v := .int .i64 (Lib.indexByte [45, 95, 46] s[i]!)) (fun w => by
          have := Tryz.strings_IndexByte ⟨#[45, 95, 46]⟩ (s[i]!.toNat : Int) w
          rw [show (s[i]!.toNat : Int).toNat.toUInt8 = s[i]! from by simp] at this
          exact this) ?_
         refine WL.rd_yes rfl rfl rfl rfl rfl rfl (Rd.lss rfl rfl rfl) ?_
         refine WL.rd rfl rfl rfl (Rd.pick_t rfl rfl rfl) ?_
         refine WL.nil ?_
         exact ⟨by repeat (first | exact Sub.nil | refine Sub.cons rfl (by first | rfl | (exact vb (by unfold okC; omega))) ?_), by exact (fun _ h => h.thin (SubL.mem Z.S))⟩
        ·
         refine WL.no rfl rfl rfl rfl rfl rfl ?_
         refine WL.no rfl rfl rfl rfl rfl rfl ?_
         refine WL.no rfl rfl rfl rfl rfl rfl ?_
         refine WL.rd rfl rfl rfl (Rd.pick_f rfl rfl rfl) ?_
         refine WL.nil ?_
         exact ⟨by repeat (first | exact Sub.nil | refine Sub.cons rfl (by first | rfl | (exact vb_f (by unfold okC; omega))) ?_), by exact (fun _ h => h.thin (SubL.mem Z.S))⟩
      ·
       refine WL.no rfl rfl rfl rfl rfl rfl ?_
       refine WL.no rfl rfl rfl rfl rfl rfl ?_
       refine WL.no rfl rfl rfl rfl rfl rfl ?_
       refine WL.noU rfl rfl rfl rfl rfl rfl ?_
       refine WL.noU rfl rfl rfl rfl rfl rfl ?_
       refine WL.no rfl rfl rfl rfl rfl rfl ?_
       refine WL.rd rfl rfl rfl (Rd.pick_f rfl rfl rfl) ?_
       refine WL.rd rfl rfl rfl (Rd.move rfl rfl) ?_
       refine WL.no rfl rfl rfl rfl rfl rfl ?_
       refine WL.no rfl rfl rfl rfl rfl rfl ?_
       refine WL.no rfl rfl rfl rfl rfl rfl ?_
       refine WL.rd rfl rfl rfl (Rd.pick_f rfl rfl rfl) ?_
       refine WL.nil ?_
       exact ⟨by repeat (first | exact Sub.nil | refine Sub.cons rfl (by first | rfl | (exact vb_f (by unfold okC; omega))) ?_), by exact (fun _ h => h.thin (SubL.mem Z.S))⟩
    ·
     refine WC.ite rfl (fun hc3 => ?_) (fun hc3 => ?_)
     ·
      refine WC.seq ?_
      refine WC.region ?_
      refine WL.rd rfl rfl rfl (Rd.assign rfl rfl) ?_
      refine WL.nil ?_
      refine thenQ.normal ?_
      skip
      refine WC.ret (Ret.one Tryz.results58 rfl ?_)
      rw [decide_eq_false (fun h => hc3 (h.1 i Z.W))] at hk
      exact hk
     ·
      refine WC.skip ?_
      refine blockQ.normal ?_
      refine thenQ.normal ?_
      refine WC.region ?_
      refine WL.rd rfl rfl rfl (Rd.add rfl rfl rfl Z.W) ?_
      refine WL.rd rfl rfl rfl (Rd.move rfl rfl) ?_
      refine WL.nil ?_
      exact loopQ1.mk (i + 1) ⟨by omega, fun j hj => by
      rcases Nat.lt_or_ge j i with h | h
      · exact i2 j h
      · obtain rfl : j = i := by omega
        exact Decidable.not_not.1 hc3⟩ Z.W (by repeat (first | exact Sub.nil | refine Sub.cons rfl (by rfl) ?_)) Z.F
   ·
    obtain rfl : i = s.length := by omega
    refine WC.exit ?_
    refine thenQ.exit ?_
    refine loopQ1.exit ?_
    refine blockQ.exit ?_
    refine thenQ.normal ?_
    refine WC.seq ?_
    refine WC.region ?_
    refine WL.rd rfl rfl rfl (Rd.assign rfl rfl) ?_
    refine WL.nil ?_
    refine thenQ.normal ?_
    skip
    refine WC.ret (Ret.one Tryz.results58 rfl ?_)
    rw [decide_eq_true (show GoodP s from ⟨i2, by omega, by omega⟩)] at hk
    exact hk
end
end Go.Proofs.YtlbdpcadaojcbaaGreatDoor
namespace Go.Proofs.YtlbdpcadaojcbaaGreatDoor
open Go Go.SL
def EntP (l : List ET) (i : Nat) : Prop := GoodP l[i]!.1 ∧ l[i]!.2.length = 32 ∧ (0 < i → Op.bytesLess l[i - 1]!.1 l[i]!.1 = true)
def ParP (l : List (List UInt8)) (i : Nat) : Prop := l[i]!.length = 32 ∧ l[i]! ∉ l.take i
instance (l : List ET) (i : Nat) : Decidable (EntP l i) := by unfold EntP; infer_instance
instance (l : List (List UInt8)) (i : Nat) : Decidable (ParP l i) := by unfold ParP; infer_instance
def RightP (o : Ob) : Prop :=
 ((o.kind ≠ 1 → o.body = []) ∧ (o.kind ≠ 2 → o.ents = []) ∧ (o.kind ≠ 3 → o.tree = [] ∧ o.pars = [] ∧ o.author = [] ∧ o.time = 0) ∧ (o.kind ≠ 4 → o.target = [] ∧ o.name = []) ∧ (o.kind < 3 → o.text = [])) ∧
 (o.kind = 1 → o.body.length ≤ 262144) ∧ (o.kind = 2 → (∀ i, i < o.ents.length → EntP o.ents i) ∧ o.ents.length ≤ 4096) ∧
 (o.kind = 3 → (∀ i, i < o.pars.length → ParP o.pars i) ∧ o.tree.length = 32 ∧ o.pars.length ≤ 8 ∧ o.author.length ≤ 256 ∧ o.text.length ≤ 4096 ∧ 0 ≤ o.time ∧ o.time ≤ 1099511627776) ∧
 (o.kind = 4 → o.target.length = 32 ∧ GoodP o.name ∧ o.text.length ≤ 4096)
instance (o : Ob) : Decidable (RightP o) := by unfold RightP; infer_instance
def bareP (o x : Ob) : Prop := o.body = x.body ∧ o.ents.length = x.ents.length ∧ o.tree = x.tree ∧ o.pars.length = x.pars.length ∧ o.author = x.author ∧ o.text = x.text ∧ o.time = x.time ∧ o.target = x.target ∧ o.name = x.name
instance (o x : Ob) : Decidable (bareP o x) := by unfold bareP; infer_instance
theorem len0 {α : Type} {l : List α} : l.length = 0 ↔ l = [] := List.length_eq_zero_iff
section
variable {R : List RO} {O : List Own} {POST : Value → List RO → List Own → Prop} {b : Nat} {o : Ob} {ev pv : Value}
abbrev oRow (b : Nat) (o : Ob) (ev pv : Value) : Own := rowC b 30 (obC o ev pv)
set_option maxRecDepth 20000 in
set_option maxHeartbeats 1000000 in
theorem bare_spec {x : Ob} {xe xp : Value} (hb : oRow b o ev pv ∈ O) (he : SlE encT ev o.ents ∈ R) (hp : SlE (SL.one vs) pv o.pars ∈ R) (hxe : SlE encT xe x.ents ∈ R) (hxp : SlE (SL.one vs) xp x.pars ∈ R) (hk : POST (.bool (decide (bareP o x))) R O) :
 Fun Tryz.prog 57 #[.pointer (some ⟨b, 0, none⟩), obV x xe xp] R O POST := by
 refine Fun.oneV hxe fun ho1 => ?_
 refine Fun.oneV hxp fun ho2 => ?_
 refine Fun.enter (l := [_, _]) Tryz.func57 rfl Tryz.ntmps57 rfl (L0 := [(0, _), (1, _)]) rfl ?_
 refine WC.seq ?_
 refine WC.region ?_
 refine WL.op rfl ?_
 refine OpW.box rfl rfl Z.N rfl rfl ?_; intro b3
 refine WL.rd rfl rfl rfl (Rd.assign rfl rfl) ?_
 refine WL.nil ?_
 refine thenQ.normal ?_
 refine WC.pick [0, 3] Z.P ?_
 refine WC.val 4 (.bool (decide (bareP o x))) ?_ ?_
 ·
  refine WC.still mixed Z.K ?_
  refine WA.rd rfl rfl rfl (Rd.move rfl rfl) ?_
  refine WA.rd rfl rfl rfl (Rd.nilc rfl rfl) ?_
  refine WA.rd rfl rfl rfl ((by exact Rd.field rfl F30_1 rfl rfl)) ?_
  refine WA.rd rfl rfl rfl (Rd.row1 (b := b) (off := 1) rfl C9 rfl Z.M rfl) ?_
  refine WA.rd rfl rfl rfl ((by exact Rd.field rfl F30_1 rfl rfl)) ?_
  refine WA.rd rfl rfl rfl (Rd.row1 (b := b3) (off := 1) rfl C9 rfl Z.M rfl) ?_
  refine WA.rd rfl rfl rfl (Rd.seql rfl rfl rfl) ?_
  refine WA.rd rfl rfl rfl (Rd.move rfl rfl) ?_
  refine WA.case 12 rfl (fun hg12 => ?_) (fun hg12 => ?_)
  ·
   refine WA.rd_yes rfl rfl rfl rfl rfl rfl (Rd.move rfl rfl) ?_
   refine WA.rd_yes rfl rfl rfl rfl rfl rfl (Rd.nilc rfl rfl) ?_
   refine WA.rd_yes rfl rfl rfl rfl rfl rfl ((by exact Rd.field rfl F30_2 rfl rfl)) ?_
   refine WA.rd_yes rfl rfl rfl rfl rfl rfl (Rd.row1 (b := b) (off := 2) (u := ev) rfl C28 rfl Z.M rfl) ?_
   refine WA.rd_yes rfl rfl rfl rfl rfl rfl (Rd.lenE (enc := encT) (xs := o.ents) rfl rfl Tryz.underlying28 Z.M) ?_
   refine WA.rd_yes rfl rfl rfl rfl rfl rfl ((by exact Rd.field rfl F30_2 rfl rfl)) ?_
   refine WA.rd_yes rfl rfl rfl rfl rfl rfl (Rd.row1 (b := b3) (off := 2) (u := xe) rfl C28 rfl Z.M rfl) ?_
   refine WA.rd_yes rfl rfl rfl rfl rfl rfl (Rd.lenE (enc := encT) (xs := x.ents) rfl rfl Tryz.underlying28 Z.M) ?_
   refine WA.rd_yes rfl rfl rfl rfl rfl rfl (Rd.eql rfl rfl rfl) ?_
   refine WA.rd rfl rfl rfl (Rd.pick_t rfl rfl rfl) ?_
   refine WA.rd rfl rfl rfl (Rd.move rfl rfl) ?_
   refine WA.case 23 rfl (fun hg23 => ?_) (fun hg23 => ?_)
   ·
    refine WA.rd_yes rfl rfl rfl rfl rfl rfl (Rd.move rfl rfl) ?_
    refine WA.rd_yes rfl rfl rfl rfl rfl rfl (Rd.nilc rfl rfl) ?_
    refine WA.rd_yes rfl rfl rfl rfl rfl rfl ((by exact Rd.field rfl F30_3 rfl rfl)) ?_
    refine WA.rd_yes rfl rfl rfl rfl rfl rfl (Rd.row1 (b := b) (off := 3) rfl C9 rfl Z.M rfl) ?_
    refine WA.rd_yes rfl rfl rfl rfl rfl rfl ((by exact Rd.field rfl F30_3 rfl rfl)) ?_
    refine WA.rd_yes rfl rfl rfl rfl rfl rfl (Rd.row1 (b := b3) (off := 3) rfl C9 rfl Z.M rfl) ?_
    refine WA.rd_yes rfl rfl rfl rfl rfl rfl (Rd.seql rfl rfl rfl) ?_
    refine WA.rd rfl rfl rfl (Rd.pick_t rfl rfl rfl) ?_
    refine WA.rd rfl rfl rfl (Rd.move rfl rfl) ?_
    refine WA.case 32 rfl (fun hg32 => ?_) (fun hg32 => ?_)
    ·
     refine WA.rd_yes rfl rfl rfl rfl rfl rfl (Rd.move rfl rfl) ?_
     refine WA.rd_yes rfl rfl rfl rfl rfl rfl (Rd.nilc rfl rfl) ?_
     refine WA.rd_yes rfl rfl rfl rfl rfl rfl ((by exact Rd.field rfl F30_4 rfl rfl)) ?_
     refine WA.rd_yes rfl rfl rfl rfl rfl rfl (Rd.row1 (b := b) (off := 4) (u := pv) rfl C22 rfl Z.M rfl) ?_
     refine WA.rd_yes rfl rfl rfl rfl rfl rfl (Rd.lenE (enc := SL.one vs) (xs := o.pars) rfl rfl Tryz.underlying22 Z.M) ?_
     refine WA.rd_yes rfl rfl rfl rfl rfl rfl ((by exact Rd.field rfl F30_4 rfl rfl)) ?_
     refine WA.rd_yes rfl rfl rfl rfl rfl rfl (Rd.row1 (b := b3) (off := 4) (u := xp) rfl C22 rfl Z.M rfl) ?_
     refine WA.rd_yes rfl rfl rfl rfl rfl rfl (Rd.lenE (enc := SL.one vs) (xs := x.pars) rfl rfl Tryz.underlying22 Z.M) ?_
     refine WA.rd_yes rfl rfl rfl rfl rfl rfl (Rd.eql rfl rfl rfl) ?_
     refine WA.rd rfl rfl rfl (Rd.pick_t rfl rfl rfl) ?_
     refine WA.rd rfl rfl rfl (Rd.move rfl rfl) ?_
     refine WA.case 43 rfl (fun hg43 => ?_) (fun hg43 => ?_)
     ·
      refine WA.rd_yes rfl rfl rfl rfl rfl rfl (Rd.move rfl rfl) ?_
      refine WA.rd_yes rfl rfl rfl rfl rfl rfl (Rd.nilc rfl rfl) ?_
      refine WA.rd_yes rfl rfl rfl rfl rfl rfl ((by exact Rd.field rfl F30_5 rfl rfl)) ?_
      refine WA.rd_yes rfl rfl rfl rfl rfl rfl (Rd.row1 (b := b) (off := 5) rfl C9 rfl Z.M rfl) ?_
      refine WA.rd_yes rfl rfl rfl rfl rfl rfl ((by exact Rd.field rfl F30_5 rfl rfl)) ?_
      refine WA.rd_yes rfl rfl rfl rfl rfl rfl (Rd.row1 (b := b3) (off := 5) rfl C9 rfl Z.M rfl) ?_
      refine WA.rd_yes rfl rfl rfl rfl rfl rfl (Rd.seql rfl rfl rfl) ?_
      refine WA.rd rfl rfl rfl (Rd.pick_t rfl rfl rfl) ?_
      refine WA.rd rfl rfl rfl (Rd.move rfl rfl) ?_
      refine WA.case 52 rfl (fun hg52 => ?_) (fun hg52 => ?_)
      ·
       refine WA.rd_yes rfl rfl rfl rfl rfl rfl (Rd.move rfl rfl) ?_
       refine WA.rd_yes rfl rfl rfl rfl rfl rfl (Rd.nilc rfl rfl) ?_
       refine WA.rd_yes rfl rfl rfl rfl rfl rfl ((by exact Rd.field rfl F30_6 rfl rfl)) ?_
       refine WA.rd_yes rfl rfl rfl rfl rfl rfl (Rd.row1 (b := b) (off := 6) rfl C9 rfl Z.M rfl) ?_
       refine WA.rd_yes rfl rfl rfl rfl rfl rfl ((by exact Rd.field rfl F30_6 rfl rfl)) ?_
       refine WA.rd_yes rfl rfl rfl rfl rfl rfl (Rd.row1 (b := b3) (off := 6) rfl C9 rfl Z.M rfl) ?_
       refine WA.rd_yes rfl rfl rfl rfl rfl rfl (Rd.seql rfl rfl rfl) ?_
       refine WA.rd rfl rfl rfl (Rd.pick_t rfl rfl rfl) ?_
       refine WA.rd rfl rfl rfl (Rd.move rfl rfl) ?_
       refine WA.case 61 rfl (fun hg61 => ?_) (fun hg61 => ?_)
       ·
        refine WA.rd_yes rfl rfl rfl rfl rfl rfl (Rd.move rfl rfl) ?_
        refine WA.rd_yes rfl rfl rfl rfl rfl rfl (Rd.nilc rfl rfl) ?_
        refine WA.rd_yes rfl rfl rfl rfl rfl rfl ((by exact Rd.field rfl F30_7 rfl rfl)) ?_
        refine WA.rd_yes rfl rfl rfl rfl rfl rfl (Rd.row1 (b := b) (off := 7) rfl C3 rfl Z.M rfl) ?_
        refine WA.rd_yes rfl rfl rfl rfl rfl rfl ((by exact Rd.field rfl F30_7 rfl rfl)) ?_
        refine WA.rd_yes rfl rfl rfl rfl rfl rfl (Rd.row1 (b := b3) (off := 7) rfl C3 rfl Z.M rfl) ?_
        refine WA.rd_yes rfl rfl rfl rfl rfl rfl (Rd.eql rfl rfl rfl) ?_
        refine WA.rd rfl rfl rfl (Rd.pick_t rfl rfl rfl) ?_
        refine WA.rd rfl rfl rfl (Rd.move rfl rfl) ?_
        refine WA.case 70 rfl (fun hg70 => ?_) (fun hg70 => ?_)
        ·
         refine WA.rd_yes rfl rfl rfl rfl rfl rfl (Rd.move rfl rfl) ?_
         refine WA.rd_yes rfl rfl rfl rfl rfl rfl (Rd.nilc rfl rfl) ?_
         refine WA.rd_yes rfl rfl rfl rfl rfl rfl ((by exact Rd.field rfl F30_8 rfl rfl)) ?_
         refine WA.rd_yes rfl rfl rfl rfl rfl rfl (Rd.row1 (b := b) (off := 8) rfl C9 rfl Z.M rfl) ?_
         refine WA.rd_yes rfl rfl rfl rfl rfl rfl ((by exact Rd.field rfl F30_8 rfl rfl)) ?_
         refine WA.rd_yes rfl rfl rfl rfl rfl rfl (Rd.row1 (b := b3) (off := 8) rfl C9 rfl Z.M rfl) ?_
         refine WA.rd_yes rfl rfl rfl rfl rfl rfl (Rd.seql rfl rfl rfl) ?_
         refine WA.rd rfl rfl rfl (Rd.pick_t rfl rfl rfl) ?_
         refine WA.rd rfl rfl rfl (Rd.move rfl rfl) ?_
         refine WA.case 79 rfl (fun hg79 => ?_) (fun hg79 => ?_)
         ·
          refine WA.rd_yes rfl rfl rfl rfl rfl rfl (Rd.move rfl rfl) ?_
          refine WA.rd_yes rfl rfl rfl rfl rfl rfl (Rd.nilc rfl rfl) ?_
          refine WA.rd_yes rfl rfl rfl rfl rfl rfl ((by exact Rd.field rfl F30_9 rfl rfl)) ?_
          refine WA.rd_yes rfl rfl rfl rfl rfl rfl (Rd.row1 (b := b) (off := 9) rfl C9 rfl Z.M rfl) ?_
          refine WA.rd_yes rfl rfl rfl rfl rfl rfl ((by exact Rd.field rfl F30_9 rfl rfl)) ?_
          refine WA.rd_yes rfl rfl rfl rfl rfl rfl (Rd.row1 (b := b3) (off := 9) rfl C9 rfl Z.M rfl) ?_
          refine WA.rd_yes rfl rfl rfl rfl rfl rfl (Rd.seql rfl rfl rfl) ?_
          refine WA.rd rfl rfl rfl (Rd.pick_t rfl rfl rfl) ?_
          refine WA.rd rfl rfl rfl (Rd.assign rfl rfl) ?_
          refine WA.nil ?_
          exact ⟨by repeat (first | exact Sub.nil | refine Sub.cons rfl (by first | rfl | (exact vb ⟨fun h => ⟨hg12, by omega, hg32, by omega, hg52, hg61, hg70, hg79, h⟩, fun h => h.2.2.2.2.2.2.2.2⟩)) ?_), by exact (fun _ h => h.thin (SubL.mem Z.S))⟩
         ·
          refine WA.no rfl rfl rfl rfl rfl rfl ?_
          refine WA.no rfl rfl rfl rfl rfl rfl ?_
          refine WA.no rfl rfl rfl rfl rfl rfl ?_
          refine WA.no rfl rfl rfl rfl rfl rfl ?_
          refine WA.no rfl rfl rfl rfl rfl rfl ?_
          refine WA.no rfl rfl rfl rfl rfl rfl ?_
          refine WA.no rfl rfl rfl rfl rfl rfl ?_
          refine WA.rd rfl rfl rfl (Rd.pick_f rfl rfl rfl) ?_
          refine WA.rd rfl rfl rfl (Rd.assign rfl rfl) ?_
          refine WA.nil ?_
          exact ⟨by repeat (first | exact Sub.nil | refine Sub.cons rfl (by first | rfl | ((refine vb_f ?_; rintro ⟨a1, a2, a3, a4, a5, a6, a7, a8, a9⟩; first | contradiction | omega))) ?_), by exact (fun _ h => h.thin (SubL.mem Z.S))⟩
        ·
         refine WA.no rfl rfl rfl rfl rfl rfl ?_
         refine WA.no rfl rfl rfl rfl rfl rfl ?_
         refine WA.no rfl rfl rfl rfl rfl rfl ?_
         refine WA.no rfl rfl rfl rfl rfl rfl ?_
         refine WA.no rfl rfl rfl rfl rfl rfl ?_
         refine WA.no rfl rfl rfl rfl rfl rfl ?_
         refine WA.no rfl rfl rfl rfl rfl rfl ?_
         refine WA.rd rfl rfl rfl (Rd.pick_f rfl rfl rfl) ?_
         refine WA.rd rfl rfl rfl (Rd.move rfl rfl) ?_
         refine WA.no rfl rfl rfl rfl rfl rfl ?_
         refine WA.no rfl rfl rfl rfl rfl rfl ?_
         refine WA.no rfl rfl rfl rfl rfl rfl ?_
         refine WA.no rfl rfl rfl rfl rfl rfl ?_
         refine WA.no rfl rfl rfl rfl rfl rfl ?_
         refine WA.no rfl rfl rfl rfl rfl rfl ?_
         refine WA.no rfl rfl rfl rfl rfl rfl ?_
         refine WA.rd rfl rfl rfl (Rd.pick_f rfl rfl rfl) ?_
         refine WA.rd rfl rfl rfl (Rd.assign rfl rfl) ?_
         refine WA.nil ?_
         exact ⟨by repeat (first | exact Sub.nil | refine Sub.cons rfl (by first | rfl | ((refine vb_f ?_; rintro ⟨a1, a2, a3, a4, a5, a6, a7, a8, a9⟩; first | contradiction | omega))) ?_), by exact (fun _ h => h.thin (SubL.mem Z.S))⟩
       ·
        refine WA.no rfl rfl rfl rfl rfl rfl ?_
        refine WA.no rfl rfl rfl rfl rfl rfl ?_
        refine WA.no rfl rfl rfl rfl rfl rfl ?_
        refine WA.no rfl rfl rfl rfl rfl rfl ?_
        refine WA.no rfl rfl rfl rfl rfl rfl ?_
        refine WA.no rfl rfl rfl rfl rfl rfl ?_
        refine WA.no rfl rfl rfl rfl rfl rfl ?_
        refine WA.rd rfl rfl rfl (Rd.pick_f rfl rfl rfl) ?_
        refine WA.rd rfl rfl rfl (Rd.move rfl rfl) ?_
        refine WA.no rfl rfl rfl rfl rfl rfl ?_
        refine WA.no rfl rfl rfl rfl rfl rfl ?_
        refine WA.no rfl rfl rfl rfl rfl rfl ?_
        refine WA.no rfl rfl rfl rfl rfl rfl ?_
        refine WA.no rfl rfl rfl rfl rfl rfl ?_
        refine WA.no rfl rfl rfl rfl rfl rfl ?_
        refine WA.no rfl rfl rfl rfl rfl rfl ?_
        refine WA.rd rfl rfl rfl (Rd.pick_f rfl rfl rfl) ?_
        refine WA.rd rfl rfl rfl (Rd.move rfl rfl) ?_
        refine WA.no rfl rfl rfl rfl rfl rfl ?_
        refine WA.no rfl rfl rfl rfl rfl rfl ?_
        refine WA.no rfl rfl rfl rfl rfl rfl ?_
        refine WA.no rfl rfl rfl rfl rfl rfl ?_
        refine WA.no rfl rfl rfl rfl rfl rfl ?_
        refine WA.no rfl rfl rfl rfl rfl rfl ?_
        refine WA.no rfl rfl rfl rfl rfl rfl ?_
        refine WA.rd rfl rfl rfl (Rd.pick_f rfl rfl rfl) ?_
        refine WA.rd rfl rfl rfl (Rd.assign rfl rfl) ?_
        refine WA.nil ?_
        exact ⟨by repeat (first | exact Sub.nil | refine Sub.cons rfl (by first | rfl | ((refine vb_f ?_; rintro ⟨a1, a2, a3, a4, a5, a6, a7, a8, a9⟩; first | contradiction | omega))) ?_), by exact (fun _ h => h.thin (SubL.mem Z.S))⟩
      ·
       refine WA.no rfl rfl rfl rfl rfl rfl ?_
       refine WA.no rfl rfl rfl rfl rfl rfl ?_
       refine WA.no rfl rfl rfl rfl rfl rfl ?_
       refine WA.no rfl rfl rfl rfl rfl rfl ?_
       refine WA.no rfl rfl rfl rfl rfl rfl ?_
       refine WA.no rfl rfl rfl rfl rfl rfl ?_
       refine WA.no rfl rfl rfl rfl rfl rfl ?_
       refine WA.rd rfl rfl rfl (Rd.pick_f rfl rfl rfl) ?_
       refine WA.rd rfl rfl rfl (Rd.move rfl rfl) ?_
       refine WA.no rfl rfl rfl rfl rfl rfl ?_
       refine WA.no rfl rfl rfl rfl rfl rfl ?_
       refine WA.no rfl rfl rfl rfl rfl rfl ?_
       refine WA.no rfl rfl rfl rfl rfl rfl ?_
       refine WA.no rfl rfl rfl rfl rfl rfl ?_
       refine WA.no rfl rfl rfl rfl rfl rfl ?_
       refine WA.no rfl rfl rfl rfl rfl rfl ?_
       refine WA.rd rfl rfl rfl (Rd.pick_f rfl rfl rfl) ?_
       refine WA.rd rfl rfl rfl (Rd.move rfl rfl) ?_
       refine WA.no rfl rfl rfl rfl rfl rfl ?_
       refine WA.no rfl rfl rfl rfl rfl rfl ?_
       refine WA.no rfl rfl rfl rfl rfl rfl ?_
       refine WA.no rfl rfl rfl rfl rfl rfl ?_
       refine WA.no rfl rfl rfl rfl rfl rfl ?_
       refine WA.no rfl rfl rfl rfl rfl rfl ?_
       refine WA.no rfl rfl rfl rfl rfl rfl ?_
       refine WA.rd rfl rfl rfl (Rd.pick_f rfl rfl rfl) ?_
       refine WA.rd rfl rfl rfl (Rd.move rfl rfl) ?_
       refine WA.no rfl rfl rfl rfl rfl rfl ?_
       refine WA.no rfl rfl rfl rfl rfl rfl ?_
       refine WA.no rfl rfl rfl rfl rfl rfl ?_
       refine WA.no rfl rfl rfl rfl rfl rfl ?_
       refine WA.no rfl rfl rfl rfl rfl rfl ?_
       refine WA.no rfl rfl rfl rfl rfl rfl ?_
       refine WA.no rfl rfl rfl rfl rfl rfl ?_
       refine WA.rd rfl rfl rfl (Rd.pick_f rfl rfl rfl) ?_
       refine WA.rd rfl rfl rfl (Rd.assign rfl rfl) ?_
       refine WA.nil ?_
       exact ⟨by repeat (first | exact Sub.nil | refine Sub.cons rfl (by first | rfl | ((refine vb_f ?_; rintro ⟨a1, a2, a3, a4, a5, a6, a7, a8, a9⟩; first | contradiction | omega))) ?_), by exact (fun _ h => h.thin (SubL.mem Z.S))⟩
     ·
      refine WA.no rfl rfl rfl rfl rfl rfl ?_
      refine WA.no rfl rfl rfl rfl rfl rfl ?_
      refine WA.no rfl rfl rfl rfl rfl rfl ?_
      refine WA.no rfl rfl rfl rfl rfl rfl ?_
      refine WA.no rfl rfl rfl rfl rfl rfl ?_
      refine WA.no rfl rfl rfl rfl rfl rfl ?_
      refine WA.no rfl rfl rfl rfl rfl rfl ?_
      refine WA.rd rfl rfl rfl (Rd.pick_f rfl rfl rfl) ?_
      refine WA.rd rfl rfl rfl (Rd.move rfl rfl) ?_
      refine WA.no rfl rfl rfl rfl rfl rfl ?_
      refine WA.no rfl rfl rfl rfl rfl rfl ?_
      refine WA.no rfl rfl rfl rfl rfl rfl ?_
      refine WA.no rfl rfl rfl rfl rfl rfl ?_
      refine WA.no rfl rfl rfl rfl rfl rfl ?_
      refine WA.no rfl rfl rfl rfl rfl rfl ?_
      refine WA.no rfl rfl rfl rfl rfl rfl ?_
      refine WA.rd rfl rfl rfl (Rd.pick_f rfl rfl rfl) ?_
      refine WA.rd rfl rfl rfl (Rd.move rfl rfl) ?_
      refine WA.no rfl rfl rfl rfl rfl rfl ?_
      refine WA.no rfl rfl rfl rfl rfl rfl ?_
      refine WA.no rfl rfl rfl rfl rfl rfl ?_
      refine WA.no rfl rfl rfl rfl rfl rfl ?_
      refine WA.no rfl rfl rfl rfl rfl rfl ?_
      refine WA.no rfl rfl rfl rfl rfl rfl ?_
      refine WA.no rfl rfl rfl rfl rfl rfl ?_
      refine WA.rd rfl rfl rfl (Rd.pick_f rfl rfl rfl) ?_
      refine WA.rd rfl rfl rfl (Rd.move rfl rfl) ?_
      refine WA.no rfl rfl rfl rfl rfl rfl ?_
      refine WA.no rfl rfl rfl rfl rfl rfl ?_
      refine WA.no rfl rfl rfl rfl rfl rfl ?_
      refine WA.no rfl rfl rfl rfl rfl rfl ?_
      refine WA.no rfl rfl rfl rfl rfl rfl ?_
      refine WA.no rfl rfl rfl rfl rfl rfl ?_
      refine WA.no rfl rfl rfl rfl rfl rfl ?_
      refine WA.rd rfl rfl rfl (Rd.pick_f rfl rfl rfl) ?_
      refine WA.rd rfl rfl rfl (Rd.move rfl rfl) ?_
      refine WA.no rfl rfl rfl rfl rfl rfl ?_
      refine WA.no rfl rfl rfl rfl rfl rfl ?_
      refine WA.no rfl rfl rfl rfl rfl rfl ?_
      refine WA.no rfl rfl rfl rfl rfl rfl ?_
      refine WA.no rfl rfl rfl rfl rfl rfl ?_
      refine WA.no rfl rfl rfl rfl rfl rfl ?_
      refine WA.no rfl rfl rfl rfl rfl rfl ?_
      refine WA.rd rfl rfl rfl (Rd.pick_f rfl rfl rfl) ?_
      refine WA.rd rfl rfl rfl (Rd.assign rfl rfl) ?_
      refine WA.nil ?_
      exact ⟨by repeat (first | exact Sub.nil | refine Sub.cons rfl (by first | rfl | ((refine vb_f ?_; rintro ⟨a1, a2, a3, a4, a5, a6, a7, a8, a9⟩; first | contradiction | omega))) ?_), by exact (fun _ h => h.thin (SubL.mem Z.S))⟩
    ·
     refine WA.no rfl rfl rfl rfl rfl rfl ?_
     refine WA.no rfl rfl rfl rfl rfl rfl ?_
     refine WA.no rfl rfl rfl rfl rfl rfl ?_
     refine WA.no rfl rfl rfl rfl rfl rfl ?_
     refine WA.no rfl rfl rfl rfl rfl rfl ?_
     refine WA.no rfl rfl rfl rfl rfl rfl ?_
     refine WA.no rfl rfl rfl rfl rfl rfl ?_
     refine WA.no rfl rfl rfl rfl rfl rfl ?_
     refine WA.no rfl rfl rfl rfl rfl rfl ?_
     refine WA.rd rfl rfl rfl (Rd.pick_f rfl rfl rfl) ?_
     refine WA.rd rfl rfl rfl (Rd.move rfl rfl) ?_
     refine WA.no rfl rfl rfl rfl rfl rfl ?_
     refine WA.no rfl rfl rfl rfl rfl rfl ?_
     refine WA.no rfl rfl rfl rfl rfl rfl ?_
     refine WA.no rfl rfl rfl rfl rfl rfl ?_
     refine WA.no rfl rfl rfl rfl rfl rfl ?_
     refine WA.no rfl rfl rfl rfl rfl rfl ?_
     refine WA.no rfl rfl rfl rfl rfl rfl ?_
     refine WA.rd rfl rfl rfl (Rd.pick_f rfl rfl rfl) ?_
     refine WA.rd rfl rfl rfl (Rd.move rfl rfl) ?_
     refine WA.no rfl rfl rfl rfl rfl rfl ?_
     refine WA.no rfl rfl rfl rfl rfl rfl ?_
     refine WA.no rfl rfl rfl rfl rfl rfl ?_
     refine WA.no rfl rfl rfl rfl rfl rfl ?_
     refine WA.no rfl rfl rfl rfl rfl rfl ?_
     refine WA.no rfl rfl rfl rfl rfl rfl ?_
     refine WA.no rfl rfl rfl rfl rfl rfl ?_
     refine WA.rd rfl rfl rfl (Rd.pick_f rfl rfl rfl) ?_
     refine WA.rd rfl rfl rfl (Rd.move rfl rfl) ?_
     refine WA.no rfl rfl rfl rfl rfl rfl ?_
     refine WA.no rfl rfl rfl rfl rfl rfl ?_
     refine WA.no rfl rfl rfl rfl rfl rfl ?_
     refine WA.no rfl rfl rfl rfl rfl rfl ?_
     refine WA.no rfl rfl rfl rfl rfl rfl ?_
     refine WA.no rfl rfl rfl rfl rfl rfl ?_
     refine WA.no rfl rfl rfl rfl rfl rfl ?_
     refine WA.rd rfl rfl rfl (Rd.pick_f rfl rfl rfl) ?_
     refine WA.rd rfl rfl rfl (Rd.move rfl rfl) ?_
     refine WA.no rfl rfl rfl rfl rfl rfl ?_
     refine WA.no rfl rfl rfl rfl rfl rfl ?_
     refine WA.no rfl rfl rfl rfl rfl rfl ?_
     refine WA.no rfl rfl rfl rfl rfl rfl ?_
     refine WA.no rfl rfl rfl rfl rfl rfl ?_
     refine WA.no rfl rfl rfl rfl rfl rfl ?_
     refine WA.no rfl rfl rfl rfl rfl rfl ?_
     refine WA.rd rfl rfl rfl (Rd.pick_f rfl rfl rfl) ?_
     refine WA.rd rfl rfl rfl (Rd.move rfl rfl) ?_
     refine WA.no rfl rfl rfl rfl rfl rfl ?_
     refine WA.no rfl rfl rfl rfl rfl rfl ?_
     refine WA.no rfl rfl rfl rfl rfl rfl ?_
     refine WA.no rfl rfl rfl rfl rfl rfl ?_
     refine WA.no rfl rfl rfl rfl rfl rfl ?_
     refine WA.no rfl rfl rfl rfl rfl rfl ?_
     refine WA.no rfl rfl rfl rfl rfl rfl ?_
     refine WA.rd rfl rfl rfl (Rd.pick_f rfl rfl rfl) ?_
     refine WA.rd rfl rfl rfl (Rd.assign rfl rfl) ?_
     refine WA.nil ?_
     exact ⟨by repeat (first | exact Sub.nil | refine Sub.cons rfl (by first | rfl | ((refine vb_f ?_; rintro ⟨a1, a2, a3, a4, a5, a6, a7, a8, a9⟩; first | contradiction | omega))) ?_), by exact (fun _ h => h.thin (SubL.mem Z.S))⟩
   ·
    refine WA.no rfl rfl rfl rfl rfl rfl ?_
    refine WA.no rfl rfl rfl rfl rfl rfl ?_
    refine WA.no rfl rfl rfl rfl rfl rfl ?_
    refine WA.no rfl rfl rfl rfl rfl rfl ?_
    refine WA.no rfl rfl rfl rfl rfl rfl ?_
    refine WA.no rfl rfl rfl rfl rfl rfl ?_
    refine WA.no rfl rfl rfl rfl rfl rfl ?_
    refine WA.rd rfl rfl rfl (Rd.pick_f rfl rfl rfl) ?_
    refine WA.rd rfl rfl rfl (Rd.move rfl rfl) ?_
    refine WA.no rfl rfl rfl rfl rfl rfl ?_
    refine WA.no rfl rfl rfl rfl rfl rfl ?_
    refine WA.no rfl rfl rfl rfl rfl rfl ?_
    refine WA.no rfl rfl rfl rfl rfl rfl ?_
    refine WA.no rfl rfl rfl rfl rfl rfl ?_
    refine WA.no rfl rfl rfl rfl rfl rfl ?_
    refine WA.no rfl rfl rfl rfl rfl rfl ?_
    refine WA.no rfl rfl rfl rfl rfl rfl ?_
    refine WA.no rfl rfl rfl rfl rfl rfl ?_
    refine WA.rd rfl rfl rfl (Rd.pick_f rfl rfl rfl) ?_
    refine WA.rd rfl rfl rfl (Rd.move rfl rfl) ?_
    refine WA.no rfl rfl rfl rfl rfl rfl ?_
    refine WA.no rfl rfl rfl rfl rfl rfl ?_
    refine WA.no rfl rfl rfl rfl rfl rfl ?_
    refine WA.no rfl rfl rfl rfl rfl rfl ?_
    refine WA.no rfl rfl rfl rfl rfl rfl ?_
    refine WA.no rfl rfl rfl rfl rfl rfl ?_
    refine WA.no rfl rfl rfl rfl rfl rfl ?_
    refine WA.rd rfl rfl rfl (Rd.pick_f rfl rfl rfl) ?_
    refine WA.rd rfl rfl rfl (Rd.move rfl rfl) ?_
    refine WA.no rfl rfl rfl rfl rfl rfl ?_
    refine WA.no rfl rfl rfl rfl rfl rfl ?_
    refine WA.no rfl rfl rfl rfl rfl rfl ?_
    refine WA.no rfl rfl rfl rfl rfl rfl ?_
    refine WA.no rfl rfl rfl rfl rfl rfl ?_
    refine WA.no rfl rfl rfl rfl rfl rfl ?_
    refine WA.no rfl rfl rfl rfl rfl rfl ?_
    refine WA.rd rfl rfl rfl (Rd.pick_f rfl rfl rfl) ?_
    refine WA.rd rfl rfl rfl (Rd.move rfl rfl) ?_
    refine WA.no rfl rfl rfl rfl rfl rfl ?_
    refine WA.no rfl rfl rfl rfl rfl rfl ?_
    refine WA.no rfl rfl rfl rfl rfl rfl ?_
    refine WA.no rfl rfl rfl rfl rfl rfl ?_
    refine WA.no rfl rfl rfl rfl rfl rfl ?_
    refine WA.no rfl rfl rfl rfl rfl rfl ?_
    refine WA.no rfl rfl rfl rfl rfl rfl ?_
    refine WA.rd rfl rfl rfl (Rd.pick_f rfl rfl rfl) ?_
    refine WA.rd rfl rfl rfl (Rd.move rfl rfl) ?_
    refine WA.no rfl rfl rfl rfl rfl rfl ?_
    refine WA.no rfl rfl rfl rfl rfl rfl ?_
    refine WA.no rfl rfl rfl rfl rfl rfl ?_
    refine WA.no rfl rfl rfl rfl rfl rfl ?_
    refine WA.no rfl rfl rfl rfl rfl rfl ?_
    refine WA.no rfl rfl rfl rfl rfl rfl ?_
    refine WA.no rfl rfl rfl rfl rfl rfl ?_
    refine WA.rd rfl rfl rfl (Rd.pick_f rfl rfl rfl) ?_
    refine WA.rd rfl rfl rfl (Rd.move rfl rfl) ?_
    refine WA.no rfl rfl rfl rfl rfl rfl ?_
    refine WA.no rfl rfl rfl rfl rfl rfl ?_
    refine WA.no rfl rfl rfl rfl rfl rfl ?_
    refine WA.no rfl rfl rfl rfl rfl rfl ?_
    refine WA.no rfl rfl rfl rfl rfl rfl ?_
    refine WA.no rfl rfl rfl rfl rfl rfl ?_
    refine WA.no rfl rfl rfl rfl rfl rfl ?_
    refine WA.rd rfl rfl rfl (Rd.pick_f rfl rfl rfl) ?_
    refine WA.rd rfl rfl rfl (Rd.assign rfl rfl) ?_
    refine WA.nil ?_
    exact ⟨by repeat (first | exact Sub.nil | refine Sub.cons rfl (by first | rfl | ((refine vb_f ?_; rintro ⟨a1, a2, a3, a4, a5, a6, a7, a8, a9⟩; first | contradiction | omega))) ?_), by exact (fun _ h => h.thin (SubL.mem Z.S))⟩
  ·
   refine WA.no rfl rfl rfl rfl rfl rfl ?_
   refine WA.no rfl rfl rfl rfl rfl rfl ?_
   refine WA.no rfl rfl rfl rfl rfl rfl ?_
   refine WA.no rfl rfl rfl rfl rfl rfl ?_
   refine WA.no rfl rfl rfl rfl rfl rfl ?_
   refine WA.no rfl rfl rfl rfl rfl rfl ?_
   refine WA.no rfl rfl rfl rfl rfl rfl ?_
   refine WA.no rfl rfl rfl rfl rfl rfl ?_
   refine WA.no rfl rfl rfl rfl rfl rfl ?_
   refine WA.rd rfl rfl rfl (Rd.pick_f rfl rfl rfl) ?_
   refine WA.rd rfl rfl rfl (Rd.move rfl rfl) ?_
   refine WA.no rfl rfl rfl rfl rfl rfl ?_
   refine WA.no rfl rfl rfl rfl rfl rfl ?_
   refine WA.no rfl rfl rfl rfl rfl rfl ?_
   refine WA.no rfl rfl rfl rfl rfl rfl ?_
   refine WA.no rfl rfl rfl rfl rfl rfl ?_
   refine WA.no rfl rfl rfl rfl rfl rfl ?_
   refine WA.no rfl rfl rfl rfl rfl rfl ?_
   refine WA.rd rfl rfl rfl (Rd.pick_f rfl rfl rfl) ?_
   refine WA.rd rfl rfl rfl (Rd.move rfl rfl) ?_
   refine WA.no rfl rfl rfl rfl rfl rfl ?_
   refine WA.no rfl rfl rfl rfl rfl rfl ?_
   refine WA.no rfl rfl rfl rfl rfl rfl ?_
   refine WA.no rfl rfl rfl rfl rfl rfl ?_
   refine WA.no rfl rfl rfl rfl rfl rfl ?_
   refine WA.no rfl rfl rfl rfl rfl rfl ?_
   refine WA.no rfl rfl rfl rfl rfl rfl ?_
   refine WA.no rfl rfl rfl rfl rfl rfl ?_
   refine WA.no rfl rfl rfl rfl rfl rfl ?_
   refine WA.rd rfl rfl rfl (Rd.pick_f rfl rfl rfl) ?_
   refine WA.rd rfl rfl rfl (Rd.move rfl rfl) ?_
   refine WA.no rfl rfl rfl rfl rfl rfl ?_
   refine WA.no rfl rfl rfl rfl rfl rfl ?_
   refine WA.no rfl rfl rfl rfl rfl rfl ?_
   refine WA.no rfl rfl rfl rfl rfl rfl ?_
   refine WA.no rfl rfl rfl rfl rfl rfl ?_
   refine WA.no rfl rfl rfl rfl rfl rfl ?_
   refine WA.no rfl rfl rfl rfl rfl rfl ?_
   refine WA.rd rfl rfl rfl (Rd.pick_f rfl rfl rfl) ?_
   refine WA.rd rfl rfl rfl (Rd.move rfl rfl) ?_
   refine WA.no rfl rfl rfl rfl rfl rfl ?_
   refine WA.no rfl rfl rfl rfl rfl rfl ?_
   refine WA.no rfl rfl rfl rfl rfl rfl ?_
   refine WA.no rfl rfl rfl rfl rfl rfl ?_
   refine WA.no rfl rfl rfl rfl rfl rfl ?_
   refine WA.no rfl rfl rfl rfl rfl rfl ?_
   refine WA.no rfl rfl rfl rfl rfl rfl ?_
   refine WA.rd rfl rfl rfl (Rd.pick_f rfl rfl rfl) ?_
   refine WA.rd rfl rfl rfl (Rd.move rfl rfl) ?_
   refine WA.no rfl rfl rfl rfl rfl rfl ?_
   refine WA.no rfl rfl rfl rfl rfl rfl ?_
   refine WA.no rfl rfl rfl rfl rfl rfl ?_
   refine WA.no rfl rfl rfl rfl rfl rfl ?_
   refine WA.no rfl rfl rfl rfl rfl rfl ?_
   refine WA.no rfl rfl rfl rfl rfl rfl ?_
   refine WA.no rfl rfl rfl rfl rfl rfl ?_
   refine WA.rd rfl rfl rfl (Rd.pick_f rfl rfl rfl) ?_
   refine WA.rd rfl rfl rfl (Rd.move rfl rfl) ?_
   refine WA.no rfl rfl rfl rfl rfl rfl ?_
   refine WA.no rfl rfl rfl rfl rfl rfl ?_
   refine WA.no rfl rfl rfl rfl rfl rfl ?_
   refine WA.no rfl rfl rfl rfl rfl rfl ?_
   refine WA.no rfl rfl rfl rfl rfl rfl ?_
   refine WA.no rfl rfl rfl rfl rfl rfl ?_
   refine WA.no rfl rfl rfl rfl rfl rfl ?_
   refine WA.rd rfl rfl rfl (Rd.pick_f rfl rfl rfl) ?_
   refine WA.rd rfl rfl rfl (Rd.move rfl rfl) ?_
   refine WA.no rfl rfl rfl rfl rfl rfl ?_
   refine WA.no rfl rfl rfl rfl rfl rfl ?_
   refine WA.no rfl rfl rfl rfl rfl rfl ?_
   refine WA.no rfl rfl rfl rfl rfl rfl ?_
   refine WA.no rfl rfl rfl rfl rfl rfl ?_
   refine WA.no rfl rfl rfl rfl rfl rfl ?_
   refine WA.no rfl rfl rfl rfl rfl rfl ?_
   refine WA.rd rfl rfl rfl (Rd.pick_f rfl rfl rfl) ?_
   refine WA.rd rfl rfl rfl (Rd.assign rfl rfl) ?_
   refine WA.nil ?_
   exact ⟨by repeat (first | exact Sub.nil | refine Sub.cons rfl (by first | rfl | ((refine vb_f ?_; rintro ⟨a1, a2, a3, a4, a5, a6, a7, a8, a9⟩; first | contradiction | omega))) ?_), by exact (fun _ h => h.thin (SubL.mem Z.S))⟩
 ·
  refine WC.heap (R' := R) (O' := O) Z.F ?_
  refine WC.ret (Ret.one Tryz.results57 rfl ?_)
  exact hk
end
end Go.Proofs.YtlbdpcadaojcbaaGreatDoor
namespace Go.SL
open Go Go.RowKit
theorem cell_lt {w : World} {b k : Nat} {u : Value} (h : w.cell? ⟨b, k, none⟩ = some u) : b < w.heap.size := by
 unfold World.cell? at h
 rcases Nat.lt_or_ge b w.heap.size with h1 | h1
 · exact h1
 · simp [Array.getElem?_eq_none h1] at h
theorem vs_ba (s : List UInt8) : vs s = .string ⟨s.toArray⟩ := rfl
theorem one_get {xs : List (List UInt8)} {j : Nat} {x : List UInt8} (h : xs[j]? = some x) : (xs.flatMap (SL.one vs))[j]? = some (vs x) := by
 have e : xs.flatMap (SL.one vs) = xs.map vs := by
  clear h
  induction xs with
  | nil => rfl
  | cons a r ih => rw [List.flatMap_cons, ih]; rfl
 rw [e, List.getElem?_map, h]; rfl
end Go.SL
namespace Go.Proofs.YtlbdpcadaojcbaaGreatDoor
open Go Go.SL Go.RowKit
section
variable {R : List RO} {O : List Own} {POST : Value → List RO → List Own → Prop} {b : Nat} {o : Ob} {ev pv : Value}
theorem contains_spec {xs : List (List UInt8)} {av : Value} {x : List UInt8} (ha : SlE (SL.one vs) av xs ∈ R) (hk : POST (.bool (decide (x ∈ xs))) R O) : Fun Tryz.prog 59 #[av, vs x] R O POST := by
 refine Fun.belowR (v := .bool (decide (x ∈ xs))) ha (fun w hw => ?_) hk
 obtain ⟨o', c, rfl, h1, h2, h3, h4⟩ := hw
 by_cases h0 : xs = []
 · subst h0
   refine (Tryz.slices_Contains_string_empty o' c ⟨x.toArray⟩ w).mono ?_
   rintro e w' ⟨he, rfl⟩
   refine ⟨by rw [he]; simp, Below.refl _ _⟩
 · have hp : 0 < xs.length := List.length_pos_iff.2 h0
   obtain ⟨a, rfl⟩ : ∃ a, o' = some a := by
    cases o' with
    | none => exact absurd (h3 rfl) Z.W
    | some a => exact ⟨a, rfl⟩
   obtain ⟨g1, g2⟩ := h4 a rfl
   obtain ⟨bk, off, sp⟩ := a
   have hsp : sp = none := g1 hp
   subst hsp
   have hz : (xs.map fun s => (⟨s.toArray⟩ : ByteArray)).length = xs.length := List.length_map _
   refine (Tryz.slices_Contains_string bk off xs.length c (xs.map fun s => (⟨s.toArray⟩ : ByteArray)) ⟨x.toArray⟩ w (by rw [hz]; exact Nat.le_refl _) (Nat.le_trans h1 h2) (fun j hj => by
    rw [hz] at hj
    rw [g2 j _ (one_get (List.getElem?_eq_getElem hj))]
    simp [vs_ba, hj])).mono ?_
   rintro e w' ⟨he, rfl⟩
   refine ⟨?_, Below.refl _ _⟩
   rw [he, List.take_of_length_le (by rw [hz]; exact Nat.le_refl _)]
   congr 2
   rw [Bool.eq_iff_iff, Lib.containsS_iff, decide_eq_true_eq]
   constructor
   · intro h
     obtain ⟨s, hs, hse⟩ := List.mem_map.1 h
     have : s = x := by
      have := congrArg (fun z : ByteArray => z.data.toList) hse
      simpa using this
     rwa [← this]
   · intro h
     exact List.mem_map.2 ⟨x, h, rfl⟩
set_option maxRecDepth 20000 in
theorem blobRight_spec (hb : oRow b o ev pv ∈ O) (he : SlE encT ev o.ents ∈ R) (hp : SlE (SL.one vs) pv o.pars ∈ R) (hkd : o.kind = 1) (hk : POST (.bool (decide (RightP o))) R O) : Fun Tryz.prog 23 #[.pointer (some ⟨b, 0, none⟩)] R O POST := by
 have hiff : RightP o ↔ bareP o { zOb with body := o.body } ∧ o.body.length ≤ 262144 := by
  unfold RightP bareP zOb
  simp only [len0, List.length_nil]
  rw [hkd]
  simp
  grind
 refine Fun.enter (l := [_]) Tryz.func23 rfl Tryz.ntmps23 rfl (L0 := [(0, _)]) rfl ?_
 refine WC.seq ?_
 refine WC.region ?_
 refine WL.rd rfl rfl rfl (Rd.assign rfl rfl) ?_
 refine WL.nil ?_
 refine thenQ.normal ?_
 refine WC.pick [0] Z.P ?_
 refine WC.val 2 (.bool (decide (RightP o))) ?_ ?_
 ·
  refine WC.region ?_
  refine WL.rd rfl rfl rfl (Rd.move rfl rfl) ?_
  refine WL.rd rfl rfl rfl (Rd.move rfl rfl) ?_
  refine WL.rd rfl rfl rfl (Rd.nilc rfl rfl) ?_
  refine WL.rd rfl rfl rfl ((by exact Rd.field rfl F30_1 rfl rfl)) ?_
  refine WL.rd rfl rfl rfl (Rd.row1 (b := b) (off := 1) rfl C9 rfl Z.M rfl) ?_
  refine WL.rd rfl rfl rfl (Rd.buildN (ps := [(1, _)]) rfl Bs30 I30 rfl Z.E Z.C (by apply NFo.mk; repeat (first | exact NF.nil | apply NF.cons))) ?_
  refine WL.heap (fun w h => Sat.nilE (α := ET) (enc := encT) h) ?_
  refine WL.heap (fun w h => Sat.nilE (α := List UInt8) (enc := SL.one vs) h) ?_
  refine WL.op rfl ?_
  refine OpW.call rfl rfl Z.E Z.K rfl rfl rfl ?_
  refine bare_spec (o := o) (x := { zOb with body := o.body }) Z.M Z.M Z.M Z.M Z.M ?_
  refine WL.rd rfl rfl rfl (Rd.move rfl rfl) ?_
  refine WL.case 10 rfl (fun hg10 => ?_) (fun hg10 => ?_)
  ·
   refine WL.rd_yes rfl rfl rfl rfl rfl rfl (Rd.move rfl rfl) ?_
   refine WL.rd_yes rfl rfl rfl rfl rfl rfl (Rd.nilc rfl rfl) ?_
   refine WL.rd_yes rfl rfl rfl rfl rfl rfl ((by exact Rd.field rfl F30_1 rfl rfl)) ?_
   refine WL.rd_yes rfl rfl rfl rfl rfl rfl (Rd.row1 (b := b) (off := 1) rfl C9 rfl Z.M rfl) ?_
   refine WL.rd_yes rfl rfl rfl rfl rfl rfl (Rd.slen (ts := #[]) (ty := 0) rfl rfl Tryz.underlying9) ?_
   refine WL.rd_yes rfl rfl rfl rfl rfl rfl (Rd.leq rfl rfl rfl) ?_
   refine WL.rd rfl rfl rfl (Rd.pick_t rfl rfl rfl) ?_
   refine WL.rd rfl rfl rfl (Rd.assign rfl rfl) ?_
   refine WL.nil ?_
   exact ⟨by repeat (first | exact Sub.nil | refine Sub.cons rfl (by first | rfl | (exact vb (by rw [hiff]; exact ⟨fun h => ⟨hg10, by omega⟩, fun h => by omega⟩))) ?_), by exact (fun _ h => h.thin (SubL.mem Z.S))⟩
  ·
   refine WL.no rfl rfl rfl rfl rfl rfl ?_
   refine WL.no rfl rfl rfl rfl rfl rfl ?_
   refine WL.no rfl rfl rfl rfl rfl rfl ?_
   refine WL.no rfl rfl rfl rfl rfl rfl ?_
   refine WL.no rfl rfl rfl rfl rfl rfl ?_
   refine WL.no rfl rfl rfl rfl rfl rfl ?_
   refine WL.rd rfl rfl rfl (Rd.pick_f rfl rfl rfl) ?_
   refine WL.rd rfl rfl rfl (Rd.assign rfl rfl) ?_
   refine WL.nil ?_
   exact ⟨by repeat (first | exact Sub.nil | refine Sub.cons rfl (by first | rfl | ((refine vb_f ?_; rw [hiff]; exact fun h => hg10 h.1))) ?_), by exact (fun _ h => h.thin (SubL.mem Z.S))⟩
 ·
  refine WC.heap (R' := R) (O' := O) Z.F ?_
  refine WC.ret (Ret.one Tryz.results23 rfl ?_)
  exact hk
set_option maxRecDepth 20000 in
set_option maxHeartbeats 1000000 in
theorem treeRight_spec (hb : oRow b o ev pv ∈ O) (he : SlE encT ev o.ents ∈ R) (hp : SlE (SL.one vs) pv o.pars ∈ R) (hkd : o.kind = 2) (hn : ∀ x ∈ o.ents, x.1.length ≤ 9223372036854775000) (hk : POST (.bool (decide (RightP o))) R O) : Fun Tryz.prog 26 #[.pointer (some ⟨b, 0, none⟩)] R O POST := by
 refine Fun.oneV he fun hev => ?_
 refine Fun.len he fun hel => ?_
 have hiff : RightP o ↔ (∀ i, i < o.ents.length → EntP o.ents i) ∧ bareP o { zOb with ents := o.ents } ∧ o.ents.length ≤ 4096 := by
  unfold RightP bareP zOb
  simp only [len0, List.length_nil]
  rw [hkd]
  simp
  grind
 refine Fun.enter (l := [_]) Tryz.func26 rfl Tryz.ntmps26 rfl (L0 := [(0, _)]) rfl ?_
 refine WC.seq ?_
 refine WC.region ?_
 refine WL.rd rfl rfl rfl (Rd.assign rfl rfl) ?_
 refine WL.nil ?_
 refine thenQ.normal ?_
 refine WC.seq ?_
 refine WC.seq ?_
 refine WC.region ?_
 refine WL.rd rfl rfl rfl (Rd.move rfl rfl) ?_
 refine WL.rd rfl rfl rfl (Rd.nilc rfl rfl) ?_
 refine WL.rd rfl rfl rfl ((by exact Rd.field rfl F30_2 rfl rfl)) ?_
 refine WL.rd rfl rfl rfl (Rd.row1 (b := b) (off := 2) (u := ev) rfl C28 rfl Z.M rfl) ?_
 refine WL.rd rfl rfl rfl (Rd.lenE (enc := encT) (xs := o.ents) rfl rfl Tryz.underlying28 Z.M) ?_
 refine WL.rd rfl rfl rfl (Rd.move rfl rfl) ?_
 refine WL.nil ?_
 refine thenQ.normal ?_
 refine WC.block ?_
 refine WC.pick [10, 0, 8, 9] Z.P ?_
 refine WC.loop1o 1 (fun (i : Nat) => [(10, .int .i64 (i : Int))]) (fun (i : Nat) => i ≤ o.ents.length ∧ ∀ j, j < i → EntP o.ents j) (fun (i : Nat) => o.ents.length - i) (0) Z.L ?hinv1 (by repeat (first | exact Sub.nil | refine Sub.cons rfl (by rfl) ?_)) (fun _ h => h) ?_
 case hinv1 =>
  exact ⟨Nat.zero_le _, fun j hj => absurd hj (Nat.not_lt_zero _)⟩
 intro i
 rintro ⟨i1, i2⟩
 refine WC.seq ?_
 refine WC.region ?_
 refine WL.rd rfl rfl rfl (Rd.lss rfl rfl rfl) ?_
 refine WL.nil ?_
 refine thenQ.normal ?_
 refine WC.seq ?_
 refine WC.ite rfl (fun hc1 => ?_) (fun hc1 => ?_)
 ·
  obtain ⟨x, hx⟩ : ∃ x, x = o.ents[i]! := ⟨_, rfl⟩
  have hxm : x ∈ o.ents := by rw [hx, getElem!_pos o.ents i Z.W]; exact List.getElem_mem _
  have hxn := hn x hxm
  have hent : EntP o.ents i ↔ GoodP x.1 ∧ x.2.length = 32 ∧ (0 < i → Op.bytesLess o.ents[i - 1]!.1 x.1 = true) := by unfold EntP; rw [← hx]
  refine WC.skip ?_
  refine thenQ.normal ?_
  refine WC.seq ?_
  refine WC.block ?_
  refine WC.seq ?_
  refine WC.region ?_
  refine WL.rd rfl rfl rfl (Rd.move rfl rfl) ?_
  refine WL.rd rfl rfl rfl ((by exact Rd.idx rfl S28 rfl rfl rfl Z.M Z.W)) ?_
  refine WL.rd rfl rfl rfl (Rd.getS (k := i) (a := x) (cs := [vs x.1, vs x.2]) (enc := encT) (xs := o.ents) rfl G33 rfl Z.M (fun _ => rfl) (by rw [hx]; exact get!_of_lt Z.W) Z.N) ?_
  refine WL.op rfl ?_
  refine OpW.alloc rfl I33 rfl Z.N rfl rfl ?_; intro b4
  refine WL.rd rfl rfl rfl (Rd.assign rfl rfl) ?_
  refine WL.op rfl ?_
  refine OpW.storeS rfl G33 rfl rfl Z.N Z.T rfl rfl Z.N rfl ?_
  refine WL.nil ?_
  refine thenQ.normal ?_
  refine WC.pick [0, 3, 4, 8, 9, 10] Z.P ?_
  refine WC.val 42 (.bool (decide (¬ EntP o.ents i))) ?_ ?_
  ·
   refine WC.drawnA 28 rfl mixed ?_
   refine WD.take 0 rfl Z.K Held.all rfl rfl rfl ((by exact Rd.field rfl F33_0 rfl rfl)) ?_
   refine WD.take 1 rfl Z.K Held.all rfl rfl rfl (Rd.row1 (b := b4) (off := 0) (u := vs x.1) rfl C9 rfl Z.M rfl) ?_
   refine WD.one 2 rfl Z.K rfl ?_
   refine OpW.call rfl rfl Z.E Z.K rfl rfl rfl ?_
   refine good_spec hxn ?_
   refine ⟨Z.H, ?_⟩
   refine WD.take 3 rfl Z.K Z.H rfl rfl rfl ((by exact Rd.notd rfl rfl)) ?_
   refine WD.take 4 rfl Z.K Z.H rfl rfl rfl (Rd.move rfl rfl) ?_
   refine WD.case 19 rfl (fun hg19 => ?_) (fun hg19 => ?_)
   ·
    refine WD.take_no 5 rfl Z.K Z.H rfl rfl rfl rfl rfl rfl ?_
    refine WD.take_no 6 rfl Z.K Z.H rfl rfl rfl rfl rfl rfl ?_
    refine WD.take_no 7 rfl Z.K Z.H rfl rfl rfl rfl rfl rfl ?_
    refine WD.take_no 8 rfl Z.K Z.H rfl rfl rfl rfl rfl rfl ?_
    refine WD.take 9 rfl Z.K Z.H rfl rfl rfl (Rd.pick_t rfl rfl rfl) ?_
    refine WD.take 10 rfl Z.K Z.H rfl rfl rfl (Rd.move rfl rfl) ?_
    refine WD.take_no 11 rfl Z.K Z.H rfl rfl rfl rfl rfl rfl ?_
    refine WD.take_no 12 rfl Z.K Z.H rfl rfl rfl rfl rfl rfl ?_
    refine WD.take_no 13 rfl Z.K Z.H rfl rfl rfl rfl rfl rfl ?_
    refine WD.take_noU 14 rfl Z.K Z.H rfl rfl rfl rfl rfl rfl ?_
    refine WD.take_noU 15 rfl Z.K Z.H rfl rfl rfl rfl rfl rfl ?_
    refine WD.take_noU 16 rfl Z.K Z.H rfl rfl rfl rfl rfl rfl ?_
    refine WD.take_noU 17 rfl Z.K Z.H rfl rfl rfl rfl rfl rfl ?_
    refine WD.take_noU 18 rfl Z.K Z.H rfl rfl rfl rfl rfl rfl ?_
    refine WD.take_noU 19 rfl Z.K Z.H rfl rfl rfl rfl rfl rfl ?_
    refine WD.take_noU 20 rfl Z.K Z.H rfl rfl rfl rfl rfl rfl ?_
    refine WD.take_noU 21 rfl Z.K Z.H rfl rfl rfl rfl rfl rfl ?_
    refine WD.take_noU 22 rfl Z.K Z.H rfl rfl rfl rfl rfl rfl ?_
    refine WD.take_noU 23 rfl Z.K Z.H rfl rfl rfl rfl rfl rfl ?_
    refine WD.take_noU 24 rfl Z.K Z.H rfl rfl rfl rfl rfl rfl ?_
    refine WD.take_noU 25 rfl Z.K Z.H rfl rfl rfl rfl rfl rfl ?_
    refine WD.take_no 26 rfl Z.K Z.H rfl rfl rfl rfl rfl rfl ?_
    refine WD.take 27 rfl Z.K Z.H rfl rfl rfl (Rd.pick_t rfl rfl rfl) ?_
    refine WD.done Z.K ?_
    exact ⟨by repeat (first | exact Sub.nil | refine Sub.cons rfl (by first | rfl | (exact vb_t (by rw [hent]; exact fun h => hg19 h.1))) ?_), by exact (fun _ h => h.thin (SubL.mem Z.S))⟩
   ·
    refine WD.take_yes 5 rfl Z.K Z.H rfl rfl rfl rfl rfl rfl ((by exact Rd.field rfl F33_1 rfl rfl)) ?_
    refine WD.take_yes 6 rfl Z.K Z.H rfl rfl rfl rfl rfl rfl (Rd.row1 (b := b4) (off := 1) (u := vs x.2) rfl C9 rfl Z.M rfl) ?_
    refine WD.take_yes 7 rfl Z.K Z.H rfl rfl rfl rfl rfl rfl (Rd.slen (ts := #[]) (ty := 0) rfl rfl Tryz.underlying9) ?_
    refine WD.take_yes 8 rfl Z.K Z.H rfl rfl rfl rfl rfl rfl (Rd.neq rfl rfl rfl) ?_
    refine WD.take 9 rfl Z.K Z.H rfl rfl rfl (Rd.pick_f rfl rfl rfl) ?_
    refine WD.take 10 rfl Z.K Z.H rfl rfl rfl (Rd.move rfl rfl) ?_
    refine WD.case 25 rfl (fun hg25 => ?_) (fun hg25 => ?_)
    ·
     refine WD.take_no 11 rfl Z.K Z.H rfl rfl rfl rfl rfl rfl ?_
     refine WD.take_no 12 rfl Z.K Z.H rfl rfl rfl rfl rfl rfl ?_
     refine WD.take_no 13 rfl Z.K Z.H rfl rfl rfl rfl rfl rfl ?_
     refine WD.take_noU 14 rfl Z.K Z.H rfl rfl rfl rfl rfl rfl ?_
     refine WD.take_noU 15 rfl Z.K Z.H rfl rfl rfl rfl rfl rfl ?_
     refine WD.take_noU 16 rfl Z.K Z.H rfl rfl rfl rfl rfl rfl ?_
     refine WD.take_noU 17 rfl Z.K Z.H rfl rfl rfl rfl rfl rfl ?_
     refine WD.take_noU 18 rfl Z.K Z.H rfl rfl rfl rfl rfl rfl ?_
     refine WD.take_noU 19 rfl Z.K Z.H rfl rfl rfl rfl rfl rfl ?_
     refine WD.take_noU 20 rfl Z.K Z.H rfl rfl rfl rfl rfl rfl ?_
     refine WD.take_noU 21 rfl Z.K Z.H rfl rfl rfl rfl rfl rfl ?_
     refine WD.take_noU 22 rfl Z.K Z.H rfl rfl rfl rfl rfl rfl ?_
     refine WD.take_noU 23 rfl Z.K Z.H rfl rfl rfl rfl rfl rfl ?_
     refine WD.take_noU 24 rfl Z.K Z.H rfl rfl rfl rfl rfl rfl ?_
     refine WD.take_noU 25 rfl Z.K Z.H rfl rfl rfl rfl rfl rfl ?_
     refine WD.take_no 26 rfl Z.K Z.H rfl rfl rfl rfl rfl rfl ?_
     refine WD.take 27 rfl Z.K Z.H rfl rfl rfl (Rd.pick_t rfl rfl rfl) ?_
     refine WD.done Z.K ?_
     exact ⟨by repeat (first | exact Sub.nil | refine Sub.cons rfl (by first | rfl | (exact vb_t (by rw [hent]; exact fun h => by have := h.2.1; omega))) ?_), by exact (fun _ h => h.thin (SubL.mem Z.S))⟩
    ·
     refine WD.take_yes 11 rfl Z.K Z.H rfl rfl rfl rfl rfl rfl (Rd.move rfl rfl) ?_
     refine WD.take_yes 12 rfl Z.K Z.H rfl rfl rfl rfl rfl rfl (Rd.gtr rfl rfl rfl) ?_
     refine WD.take_yes 13 rfl Z.K Z.H rfl rfl rfl rfl rfl rfl (Rd.move rfl rfl) ?_
     refine WD.case 28 rfl (fun hg28 => ?_) (fun hg28 => ?_)
     ·
      refine WD.take_yes 14 rfl Z.K Z.H rfl rfl rfl rfl rfl rfl ((by exact Rd.field rfl F33_0 rfl rfl)) ?_
      refine WD.take_yes 15 rfl Z.K Z.H rfl rfl rfl rfl rfl rfl (Rd.row1 (b := b4) (off := 0) (u := vs x.1) rfl C9 rfl Z.M rfl) ?_
      refine WD.take_yes 16 rfl Z.K Z.H rfl rfl rfl rfl rfl rfl (Rd.move rfl rfl) ?_
      refine WD.take_yes 17 rfl Z.K Z.H rfl rfl rfl rfl rfl rfl (Rd.nilc rfl rfl) ?_
      refine WD.take_yes 18 rfl Z.K Z.H rfl rfl rfl rfl rfl rfl ((by exact Rd.field rfl F30_2 rfl rfl)) ?_
      refine WD.take_yes 19 rfl Z.K Z.H rfl rfl rfl rfl rfl rfl (Rd.row1 (b := b) (off := 2) (u := ev) rfl C28 rfl Z.M rfl) ?_
      refine WD.take_yes 20 rfl Z.K Z.H rfl rfl rfl rfl rfl rfl (Rd.move rfl rfl) ?_
      refine WD.take_yes 21 rfl Z.K Z.H rfl rfl rfl rfl rfl rfl (Rd.sub rfl rfl rfl Z.W) ?_
      refine WD.take_yes 22 rfl Z.K Z.H rfl rfl rfl rfl rfl rfl (Rd.idx (k := i - 1) rfl S28 rfl rfl Z.W (enc := encT) (xs := o.ents) Z.M Z.W) ?_
      refine WD.take_yes 23 rfl Z.K Z.H rfl rfl rfl rfl rfl rfl ((by exact Rd.fieldE rfl F33_0 rfl Z.M Z.W)) ?_
      refine WD.take_yes 24 rfl Z.K Z.H rfl rfl rfl rfl rfl rfl (Rd.getF (k := i - 1) (f := 0) (a := o.ents[i - 1]!) (enc := encT) (xs := o.ents) rfl C9 rfl Z.M (fun _ => rfl) rfl (get!_of_lt Z.W) rfl) ?_
      refine WD.take_yes 25 rfl Z.K Z.H rfl rfl rfl rfl rfl rfl (Rd.sleq rfl rfl rfl) ?_
      refine WD.say 40 (u := .bool (decide (¬ Op.bytesLess o.ents[i - 1]!.1 x.1 = true))) rfl (by rw [less_flip]; cases Op.bytesLess o.ents[i - 1]!.1 x.1 <;> rfl) ?_
      refine WD.take_yes 26 rfl Z.K Z.H rfl rfl rfl rfl rfl rfl (Rd.pick_t rfl rfl rfl) ?_
      refine WD.take 27 rfl Z.K Z.H rfl rfl rfl (Rd.pick_f rfl rfl rfl) ?_
      refine WD.done Z.K ?_
      exact ⟨by repeat (first | exact Sub.nil | refine Sub.cons rfl (by first | rfl | (exact vb (by rw [hent]; exact ⟨fun h h2 => h (h2.2.2 Z.W), fun h h2 => h ⟨Decidable.not_not.1 hg19, by omega, fun _ => h2⟩⟩))) ?_), by exact (fun _ h => h.thin (SubL.mem Z.S))⟩
     ·
      refine WD.take_no 14 rfl Z.K Z.H rfl rfl rfl rfl rfl rfl ?_
      refine WD.take_no 15 rfl Z.K Z.H rfl rfl rfl rfl rfl rfl ?_
      refine WD.take_no 16 rfl Z.K Z.H rfl rfl rfl rfl rfl rfl ?_
      refine WD.take_no 17 rfl Z.K Z.H rfl rfl rfl rfl rfl rfl ?_
      refine WD.take_no 18 rfl Z.K Z.H rfl rfl rfl rfl rfl rfl ?_
      refine WD.take_no 19 rfl Z.K Z.H rfl rfl rfl rfl rfl rfl ?_
      refine WD.take_no 20 rfl Z.K Z.H rfl rfl rfl rfl rfl rfl ?_
      refine WD.take_no 21 rfl Z.K Z.H rfl rfl rfl rfl rfl rfl ?_
      refine WD.take_no 22 rfl Z.K Z.H rfl rfl rfl rfl rfl rfl ?_
      refine WD.take_no 23 rfl Z.K Z.H rfl rfl rfl rfl rfl rfl ?_
      refine WD.take_no 24 rfl Z.K Z.H rfl rfl rfl rfl rfl rfl ?_
      refine WD.take_no 25 rfl Z.K Z.H rfl rfl rfl rfl rfl rfl ?_
      refine WD.take_yes 26 rfl Z.K Z.H rfl rfl rfl rfl rfl rfl (Rd.pick_f rfl rfl rfl) ?_
      refine WD.take 27 rfl Z.K Z.H rfl rfl rfl (Rd.pick_f rfl rfl rfl) ?_
      refine WD.done Z.K ?_
      exact ⟨by repeat (first | exact Sub.nil | refine Sub.cons rfl (by first | rfl | (exact vb_f (by rw [hent]; exact fun h => h ⟨Decidable.not_not.1 hg19, by omega, fun h => by omega⟩))) ?_), by exact (fun _ h => h.thin (SubL.mem Z.S))⟩
  ·
   refine WC.ite rfl (fun hc2 => ?_) (fun hc2 => ?_)
   ·
    refine WC.seq ?_
    refine WC.region ?_
    refine WL.rd rfl rfl rfl (Rd.assign rfl rfl) ?_
    refine WL.nil ?_
    refine thenQ.normal ?_
    refine WC.heap (R' := R) (O' := O) Z.F ?_
    refine WC.ret (Ret.one Tryz.results26 rfl ?_)
    rw [decide_eq_false (fun h => hc2 ((hiff.1 h).1 i Z.W))] at hk
    exact hk
   ·
    refine WC.skip ?_
    refine blockQ.normal ?_
    refine thenQ.normal ?_
    refine WC.region ?_
    refine WL.rd rfl rfl rfl (Rd.add rfl rfl rfl Z.W) ?_
    refine WL.rd rfl rfl rfl (Rd.move rfl rfl) ?_
    refine WL.nil ?_
    exact loopQ1.mk (i + 1) ⟨by omega, fun j hj => by
    rcases Nat.lt_or_ge j i with h | h
    · exact i2 j h
    · obtain rfl : j = i := by omega
      exact Decidable.not_not.1 hc2⟩ Z.W (by repeat (first | exact Sub.nil | refine Sub.cons rfl (by rfl) ?_)) Z.F
 ·
  obtain rfl : i = o.ents.length := by omega
  refine WC.exit ?_
  refine thenQ.exit ?_
  refine loopQ1.exit ?_
  refine blockQ.exit ?_
  refine thenQ.normal ?_
  refine WC.seq ?_
  refine WC.region ?_
  refine WL.rd rfl rfl rfl (Rd.move rfl rfl) ?_
  refine WL.rd rfl rfl rfl (Rd.move rfl rfl) ?_
  refine WL.rd rfl rfl rfl (Rd.nilc rfl rfl) ?_
  refine WL.rd rfl rfl rfl ((by exact Rd.field rfl F30_2 rfl rfl)) ?_
  refine WL.rd rfl rfl rfl (Rd.row1 (b := b) (off := 2) (u := ev) rfl C28 rfl Z.M rfl) ?_
  refine WL.rd rfl rfl rfl (Rd.buildN (ps := [(2, _)]) (cells := obC { zOb with ents := o.ents } ev (.slice none 0 0)) rfl Bs30 I30 rfl Z.E (CellsOf.cons hev.cells CellsOf.nil) (NFo.mk Z.N)) ?_
  refine WL.heap (fun w h => Sat.nilE (α := List UInt8) (enc := SL.one vs) h) ?_
  refine WL.op rfl ?_
  refine OpW.call rfl rfl Z.E Z.K rfl rfl rfl ?_
  refine bare_spec (o := o) (x := { zOb with ents := o.ents }) Z.M Z.M Z.M Z.M Z.M ?_
  refine WL.rd rfl rfl rfl (Rd.move rfl rfl) ?_
  refine WL.case 51 rfl (fun hg51 => ?_) (fun hg51 => ?_)
  ·
   refine WL.rd_yes rfl rfl rfl rfl rfl rfl (Rd.move rfl rfl) ?_
   refine WL.rd_yes rfl rfl rfl rfl rfl rfl (Rd.nilc rfl rfl) ?_
   refine WL.rd_yes rfl rfl rfl rfl rfl rfl ((by exact Rd.field rfl F30_2 rfl rfl)) ?_
   refine WL.rd_yes rfl rfl rfl rfl rfl rfl (Rd.row1 (b := b) (off := 2) (u := ev) rfl C28 rfl Z.M rfl) ?_
   refine WL.rd_yes rfl rfl rfl rfl rfl rfl (Rd.lenE (enc := encT) (xs := o.ents) rfl rfl Tryz.underlying28 Z.M) ?_
   refine WL.rd_yes rfl rfl rfl rfl rfl rfl (Rd.leq rfl rfl rfl) ?_
   refine WL.rd rfl rfl rfl (Rd.pick_t rfl rfl rfl) ?_
   refine WL.rd rfl rfl rfl (Rd.assign rfl rfl) ?_
   refine WL.nil ?_
   refine thenQ.normal ?_
   refine WC.heap (R' := R) (O' := O) Z.F ?_
   refine WC.ret (Ret.one Tryz.results26 rfl ?_)
   first
    | (rw [decide_eq_false (fun h => hg51 (hiff.1 h).2.1)] at hk
       exact hk)
    | (have e : decide (RightP o) = decide ((o.ents.length : Int) ≤ 4096) := by
        rw [decide_eq_decide, hiff]
        exact ⟨fun h => by have := h.2.2; omega, fun h => ⟨i2, hg51, by omega⟩⟩
       rw [e] at hk
       exact hk)
  ·
   refine WL.no rfl rfl rfl rfl rfl rfl ?_
   refine WL.no rfl rfl rfl rfl rfl rfl ?_
   refine WL.no rfl rfl rfl rfl rfl rfl ?_
   refine WL.no rfl rfl rfl rfl rfl rfl ?_
   refine WL.no rfl rfl rfl rfl rfl rfl ?_
   refine WL.no rfl rfl rfl rfl rfl rfl ?_
   refine WL.rd rfl rfl rfl (Rd.pick_f rfl rfl rfl) ?_
   refine WL.rd rfl rfl rfl (Rd.assign rfl rfl) ?_
   refine WL.nil ?_
   refine thenQ.normal ?_
   refine WC.heap (R' := R) (O' := O) Z.F ?_
   refine WC.ret (Ret.one Tryz.results26 rfl ?_)
   rw [decide_eq_false (fun h => hg51 (hiff.1 h).2.1)] at hk
   exact hk
end
end Go.Proofs.YtlbdpcadaojcbaaGreatDoor
namespace Go.Proofs.YtlbdpcadaojcbaaGreatDoor
open Go Go.SL Go.RowKit
def texts (o : Ob) : List (List UInt8) :=
 if o.kind = 1 then [o.body] else if o.kind = 2 then o.ents.flatMap fun x => [x.1, x.2]
 else if o.kind = 3 then [o.tree, o.pars.flatten, o.author, o.text, putI o.time] else [o.target, o.name, o.text]
theorem inter_nil : ∀ xs : List (List UInt8), ([] : List UInt8).intercalate xs = xs.flatten
 | [] => rfl
 | [a] => by simp [List.intercalate, List.intersperse]
 | a :: b :: r => by
   have ih := inter_nil (b :: r)
   simp [List.intercalate, List.intersperse] at ih ⊢
   exact ih
theorem lib_join (xs : List (List UInt8)) : Lib.join xs [] = xs.flatten := by unfold Lib.join; exact inter_nil xs
theorem flat_two {l : List ET} {j : Nat} (h : j < l.length) : (l.take (j + 1)).flatMap (fun x => [x.1, x.2]) = (l.take j).flatMap (fun x => [x.1, x.2]) ++ [l[j]!.1, l[j]!.2] := by
 rw [List.take_add_one, get!_of_lt h, List.flatMap_append]; simp
theorem flat_two_len (l : List ET) : (l.flatMap (fun x => [x.1, x.2])).length = 2 * l.length := by
 induction l with
 | nil => rfl
 | cons a r ih => rw [List.flatMap_cons, List.length_append, ih]; show 2 + 2 * r.length = 2 * (r.length + 1); omega
section
variable {R : List RO} {O : List Own} {POST : Value → List RO → List Own → Prop} {b : Nat} {o : Ob} {ev pv : Value}
theorem joins_spec {xs : List (List UInt8)} {av : Value} (ha : SlE (SL.one vs) av xs ∈ R) (hn : xs.length ≤ 140737488355328) (hl : xs.flatten.length ≤ 140737488355328) (hk : POST (vs xs.flatten) R O) : Fun Tryz.prog 60 #[av, vs []] R O POST := by
 refine Fun.belowR (v := vs xs.flatten) ha (fun w hw => ?_) hk
 obtain ⟨o', c, rfl, h1, h2, h3, h4⟩ := hw
 by_cases h0 : xs = []
 · subst h0
   refine (Tryz.strings_Join_none o' c ⟨#[]⟩ w).mono ?_
   rintro e w' ⟨he, rfl⟩
   exact ⟨he, Below.refl _ _⟩
 · have hp : 0 < xs.length := List.length_pos_iff.2 h0
   obtain ⟨a, rfl⟩ : ∃ a, o' = some a := by
    cases o' with
    | none => exact absurd (h3 rfl) Z.W
    | some a => exact ⟨a, rfl⟩
   obtain ⟨g1, g2⟩ := h4 a rfl
   obtain ⟨bk, off, sp⟩ := a
   have hsp : sp = none := g1 hp
   subst hsp
   have hm : (xs.map fun s => (⟨s.toArray⟩ : ByteArray)).length = xs.length := List.length_map _
   have hmm : (xs.map fun s => (⟨s.toArray⟩ : ByteArray)).map (fun z => z.data.toList) = xs := by simp [Function.comp_def]
   have hcell : ∀ (j : Nat) x, (xs.map fun s => (⟨s.toArray⟩ : ByteArray))[j]? = some x → w.cell? ⟨bk, off + j, none⟩ = some (.string x) := by
    intro j x hj
    rw [List.getElem?_map] at hj
    obtain ⟨s, hs, rfl⟩ := Option.map_eq_some_iff.1 hj
    exact g2 j _ (one_get hs)
   have hc0 := hcell 0 _ (by rw [List.getElem?_map, List.getElem?_eq_getElem hp]; rfl)
   have := Tryz.strings_Join bk off c (xs.map fun s => (⟨s.toArray⟩ : ByteArray)) ⟨#[]⟩ w hcell (cell_lt hc0) (by rw [hm]; exact hn) (by rw [hm]; exact h1) (by rw [hmm]; show (Lib.join xs []).length ≤ _; rw [lib_join]; exact hl)
   rw [hm, hmm] at this
   refine this.mono ?_
   rintro e w' ⟨he, hb⟩
   refine ⟨?_, hb⟩
   rw [he]
   show Ending.returned (vs (Lib.join xs [])) = _
   rw [lib_join]
set_option maxRecDepth 20000 in
set_option maxHeartbeats 2000000 in
theorem commitRight_spec (hb : oRow b o ev pv ∈ O) (he : SlE encT ev o.ents ∈ R) (hp : SlE (SL.one vs) pv o.pars ∈ R) (hkd : o.kind = 3) (hk : POST (.bool (decide (RightP o))) R O) : Fun Tryz.prog 29 #[.pointer (some ⟨b, 0, none⟩)] R O POST := by
 refine Fun.oneV hp fun hpv => ?_
 refine Fun.len hp fun hpl => ?_
 have hiff : RightP o ↔ (∀ i, i < o.pars.length → ParP o.pars i) ∧ bareP o { zOb with tree := o.tree, pars := o.pars, author := o.author, text := o.text, time := o.time } ∧ o.tree.length = 32 ∧ o.pars.length ≤ 8 ∧ o.author.length ≤ 256 ∧ o.text.length ≤ 4096 ∧ 0 ≤ o.time ∧ o.time ≤ 1099511627776 := by
  unfold RightP bareP zOb
  simp only [len0, List.length_nil]
  rw [hkd]
  simp
  try grind
 refine Fun.enter (l := [_]) Tryz.func29 rfl Tryz.ntmps29 rfl (L0 := [(0, _)]) rfl ?_
 refine WC.seq ?_
 refine WC.region ?_
 refine WL.rd rfl rfl rfl (Rd.assign rfl rfl) ?_
 refine WL.nil ?_
 refine thenQ.normal ?_
 refine WC.seq ?_
 refine WC.seq ?_
 refine WC.region ?_
 refine WL.rd rfl rfl rfl (Rd.move rfl rfl) ?_
 refine WL.rd rfl rfl rfl (Rd.nilc rfl rfl) ?_
 refine WL.rd rfl rfl rfl ((by exact Rd.field rfl F30_4 rfl rfl)) ?_
 refine WL.rd rfl rfl rfl (Rd.row1 (b := b) (off := 4) (u := pv) rfl C22 rfl Z.M rfl) ?_
 refine WL.rd rfl rfl rfl (Rd.lenE (enc := SL.one vs) (xs := o.pars) rfl rfl Tryz.underlying22 Z.M) ?_
 refine WL.rd rfl rfl rfl (Rd.move rfl rfl) ?_
 refine WL.nil ?_
 refine thenQ.normal ?_
 refine WC.block ?_
 refine WC.pick [10, 0, 8, 9] Z.P ?_
 refine WC.loop1o 1 (fun (i : Nat) => [(10, .int .i64 (i : Int))]) (fun (i : Nat) => i ≤ o.pars.length ∧ ∀ j, j < i → ParP o.pars j) (fun (i : Nat) => o.pars.length - i) (0) Z.L ?hinv1 (by repeat (first | exact Sub.nil | refine Sub.cons rfl (by rfl) ?_)) (fun _ h => h) ?_
 case hinv1 =>
  exact ⟨Nat.zero_le _, fun j hj => absurd hj (Nat.not_lt_zero _)⟩
 intro i
 rintro ⟨i1, i2⟩
 refine WC.seq ?_
 refine WC.region ?_
 refine WL.rd rfl rfl rfl (Rd.lss rfl rfl rfl) ?_
 refine WL.nil ?_
 refine thenQ.normal ?_
 refine WC.seq ?_
 refine WC.ite rfl (fun hc1 => ?_) (fun hc1 => ?_)
 ·
  refine WC.skip ?_
  refine thenQ.normal ?_
  refine WC.seq ?_
  refine WC.block ?_
  refine WC.seq ?_
  refine WC.region ?_
  refine WL.rd rfl rfl rfl (Rd.move rfl rfl) ?_
  refine WL.rd rfl rfl rfl ((by exact Rd.idx1 rfl S22 rfl rfl rfl Z.M Z.W)) ?_
  refine WL.rd rfl rfl rfl (Rd.get (k := i) (g := vs) (a := o.pars[i]!) (xs := o.pars) rfl C9 rfl Z.M (get!_of_lt Z.W)) ?_
  refine WL.rd rfl rfl rfl (Rd.assign rfl rfl) ?_
  refine WL.rd rfl rfl rfl (Rd.assign rfl rfl) ?_
  refine WL.nil ?_
  refine thenQ.normal ?_
  refine WC.pick [0, 3, 4, 8, 9, 10] Z.P ?_
  refine WC.val 27 (.bool (decide (¬ ParP o.pars i))) ?_ ?_
  ·
   refine WC.region ?_
   refine WL.rd rfl rfl rfl (Rd.move rfl rfl) ?_
   refine WL.rd rfl rfl rfl (Rd.slen (ts := #[]) (ty := 0) rfl rfl Tryz.underlying9) ?_
   refine WL.rd rfl rfl rfl (Rd.neq rfl rfl rfl) ?_
   refine WL.rd rfl rfl rfl (Rd.move rfl rfl) ?_
   refine WL.case 18 rfl (fun hg18 => ?_) (fun hg18 => ?_)
   ·
    refine WL.no rfl rfl rfl rfl rfl rfl ?_
    refine WL.no rfl rfl rfl rfl rfl rfl ?_
    refine WL.no rfl rfl rfl rfl rfl rfl ?_
    refine WL.no rfl rfl rfl rfl rfl rfl ?_
    refine WL.no rfl rfl rfl rfl rfl rfl ?_
    refine WL.no rfl rfl rfl rfl rfl rfl ?_
    refine WL.no rfl rfl rfl rfl rfl rfl ?_
    refine WL.no rfl rfl rfl rfl rfl rfl ?_
    refine WL.rd rfl rfl rfl (Rd.pick_t rfl rfl rfl) ?_
    refine WL.nil ?_
    exact ⟨by repeat (first | exact Sub.nil | refine Sub.cons rfl (by first | rfl | (exact vb_t (fun h => by have := h.1; omega))) ?_), by exact (fun _ h => h.thin (SubL.mem Z.S))⟩
   ·
    refine WL.rd_yes rfl rfl rfl rfl rfl rfl (Rd.move rfl rfl) ?_
    refine WL.rd_yes rfl rfl rfl rfl rfl rfl (Rd.nilc rfl rfl) ?_
    refine WL.rd_yes rfl rfl rfl rfl rfl rfl ((by exact Rd.field rfl F30_4 rfl rfl)) ?_
    refine WL.rd_yes rfl rfl rfl rfl rfl rfl (Rd.row1 (b := b) (off := 4) (u := pv) rfl C22 rfl Z.M rfl) ?_
    refine WL.rd_yes rfl rfl rfl rfl rfl rfl (Rd.move rfl rfl) ?_
    refine WL.rd_yes rfl rfl rfl rfl rfl rfl (Rd.cut_h (hi := i) rfl S22 rfl rfl rfl Z.M Z.W) ?_
    refine WL.rd_yes rfl rfl rfl rfl rfl rfl (Rd.move rfl rfl) ?_
    refine WL.heap (fun w h => h.weaken hp (fun w hp => SlE.subh (size := 1) (hi := i) (fun _ => rfl) Z.W hp)) ?_
    refine WL.op_yes rfl rfl rfl rfl ?_
    refine OpW.call rfl rfl Z.E Z.K rfl rfl rfl ?_
    refine contains_spec (xs := o.pars.take i) Z.M ?_
    refine WL.rd rfl rfl rfl (Rd.pick_f rfl rfl rfl) ?_
    refine WL.nil ?_
    exact ⟨by repeat (first | exact Sub.nil | refine Sub.cons rfl (by first | rfl | (exact vb ⟨fun h h2 => h2.2 h, fun h => by by_cases hm : o.pars[i]! ∈ o.pars.take i; exact hm; exact absurd ⟨by omega, hm⟩ h⟩)) ?_), by exact (fun _ h => h.thin (SubL.mem Z.S))⟩
  ·
   refine WC.ite rfl (fun hc2 => ?_) (fun hc2 => ?_)
   ·
    refine WC.seq ?_
    refine WC.region ?_
    refine WL.rd rfl rfl rfl (Rd.assign rfl rfl) ?_
    refine WL.nil ?_
    refine thenQ.normal ?_
    refine WC.heap (R' := R) (O' := O) Z.F ?_
    refine WC.ret (Ret.one Tryz.results29 rfl ?_)
    rw [decide_eq_false (fun h => hc2 ((hiff.1 h).1 i Z.W))] at hk
    exact hk
   ·
    refine WC.skip ?_
    refine blockQ.normal ?_
    refine thenQ.normal ?_
    refine WC.region ?_
    refine WL.rd rfl rfl rfl (Rd.add rfl rfl rfl Z.W) ?_
    refine WL.rd rfl rfl rfl (Rd.move rfl rfl) ?_
    refine WL.nil ?_
    exact loopQ1.mk (i + 1) ⟨by omega, fun j hj => by
    rcases Nat.lt_or_ge j i with h | h
    · exact i2 j h
    · obtain rfl : j = i := by omega
      exact Decidable.not_not.1 hc2⟩ Z.W (by repeat (first | exact Sub.nil | refine Sub.cons rfl (by rfl) ?_)) Z.F
 ·
  obtain rfl : i = o.pars.length := by omega
  refine WC.exit ?_
  refine thenQ.exit ?_
  refine loopQ1.exit ?_
  refine blockQ.exit ?_
  refine thenQ.normal ?_
  refine WC.seq ?_
  refine WC.tail 22 mixed Z.K ?_
  refine WS.rd rfl rfl rfl (Rd.move rfl rfl) ?_
  refine WS.rd rfl rfl rfl (Rd.move rfl rfl) ?_
  refine WS.rd rfl rfl rfl (Rd.nilc rfl rfl) ?_
  refine WS.rd rfl rfl rfl ((by exact Rd.field rfl F30_3 rfl rfl)) ?_
  refine WS.rd rfl rfl rfl (Rd.row1 (b := b) (off := 3) rfl C9 rfl Z.M rfl) ?_
  refine WS.rd rfl rfl rfl (Rd.move rfl rfl) ?_
  refine WS.rd rfl rfl rfl (Rd.nilc rfl rfl) ?_
  refine WS.rd rfl rfl rfl ((by exact Rd.field rfl F30_4 rfl rfl)) ?_
  refine WS.rd rfl rfl rfl (Rd.row1 (b := b) (off := 4) (u := pv) rfl C22 rfl Z.M rfl) ?_
  refine WS.rd rfl rfl rfl (Rd.move rfl rfl) ?_
  refine WS.rd rfl rfl rfl (Rd.nilc rfl rfl) ?_
  refine WS.rd rfl rfl rfl ((by exact Rd.field rfl F30_5 rfl rfl)) ?_
  refine WS.rd rfl rfl rfl (Rd.row1 (b := b) (off := 5) rfl C9 rfl Z.M rfl) ?_
  refine WS.rd rfl rfl rfl (Rd.move rfl rfl) ?_
  refine WS.rd rfl rfl rfl (Rd.nilc rfl rfl) ?_
  refine WS.rd rfl rfl rfl ((by exact Rd.field rfl F30_6 rfl rfl)) ?_
  refine WS.rd rfl rfl rfl (Rd.row1 (b := b) (off := 6) rfl C9 rfl Z.M rfl) ?_
  refine WS.rd rfl rfl rfl (Rd.move rfl rfl) ?_
  refine WS.rd rfl rfl rfl (Rd.nilc rfl rfl) ?_
  refine WS.rd rfl rfl rfl ((by exact Rd.field rfl F30_7 rfl rfl)) ?_
  refine WS.rd rfl rfl rfl (Rd.row1 (b := b) (off := 7) rfl C3 rfl Z.M rfl) ?_
  refine WS.rd rfl rfl rfl (Rd.buildN (ps := [(3, _), (4, _), (5, _), (6, _), (7, _)]) (cells := obC { zOb with tree := o.tree, pars := o.pars, author := o.author, text := o.text, time := o.time } (.slice none 0 0) pv) rfl Bs30 I30 rfl Z.E (by repeat (first | exact CellsOf.nil | apply CellsOf.cons hpv.cells | apply CellsOf.cons rfl)) (by apply NFo.mk; repeat (first | exact NF.nil | apply NF.cons))) ?_
  refine WS.switch ?_
  refine WL.heap (fun w h => Sat.nilE (α := ET) (enc := encT) h) ?_
  refine WL.op rfl ?_
  refine OpW.call rfl rfl Z.E Z.K rfl rfl rfl ?_
  refine bare_spec (o := o) (x := { zOb with tree := o.tree, pars := o.pars, author := o.author, text := o.text, time := o.time }) Z.M Z.M Z.M Z.M Z.M ?_
  refine WL.rd rfl rfl rfl (Rd.move rfl rfl) ?_
  refine WL.case 52 rfl (fun hg52 => ?_) (fun hg52 => ?_)
  ·
   refine WL.rd_yes rfl rfl rfl rfl rfl rfl (Rd.move rfl rfl) ?_
   refine WL.rd_yes rfl rfl rfl rfl rfl rfl (Rd.nilc rfl rfl) ?_
   refine WL.rd_yes rfl rfl rfl rfl rfl rfl ((by exact Rd.field rfl F30_3 rfl rfl)) ?_
   refine WL.rd_yes rfl rfl rfl rfl rfl rfl (Rd.row1 (b := b) (off := 3) rfl C9 rfl Z.M rfl) ?_
   refine WL.rd_yes rfl rfl rfl rfl rfl rfl (Rd.slen (ts := #[]) (ty := 0) rfl rfl Tryz.underlying9) ?_
   refine WL.rd_yes rfl rfl rfl rfl rfl rfl (Rd.eql rfl rfl rfl) ?_
   refine WL.rd rfl rfl rfl (Rd.pick_t rfl rfl rfl) ?_
   refine WL.rd rfl rfl rfl (Rd.move rfl rfl) ?_
   refine WL.case 60 rfl (fun hg60 => ?_) (fun hg60 => ?_)
   ·
    refine WL.rd_yes rfl rfl rfl rfl rfl rfl (Rd.move rfl rfl) ?_
    refine WL.rd_yes rfl rfl rfl rfl rfl rfl (Rd.nilc rfl rfl) ?_
    refine WL.rd_yes rfl rfl rfl rfl rfl rfl ((by exact Rd.field rfl F30_4 rfl rfl)) ?_
    refine WL.rd_yes rfl rfl rfl rfl rfl rfl (Rd.row1 (b := b) (off := 4) (u := pv) rfl C22 rfl Z.M rfl) ?_
    refine WL.rd_yes rfl rfl rfl rfl rfl rfl (Rd.lenE (enc := SL.one vs) (xs := o.pars) rfl rfl Tryz.underlying22 Z.M) ?_
    refine WL.rd_yes rfl rfl rfl rfl rfl rfl (Rd.leq rfl rfl rfl) ?_
    refine WL.rd rfl rfl rfl (Rd.pick_t rfl rfl rfl) ?_
    refine WL.rd rfl rfl rfl (Rd.move rfl rfl) ?_
    refine WL.case 68 rfl (fun hg68 => ?_) (fun hg68 => ?_)
    ·
     refine WL.rd_yes rfl rfl rfl rfl rfl rfl (Rd.move rfl rfl) ?_
     refine WL.rd_yes rfl rfl rfl rfl rfl rfl (Rd.nilc rfl rfl) ?_
     refine WL.rd_yes rfl rfl rfl rfl rfl rfl ((by exact Rd.field rfl F30_5 rfl rfl)) ?_
     refine WL.rd_yes rfl rfl rfl rfl rfl rfl (Rd.row1 (b := b) (off := 5) rfl C9 rfl Z.M rfl) ?_
     refine WL.rd_yes rfl rfl rfl rfl rfl rfl (Rd.slen (ts := #[]) (ty := 0) rfl rfl Tryz.underlying9) ?_
     refine WL.rd_yes rfl rfl rfl rfl rfl rfl (Rd.leq rfl rfl rfl) ?_
     refine WL.rd rfl rfl rfl (Rd.pick_t rfl rfl rfl) ?_
     refine WL.rd rfl rfl rfl (Rd.move rfl rfl) ?_
     refine WL.case 76 rfl (fun hg76 => ?_) (fun hg76 => ?_)
     ·
      refine WL.rd_yes rfl rfl rfl rfl rfl rfl (Rd.move rfl rfl) ?_
      refine WL.rd_yes rfl rfl rfl rfl rfl rfl (Rd.nilc rfl rfl) ?_
      refine WL.rd_yes rfl rfl rfl rfl rfl rfl ((by exact Rd.field rfl F30_6 rfl rfl)) ?_
      refine WL.rd_yes rfl rfl rfl rfl rfl rfl (Rd.row1 (b := b) (off := 6) rfl C9 rfl Z.M rfl) ?_
      refine WL.rd_yes rfl rfl rfl rfl rfl rfl (Rd.slen (ts := #[]) (ty := 0) rfl rfl Tryz.underlying9) ?_
      refine WL.rd_yes rfl rfl rfl rfl rfl rfl (Rd.leq rfl rfl rfl) ?_
      refine WL.rd rfl rfl rfl (Rd.pick_t rfl rfl rfl) ?_
      refine WL.rd rfl rfl rfl (Rd.move rfl rfl) ?_
      refine WL.case 84 rfl (fun hg84 => ?_) (fun hg84 => ?_)
      ·
       refine WL.rd_yes rfl rfl rfl rfl rfl rfl (Rd.move rfl rfl) ?_
       refine WL.rd_yes rfl rfl rfl rfl rfl rfl (Rd.nilc rfl rfl) ?_
       refine WL.rd_yes rfl rfl rfl rfl rfl rfl ((by exact Rd.field rfl F30_7 rfl rfl)) ?_
       refine WL.rd_yes rfl rfl rfl rfl rfl rfl (Rd.row1 (b := b) (off := 7) rfl C3 rfl Z.M rfl) ?_
       refine WL.rd_yes rfl rfl rfl rfl rfl rfl (Rd.geq rfl rfl rfl) ?_
       refine WL.rd rfl rfl rfl (Rd.pick_t rfl rfl rfl) ?_
       refine WL.rd rfl rfl rfl (Rd.move rfl rfl) ?_
       refine WL.case 91 rfl (fun hg91 => ?_) (fun hg91 => ?_)
       ·
        refine WL.rd_yes rfl rfl rfl rfl rfl rfl (Rd.move rfl rfl) ?_
        refine WL.rd_yes rfl rfl rfl rfl rfl rfl (Rd.nilc rfl rfl) ?_
        refine WL.rd_yes rfl rfl rfl rfl rfl rfl ((by exact Rd.field rfl F30_7 rfl rfl)) ?_
        refine WL.rd_yes rfl rfl rfl rfl rfl rfl (Rd.row1 (b := b) (off := 7) rfl C3 rfl Z.M rfl) ?_
        refine WL.rd_yes rfl rfl rfl rfl rfl rfl (Rd.leq rfl rfl rfl) ?_
        refine WL.rd rfl rfl rfl (Rd.pick_t rfl rfl rfl) ?_
        refine WL.say 97 (u := .bool (decide (RightP o))) rfl (by (refine vb ?_; rw [hiff]; exact ⟨fun h => ⟨i2, hg52, by omega⟩, fun h => by omega⟩)) ?_
        refine WL.rd rfl rfl rfl (Rd.assign rfl rfl) ?_
        refine WL.nil ?_
        refine thenQ.normal ?_
        refine WC.heap (R' := R) (O' := O) Z.F ?_
        refine WC.ret (Ret.one Tryz.results29 rfl ?_)
        exact hk
       ·
        refine WL.no rfl rfl rfl rfl rfl rfl ?_
        refine WL.no rfl rfl rfl rfl rfl rfl ?_
        refine WL.no rfl rfl rfl rfl rfl rfl ?_
        refine WL.no rfl rfl rfl rfl rfl rfl ?_
        refine WL.no rfl rfl rfl rfl rfl rfl ?_
        refine WL.rd rfl rfl rfl (Rd.pick_f rfl rfl rfl) ?_
        refine WL.say 97 (u := .bool (decide (RightP o))) rfl (by (refine vb_f ?_; rw [hiff]; intro h; omega)) ?_
        refine WL.rd rfl rfl rfl (Rd.assign rfl rfl) ?_
        refine WL.nil ?_
        refine thenQ.normal ?_
        refine WC.heap (R' := R) (O' := O) Z.F ?_
        refine WC.ret (Ret.one Tryz.results29 rfl ?_)
        exact hk
      ·
       refine WL.no rfl rfl rfl rfl rfl rfl ?_
       refine WL.no rfl rfl rfl rfl rfl rfl ?_
       refine WL.no rfl rfl rfl rfl rfl rfl ?_
       refine WL.no rfl rfl rfl rfl rfl rfl ?_
       refine WL.no rfl rfl rfl rfl rfl rfl ?_
       refine WL.rd rfl rfl rfl (Rd.pick_f rfl rfl rfl) ?_
       refine WL.rd rfl rfl rfl (Rd.move rfl rfl) ?_
       refine WL.no rfl rfl rfl rfl rfl rfl ?_
       refine WL.no rfl rfl rfl rfl rfl rfl ?_
       refine WL.no rfl rfl rfl rfl rfl rfl ?_
       refine WL.no rfl rfl rfl rfl rfl rfl ?_
       refine WL.no rfl rfl rfl rfl rfl rfl ?_
       refine WL.rd rfl rfl rfl (Rd.pick_f rfl rfl rfl) ?_
       refine WL.say 97 (u := .bool (decide (RightP o))) rfl (by (refine vb_f ?_; rw [hiff]; intro h; omega)) ?_
       refine WL.rd rfl rfl rfl (Rd.assign rfl rfl) ?_
       refine WL.nil ?_
       refine thenQ.normal ?_
       refine WC.heap (R' := R) (O' := O) Z.F ?_
       refine WC.ret (Ret.one Tryz.results29 rfl ?_)
       exact hk
     ·
      refine WL.no rfl rfl rfl rfl rfl rfl ?_
      refine WL.no rfl rfl rfl rfl rfl rfl ?_
      refine WL.no rfl rfl rfl rfl rfl rfl ?_
      refine WL.no rfl rfl rfl rfl rfl rfl ?_
      refine WL.no rfl rfl rfl rfl rfl rfl ?_
      refine WL.no rfl rfl rfl rfl rfl rfl ?_
      refine WL.rd rfl rfl rfl (Rd.pick_f rfl rfl rfl) ?_
      refine WL.rd rfl rfl rfl (Rd.move rfl rfl) ?_
      refine WL.no rfl rfl rfl rfl rfl rfl ?_
      refine WL.no rfl rfl rfl rfl rfl rfl ?_
      refine WL.no rfl rfl rfl rfl rfl rfl ?_
      refine WL.no rfl rfl rfl rfl rfl rfl ?_
      refine WL.no rfl rfl rfl rfl rfl rfl ?_
      refine WL.rd rfl rfl rfl (Rd.pick_f rfl rfl rfl) ?_
      refine WL.rd rfl rfl rfl (Rd.move rfl rfl) ?_
      refine WL.no rfl rfl rfl rfl rfl rfl ?_
      refine WL.no rfl rfl rfl rfl rfl rfl ?_
      refine WL.no rfl rfl rfl rfl rfl rfl ?_
      refine WL.no rfl rfl rfl rfl rfl rfl ?_
      refine WL.no rfl rfl rfl rfl rfl rfl ?_
      refine WL.rd rfl rfl rfl (Rd.pick_f rfl rfl rfl) ?_
      refine WL.say 97 (u := .bool (decide (RightP o))) rfl (by (refine vb_f ?_; rw [hiff]; intro h; omega)) ?_
      refine WL.rd rfl rfl rfl (Rd.assign rfl rfl) ?_
      refine WL.nil ?_
      refine thenQ.normal ?_
      refine WC.heap (R' := R) (O' := O) Z.F ?_
      refine WC.ret (Ret.one Tryz.results29 rfl ?_)
      exact hk
    ·
     refine WL.no rfl rfl rfl rfl rfl rfl ?_
     refine WL.no rfl rfl rfl rfl rfl rfl ?_
     refine WL.no rfl rfl rfl rfl rfl rfl ?_
     refine WL.no rfl rfl rfl rfl rfl rfl ?_
     refine WL.no rfl rfl rfl rfl rfl rfl ?_
     refine WL.no rfl rfl rfl rfl rfl rfl ?_
     refine WL.rd rfl rfl rfl (Rd.pick_f rfl rfl rfl) ?_
     refine WL.rd rfl rfl rfl (Rd.move rfl rfl) ?_
     refine WL.no rfl rfl rfl rfl rfl rfl ?_
     refine WL.no rfl rfl rfl rfl rfl rfl ?_
     refine WL.no rfl rfl rfl rfl rfl rfl ?_
     refine WL.no rfl rfl rfl rfl rfl rfl ?_
     refine WL.no rfl rfl rfl rfl rfl rfl ?_
     refine WL.no rfl rfl rfl rfl rfl rfl ?_
     refine WL.rd rfl rfl rfl (Rd.pick_f rfl rfl rfl) ?_
     refine WL.rd rfl rfl rfl (Rd.move rfl rfl) ?_
     refine WL.no rfl rfl rfl rfl rfl rfl ?_
     refine WL.no rfl rfl rfl rfl rfl rfl ?_
     refine WL.no rfl rfl rfl rfl rfl rfl ?_
     refine WL.no rfl rfl rfl rfl rfl rfl ?_
     refine WL.no rfl rfl rfl rfl rfl rfl ?_
     refine WL.rd rfl rfl rfl (Rd.pick_f rfl rfl rfl) ?_
     refine WL.rd rfl rfl rfl (Rd.move rfl rfl) ?_
     refine WL.no rfl rfl rfl rfl rfl rfl ?_
     refine WL.no rfl rfl rfl rfl rfl rfl ?_
     refine WL.no rfl rfl rfl rfl rfl rfl ?_
     refine WL.no rfl rfl rfl rfl rfl rfl ?_
     refine WL.no rfl rfl rfl rfl rfl rfl ?_
     refine WL.rd rfl rfl rfl (Rd.pick_f rfl rfl rfl) ?_
     refine WL.say 97 (u := .bool (decide (RightP o))) rfl (by (refine vb_f ?_; rw [hiff]; intro h; omega)) ?_
     refine WL.rd rfl rfl rfl (Rd.assign rfl rfl) ?_
     refine WL.nil ?_
     refine thenQ.normal ?_
     refine WC.heap (R' := R) (O' := O) Z.F ?_
     refine WC.ret (Ret.one Tryz.results29 rfl ?_)
     exact hk
   ·
    refine WL.no rfl rfl rfl rfl rfl rfl ?_
    refine WL.no rfl rfl rfl rfl rfl rfl ?_
    refine WL.no rfl rfl rfl rfl rfl rfl ?_
    refine WL.no rfl rfl rfl rfl rfl rfl ?_
    refine WL.no rfl rfl rfl rfl rfl rfl ?_
    refine WL.no rfl rfl rfl rfl rfl rfl ?_
    refine WL.rd rfl rfl rfl (Rd.pick_f rfl rfl rfl) ?_
    refine WL.rd rfl rfl rfl (Rd.move rfl rfl) ?_
    refine WL.no rfl rfl rfl rfl rfl rfl ?_
    refine WL.no rfl rfl rfl rfl rfl rfl ?_
    refine WL.no rfl rfl rfl rfl rfl rfl ?_
    refine WL.no rfl rfl rfl rfl rfl rfl ?_
    refine WL.no rfl rfl rfl rfl rfl rfl ?_
    refine WL.no rfl rfl rfl rfl rfl rfl ?_
    refine WL.rd rfl rfl rfl (Rd.pick_f rfl rfl rfl) ?_
    refine WL.rd rfl rfl rfl (Rd.move rfl rfl) ?_
    refine WL.no rfl rfl rfl rfl rfl rfl ?_
    refine WL.no rfl rfl rfl rfl rfl rfl ?_
    refine WL.no rfl rfl rfl rfl rfl rfl ?_
    refine WL.no rfl rfl rfl rfl rfl rfl ?_
    refine WL.no rfl rfl rfl rfl rfl rfl ?_
    refine WL.no rfl rfl rfl rfl rfl rfl ?_
    refine WL.rd rfl rfl rfl (Rd.pick_f rfl rfl rfl) ?_
    refine WL.rd rfl rfl rfl (Rd.move rfl rfl) ?_
    refine WL.no rfl rfl rfl rfl rfl rfl ?_
    refine WL.no rfl rfl rfl rfl rfl rfl ?_
    refine WL.no rfl rfl rfl rfl rfl rfl ?_
    refine WL.no rfl rfl rfl rfl rfl rfl ?_
    refine WL.no rfl rfl rfl rfl rfl rfl ?_
    refine WL.rd rfl rfl rfl (Rd.pick_f rfl rfl rfl) ?_
    refine WL.rd rfl rfl rfl (Rd.move rfl rfl) ?_
    refine WL.no rfl rfl rfl rfl rfl rfl ?_
    refine WL.no rfl rfl rfl rfl rfl rfl ?_
    refine WL.no rfl rfl rfl rfl rfl rfl ?_
    refine WL.no rfl rfl rfl rfl rfl rfl ?_
    refine WL.no rfl rfl rfl rfl rfl rfl ?_
    refine WL.rd rfl rfl rfl (Rd.pick_f rfl rfl rfl) ?_
    refine WL.say 97 (u := .bool (decide (RightP o))) rfl (by (refine vb_f ?_; rw [hiff]; intro h; omega)) ?_
    refine WL.rd rfl rfl rfl (Rd.assign rfl rfl) ?_
    refine WL.nil ?_
    refine thenQ.normal ?_
    refine WC.heap (R' := R) (O' := O) Z.F ?_
    refine WC.ret (Ret.one Tryz.results29 rfl ?_)
    exact hk
  ·
   refine WL.no rfl rfl rfl rfl rfl rfl ?_
   refine WL.no rfl rfl rfl rfl rfl rfl ?_
   refine WL.no rfl rfl rfl rfl rfl rfl ?_
   refine WL.no rfl rfl rfl rfl rfl rfl ?_
   refine WL.no rfl rfl rfl rfl rfl rfl ?_
   refine WL.no rfl rfl rfl rfl rfl rfl ?_
   refine WL.rd rfl rfl rfl (Rd.pick_f rfl rfl rfl) ?_
   refine WL.rd rfl rfl rfl (Rd.move rfl rfl) ?_
   refine WL.no rfl rfl rfl rfl rfl rfl ?_
   refine WL.no rfl rfl rfl rfl rfl rfl ?_
   refine WL.no rfl rfl rfl rfl rfl rfl ?_
   refine WL.no rfl rfl rfl rfl rfl rfl ?_
   refine WL.no rfl rfl rfl rfl rfl rfl ?_
   refine WL.no rfl rfl rfl rfl rfl rfl ?_
   refine WL.rd rfl rfl rfl (Rd.pick_f rfl rfl rfl) ?_
   refine WL.rd rfl rfl rfl (Rd.move rfl rfl) ?_
   refine WL.no rfl rfl rfl rfl rfl rfl ?_
   refine WL.no rfl rfl rfl rfl rfl rfl ?_
   refine WL.no rfl rfl rfl rfl rfl rfl ?_
   refine WL.no rfl rfl rfl rfl rfl rfl ?_
   refine WL.no rfl rfl rfl rfl rfl rfl ?_
   refine WL.no rfl rfl rfl rfl rfl rfl ?_
   refine WL.rd rfl rfl rfl (Rd.pick_f rfl rfl rfl) ?_
   refine WL.rd rfl rfl rfl (Rd.move rfl rfl) ?_
   refine WL.no rfl rfl rfl rfl rfl rfl ?_
   refine WL.no rfl rfl rfl rfl rfl rfl ?_
   refine WL.no rfl rfl rfl rfl rfl rfl ?_
   refine WL.no rfl rfl rfl rfl rfl rfl ?_
   refine WL.no rfl rfl rfl rfl rfl rfl ?_
   refine WL.no rfl rfl rfl rfl rfl rfl ?_
   refine WL.rd rfl rfl rfl (Rd.pick_f rfl rfl rfl) ?_
   refine WL.rd rfl rfl rfl (Rd.move rfl rfl) ?_
   refine WL.no rfl rfl rfl rfl rfl rfl ?_
   refine WL.no rfl rfl rfl rfl rfl rfl ?_
   refine WL.no rfl rfl rfl rfl rfl rfl ?_
   refine WL.no rfl rfl rfl rfl rfl rfl ?_
   refine WL.no rfl rfl rfl rfl rfl rfl ?_
   refine WL.rd rfl rfl rfl (Rd.pick_f rfl rfl rfl) ?_
   refine WL.rd rfl rfl rfl (Rd.move rfl rfl) ?_
   refine WL.no rfl rfl rfl rfl rfl rfl ?_
   refine WL.no rfl rfl rfl rfl rfl rfl ?_
   refine WL.no rfl rfl rfl rfl rfl rfl ?_
   refine WL.no rfl rfl rfl rfl rfl rfl ?_
   refine WL.no rfl rfl rfl rfl rfl rfl ?_
   refine WL.rd rfl rfl rfl (Rd.pick_f rfl rfl rfl) ?_
   refine WL.say 97 (u := .bool (decide (RightP o))) rfl (by (refine vb_f ?_; rw [hiff]; intro h; exact hg52 h.2.1)) ?_
   refine WL.rd rfl rfl rfl (Rd.assign rfl rfl) ?_
   refine WL.nil ?_
   refine thenQ.normal ?_
   refine WC.heap (R' := R) (O' := O) Z.F ?_
   refine WC.ret (Ret.one Tryz.results29 rfl ?_)
   exact hk
set_option maxRecDepth 20000 in
set_option maxHeartbeats 1000000 in
theorem tagRight_spec (hb : oRow b o ev pv ∈ O) (he : SlE encT ev o.ents ∈ R) (hp : SlE (SL.one vs) pv o.pars ∈ R) (hkd : o.kind = 4) (hn : o.name.length ≤ 9223372036854775000) (hk : POST (.bool (decide (RightP o))) R O) : Fun Tryz.prog 32 #[.pointer (some ⟨b, 0, none⟩)] R O POST := by
 have hiff : RightP o ↔ bareP o { zOb with target := o.target, name := o.name, text := o.text } ∧ o.target.length = 32 ∧ GoodP o.name ∧ o.text.length ≤ 4096 := by
  unfold RightP bareP zOb
  simp only [len0, List.length_nil]
  rw [hkd]
  simp
  try grind
 refine Fun.enter (l := [_]) Tryz.func32 rfl Tryz.ntmps32 rfl (L0 := [(0, _)]) rfl ?_
 refine WC.seq ?_
 refine WC.region ?_
 refine WL.rd rfl rfl rfl (Rd.assign rfl rfl) ?_
 refine WL.nil ?_
 refine thenQ.normal ?_
 refine WC.seq ?_
 refine WC.tail 14 mixed Z.K ?_
 refine WS.rd rfl rfl rfl (Rd.move rfl rfl) ?_
 refine WS.rd rfl rfl rfl (Rd.move rfl rfl) ?_
 refine WS.rd rfl rfl rfl (Rd.nilc rfl rfl) ?_
 refine WS.rd rfl rfl rfl ((by exact Rd.field rfl F30_8 rfl rfl)) ?_
 refine WS.rd rfl rfl rfl (Rd.row1 (b := b) (off := 8) rfl C9 rfl Z.M rfl) ?_
 refine WS.rd rfl rfl rfl (Rd.move rfl rfl) ?_
 refine WS.rd rfl rfl rfl (Rd.nilc rfl rfl) ?_
 refine WS.rd rfl rfl rfl ((by exact Rd.field rfl F30_9 rfl rfl)) ?_
 refine WS.rd rfl rfl rfl (Rd.row1 (b := b) (off := 9) rfl C9 rfl Z.M rfl) ?_
 refine WS.rd rfl rfl rfl (Rd.move rfl rfl) ?_
 refine WS.rd rfl rfl rfl (Rd.nilc rfl rfl) ?_
 refine WS.rd rfl rfl rfl ((by exact Rd.field rfl F30_6 rfl rfl)) ?_
 refine WS.rd rfl rfl rfl (Rd.row1 (b := b) (off := 6) rfl C9 rfl Z.M rfl) ?_
 refine WS.rd rfl rfl rfl (Rd.buildN (ps := [(8, _), (9, _), (6, _)]) (cells := obC { zOb with target := o.target, name := o.name, text := o.text } (.slice none 0 0) (.slice none 0 0)) rfl Bs30 I30 rfl Z.E Z.C (by apply NFo.mk; repeat (first | exact NF.nil | apply NF.cons))) ?_
 refine WS.switch ?_
 refine WL.heap (fun w h => Sat.nilE (α := ET) (enc := encT) h) ?_
 refine WL.heap (fun w h => Sat.nilE (α := List UInt8) (enc := SL.one vs) h) ?_
 refine WL.op rfl ?_
 refine OpW.call rfl rfl Z.E Z.K rfl rfl rfl ?_
 refine bare_spec (o := o) (x := { zOb with target := o.target, name := o.name, text := o.text }) Z.M Z.M Z.M Z.M Z.M ?_
 refine WL.rd rfl rfl rfl (Rd.move rfl rfl) ?_
 refine WL.case 18 rfl (fun hg18 => ?_) (fun hg18 => ?_)
 ·
  refine WL.rd_yes rfl rfl rfl rfl rfl rfl (Rd.move rfl rfl) ?_
  refine WL.rd_yes rfl rfl rfl rfl rfl rfl (Rd.nilc rfl rfl) ?_
  refine WL.rd_yes rfl rfl rfl rfl rfl rfl ((by exact Rd.field rfl F30_8 rfl rfl)) ?_
  refine WL.rd_yes rfl rfl rfl rfl rfl rfl (Rd.row1 (b := b) (off := 8) rfl C9 rfl Z.M rfl) ?_
  refine WL.rd_yes rfl rfl rfl rfl rfl rfl (Rd.slen (ts := #[]) (ty := 0) rfl rfl Tryz.underlying9) ?_
  refine WL.rd_yes rfl rfl rfl rfl rfl rfl (Rd.eql rfl rfl rfl) ?_
  refine WL.rd rfl rfl rfl (Rd.pick_t rfl rfl rfl) ?_
  refine WL.rd rfl rfl rfl (Rd.move rfl rfl) ?_
  refine WL.case 26 rfl (fun hg26 => ?_) (fun hg26 => ?_)
  ·
   refine WL.rd_yes rfl rfl rfl rfl rfl rfl (Rd.move rfl rfl) ?_
   refine WL.rd_yes rfl rfl rfl rfl rfl rfl (Rd.nilc rfl rfl) ?_
   refine WL.rd_yes rfl rfl rfl rfl rfl rfl ((by exact Rd.field rfl F30_9 rfl rfl)) ?_
   refine WL.rd_yes rfl rfl rfl rfl rfl rfl (Rd.row1 (b := b) (off := 9) rfl C9 rfl Z.M rfl) ?_
   refine WL.op_yes rfl rfl rfl rfl ?_
   refine OpW.call rfl rfl Z.E Z.K rfl rfl rfl ?_
   refine good_spec hn ?_
   refine WL.rd rfl rfl rfl (Rd.pick_t rfl rfl rfl) ?_
   refine WL.rd rfl rfl rfl (Rd.move rfl rfl) ?_
   refine WL.case 33 rfl (fun hg33 => ?_) (fun hg33 => ?_)
   ·
    refine WL.rd_yes rfl rfl rfl rfl rfl rfl (Rd.move rfl rfl) ?_
    refine WL.rd_yes rfl rfl rfl rfl rfl rfl (Rd.nilc rfl rfl) ?_
    refine WL.rd_yes rfl rfl rfl rfl rfl rfl ((by exact Rd.field rfl F30_6 rfl rfl)) ?_
    refine WL.rd_yes rfl rfl rfl rfl rfl rfl (Rd.row1 (b := b) (off := 6) rfl C9 rfl Z.M rfl) ?_
    refine WL.rd_yes rfl rfl rfl rfl rfl rfl (Rd.slen (ts := #[]) (ty := 0) rfl rfl Tryz.underlying9) ?_
    refine WL.rd_yes rfl rfl rfl rfl rfl rfl (Rd.leq rfl rfl rfl) ?_
    refine WL.rd rfl rfl rfl (Rd.pick_t rfl rfl rfl) ?_
    refine WL.say 40 (u := .bool (decide (RightP o))) rfl (by (refine vb ?_; rw [hiff]; exact ⟨fun h => ⟨hg18, by omega, hg33, by omega⟩, fun h => by have := h.2.2.2; omega⟩)) ?_
    refine WL.rd rfl rfl rfl (Rd.assign rfl rfl) ?_
    refine WL.nil ?_
    refine thenQ.normal ?_
    refine WC.heap (R' := R) (O' := O) Z.F ?_
    refine WC.ret (Ret.one Tryz.results32 rfl ?_)
    exact hk
   ·
    refine WL.no rfl rfl rfl rfl rfl rfl ?_
    refine WL.no rfl rfl rfl rfl rfl rfl ?_
    refine WL.no rfl rfl rfl rfl rfl rfl ?_
    refine WL.no rfl rfl rfl rfl rfl rfl ?_
    refine WL.no rfl rfl rfl rfl rfl rfl ?_
    refine WL.no rfl rfl rfl rfl rfl rfl ?_
    refine WL.rd rfl rfl rfl (Rd.pick_f rfl rfl rfl) ?_
    refine WL.say 40 (u := .bool (decide (RightP o))) rfl (by (refine vb_f ?_; rw [hiff]; intro h; exact hg33 h.2.2.1)) ?_
    refine WL.rd rfl rfl rfl (Rd.assign rfl rfl) ?_
    refine WL.nil ?_
    refine thenQ.normal ?_
    refine WC.heap (R' := R) (O' := O) Z.F ?_
    refine WC.ret (Ret.one Tryz.results32 rfl ?_)
    exact hk
  ·
   refine WL.no rfl rfl rfl rfl rfl rfl ?_
   refine WL.no rfl rfl rfl rfl rfl rfl ?_
   refine WL.no rfl rfl rfl rfl rfl rfl ?_
   refine WL.no rfl rfl rfl rfl rfl rfl ?_
   refine WL.no rfl rfl rfl rfl rfl rfl ?_
   refine WL.rd rfl rfl rfl (Rd.pick_f rfl rfl rfl) ?_
   refine WL.rd rfl rfl rfl (Rd.move rfl rfl) ?_
   refine WL.no rfl rfl rfl rfl rfl rfl ?_
   refine WL.no rfl rfl rfl rfl rfl rfl ?_
   refine WL.no rfl rfl rfl rfl rfl rfl ?_
   refine WL.no rfl rfl rfl rfl rfl rfl ?_
   refine WL.no rfl rfl rfl rfl rfl rfl ?_
   refine WL.no rfl rfl rfl rfl rfl rfl ?_
   refine WL.rd rfl rfl rfl (Rd.pick_f rfl rfl rfl) ?_
   refine WL.say 40 (u := .bool (decide (RightP o))) rfl (by (refine vb_f ?_; rw [hiff]; intro h; omega)) ?_
   refine WL.rd rfl rfl rfl (Rd.assign rfl rfl) ?_
   refine WL.nil ?_
   refine thenQ.normal ?_
   refine WC.heap (R' := R) (O' := O) Z.F ?_
   refine WC.ret (Ret.one Tryz.results32 rfl ?_)
   exact hk
 ·
  refine WL.no rfl rfl rfl rfl rfl rfl ?_
  refine WL.no rfl rfl rfl rfl rfl rfl ?_
  refine WL.no rfl rfl rfl rfl rfl rfl ?_
  refine WL.no rfl rfl rfl rfl rfl rfl ?_
  refine WL.no rfl rfl rfl rfl rfl rfl ?_
  refine WL.no rfl rfl rfl rfl rfl rfl ?_
  refine WL.rd rfl rfl rfl (Rd.pick_f rfl rfl rfl) ?_
  refine WL.rd rfl rfl rfl (Rd.move rfl rfl) ?_
  refine WL.no rfl rfl rfl rfl rfl rfl ?_
  refine WL.no rfl rfl rfl rfl rfl rfl ?_
  refine WL.no rfl rfl rfl rfl rfl rfl ?_
  refine WL.no rfl rfl rfl rfl rfl rfl ?_
  refine WL.no rfl rfl rfl rfl rfl rfl ?_
  refine WL.rd rfl rfl rfl (Rd.pick_f rfl rfl rfl) ?_
  refine WL.rd rfl rfl rfl (Rd.move rfl rfl) ?_
  refine WL.no rfl rfl rfl rfl rfl rfl ?_
  refine WL.no rfl rfl rfl rfl rfl rfl ?_
  refine WL.no rfl rfl rfl rfl rfl rfl ?_
  refine WL.no rfl rfl rfl rfl rfl rfl ?_
  refine WL.no rfl rfl rfl rfl rfl rfl ?_
  refine WL.no rfl rfl rfl rfl rfl rfl ?_
  refine WL.rd rfl rfl rfl (Rd.pick_f rfl rfl rfl) ?_
  refine WL.say 40 (u := .bool (decide (RightP o))) rfl (by (refine vb_f ?_; rw [hiff]; intro h; exact hg18 h.1)) ?_
  refine WL.rd rfl rfl rfl (Rd.assign rfl rfl) ?_
  refine WL.nil ?_
  refine thenQ.normal ?_
  refine WC.heap (R' := R) (O' := O) Z.F ?_
  refine WC.ret (Ret.one Tryz.results32 rfl ?_)
  exact hk
end
end Go.Proofs.YtlbdpcadaojcbaaGreatDoor
