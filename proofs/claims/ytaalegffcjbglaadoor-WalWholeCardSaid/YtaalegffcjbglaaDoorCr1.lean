/-
  Layer 3: the sum of a text, by the program's table and by the document, bit by bit.
-/
import Derived.Test.YtaalegffcjbglaaDoorNm4
namespace Go.Proofs.YtaalegffcjbglaaDoor
open Go Go.SL

/-! ### the register -/
def st (x : Nat) : Nat := x / 2 ^^^ (if x % 2 = 1 then 3988292384 else 0)
def stn : Nat → Nat → Nat
  | 0, x => x
  | k + 1, x => stn k (st x)
theorem xor_mid (a b c : Nat) : (a ^^^ c) ^^^ (b ^^^ c) = a ^^^ b := by
  apply Nat.eq_of_testBit_eq; intro i
  simp only [Nat.testBit_xor]
  cases a.testBit i <;> cases b.testBit i <;> cases c.testBit i <;> rfl
theorem xor_swap (a b c d : Nat) : (a ^^^ b) ^^^ (c ^^^ d) = (a ^^^ c) ^^^ (b ^^^ d) := by
  apply Nat.eq_of_testBit_eq; intro i
  simp only [Nat.testBit_xor]
  cases a.testBit i <;> cases b.testBit i <;> cases c.testBit i <;> cases d.testBit i <;> rfl
theorem st_xor (a b : Nat) : st (a ^^^ b) = st a ^^^ st b := by
  unfold st
  rw [Nat.xor_div_two, xor_swap (a / 2)]
  congr 1
  by_cases h1 : a % 2 = 1 <;> by_cases h2 : b % 2 = 1 <;> simp [Nat.xor_mod_two_eq_one, h1, h2]
theorem st_lt {x : Nat} (h : x < 2 ^ 32) : st x < 2 ^ 32 := Nat.xor_lt_two_pow (by omega) (by split <;> decide)
theorem st_two (x : Nat) : st (2 * x) = x := by
  unfold st
  rw [if_neg (by omega), Nat.xor_zero]; omega
theorem stn_xor : ∀ (k a b : Nat), stn k (a ^^^ b) = stn k a ^^^ stn k b
  | 0, _, _ => rfl
  | k + 1, a, b => by rw [stn, st_xor, stn_xor k]; rfl
theorem stn_lt : ∀ (k : Nat) {x : Nat}, x < 2 ^ 32 → stn k x < 2 ^ 32
  | 0, _, h => h
  | k + 1, _, h => stn_lt k (st_lt h)
theorem stn_add : ∀ (a b x : Nat), stn (a + b) x = stn b (stn a x)
  | 0, b, x => by rw [Nat.zero_add]; rfl
  | a + 1, b, x => by rw [show a + 1 + b = (a + b) + 1 from by omega, stn, stn_add a b]; rfl
theorem stn_pow : ∀ (k x : Nat), stn k (2 ^ k * x) = x
  | 0, x => by rw [Nat.pow_zero, Nat.one_mul]; rfl
  | k + 1, x => by rw [stn, Nat.pow_succ, show 2 ^ k * 2 * x = 2 * (2 ^ k * x) from by rw [Nat.mul_comm (2 ^ k) 2, Nat.mul_assoc], st_two, stn_pow k]
theorem split16 (x : Nat) : 2 ^ 4 * (x / 16) ^^^ (x &&& 15) = x := by
  have h1 : x &&& 15 = x % 16 := Nat.and_two_pow_sub_one_eq_mod x 4
  rw [h1]
  have e1 : (2 ^ 4 * (x / 16) ^^^ (x % 16)) / 2 ^ 4 = x / 16 := by rw [Nat.xor_div_two_pow, Nat.mul_div_cancel_left _ (by decide), Nat.div_eq_of_lt (Nat.mod_lt _ (by decide)), Nat.xor_zero]
  have e2 : (2 ^ 4 * (x / 16) ^^^ (x % 16)) % 2 ^ 4 = x % 16 := by rw [Nat.xor_mod_two_pow, Nat.mul_mod_right, Nat.zero_xor, Nat.mod_mod]
  generalize 2 ^ 4 * (x / 16) ^^^ (x % 16) = y at *
  omega
theorem nib (x : Nat) : x / 2 ^ 4 ^^^ stn 4 (x &&& 15) = stn 4 x := by
  conv => rhs; rw [← split16 x, stn_xor, stn_pow]
theorem and15_lt (x : Nat) : x &&& 15 < 16 := Nat.lt_of_le_of_lt Nat.and_le_right (by decide)
def tabZ : List Int := [0, 498536548, 997073096, 651767980, 1994146192, 1802195444, 1303535960, 1342533948, 3988292384, 4027552580, 3604390888, 3412177804, 2607071920, 2262029012, 2685067896, 3183342108]
def tabV : List Value := tabZ.map fun z => .int .u32 z
theorem tab_get {k : Nat} (h : k < 16) : tabV[k]? = some (.int .u32 ((stn 4 k : Nat) : Int)) := by
  have : ∀ k < 16, tabZ[k]? = some ((stn 4 k : Nat) : Int) := by decide +kernel
  rw [tabV, List.getElem?_map, this k h]; rfl
abbrev tabR : RO := garr 0 tabV

def stb (r : Nat) (c : UInt8) : Nat := stn 8 (r ^^^ c.toNat)
def reg (r : Nat) (s : List UInt8) : Nat := s.foldl stb r
theorem stb_lt {r : Nat} (h : r < 2 ^ 32) (c : UInt8) : stb r c < 2 ^ 32 := stn_lt 8 (Nat.xor_lt_two_pow h (Nat.lt_trans (UInt8.toNat_lt c) (by decide)))
theorem reg_lt : ∀ (s : List UInt8) {r : Nat}, r < 2 ^ 32 → reg r s < 2 ^ 32
  | [], _, h => h
  | c :: s, _, h => reg_lt s (stb_lt h c)
theorem reg_append (r : Nat) (s t : List UInt8) : reg r (s ++ t) = reg (reg r s) t := List.foldl_append
theorem reg_snoc {s : List UInt8} {i r : Nat} (h : i < s.length) : reg r (s.take (i + 1)) = stb (reg r (s.take i)) s[i]! := by
  rw [List.take_add_one, get!_of_lt h, reg_append]; rfl
def sumE (s : List UInt8) : Nat := 4294967295 - reg 4294967295 s

set_option maxRecDepth 20000 in
set_option maxHeartbeats 1000000 in
theorem crcSum_spec {R : List RO} {O : List Own} {POST : Value → List RO → List Own → Prop} {s : List UInt8} (ht : tabR ∈ R) (hs : s.length ≤ 9223372036854775807)
    (hk : POST (.int .u32 (sumE s : Nat)) R O) : Fun Tryd.prog 55 #[vs s] R O POST := by
  refine Fun.enter (l := [_]) Tryd.func55 rfl Tryd.ntmps55 rfl (L0 := [(0, _)]) rfl ?_
  refine WC.seq ?_
  refine WC.region ?_
  refine WL.rd rfl rfl rfl (Rd.assign rfl rfl) ?_
  refine WL.nil ?_
  refine thenQ.normal ?_
  refine WC.seq ?_
  refine WC.region ?_
  refine WL.rd rfl rfl rfl (Rd.assign rfl rfl) ?_
  refine WL.nil ?_
  refine thenQ.normal ?_
  refine WC.seq ?_
  refine WC.seq ?_
  refine WC.region ?_
  refine WL.rd rfl rfl rfl (Rd.move rfl rfl) ?_
  refine WL.rd rfl rfl rfl (Rd.slen (ts := #[]) (ty := 0) rfl rfl Tryd.underlying9) ?_
  refine WL.rd rfl rfl rfl (Rd.move rfl rfl) ?_
  refine WL.nil ?_
  refine thenQ.normal ?_
  refine WC.block ?_
  refine WC.pick [7, 3, 0, 6] (by repeat (first | exact Pick.nil | apply Pick.cons rfl)) ?_
  refine WC.loop1o 2 (fun (i : Nat) => [(7, .int .i64 (i : Int)), (3, .int .u32 ((reg 4294967295 (s.take i) : Nat) : Int))]) (fun (i : Nat) => i ≤ s.length) (fun (i : Nat) => s.length - i) (0) (by repeat (first | exact Split.zero | apply Split.succ)) ?hinv1 (by repeat (first | exact Sub.nil | refine Sub.cons rfl (by first | rfl | (congr 1; omega) | assumption) ?_)) (fun _ h => h) ?_
  case hinv1 =>
    exact Nat.zero_le _
  intro i
  rintro h1
  have hr : reg 4294967295 (s.take i) < 2 ^ 32 := reg_lt _ (by decide)
  refine WC.seq ?_
  refine WC.region ?_
  refine WL.rd rfl rfl rfl (Rd.lss rfl rfl rfl) ?_
  refine WL.nil ?_
  refine thenQ.normal ?_
  refine WC.seq ?_
  first | refine WC.ite rfl (fun hc1 => ?_) (fun hc1 => ?_) | refine WC.cond rfl (fun hc1 => ?_) (fun hc1 => ?_)
  · skip
    have hc : s[i]!.toNat < 2 ^ 32 := Nat.lt_trans (UInt8.toNat_lt s[i]!) (by decide)
    have hX : reg 4294967295 (s.take i) ^^^ s[i]!.toNat < 2 ^ 32 := Nat.xor_lt_two_pow hr hc
    have hsn := reg_snoc (s := s) (i := i) (r := 4294967295) (by omega)
    have hY : stn 4 (reg 4294967295 (s.take i) ^^^ s[i]!.toNat) < 2 ^ 32 := stn_lt 4 hX
    refine WC.skip ?_
    refine thenQ.normal ?_
    refine WC.seq ?_
    refine WC.block ?_
    refine WC.seq ?_
    refine WC.region ?_
    refine WL.rd rfl rfl rfl (Rd.move rfl rfl) ?_
    refine WL.rd rfl rfl rfl (Rd.assign rfl rfl) ?_
    refine WL.nil ?_
    refine thenQ.normal ?_
    refine WC.seq ?_
    refine WC.region ?_
    refine WL.rd rfl rfl rfl (Rd.move rfl rfl) ?_
    refine WL.rd rfl rfl rfl (Rd.move rfl rfl) ?_
    refine WL.rd rfl rfl rfl (Rd.move rfl rfl) ?_
    refine WL.rd rfl rfl rfl (Rd.sidx (k := i) rfl Tryd.underlying9 rfl rfl (by omega) (by first | assumption | rfl | exact get!_of_lt (by omega))) ?_
    refine WL.rd rfl rfl rfl (Rd.conv rfl rfl Tryd.underlying113 (wrap_natU rfl hc) (hS := Tryd.underlying5)) ?_
    refine WL.rd rfl rfl rfl (Rd.xorU rfl rfl rfl rfl rfl rfl hr hc) ?_
    refine WL.rd rfl rfl rfl (Rd.assign rfl rfl) ?_
    refine WL.nil ?_
    refine thenQ.normal ?_
    refine WC.seq ?_
    refine WC.region ?_
    refine WL.rd rfl rfl rfl (Rd.move rfl rfl) ?_
    refine WL.rd rfl rfl rfl (Rd.shrN (a := reg 4294967295 (s.take i) ^^^ s[i]!.toNat) (n := 4) rfl rfl rfl rfl rfl (by decide)) ?_
    refine WL.rd rfl rfl rfl (Rd.move rfl rfl) ?_
    refine WL.rd rfl rfl rfl (Rd.andU (a := reg 4294967295 (s.take i) ^^^ s[i]!.toNat) (b := 15) rfl rfl rfl rfl rfl rfl hX (by decide)) ?_
    refine WL.rd rfl rfl rfl (Rd.idxArr1 (k := (reg 4294967295 (s.take i) ^^^ s[i]!.toNat) &&& 15) rfl A133 rfl rfl rfl (and15_lt _)) ?_
    refine WL.rd rfl rfl rfl (Rd.getGl rfl C113 rfl ht (tab_get (and15_lt _))) ?_
    refine WL.rd rfl rfl rfl (Rd.xorU rfl rfl rfl rfl rfl rfl (Nat.lt_of_le_of_lt (Nat.div_le_self _ _) hX) (stn_lt 4 (Nat.lt_trans (and15_lt _) (by decide)))) ?_
    refine WL.say 22 (u := .int .u32 ((stn 4 (reg 4294967295 (s.take i) ^^^ s[i]!.toNat) : Nat) : Int)) rfl (by rw [nib]) ?_
    refine WL.rd rfl rfl rfl (Rd.assign rfl rfl) ?_
    refine WL.nil ?_
    refine thenQ.normal ?_
    refine WC.region ?_
    refine WL.rd rfl rfl rfl (Rd.move rfl rfl) ?_
    refine WL.rd rfl rfl rfl (Rd.shrN (a := stn 4 (reg 4294967295 (s.take i) ^^^ s[i]!.toNat)) (n := 4) rfl rfl rfl rfl rfl (by decide)) ?_
    refine WL.rd rfl rfl rfl (Rd.move rfl rfl) ?_
    refine WL.rd rfl rfl rfl (Rd.andU (a := stn 4 (reg 4294967295 (s.take i) ^^^ s[i]!.toNat)) (b := 15) rfl rfl rfl rfl rfl rfl hY (by decide)) ?_
    refine WL.rd rfl rfl rfl (Rd.idxArr1 (k := stn 4 (reg 4294967295 (s.take i) ^^^ s[i]!.toNat) &&& 15) rfl A133 rfl rfl rfl (and15_lt _)) ?_
    refine WL.rd rfl rfl rfl (Rd.getGl rfl C113 rfl ht (tab_get (and15_lt _))) ?_
    refine WL.rd rfl rfl rfl (Rd.xorU rfl rfl rfl rfl rfl rfl (Nat.lt_of_le_of_lt (Nat.div_le_self _ _) hY) (stn_lt 4 (Nat.lt_trans (and15_lt _) (by decide)))) ?_
    refine WL.say 29 (u := .int .u32 ((reg 4294967295 (s.take (i + 1)) : Nat) : Int)) rfl (by rw [nib, ← stn_add, hsn]; rfl) ?_
    refine WL.rd rfl rfl rfl (Rd.assign rfl rfl) ?_
    refine WL.nil ?_
    refine blockQ.normal ?_
    refine thenQ.normal ?_
    refine WC.region ?_
    refine WL.rd rfl rfl rfl (Rd.add rfl rfl rfl (by omega)) ?_
    refine WL.rd rfl rfl rfl (Rd.move rfl rfl) ?_
    refine WL.nil ?_
    -- next1_1
    exact loopQ1.mk (i + 1) (by omega) (by omega) (by repeat (first | exact Sub.nil | refine Sub.cons rfl (by first | rfl | (congr 1; omega) | assumption) ?_)) (fun w h => OwnL.sat (by repeat (first | exact OwnL.refl | apply OwnL.take (by repeat (first | exact Take.head _ | apply Take.tail)) | apply OwnL.drop)) w (h.thin (SubL.mem (by repeat (first | exact SubL.refl | refine SubL.cons (by repeat (first | assumption | exact List.mem_cons_self | refine List.mem_cons_of_mem _ ?_)) ?_ | refine SubL.skip ?_)))))
  · skip
    have hi : s.take i = s := List.take_of_length_le (by omega)
    rw [hi] at hr ⊢
    refine WC.exit ?_
    refine thenQ.exit ?_
    refine loopQ1.exit ?_
    refine blockQ.exit ?_
    refine thenQ.normal ?_
    refine WC.seq ?_
    refine WC.region ?_
    refine WL.rd rfl rfl rfl (Rd.move rfl rfl) ?_
    refine WL.rd rfl rfl rfl (Rd.bnotU rfl rfl rfl rfl hr rfl) ?_
    refine WL.say 32 (u := .int .u32 (sumE s : Nat)) rfl rfl ?_
    refine WL.rd rfl rfl rfl (Rd.assign rfl rfl) ?_
    refine WL.nil ?_
    refine thenQ.normal ?_
    -- ret_1
    refine WC.ret (Ret.one Tryd.results55 rfl ?_)
    exact hk
theorem sumE_lt (s : List UInt8) : sumE s < 2 ^ 32 := Nat.lt_of_le_of_lt (Nat.sub_le _ _) (by decide)

/-- The register of the document's way, behind b bits of a byte. -/
def regB (r : Nat) (c : UInt8) (b : Nat) : Nat := stn b (r ^^^ c.toNat) ^^^ c.toNat / 2 ^ b
theorem regB_zero (r : Nat) (c : UInt8) : regB r c 0 = r := by
  rw [regB, Nat.pow_zero, Nat.div_one, stn, Nat.xor_assoc, Nat.xor_self, Nat.xor_zero]
theorem regB_eight (r : Nat) (c : UInt8) : regB r c 8 = stb r c := by
  rw [regB, Nat.div_eq_of_lt (UInt8.toNat_lt c), Nat.xor_zero]; rfl
theorem stn_succ (k x : Nat) : stn (k + 1) x = st (stn k x) := by rw [stn_add k 1]; rfl
theorem regB_succ (r : Nat) (c : UInt8) (b : Nat) : regB r c (b + 1) = regB r c b / 2 ^^^ (if stn b (r ^^^ c.toNat) % 2 = 1 then 3988292384 else 0) := by
  rw [regB, stn_succ, st, regB, Nat.xor_div_two, Nat.pow_succ, ← Nat.div_div_eq_div_mul]
  apply Nat.eq_of_testBit_eq; intro i
  simp only [Nat.testBit_xor]
  generalize (stn b (r ^^^ c.toNat) / 2).testBit i = p
  generalize (c.toNat / 2 ^ b / 2).testBit i = q
  generalize (if stn b (r ^^^ c.toNat) % 2 = 1 then 3988292384 else 0 : Nat).testBit i = u
  cases p <;> cases q <;> cases u <;> rfl
theorem regB_lt {r : Nat} (h : r < 2 ^ 32) (c : UInt8) (b : Nat) : regB r c b < 2 ^ 32 :=
  Nat.xor_lt_two_pow (stn_lt b (Nat.xor_lt_two_pow h (Nat.lt_trans (UInt8.toNat_lt c) (by decide)))) (Nat.lt_of_le_of_lt (Nat.div_le_self _ _) (Nat.lt_trans (UInt8.toNat_lt c) (by decide)))
theorem regB_bit (r : Nat) (c : UInt8) (b : Nat) : (regB r c b ^^^ c.toNat / 2 ^ b) &&& 1 = stn b (r ^^^ c.toNat) % 2 := by
  rw [regB, Nat.xor_assoc, Nat.xor_self, Nat.xor_zero, Nat.and_one_is_mod]

set_option maxRecDepth 20000 in
set_option maxHeartbeats 1000000 in
theorem refSum_spec {R : List RO} {O : List Own} {POST : Value → List RO → List Own → Prop} {s : List UInt8} (hs : s.length ≤ 9223372036854775807)
    (hk : POST (.int .u32 (sumE s : Nat)) R O) : Fun Tryd.prog 51 #[vs s] R O POST := by
  refine Fun.enter (l := [_]) Tryd.func51 rfl Tryd.ntmps51 rfl (L0 := [(0, _)]) rfl ?_
  refine WC.seq ?_
  refine WC.region ?_
  refine WL.rd rfl rfl rfl (Rd.assign rfl rfl) ?_
  refine WL.nil ?_
  refine thenQ.normal ?_
  refine WC.seq ?_
  refine WC.region ?_
  refine WL.rd rfl rfl rfl (Rd.assign rfl rfl) ?_
  refine WL.nil ?_
  refine thenQ.normal ?_
  refine WC.seq ?_
  refine WC.seq ?_
  refine WC.region ?_
  refine WL.rd rfl rfl rfl (Rd.assign rfl rfl) ?_
  refine WL.nil ?_
  refine thenQ.normal ?_
  refine WC.block ?_
  refine WC.pick [4, 3, 0] (by repeat (first | exact Pick.nil | apply Pick.cons rfl)) ?_
  refine WC.loop1o 2 (fun (i : Nat) => [(4, .int .i64 (i : Int)), (3, .int .u32 ((reg 4294967295 (s.take i) : Nat) : Int))]) (fun (i : Nat) => i ≤ s.length) (fun (i : Nat) => s.length - i) (0) (by repeat (first | exact Split.zero | apply Split.succ)) ?hinv1 (by repeat (first | exact Sub.nil | refine Sub.cons rfl (by first | rfl | (congr 1; omega) | assumption) ?_)) (fun _ h => h) ?_
  case hinv1 =>
    exact Nat.zero_le _
  intro i
  rintro h1
  have hr : reg 4294967295 (s.take i) < 2 ^ 32 := reg_lt _ (by decide)
  refine WC.seq ?_
  refine WC.seq ?_
  refine WC.region ?_
  refine WL.rd rfl rfl rfl (Rd.move rfl rfl) ?_
  refine WL.rd rfl rfl rfl (Rd.move rfl rfl) ?_
  refine WL.rd rfl rfl rfl (Rd.slen (ts := #[]) (ty := 0) rfl rfl Tryd.underlying9) ?_
  refine WL.rd rfl rfl rfl (Rd.lss rfl rfl rfl) ?_
  refine WL.nil ?_
  refine thenQ.normal ?_
  first | refine WC.ite rfl (fun hc1 => ?_) (fun hc1 => ?_) | refine WC.cond rfl (fun hc1 => ?_) (fun hc1 => ?_)
  · skip
    have hc : s[i]!.toNat < 2 ^ 32 := Nat.lt_trans (UInt8.toNat_lt s[i]!) (by decide)
    have hsn := reg_snoc (s := s) (i := i) (r := 4294967295) (by omega)
    refine WC.say 3 (u := .int .u32 ((regB (reg 4294967295 (s.take i)) s[i]! 0 : Nat) : Int)) rfl (by rw [regB_zero]) ?_
    refine WC.skip ?_
    refine thenQ.normal ?_
    refine WC.seq ?_
    refine WC.block ?_
    refine WC.seq ?_
    refine WC.region ?_
    refine WL.rd rfl rfl rfl (Rd.assign rfl rfl) ?_
    refine WL.nil ?_
    refine thenQ.normal ?_
    refine WC.block ?_
    refine WC.pick [5, 3, 0, 4] (by repeat (first | exact Pick.nil | apply Pick.cons rfl)) ?_
    refine WC.loop1o 2 (fun (b : Nat) => [(5, .int .i64 (b : Int)), (3, .int .u32 ((regB (reg 4294967295 (s.take i)) s[i]! b : Nat) : Int))]) (fun (b : Nat) => b ≤ 8) (fun (b : Nat) => 8 - b) (0) (by repeat (first | exact Split.zero | apply Split.succ)) ?hinv2 (by repeat (first | exact Sub.nil | refine Sub.cons rfl (by first | rfl | (congr 1; omega) | assumption) ?_)) (fun _ h => h) ?_
    case hinv2 =>
      exact Nat.zero_le _
    intro b
    rintro h2
    have hb := regB_lt hr s[i]! b
    refine WC.seq ?_
    refine WC.seq ?_
    refine WC.region ?_
    refine WL.rd rfl rfl rfl (Rd.move rfl rfl) ?_
    refine WL.rd rfl rfl rfl (Rd.lss rfl rfl rfl) ?_
    refine WL.nil ?_
    refine thenQ.normal ?_
    first | refine WC.ite rfl (fun hc2 => ?_) (fun hc2 => ?_) | refine WC.cond rfl (fun hc2 => ?_) (fun hc2 => ?_)
    · skip
      refine WC.skip ?_
      refine thenQ.normal ?_
      refine WC.seq ?_
      refine WC.block ?_
      refine WC.seq ?_
      refine WC.region ?_
      refine WL.rd rfl rfl rfl (Rd.move rfl rfl) ?_
      refine WL.rd rfl rfl rfl (Rd.move rfl rfl) ?_
      refine WL.rd rfl rfl rfl (Rd.move rfl rfl) ?_
      refine WL.rd rfl rfl rfl (Rd.sidx (k := i) rfl Tryd.underlying9 rfl rfl (by omega) (by first | assumption | rfl | exact get!_of_lt (by omega))) ?_
      refine WL.rd rfl rfl rfl (Rd.conv rfl rfl Tryd.underlying113 (wrap_natU rfl hc) (hS := Tryd.underlying5)) ?_
      refine WL.rd rfl rfl rfl (Rd.move rfl rfl) ?_
      refine WL.rd rfl rfl rfl (Rd.conv rfl rfl Tryd.underlying108 (wrap_natU rfl (show b < 18446744073709551616 by omega)) (hS := Tryd.underlying3)) ?_
      refine WL.rd rfl rfl rfl (Rd.shrN (a := s[i]!.toNat) (n := b) rfl rfl rfl rfl rfl (by show b ≤ 32; omega)) ?_
      refine WL.rd rfl rfl rfl (Rd.xorU rfl rfl rfl rfl rfl rfl hb (Nat.lt_of_le_of_lt (Nat.div_le_self _ _) hc)) ?_
      refine WL.rd rfl rfl rfl (Rd.andU rfl rfl rfl rfl rfl rfl (Nat.xor_lt_two_pow hb (Nat.lt_of_le_of_lt (Nat.div_le_self _ _) hc)) (show 1 < 4294967296 by decide)) ?_
      refine WL.say 26 (u := .int .u32 ((stn b (reg 4294967295 (s.take i) ^^^ s[i]!.toNat) % 2 : Nat) : Int)) rfl (by rw [regB_bit]) ?_
      refine WL.rd rfl rfl rfl (Rd.assign rfl rfl) ?_
      refine WL.nil ?_
      refine thenQ.normal ?_
      refine WC.seq ?_
      refine WC.region ?_
      refine WL.rd rfl rfl rfl (Rd.move rfl rfl) ?_
      refine WL.rd rfl rfl rfl (Rd.shrN (a := regB (reg 4294967295 (s.take i)) s[i]! b) (n := 1) rfl rfl rfl rfl rfl (by decide)) ?_
      refine WL.rd rfl rfl rfl (Rd.assign rfl rfl) ?_
      refine WL.nil ?_
      refine thenQ.normal ?_
      refine WC.seq ?_
      refine WC.region ?_
      refine WL.rd rfl rfl rfl (Rd.move rfl rfl) ?_
      refine WL.rd rfl rfl rfl (Rd.eql rfl rfl rfl) ?_
      refine WL.nil ?_
      refine thenQ.normal ?_
      first | refine WC.ite rfl (fun hc3 => ?_) (fun hc3 => ?_) | refine WC.cond rfl (fun hc3 => ?_) (fun hc3 => ?_)
      · skip
        have hbs := regB_succ (reg 4294967295 (s.take i)) s[i]! b; rw [if_pos (by omega)] at hbs
        refine WC.region ?_
        refine WL.rd rfl rfl rfl (Rd.move rfl rfl) ?_
        refine WL.rd rfl rfl rfl (Rd.xorU (b := 3988292384) rfl rfl rfl rfl rfl rfl (Nat.lt_of_le_of_lt (Nat.div_le_self _ _) hb) (by decide)) ?_
        refine WL.rd rfl rfl rfl (Rd.assign rfl rfl) ?_
        refine WL.nil ?_
        refine blockQ.normal ?_
        refine thenQ.normal ?_
        refine WC.region ?_
        refine WL.rd rfl rfl rfl (Rd.move rfl rfl) ?_
        refine WL.rd rfl rfl rfl (Rd.add rfl rfl rfl (by omega)) ?_
        refine WL.rd rfl rfl rfl (Rd.assign rfl rfl) ?_
        refine WL.nil ?_
        -- next2_1
        exact loopQ1.mk (b + 1) (by omega) (by omega) (by rw [hbs]; exact (by repeat (first | exact Sub.nil | refine Sub.cons rfl (by first | rfl | (congr 1; omega) | assumption) ?_))) (fun w h => OwnL.sat (by repeat (first | exact OwnL.refl | apply OwnL.take (by repeat (first | exact Take.head _ | apply Take.tail)) | apply OwnL.drop)) w (h.thin (SubL.mem (by repeat (first | exact SubL.refl | refine SubL.cons (by repeat (first | assumption | exact List.mem_cons_self | refine List.mem_cons_of_mem _ ?_)) ?_ | refine SubL.skip ?_)))))
      · skip
        have hbs := regB_succ (reg 4294967295 (s.take i)) s[i]! b; rw [if_neg (by omega), Nat.xor_zero] at hbs
        refine WC.skip ?_
        refine blockQ.normal ?_
        refine thenQ.normal ?_
        refine WC.region ?_
        refine WL.rd rfl rfl rfl (Rd.move rfl rfl) ?_
        refine WL.rd rfl rfl rfl (Rd.add rfl rfl rfl (by omega)) ?_
        refine WL.rd rfl rfl rfl (Rd.assign rfl rfl) ?_
        refine WL.nil ?_
        -- next2_2
        exact loopQ1.mk (b + 1) (by omega) (by omega) (by rw [hbs]; exact (by repeat (first | exact Sub.nil | refine Sub.cons rfl (by first | rfl | (congr 1; omega) | assumption) ?_))) (fun w h => OwnL.sat (by repeat (first | exact OwnL.refl | apply OwnL.take (by repeat (first | exact Take.head _ | apply Take.tail)) | apply OwnL.drop)) w (h.thin (SubL.mem (by repeat (first | exact SubL.refl | refine SubL.cons (by repeat (first | assumption | exact List.mem_cons_self | refine List.mem_cons_of_mem _ ?_)) ?_ | refine SubL.skip ?_)))))
    · skip
      refine WC.exit ?_
      refine thenQ.exit ?_
      refine loopQ1.exit ?_
      refine blockQ.exit ?_
      refine blockQ.normal ?_
      refine thenQ.normal ?_
      refine WC.region ?_
      refine WL.rd rfl rfl rfl (Rd.move rfl rfl) ?_
      refine WL.rd rfl rfl rfl (Rd.add rfl rfl rfl (by omega)) ?_
      refine WL.rd rfl rfl rfl (Rd.assign rfl rfl) ?_
      refine WL.nil ?_
      -- next1_1
      obtain rfl : b = 8 := by omega
      exact loopQ1.mk (i + 1) (by omega) (by omega) (by rw [hsn, ← regB_eight]; exact (by repeat (first | exact Sub.nil | refine Sub.cons rfl (by first | rfl | (congr 1; omega) | assumption) ?_))) (fun w h => OwnL.sat (by repeat (first | exact OwnL.refl | apply OwnL.take (by repeat (first | exact Take.head _ | apply Take.tail)) | apply OwnL.drop)) w (h.thin (SubL.mem (by repeat (first | exact SubL.refl | refine SubL.cons (by repeat (first | assumption | exact List.mem_cons_self | refine List.mem_cons_of_mem _ ?_)) ?_ | refine SubL.skip ?_)))))
  · skip
    have hi : s.take i = s := List.take_of_length_le (by omega)
    rw [hi] at hr ⊢
    refine WC.exit ?_
    refine thenQ.exit ?_
    refine loopQ1.exit ?_
    refine blockQ.exit ?_
    refine thenQ.normal ?_
    refine WC.seq ?_
    refine WC.region ?_
    refine WL.rd rfl rfl rfl (Rd.move rfl rfl) ?_
    refine WL.rd rfl rfl rfl (Rd.subk (r := ((sumE s : Nat) : Int)) rfl rfl rfl (by rw [wrap_u32 (by omega), sumE]; omega)) ?_
    refine WL.rd rfl rfl rfl (Rd.assign rfl rfl) ?_
    refine WL.nil ?_
    refine thenQ.normal ?_
    -- ret_1
    refine WC.ret (Ret.one Tryd.results51 rfl ?_)
    exact hk
end Go.Proofs.YtaalegffcjbglaaDoor
