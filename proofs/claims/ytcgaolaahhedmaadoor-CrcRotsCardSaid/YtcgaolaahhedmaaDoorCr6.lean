/-
  Layer 3: a frame of which up to four bytes in a row, behind its length, were changed is none (CrcRots).
-/
import Derived.Test.YtcgaolaahhedmaaDoorCr4
namespace Go.Proofs.YtcgaolaahhedmaaDoor
open Go Go.SL

theorem st_zero {x : Nat} (hx : x < 2 ^ 32) (h : st x = 0) : x = 0 := by
  unfold st at h
  by_cases h1 : x % 2 = 1
  · rw [if_pos h1] at h
    have h2 : (x / 2 ^^^ 3988292384) ^^^ 3988292384 = 3988292384 := by rw [h, Nat.zero_xor]
    rw [Nat.xor_assoc, Nat.xor_self, Nat.xor_zero] at h2
    omega
  · rw [if_neg h1, Nat.xor_zero] at h; omega
theorem xor_zero_eq {a b : Nat} (h : a ^^^ b = 0) : a = b := by
  have : (a ^^^ b) ^^^ b = b := by rw [h, Nat.zero_xor]
  rwa [Nat.xor_assoc, Nat.xor_self, Nat.xor_zero] at this
theorem st_inj {a b : Nat} (ha : a < 2 ^ 32) (hb : b < 2 ^ 32) (h : st a = st b) : a = b :=
  xor_zero_eq (st_zero (Nat.xor_lt_two_pow ha hb) (by rw [st_xor, h, Nat.xor_self]))
theorem stn_inj : ∀ (k : Nat) {a b : Nat}, a < 2 ^ 32 → b < 2 ^ 32 → stn k a = stn k b → a = b
  | 0, _, _, _, _, h => h
  | k + 1, _, _, ha, hb, h => st_inj ha hb (stn_inj k (st_lt ha) (st_lt hb) h)
theorem byte_lt (c : UInt8) : c.toNat < 2 ^ 32 := Nat.lt_trans (UInt8.toNat_lt c) (by decide)
theorem stb_inj {a b : Nat} {c : UInt8} (ha : a < 2 ^ 32) (hb : b < 2 ^ 32) (h : stb a c = stb b c) : a = b := by
  have h1 := stn_inj 8 (Nat.xor_lt_two_pow ha (byte_lt c)) (Nat.xor_lt_two_pow hb (byte_lt c)) h
  have h2 : (a ^^^ c.toNat) ^^^ c.toNat = (b ^^^ c.toNat) ^^^ c.toNat := by rw [h1]
  rwa [Nat.xor_assoc, Nat.xor_assoc, Nat.xor_self, Nat.xor_zero, Nat.xor_zero] at h2
theorem reg_inj : ∀ (s : List UInt8) {a b : Nat}, a < 2 ^ 32 → b < 2 ^ 32 → reg a s = reg b s → a = b
  | [], _, _, _, _, h => h
  | c :: s, _, _, ha, hb, h => stb_inj ha hb (reg_inj s (stb_lt ha c) (stb_lt hb c) h)
def leN : List UInt8 → Nat
  | [] => 0
  | c :: s => c.toNat + 256 * leN s
theorem add_xor (c : UInt8) (m : Nat) : c.toNat + 256 * m = c.toNat ^^^ 2 ^ 8 * m := by
  have hc := UInt8.toNat_lt c
  have e1 : (c.toNat ^^^ 2 ^ 8 * m) / 2 ^ 8 = m := by rw [Nat.xor_div_two_pow, Nat.mul_div_cancel_left _ (by decide), Nat.div_eq_of_lt hc, Nat.zero_xor]
  have e2 : (c.toNat ^^^ 2 ^ 8 * m) % 2 ^ 8 = c.toNat := by rw [Nat.xor_mod_two_pow, Nat.mul_mod_right, Nat.xor_zero, Nat.mod_eq_of_lt hc]
  generalize c.toNat ^^^ 2 ^ 8 * m = y at *
  omega
theorem reg_le : ∀ (s : List UInt8) (r : Nat), reg r s = stn (8 * s.length) (r ^^^ leN s)
  | [], r => by rw [leN, Nat.xor_zero]; rfl
  | c :: s, r => by
    have e : reg r (c :: s) = reg (stb r c) s := rfl
    rw [e, reg_le s, List.length_cons, leN, add_xor, ← Nat.xor_assoc, show 8 * (s.length + 1) = 8 + 8 * s.length from by omega, stn_add, stn_xor 8, stn_pow]
    rfl
theorem leN_lt : ∀ (s : List UInt8), leN s < 256 ^ s.length
  | [] => by decide
  | c :: s => by
    have h1 := leN_lt s
    have hc := UInt8.toNat_lt c
    rw [leN, List.length_cons, Nat.pow_succ]; omega
theorem leN_small {s : List UInt8} (h : s.length ≤ 4) : leN s < 2 ^ 32 :=
  Nat.lt_of_lt_of_le (leN_lt s) (Nat.le_trans (Nat.pow_le_pow_right (by decide) h) (by decide))
theorem leN_inj : ∀ {s t : List UInt8}, s.length = t.length → leN s = leN t → s = t
  | [], [], _, _ => rfl
  | c :: s, d :: t, hl, h => by
    have hc := UInt8.toNat_lt c
    have hd := UInt8.toNat_lt d
    rw [leN, leN] at h
    have h1 : c = d := UInt8.toNat_inj.1 (by omega)
    have h2 := leN_inj (s := s) (t := t) (by simpa using hl) (by omega)
    rw [h1, h2]
/-- What a few bytes do to the register tells which they are. -/
theorem reg_word {s t : List UInt8} (h4 : s.length ≤ 4) (hl : s.length = t.length) {r : Nat} (hr : r < 2 ^ 32) (h : reg r s = reg r t) : s = t := by
  rw [reg_le, reg_le, hl] at h
  have h1 := stn_inj _ (Nat.xor_lt_two_pow hr (leN_small h4)) (Nat.xor_lt_two_pow hr (leN_small (by omega))) h
  have h2 : r ^^^ (r ^^^ leN s) = r ^^^ (r ^^^ leN t) := by rw [h1]
  rw [← Nat.xor_assoc, ← Nat.xor_assoc, Nat.xor_self, Nat.zero_xor, Nat.zero_xor] at h2
  exact leN_inj hl h2
theorem leN_le4 {n : Nat} (h : n < 2 ^ 32) : leN (le4 n) = n := by
  simp only [le4, leN, u8_toNat (Nat.mod_lt _ (show 0 < 256 by decide))]
  omega
/-- The sum's bytes are the ones behind which the register is always the same. -/
theorem sum_iff {a z : List UInt8} (hz : z.length = 4) : z = le4 (sumE a) ↔ reg 4294967295 (a ++ z) = stn 32 4294967295 := by
  have hr : reg 4294967295 a < 2 ^ 32 := reg_lt a (by decide)
  have hs : sumE a = 4294967295 ^^^ reg 4294967295 a := by
    have := congrArg BitVec.toNat (BitVec.allOnes_xor (x := BitVec.ofNat 32 (reg 4294967295 a)))
    rw [BitVec.toNat_xor, BitVec.toNat_allOnes, BitVec.toNat_not, BitVec.toNat_ofNat, Nat.mod_eq_of_lt hr] at this
    rw [sumE]; exact this.symm
  have hg : reg 4294967295 (a ++ le4 (sumE a)) = stn 32 4294967295 := by
    rw [reg_append, reg_le, leN_le4 (sumE_lt a), hs, Nat.xor_comm 4294967295, ← Nat.xor_assoc, Nat.xor_self, Nat.zero_xor]; rfl
  constructor
  · rintro rfl; exact hg
  · intro h
    rw [← hg, reg_append, reg_append] at h
    exact reg_word (by omega) (by rw [hz]; rfl) hr h
/-- Bytes that begin as a frame's do. -/
theorem rot_next {k : UInt8} {n : Nat} {c z : List UInt8} (hn : n ≤ 262144) (hc : c.length = n) (hz : z.length = 4) :
    nextF (k :: (putE n ++ (c ++ z))) = if reg 4294967295 (k :: (putE n ++ (c ++ z))) = stn 32 4294967295 then (k.toNat, c, (((putE n).length + n + 5 : Nat) : Int), 0) else (0, [], 0, 5) := by
  subst hc
  have hx := nextE_put hn z
  have hlen : ((putE c.length ++ (c ++ z)).length : Int) = (putE c.length).length + c.length + 4 := by
    rw [List.length_append, List.length_append, hz]; omega
  have e : k :: (putE c.length ++ (c ++ z)) = (k :: (putE c.length ++ c)) ++ z := by rw [List.cons_append, List.append_assoc]
  have hal : (k :: (putE c.length ++ c)).length = (putE c.length).length + c.length + 1 := by rw [List.length_cons, List.length_append]
  have t1 : (k :: (putE c.length ++ (c ++ z))).take ((putE c.length).length + c.length + 1) = k :: (putE c.length ++ c) := by rw [e, ← hal, List.take_left]
  have t2 : ((k :: (putE c.length ++ (c ++ z))).take ((putE c.length).length + c.length + 5)).drop ((putE c.length).length + c.length + 1) = z := by
    rw [e, List.take_of_length_le (by rw [List.length_append, hal, hz]; omega), ← hal, List.drop_left]
  have hs := sum_iff (a := k :: (putE c.length ++ c)) hz
  rw [nextF, hx]
  simp only [ne_eq, not_true_eq_false, if_false]
  rw [if_neg (by rw [hlen]; omega), Int.toNat_natCast, t1, t2, e]
  by_cases h : z = le4 (sumE (k :: (putE c.length ++ c)))
  · rw [if_neg (by rw [← h]; simp), if_pos (hs.1 h)]
    refine Prod.ext rfl (Prod.ext rfl (Prod.ext ?_ rfl))
    show (((putE c.length).length + c.length : Nat) : Int) + 5 = (((putE c.length).length + c.length + 5 : Nat) : Int)
    omega
  · rw [if_pos h, if_neg (fun h2 => h (hs.2 h2))]

/-! ### the bytes that are turned over -/
def byE (x : Int) (j : Nat) : UInt8 := UInt8.ofNat (IntKind.u8.wrap (x.fdiv (2 ^ (8 * j)))).toNat
theorem byE_wrap (x : Int) (j : Nat) : IntKind.u8.wrap (x.fdiv (2 ^ (8 * j))) = ((byE x j).toNat : Int) := by
  have h : 0 ≤ IntKind.u8.wrap (x.fdiv (2 ^ (8 * j))) ∧ IntKind.u8.wrap (x.fdiv (2 ^ (8 * j))) ≤ 255 := by
    simp only [IntKind.wrap, IntKind.signed, IntKind.bits, Bool.false_and, Bool.false_eq_true, if_false]; omega
  rw [byE, u8_toNat (by omega)]; omega
def bys (x : Int) (i : Nat) : List UInt8 := (List.range i).map (byE x)
def chg (x : Int) (i : Nat) : Bool := (bys x i).any (fun c => c != 0)
theorem bys_snoc (x : Int) (i : Nat) : bys x (i + 1) = bys x i ++ [byE x i] := by rw [bys, List.range_succ, List.map_append]; rfl
theorem bys_length (x : Int) (i : Nat) : (bys x i).length = i := by simp [bys]
theorem chg_snoc (x : Int) (i : Nat) : chg x (i + 1) = (chg x i || (byE x i != 0)) := by rw [chg, bys_snoc, List.any_append]; simp [chg]
def xorL (a b : List UInt8) : List UInt8 := List.zipWith (· ^^^ ·) a b
theorem xorL_same : ∀ {w d : List UInt8}, w.length = d.length → (xorL w d = w ↔ d.any (fun c => c != 0) = false)
  | [], [], _ => by simp [xorL]
  | a :: w, c :: d, h => by
    have ih := xorL_same (w := w) (d := d) (by simpa using h)
    have h1 : a ^^^ c = a ↔ c = 0 := by
      constructor
      · intro e
        have : a ^^^ (a ^^^ c) = a ^^^ a := by rw [e]
        rwa [← UInt8.xor_assoc, UInt8.xor_self, UInt8.zero_xor] at this
      · rintro rfl; exact UInt8.xor_zero
    have e1 : xorL (a :: w) (c :: d) = (a ^^^ c) :: xorL w d := rfl
    rw [e1, List.cons.injEq, h1, ih, List.any_cons, Bool.or_eq_false_iff]
    simp
/-- The bytes behind i rounds. -/
def rotE (f : List UInt8) (at_ : Nat) (x : Int) (i : Nat) : List UInt8 := f.take at_ ++ xorL ((f.drop at_).take i) (bys x i) ++ f.drop (at_ + i)
theorem rotE_zero (f : List UInt8) (at_ : Nat) (x : Int) : rotE f at_ x 0 = f := by simp [rotE, xorL]
theorem rotE_length {f : List UInt8} {at_ i : Nat} {x : Int} (h : at_ + i ≤ f.length) : (rotE f at_ x i).length = f.length := by
  simp only [rotE, xorL, List.length_append, List.length_take, List.length_drop, List.length_zipWith, bys_length]; omega
theorem rotE_get {f : List UInt8} {at_ i : Nat} {x : Int} (h : at_ + i < f.length) : (rotE f at_ x i)[at_ + i]? = some f[at_ + i]! := by
  have hl : (f.take at_ ++ xorL ((f.drop at_).take i) (bys x i)).length = at_ + i := by
    simp only [xorL, List.length_append, List.length_take, List.length_drop, List.length_zipWith, bys_length]; omega
  rw [rotE, List.getElem?_append_right (by omega), hl, Nat.sub_self, List.getElem?_drop, Nat.add_zero, get!_of_lt h]
theorem rotE_set {f : List UInt8} {at_ i : Nat} {x : Int} (h : at_ + i < f.length) : (rotE f at_ x i).set (at_ + i) (f[at_ + i]! ^^^ byE x i) = rotE f at_ x (i + 1) := by
  have hl : (f.take at_ ++ xorL ((f.drop at_).take i) (bys x i)).length = at_ + i := by
    simp only [xorL, List.length_append, List.length_take, List.length_drop, List.length_zipWith, bys_length]; omega
  have hd : f.drop (at_ + i) = f[at_ + i]! :: f.drop (at_ + (i + 1)) := by
    rw [getElem!_pos f (at_ + i) h]; exact List.drop_eq_getElem_cons h
  have ht : (f.drop at_).take (i + 1) = (f.drop at_).take i ++ [f[at_ + i]!] := by
    rw [List.take_add_one, List.getElem?_drop, get!_of_lt h]; rfl
  rw [rotE, List.set_append_right _ _ (by omega), hl, Nat.sub_self, hd, List.set_cons_zero, rotE, ht, bys_snoc]
  have hz : xorL ((f.drop at_).take i ++ [f[at_ + i]!]) (bys x i ++ [byE x i]) = xorL ((f.drop at_).take i) (bys x i) ++ [f[at_ + i]! ^^^ byE x i] := by
    rw [xorL, List.zipWith_append (by rw [List.length_take, List.length_drop, bys_length]; omega)]; rfl
  rw [hz]
  simp only [List.append_assoc, List.cons_append, List.nil_append]

theorem rot_final {k : UInt8} {b : List UInt8} (hb : b.length ≤ 262144) {at_ m : Nat} {x : Int} (h1 : (putE b.length).length + 1 ≤ at_) (h2 : at_ + m ≤ (frameE k b).length) (h4 : m ≤ 4) :
    nextF (rotE (frameE k b) at_ x m) = if chg x m then (0, [], 0, 5) else (k.toNat, (nextF (rotE (frameE k b) at_ x m)).2.1, ((frameE k b).length : Int), 0) := by
  have hfe := frame_eq (k := k) hb
  have hfl := frame_length (k := k) hb
  have hl := rotE_length (x := x) h2
  -- the head is as it was
  have hp : ∀ r : List UInt8, (putE b.length).length + 1 ≤ r.length → r.take ((putE b.length).length + 1) = k :: putE b.length → ∃ c, r = k :: (putE b.length ++ c) := by
    intro r _ hr
    refine ⟨r.drop ((putE b.length).length + 1), ?_⟩
    conv => lhs; rw [← List.take_append_drop ((putE b.length).length + 1) r, hr]
    rfl
  have hft : (frameE k b).take ((putE b.length).length + 1) = k :: putE b.length := by
    rw [hfe, List.take_succ_cons, List.take_left]
  have hrt : (rotE (frameE k b) at_ x m).take ((putE b.length).length + 1) = k :: putE b.length := by
    rw [rotE, List.append_assoc, List.take_append_of_le_length (by rw [List.length_take]; omega), List.take_take, Nat.min_eq_left h1, hft]
  obtain ⟨c, hc⟩ := hp _ (by omega) hrt
  have hcl : c.length = b.length + 4 := by
    have := congrArg List.length hc
    rw [List.length_cons, List.length_append] at this; omega
  have hcz : c = c.take b.length ++ c.drop b.length := (List.take_append_drop _ _).symm
  have hn := rot_next (k := k) (n := b.length) (c := c.take b.length) (z := c.drop b.length) hb (by rw [List.length_take]; omega) (by rw [List.length_drop]; omega)
  rw [← hcz, ← hc] at hn
  -- the register
  have hres : reg 4294967295 (frameE k b) = stn 32 4294967295 := by
    rw [frameE, if_neg (by omega)]
    exact (sum_iff rfl).1 rfl
  have hsplit : frameE k b = (frameE k b).take at_ ++ ((frameE k b).drop at_).take m ++ (frameE k b).drop (at_ + m) := by
    conv => lhs; rw [← List.take_append_drop at_ (frameE k b), ← List.take_append_drop m ((frameE k b).drop at_), List.drop_drop, ← List.append_assoc]
  have hwl : (((frameE k b).drop at_).take m).length = m := by rw [List.length_take, List.length_drop]; omega
  have hr0 : reg 4294967295 ((frameE k b).take at_) < 2 ^ 32 := reg_lt _ (by decide)
  have hiff : reg 4294967295 (rotE (frameE k b) at_ x m) = stn 32 4294967295 ↔ chg x m = false := by
    rw [← hres]
    have hxs := xorL_same (w := ((frameE k b).drop at_).take m) (d := bys x m) (by rw [hwl, bys_length])
    rw [show chg x m = (bys x m).any (fun c => c != 0) from rfl, ← hxs]
    constructor
    · intro h
      have hL : reg 4294967295 (frameE k b) = reg (reg (reg 4294967295 ((frameE k b).take at_)) (((frameE k b).drop at_).take m)) ((frameE k b).drop (at_ + m)) :=
        (congrArg (reg 4294967295) hsplit).trans (by rw [reg_append, reg_append])
      rw [hL, rotE, reg_append, reg_append] at h
      have h5 := reg_inj _ (reg_lt _ hr0) (reg_lt _ hr0) h
      exact reg_word (by simp only [xorL, List.length_zipWith, hwl, bys_length]; omega) (by simp only [xorL, List.length_zipWith, hwl, bys_length]; omega) hr0 h5
    · intro h
      rw [rotE, h, ← hsplit]
  rw [hn]
  by_cases h : chg x m = true
  · rw [if_neg (fun h2 => by rw [hiff.1 h2] at h; cases h), if_pos h]
  · rw [if_pos (hiff.2 (by simpa using h)), if_neg h]
    refine Prod.ext rfl (Prod.ext rfl (Prod.ext ?_ rfl))
    show (((putE b.length).length + b.length + 5 : Nat) : Int) = _
    rw [hfl]

set_option maxHeartbeats 4000000 in
theorem rots_spec {R : List RO} {O : List Own} {POST : Value → List RO → List Own → Prop} {p x0 x1 : Int} {b : List UInt8} (hp : (Lit.int .u8 p).wf = true) (ht : tabR ∈ R) (hbl : b.length ≤ 9223372036854775807) (hk : POST (.bool true) R O) : Fun Tryd.prog 4 #[.int .u8 p, vs b, .agg #[vi x0, vi x1]] R O POST := by
  obtain ⟨k, rfl⟩ := byte_of hp
  refine Fun.enter (l := [_, _, _]) Tryd.func4 rfl Tryd.ntmps4 rfl (L0 := [(0, _), (1, _), (2, _)]) rfl ?_
  refine WC.seq ?_
  refine WC.region ?_
  refine WL.op rfl ?_
  refine OpW.box rfl rfl (by repeat (first | exact NF.nil | apply NF.cons)) rfl rfl ?_; intro b5
  refine WL.rd rfl rfl rfl (Rd.assign rfl rfl) ?_
  refine WL.nil ?_
  refine thenQ.normal ?_
  refine WC.seq ?_
  refine WC.seq ?_
  refine WC.region ?_
  refine WL.op rfl ?_
  refine OpW.call rfl rfl (by repeat (first | exact Evs.nil | apply Evs.cons rfl)) (by kernel_rfl) rfl rfl rfl ?_
  refine speaks_spec ht ?_
  refine WL.rd rfl rfl rfl ((by first | exact Rd.notd rfl rfl | exact Rd.not rfl rfl)) ?_
  refine WL.nil ?_
  refine thenQ.normal ?_
  first | refine WC.ite rfl (fun hc1 => ?_) (fun hc1 => ?_) | refine WC.cond rfl (fun hc1 => ?_) (fun hc1 => ?_)
  · skip
    simp at hc1
  · skip
    refine WC.skip ?_
    refine thenQ.normal ?_
    refine WC.seq ?_
    refine WC.seq ?_
    refine WC.region ?_
    refine WL.rd rfl rfl rfl (Rd.move rfl rfl) ?_
    refine WL.rd rfl rfl rfl (Rd.slen (ts := #[]) (ty := 0) rfl rfl Tryd.underlying9) ?_
    refine WL.rd rfl rfl rfl (Rd.gtr rfl rfl rfl) ?_
    refine WL.nil ?_
    refine thenQ.normal ?_
    first | refine WC.ite rfl (fun hc2 => ?_) (fun hc2 => ?_) | refine WC.cond rfl (fun hc2 => ?_) (fun hc2 => ?_)
    · skip
      refine WC.seq ?_
      refine WC.region ?_
      refine WL.rd rfl rfl rfl (Rd.assign rfl rfl) ?_
      refine WL.nil ?_
      refine thenQ.normal ?_
      -- ret_1
      refine WC.heap (R' := R) (O' := O) (fun w h => OwnL.sat (by repeat (first | exact OwnL.refl | apply OwnL.take (by repeat (first | exact Take.head _ | apply Take.tail)) | apply OwnL.drop)) w (h.thin (SubL.mem (by repeat (first | exact SubL.refl | refine SubL.cons (by repeat (first | assumption | exact List.mem_cons_self | refine List.mem_cons_of_mem _ ?_)) ?_ | refine SubL.skip ?_))))) ?_
      refine WC.ret (Ret.one Tryd.results4 rfl ?_)
      exact hk
    · skip
      have hfl := frame_length (k := k) (b := b) (by omega)
      have hpe := putE_short (n := b.length) (by omega)
      obtain ⟨f, hf⟩ : ∃ f, f = (putE b.length).length + 1 := ⟨_, rfl⟩
      obtain ⟨sp, hsp⟩ : ∃ sp, sp = b.length + 4 := ⟨_, rfl⟩
      have htm := tmod_in x0 (b := sp) (by omega)
      obtain ⟨at_, hat⟩ : ∃ a : Nat, a = f + (x0.tmod sp + sp).toNat % sp := ⟨_, rfl⟩
      have hq : (x0.tmod sp + sp).toNat % sp < sp := Nat.mod_lt _ (by omega)
      refine WC.skip ?_
      refine thenQ.normal ?_
      refine WC.seq ?_
      refine WC.region ?_
      refine WL.rd rfl rfl rfl (Rd.move rfl rfl) ?_
      refine WL.rd rfl rfl rfl (Rd.move rfl rfl) ?_
      refine WL.op rfl ?_
      refine OpW.call rfl rfl (by repeat (first | exact Evs.nil | apply Evs.cons rfl)) (by kernel_rfl) rfl rfl rfl ?_
      refine frame_spec (k := k) (b := b) ht ?_
      refine WL.rd rfl rfl rfl (Rd.assign rfl rfl) ?_
      refine WL.nil ?_
      refine thenQ.normal ?_
      refine WC.seq ?_
      refine WC.region ?_
      refine WL.rd rfl rfl rfl (Rd.move rfl rfl) ?_
      refine WL.op rfl ?_
      refine OpW.bytesOf rfl Tryd.underlying9 Tryd.underlying28 Tryd.underlying5 rfl (by show _ ≤ 9223372036854775807; omega) rfl rfl ?_; intro b27 c27 hc27 hm27
      refine WL.rd rfl rfl rfl (Rd.assign rfl rfl) ?_
      refine WL.nil ?_
      refine thenQ.normal ?_
      refine WC.seq ?_
      refine WC.region ?_
      refine WL.rd rfl rfl rfl (Rd.move rfl rfl) ?_
      refine WL.rd rfl rfl rfl (Rd.slen (ts := #[]) (ty := 0) rfl rfl Tryd.underlying9) ?_
      refine WL.rd rfl rfl rfl (Rd.sub rfl rfl rfl (by omega)) ?_
      refine WL.rd rfl rfl rfl (Rd.move rfl rfl) ?_
      refine WL.rd rfl rfl rfl (Rd.slen (ts := #[]) (ty := 0) rfl rfl Tryd.underlying9) ?_
      refine WL.rd rfl rfl rfl (Rd.sub rfl rfl rfl (by omega)) ?_
      refine WL.say 33 (u := .int .i64 (f : Int)) rfl (by congr 1; omega) ?_
      refine WL.rd rfl rfl rfl (Rd.assign rfl rfl) ?_
      refine WL.nil ?_
      refine thenQ.normal ?_
      refine WC.seq ?_
      refine WC.region ?_
      refine WL.rd rfl rfl rfl (Rd.move rfl rfl) ?_
      refine WL.rd rfl rfl rfl ((by first | exact Rd.idxArr1 (k := 0) rfl A27 rfl rfl (by omega) (by first | omega | (dsimp only; omega)) | exact Rd.idxArr (k := 0) rfl A27 rfl rfl (by omega) (by first | omega | (dsimp only; omega)) rfl)) ?_
      refine WL.rd rfl rfl rfl (Rd.row1 rfl C3 rfl (by repeat (first | assumption | exact List.mem_cons_self | refine List.mem_cons_of_mem _ ?_)) rfl) ?_
      refine WL.rd rfl rfl rfl (Rd.move rfl rfl) ?_
      refine WL.rd rfl rfl rfl (Rd.slen (ts := #[]) (ty := 0) rfl rfl Tryd.underlying9) ?_
      refine WL.rd rfl rfl rfl (Rd.move rfl rfl) ?_
      refine WL.rd rfl rfl rfl (Rd.sub rfl rfl rfl (by omega)) ?_
      refine WL.say 40 (u := .int .i64 (sp : Int)) rfl (by congr 1; omega) ?_
      refine WL.rd rfl rfl rfl (Rd.remI (b := sp) rfl rfl rfl rfl (by omega)) ?_
      refine WL.rd rfl rfl rfl (Rd.move rfl rfl) ?_
      refine WL.rd rfl rfl rfl (Rd.slen (ts := #[]) (ty := 0) rfl rfl Tryd.underlying9) ?_
      refine WL.rd rfl rfl rfl (Rd.add rfl rfl rfl (by omega)) ?_
      refine WL.rd rfl rfl rfl (Rd.move rfl rfl) ?_
      refine WL.rd rfl rfl rfl (Rd.sub rfl rfl rfl (by omega)) ?_
      refine WL.rd rfl rfl rfl (Rd.move rfl rfl) ?_
      refine WL.rd rfl rfl rfl (Rd.slen (ts := #[]) (ty := 0) rfl rfl Tryd.underlying9) ?_
      refine WL.rd rfl rfl rfl (Rd.move rfl rfl) ?_
      refine WL.rd rfl rfl rfl (Rd.sub rfl rfl rfl (by omega)) ?_
      refine WL.say 50 (u := .int .i64 (sp : Int)) rfl (by congr 1; omega) ?_
      refine WL.rd rfl rfl rfl (Rd.remN (a := (x0.tmod sp + sp).toNat) (b := sp) rfl rfl rfl (by omega) rfl (by omega)) ?_
      refine WL.rd rfl rfl rfl (Rd.add rfl rfl rfl (by omega)) ?_
      refine WL.say 52 (u := .int .i64 (at_ : Int)) rfl (by rw [hat]; congr 1) ?_
      refine WL.rd rfl rfl rfl (Rd.assign rfl rfl) ?_
      refine WL.nil ?_
      refine thenQ.normal ?_
      refine WC.seq ?_
      refine WC.region ?_
      refine WL.rd rfl rfl rfl (Rd.assign rfl rfl) ?_
      refine WL.nil ?_
      refine thenQ.normal ?_
      refine WC.seq ?_
      refine WC.seq ?_
      refine WC.region ?_
      refine WL.rd rfl rfl rfl (Rd.assign rfl rfl) ?_
      refine WL.nil ?_
      refine thenQ.normal ?_
      refine WC.block ?_
      refine WC.pick [12, 11, 5, 7, 8, 10] (by repeat (first | exact Pick.nil | apply Pick.cons rfl)) ?_
      refine WC.loop1 2 (fun (i : Nat) => [(12, .int .i64 (i : Int)), (11, .bool (chg x1 i))]) (fun (i : Nat) => byC b27 5 (rotE (frameE k b) at_ x1 i) :: rowC b5 27 [vi x0, vi x1] :: O) (fun (i : Nat) => i ≤ 4 ∧ at_ + i ≤ (frameE k b).length) (fun (i : Nat) => 4 - i) (0) (by repeat (first | exact Split.zero | apply Split.succ)) ?hinv1 (by repeat (first | exact Sub.nil | refine Sub.cons rfl (by first | rfl | (congr 1; omega) | assumption) ?_)) (fun w h => by rw [rotE_zero]; exact h) ?_
      case hinv1 =>
        exact ⟨Nat.zero_le _, by omega⟩
      intro i
      rintro ⟨i1, i2⟩
      have hrl := rotE_length (x := x1) i2
      refine WC.seq ?_
      refine WC.pick [5, 7, 8, 10, 11, 12] (by repeat (first | exact Pick.nil | apply Pick.cons rfl)) ?_
      refine WC.val 62 (.bool (decide (i < 4 ∧ at_ + i < (frameE k b).length))) ?_ ?_
      · skip
        refine WC.region ?_
        refine WL.rd rfl rfl rfl (Rd.move rfl rfl) ?_
        refine WL.rd rfl rfl rfl (Rd.lss rfl rfl rfl) ?_
        refine WL.rd rfl rfl rfl (Rd.move rfl rfl) ?_
        refine WL.case 55 rfl (fun hg55 => ?_) (fun hg55 => ?_)
        · skip
          refine WL.rd_yes rfl rfl rfl rfl rfl rfl (Rd.move rfl rfl) ?_
          refine WL.rd_yes rfl rfl rfl rfl rfl rfl (Rd.move rfl rfl) ?_
          refine WL.rd_yes rfl rfl rfl rfl rfl rfl (Rd.add rfl rfl rfl (by omega)) ?_
          refine WL.rd_yes rfl rfl rfl rfl rfl rfl (Rd.move rfl rfl) ?_
          refine WL.rd_yes rfl rfl rfl rfl rfl rfl (Rd.len rfl rfl Tryd.underlying28) ?_
          refine WL.rd_yes rfl rfl rfl rfl rfl rfl (Rd.lss rfl rfl rfl) ?_
          refine WL.rd rfl rfl rfl (Rd.pick_t rfl rfl rfl) ?_
          refine WL.nil ?_
          exact ⟨by repeat (first | exact Sub.nil | refine Sub.cons rfl (by first | rfl | (first | rfl | exact vb (by omega) | exact vb_t (by omega) | exact vb_f (by omega) | (simp [*]; done) | (simp_all; done))) ?_), by first | exact (fun _ h => h.thin (SubL.mem (by repeat (first | exact SubL.refl | refine SubL.cons (by repeat (first | assumption | exact List.mem_cons_self | refine List.mem_cons_of_mem _ ?_)) ?_ | refine SubL.skip ?_)))) | exact (fun w h => OwnL.sat (by repeat (first | exact OwnL.refl | apply OwnL.take (by repeat (first | exact Take.head _ | apply Take.tail)) | apply OwnL.drop)) w (h.thin (SubL.mem (by repeat (first | exact SubL.refl | refine SubL.cons (by repeat (first | assumption | exact List.mem_cons_self | refine List.mem_cons_of_mem _ ?_)) ?_ | refine SubL.skip ?_)))))⟩
        · skip
          refine WL.no rfl rfl rfl rfl rfl rfl ?_
          refine WL.no rfl rfl rfl rfl rfl rfl ?_
          refine WL.no rfl rfl rfl rfl rfl rfl ?_
          refine WL.no rfl rfl rfl rfl rfl rfl ?_
          refine WL.no rfl rfl rfl rfl rfl rfl ?_
          refine WL.no rfl rfl rfl rfl rfl rfl ?_
          refine WL.rd rfl rfl rfl (Rd.pick_f rfl rfl rfl) ?_
          refine WL.nil ?_
          exact ⟨by repeat (first | exact Sub.nil | refine Sub.cons rfl (by first | rfl | (first | rfl | exact vb (by omega) | exact vb_t (by omega) | exact vb_f (by omega) | (simp [*]; done) | (simp_all; done))) ?_), by first | exact (fun _ h => h.thin (SubL.mem (by repeat (first | exact SubL.refl | refine SubL.cons (by repeat (first | assumption | exact List.mem_cons_self | refine List.mem_cons_of_mem _ ?_)) ?_ | refine SubL.skip ?_)))) | exact (fun w h => OwnL.sat (by repeat (first | exact OwnL.refl | apply OwnL.take (by repeat (first | exact Take.head _ | apply Take.tail)) | apply OwnL.drop)) w (h.thin (SubL.mem (by repeat (first | exact SubL.refl | refine SubL.cons (by repeat (first | assumption | exact List.mem_cons_self | refine List.mem_cons_of_mem _ ?_)) ?_ | refine SubL.skip ?_)))))⟩
      · skip
        first | refine WC.ite rfl (fun hc3 => ?_) (fun hc3 => ?_) | refine WC.cond rfl (fun hc3 => ?_) (fun hc3 => ?_)
        · skip
          have hgi := rotE_get (x := x1) (f := frameE k b) (at_ := at_) (i := i) (by omega); have hsi := rotE_set (x := x1) (f := frameE k b) (at_ := at_) (i := i) (by omega)
          refine WC.skip ?_
          refine thenQ.normal ?_
          refine WC.seq ?_
          refine WC.block ?_
          refine WC.seq ?_
          refine WC.region ?_
          refine WL.rd rfl rfl rfl ((by first | exact Rd.idxArr1 (k := 1) rfl A27 rfl rfl (by omega) (by first | omega | (dsimp only; omega)) | exact Rd.idxArr (k := 1) rfl A27 rfl rfl (by omega) (by first | omega | (dsimp only; omega)) rfl)) ?_
          refine WL.rd rfl rfl rfl (Rd.row1 rfl C3 rfl (by repeat (first | assumption | exact List.mem_cons_self | refine List.mem_cons_of_mem _ ?_)) rfl) ?_
          refine WL.rd rfl rfl rfl (Rd.move rfl rfl) ?_
          refine WL.rd rfl rfl rfl (Rd.mul rfl rfl rfl (by omega)) ?_
          refine WL.rd rfl rfl rfl (Rd.shrw (n := 8 * i) rfl rfl rfl (by omega) (by show 8 * i ≤ 64; omega)) ?_
          refine WL.rd rfl rfl rfl (Rd.convw rfl rfl Tryd.underlying5) ?_
          refine WL.say 70 (u := vy (byE x1 i)) rfl (by rw [byE_wrap]) ?_
          refine WL.rd rfl rfl rfl (Rd.assign rfl rfl) ?_
          refine WL.nil ?_
          refine thenQ.normal ?_
          refine WC.seq ?_
          refine WC.region ?_
          refine WL.rd rfl rfl rfl (Rd.move rfl rfl) ?_
          refine WL.rd rfl rfl rfl (Rd.move rfl rfl) ?_
          refine WL.rd rfl rfl rfl (Rd.move rfl rfl) ?_
          refine WL.rd rfl rfl rfl (Rd.add rfl rfl rfl (by omega)) ?_
          refine WL.rd rfl rfl rfl (Rd.idxR1 (k := at_ + i) rfl S28 rfl rfl (by omega) (by omega)) ?_
          refine WL.rd rfl rfl rfl (Rd.getBy rfl C5 rfl (by repeat (first | assumption | exact List.mem_cons_self | refine List.mem_cons_of_mem _ ?_)) hgi) ?_
          refine WL.rd rfl rfl rfl (Rd.move rfl rfl) ?_
          refine WL.rd rfl rfl rfl (Rd.xorU rfl rfl rfl rfl rfl rfl (UInt8.toNat_lt _) (UInt8.toNat_lt _)) ?_
          refine WL.say 78 (u := vy ((frameE k b)[at_ + i]! ^^^ byE x1 i)) rfl (by rw [vy, UInt8.toNat_xor]) ?_
          refine WL.rd rfl rfl rfl (Rd.idxR1 (k := at_ + i) rfl S28 rfl rfl (by omega) (by omega)) ?_
          refine WL.op rfl ?_
          refine OpW.storeBy rfl Z5 rfl rfl (by repeat (first | assumption | exact Take.head _ | apply Take.tail)) (by omega) rfl ?_
          refine WL.heap (fun w h => by rw [hsi] at h; exact h) ?_
          refine WL.nil ?_
          refine thenQ.normal ?_
          refine WC.region ?_
          refine WL.rd rfl rfl rfl (Rd.move rfl rfl) ?_
          refine WL.say 80 (u := .bool (decide (chg x1 i = true))) rfl (by simp) ?_
          refine WL.rd rfl rfl rfl (Rd.move rfl rfl) ?_
          refine WL.case 81 rfl (fun hg81 => ?_) (fun hg81 => ?_)
          · skip
            refine WL.no rfl rfl rfl rfl rfl rfl ?_
            refine WL.no rfl rfl rfl rfl rfl rfl ?_
            refine WL.rd rfl rfl rfl (Rd.pick_t rfl rfl rfl) ?_
            refine WL.rd rfl rfl rfl (Rd.assign rfl rfl) ?_
            refine WL.nil ?_
            refine blockQ.normal ?_
            refine thenQ.normal ?_
            refine WC.region ?_
            refine WL.rd rfl rfl rfl (Rd.move rfl rfl) ?_
            refine WL.rd rfl rfl rfl (Rd.add rfl rfl rfl (by omega)) ?_
            refine WL.rd rfl rfl rfl (Rd.assign rfl rfl) ?_
            refine WL.nil ?_
            -- next1_1
            have hch : chg x1 (i + 1) = true := by rw [chg_snoc, hg81, Bool.true_or]
            exact loopQ1.mk (i + 1) ⟨by omega, by omega⟩ (by omega) (by rw [hch]; exact (by repeat (first | exact Sub.nil | refine Sub.cons rfl (by first | rfl | (congr 1; omega) | assumption) ?_))) (fun w h => OwnL.sat (by repeat (first | exact OwnL.refl | apply OwnL.take (by repeat (first | exact Take.head _ | apply Take.tail)) | apply OwnL.drop)) w (h.thin (SubL.mem (by repeat (first | exact SubL.refl | refine SubL.cons (by repeat (first | assumption | exact List.mem_cons_self | refine List.mem_cons_of_mem _ ?_)) ?_ | refine SubL.skip ?_)))))
          · skip
            refine WL.rd_yes rfl rfl rfl rfl rfl rfl (Rd.move rfl rfl) ?_
            refine WL.rd_yes rfl rfl rfl rfl rfl rfl (Rd.neq rfl rfl rfl) ?_
            refine WL.say 83 (u := .bool (chg x1 (i + 1))) rfl (by
            have h0 : chg x1 i = false := by simpa using hg81
            rw [chg_snoc, h0, Bool.false_or]
            congr 1
            by_cases hz : byE x1 i = 0
            · rw [hz]; rfl
            · have h2 : ¬ ((byE x1 i).toNat : Int) = 0 := fun h => hz (UInt8.toNat_inj.1 (by rw [UInt8.toNat_zero]; omega))
              have e1 : (byE x1 i != 0) = true := by simpa using hz
              rw [e1]
              exact decide_eq_true h2) ?_
            refine WL.rd rfl rfl rfl (Rd.pick_f rfl rfl rfl) ?_
            refine WL.rd rfl rfl rfl (Rd.assign rfl rfl) ?_
            refine WL.nil ?_
            refine blockQ.normal ?_
            refine thenQ.normal ?_
            refine WC.region ?_
            refine WL.rd rfl rfl rfl (Rd.move rfl rfl) ?_
            refine WL.rd rfl rfl rfl (Rd.add rfl rfl rfl (by omega)) ?_
            refine WL.rd rfl rfl rfl (Rd.assign rfl rfl) ?_
            refine WL.nil ?_
            -- next1_2
            exact loopQ1.mk (i + 1) ⟨by omega, by omega⟩ (by omega) (by repeat (first | exact Sub.nil | refine Sub.cons rfl (by first | rfl | (congr 1; omega) | assumption) ?_)) (fun w h => OwnL.sat (by repeat (first | exact OwnL.refl | apply OwnL.take (by repeat (first | exact Take.head _ | apply Take.tail)) | apply OwnL.drop)) w (h.thin (SubL.mem (by repeat (first | exact SubL.refl | refine SubL.cons (by repeat (first | assumption | exact List.mem_cons_self | refine List.mem_cons_of_mem _ ?_)) ?_ | refine SubL.skip ?_)))))
        · skip
          have hfin := rot_final (k := k) (b := b) (by omega) (x := x1) (at_ := at_) (m := i) (by omega) (by omega) i1
          refine WC.exit ?_
          refine thenQ.exit ?_
          refine loopQ1.exit ?_
          refine blockQ.exit ?_
          refine thenQ.normal ?_
          refine WC.seq ?_
          refine WC.region ?_
          refine WL.rd rfl rfl rfl (Rd.move rfl rfl) ?_
          refine WL.rd rfl rfl rfl (Rd.strOfBy rfl Tryd.underlying28 Tryd.underlying9 Tryd.underlying5 rfl (by repeat (first | assumption | exact List.mem_cons_self | refine List.mem_cons_of_mem _ ?_)) hrl (by omega) hm27) ?_
          refine WL.op rfl ?_
          refine OpW.call rfl rfl (by repeat (first | exact Evs.nil | apply Evs.cons rfl)) (by kernel_rfl) rfl rfl rfl ?_
          refine crcNext_spec ht (by omega) ?_
          have hn3 : (nextF (rotE (frameE k b) at_ x1 i)).2.2.1 = if chg x1 i then 0 else ((frameE k b).length : Int) := by rw [hfin]; split <;> rfl
          have hn4 : (nextF (rotE (frameE k b) at_ x1 i)).2.2.2 = if chg x1 i then 5 else 0 := by rw [hfin]; split <;> rfl
          rw [hn3, hn4]
          refine WL.rd rfl rfl rfl (Rd.move rfl rfl) ?_
          refine WL.rd rfl rfl rfl (Rd.extract rfl rfl rfl) ?_
          refine WL.rd rfl rfl rfl (Rd.extract rfl rfl rfl) ?_
          refine WL.rd rfl rfl rfl (Rd.extract rfl rfl rfl) ?_
          refine WL.rd rfl rfl rfl (Rd.extract rfl rfl rfl) ?_
          refine WL.rd rfl rfl rfl (Rd.assign rfl rfl) ?_
          refine WL.rd rfl rfl rfl (Rd.assign rfl rfl) ?_
          refine WL.rd rfl rfl rfl (Rd.assign rfl rfl) ?_
          refine WL.rd rfl rfl rfl (Rd.assign rfl rfl) ?_
          refine WL.nil ?_
          refine thenQ.normal ?_
          refine WC.seq ?_
          refine WC.region ?_
          refine WL.rd rfl rfl rfl (Rd.move rfl rfl) ?_
          refine WL.rd rfl rfl rfl (Rd.move rfl rfl) ?_
          refine WL.rd rfl rfl rfl (Rd.eql rfl rfl rfl) ?_
          refine WL.rd rfl rfl rfl (Rd.beql rfl rfl rfl Tryd.underlying4) ?_
          refine WL.say 96 (u := .bool (decide True)) rfl (by cases chg x1 i <;> rfl) ?_
          refine WL.rd rfl rfl rfl (Rd.move rfl rfl) ?_
          refine WL.case 97 rfl (fun hg97 => ?_) (fun hg97 => ?_)
          · skip
            refine WL.rd_yes rfl rfl rfl rfl rfl rfl (Rd.move rfl rfl) ?_
            refine WL.say 98 (u := .bool (decide (chg x1 i = true))) rfl (by simp) ?_
            refine WL.rd_yes rfl rfl rfl rfl rfl rfl (Rd.move rfl rfl) ?_
            refine WL.case 99 rfl (fun hg99 => ?_) (fun hg99 => ?_)
            · skip
              refine WL.rd_yes rfl rfl rfl rfl rfl rfl (Rd.move rfl rfl) ?_
              refine WL.rd_yes rfl rfl rfl rfl rfl rfl (Rd.eql rfl rfl rfl) ?_
              refine WL.say 101 (u := .bool (decide True)) rfl (by rw [if_pos hg99]; simp) ?_
              refine WL.rd_yes rfl rfl rfl rfl rfl rfl (Rd.pick_t rfl rfl rfl) ?_
              refine WL.rd_yes rfl rfl rfl rfl rfl rfl (Rd.move rfl rfl) ?_
              refine WL.case 103 rfl (fun hg103 => ?_) (fun hg103 => ?_)
              · skip
                refine WL.no rfl rfl rfl rfl rfl rfl ?_
                refine WL.no rfl rfl rfl rfl rfl rfl ?_
                refine WL.no rfl rfl rfl rfl rfl rfl ?_
                refine WL.noU rfl rfl rfl rfl rfl rfl ?_
                refine WL.noU rfl rfl rfl rfl rfl rfl ?_
                refine WL.noU rfl rfl rfl rfl rfl rfl ?_
                refine WL.noU rfl rfl rfl rfl rfl rfl ?_
                refine WL.no rfl rfl rfl rfl rfl rfl ?_
                refine WL.rd_yes rfl rfl rfl rfl rfl rfl (Rd.pick_t rfl rfl rfl) ?_
                refine WL.rd rfl rfl rfl (Rd.pick_t rfl rfl rfl) ?_
                refine WL.rd rfl rfl rfl (Rd.assign rfl rfl) ?_
                refine WL.nil ?_
                refine thenQ.normal ?_
                -- ret_2
                refine WC.heap (R' := R) (O' := O) (fun w h => OwnL.sat (by repeat (first | exact OwnL.refl | apply OwnL.take (by repeat (first | exact Take.head _ | apply Take.tail)) | apply OwnL.drop)) w (h.thin (SubL.mem (by repeat (first | exact SubL.refl | refine SubL.cons (by repeat (first | assumption | exact List.mem_cons_self | refine List.mem_cons_of_mem _ ?_)) ?_ | refine SubL.skip ?_))))) ?_
                refine WC.ret (Ret.one Tryd.results4 rfl ?_)
                simpa using hk
              · skip
                simp at hg103
            · skip
              refine WL.no rfl rfl rfl rfl rfl rfl ?_
              refine WL.no rfl rfl rfl rfl rfl rfl ?_
              refine WL.rd_yes rfl rfl rfl rfl rfl rfl (Rd.pick_f rfl rfl rfl) ?_
              refine WL.rd_yes rfl rfl rfl rfl rfl rfl (Rd.move rfl rfl) ?_
              refine WL.rd_yes rfl rfl rfl rfl rfl rfl (Rd.move rfl rfl) ?_
              refine WL.say 104 (u := .bool (decide (chg x1 i = true))) rfl (by simp) ?_
              refine WL.rd_yes rfl rfl rfl rfl rfl rfl ((by first | exact Rd.notd rfl rfl | exact Rd.not rfl rfl)) ?_
              refine WL.rd_yes rfl rfl rfl rfl rfl rfl (Rd.move rfl rfl) ?_
              refine WL.case 106 rfl (fun hg106 => ?_) (fun hg106 => ?_)
              · skip
                refine WL.rd_yes rfl rfl rfl rfl rfl rfl (Rd.move rfl rfl) ?_
                refine WL.rd_yes rfl rfl rfl rfl rfl rfl (Rd.move rfl rfl) ?_
                refine WL.rd_yes rfl rfl rfl rfl rfl rfl (Rd.slen (ts := #[]) (ty := 0) rfl rfl Tryd.underlying9) ?_
                refine WL.rd_yes rfl rfl rfl rfl rfl rfl (Rd.eql rfl rfl rfl) ?_
                refine WL.say 110 (u := .bool (decide True)) rfl (by rw [if_neg hg99]; simp) ?_
                refine WL.rd_yes rfl rfl rfl rfl rfl rfl (Rd.pick_t rfl rfl rfl) ?_
                refine WL.rd_yes rfl rfl rfl rfl rfl rfl (Rd.pick_f rfl rfl rfl) ?_
                refine WL.rd rfl rfl rfl (Rd.pick_t rfl rfl rfl) ?_
                refine WL.rd rfl rfl rfl (Rd.assign rfl rfl) ?_
                refine WL.nil ?_
                refine thenQ.normal ?_
                -- ret_3
                refine WC.heap (R' := R) (O' := O) (fun w h => OwnL.sat (by repeat (first | exact OwnL.refl | apply OwnL.take (by repeat (first | exact Take.head _ | apply Take.tail)) | apply OwnL.drop)) w (h.thin (SubL.mem (by repeat (first | exact SubL.refl | refine SubL.cons (by repeat (first | assumption | exact List.mem_cons_self | refine List.mem_cons_of_mem _ ?_)) ?_ | refine SubL.skip ?_))))) ?_
                refine WC.ret (Ret.one Tryd.results4 rfl ?_)
                simpa using hk
              · skip
                exact (hg106 hg99).elim
          · skip
            simp at hg97
end Go.Proofs.YtcgaolaahhedmaaDoor
