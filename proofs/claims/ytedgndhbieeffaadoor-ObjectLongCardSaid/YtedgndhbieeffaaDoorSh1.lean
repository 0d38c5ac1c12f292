/-
  Layer 2: the words of a block.
-/
import Derived.Test.YtedgndhbieeffaaDoorTy
namespace Go.Proofs.YtedgndhbieeffaaDoor
open Go Go.SL

abbrev vw (n : Nat) : Value := .int .u32 (n : Int)
def rotr (x n : Nat) : Nat := (x * 2 ^ (32 - n) % 2 ^ 32) ||| (x / 2 ^ n)
def ad (a b : Nat) : Nat := (a + b) % 4294967296
theorem ad_lt (a b : Nat) : ad a b < 2 ^ 32 := Nat.mod_lt _ (by decide)
theorem rotr_lt {x : Nat} (h : x < 2 ^ 32) (n : Nat) : rotr x n < 2 ^ 32 := Nat.or_lt_two_pow (Nat.mod_lt _ (by decide)) (Nat.lt_of_le_of_lt (Nat.div_le_self _ _) h)
theorem wrap_ad (a b : Nat) : IntKind.u32.wrap ((a : Int) + b) = ((ad a b : Nat) : Int) := by
  rw [ad]; simp only [IntKind.wrap, IntKind.signed, IntKind.bits, Bool.false_and, Bool.false_eq_true, if_false]; omega
theorem _root_.Go.SL.Rd.add32 {P : Program} {o : Oper} {L : Env} {R : List RO} {O : List Own} {t t' : TypeId} {x y : Operand} {a b : Nat} (ho : o.op = .binOp .add t x y t') (hx : ev L x = some (vw a)) (hy : ev L y = some (vw b)) : Rd P o L R O (vw (ad a b)) :=
  Rd.addk ho hx hy (wrap_ad a b)

theorem and31 (n : Nat) (h : 0 < n ∧ n < 32) : (18446744073709551616 - n) &&& 31 = 32 - n := by
  rw [show (31 : Nat) = 2 ^ 5 - 1 from rfl, Nat.and_two_pow_sub_one_eq_mod]; omega
set_option maxRecDepth 20000 in
theorem rotl_spec {R : List RO} {O : List Own} {POST : Value → List RO → List Own → Prop} {x n : Nat} (hx : x < 2 ^ 32) (hn : 0 < n ∧ n < 32)
    (hk : POST (vw (rotr x n)) R O) : Fun Tryd.prog 48 #[vw x, .int .i64 (-(n : Int))] R O POST := by
  refine Fun.enter (l := [_, _]) Tryd.func48 rfl Tryd.ntmps48 rfl (L0 := [(0, _), (1, _)]) rfl ?_
  refine WC.seq ?_
  refine WC.region ?_
  refine WL.rd rfl rfl rfl (Rd.assign rfl rfl) ?_
  refine WL.nil ?_
  refine thenQ.normal ?_
  refine WC.seq ?_
  refine WC.region ?_
  refine WL.rd rfl rfl rfl (Rd.move rfl rfl) ?_
  refine WL.rd rfl rfl rfl (Rd.convw rfl rfl Tryd.underlying62 (hS := Tryd.underlying3)) ?_
  refine WL.say 7 (u := .int .u64 ((18446744073709551616 - n : Nat) : Int)) rfl (by congr 1; simp only [IntKind.wrap, IntKind.signed, IntKind.bits, Bool.false_and, Bool.false_eq_true, if_false]; omega) ?_
  refine WL.rd rfl rfl rfl (Rd.andU (b := 31) rfl rfl rfl rfl rfl rfl (show _ < 18446744073709551616 by omega) (by decide)) ?_
  refine WL.say 8 (u := .int .u64 ((32 - n : Nat) : Int)) rfl (by rw [and31 n hn]) ?_
  refine WL.rd rfl rfl rfl (Rd.assign rfl rfl) ?_
  refine WL.nil ?_
  refine thenQ.normal ?_
  refine WC.seq ?_
  refine WC.region ?_
  refine WL.rd rfl rfl rfl (Rd.move rfl rfl) ?_
  refine WL.rd rfl rfl rfl (Rd.move rfl rfl) ?_
  refine WL.rd rfl rfl rfl (Rd.shl32 (a := x) (m := 32 - n) rfl rfl rfl rfl rfl (by omega)) ?_
  refine WL.rd rfl rfl rfl (Rd.move rfl rfl) ?_
  refine WL.rd rfl rfl rfl (Rd.move rfl rfl) ?_
  refine WL.rd rfl rfl rfl (Rd.subk (r := (n : Int)) rfl rfl rfl (by rw [wrap_u64 (by omega)]; omega)) ?_
  refine WL.rd rfl rfl rfl (Rd.shrN (a := x) (n := n) rfl rfl rfl rfl rfl (by show n ≤ 32; omega)) ?_
  refine WL.rd rfl rfl rfl (Rd.orU rfl rfl rfl rfl rfl rfl (Nat.mod_lt _ (by decide)) (Nat.lt_of_le_of_lt (Nat.div_le_self _ _) hx)) ?_
  refine WL.rd rfl rfl rfl (Rd.assign rfl rfl) ?_
  refine WL.nil ?_
  refine thenQ.normal ?_
  refine WC.ret (Ret.one Tryd.results48 rfl ?_)
  exact hk
set_option maxRecDepth 20000 in
theorem right_spec {R : List RO} {O : List Own} {POST : Value → List RO → List Own → Prop} {x n : Nat} (hx : x < 2 ^ 32) (hn : 0 < n ∧ n < 32)
    (hk : POST (vw (rotr x n)) R O) : Fun Tryd.prog 36 #[vw x, .int .i64 (n : Int)] R O POST := by
  refine Fun.enter (l := [_, _]) Tryd.func36 rfl Tryd.ntmps36 rfl (L0 := [(0, _), (1, _)]) rfl ?_
  refine WC.seq ?_
  refine WC.region ?_
  refine WL.rd rfl rfl rfl (Rd.assign rfl rfl) ?_
  refine WL.nil ?_
  refine thenQ.normal ?_
  refine WC.seq ?_
  refine WC.region ?_
  refine WL.rd rfl rfl rfl (Rd.move rfl rfl) ?_
  refine WL.rd rfl rfl rfl (Rd.move rfl rfl) ?_
  refine WL.rd rfl rfl rfl (Rd.neg rfl rfl (by omega)) ?_
  refine WL.op rfl ?_
  refine OpW.call rfl rfl (by repeat (first | exact Evs.nil | apply Evs.cons rfl)) (by kernel_rfl) rfl rfl rfl ?_
  refine rotl_spec hx hn ?_
  refine WL.rd rfl rfl rfl (Rd.assign rfl rfl) ?_
  refine WL.nil ?_
  refine thenQ.normal ?_
  refine WC.ret (Ret.one Tryd.results36 rfl ?_)
  exact hk

def sg0 (x : Nat) : Nat := rotr x 7 ^^^ rotr x 18 ^^^ x / 2 ^ 3
def sg1 (x : Nat) : Nat := rotr x 17 ^^^ rotr x 19 ^^^ x / 2 ^ 10
theorem sh_lt {x : Nat} (h : x < 2 ^ 32) (n : Nat) : x / 2 ^ n < 2 ^ 32 := Nat.lt_of_le_of_lt (Nat.div_le_self _ _) h
theorem sg0_lt {x : Nat} (h : x < 2 ^ 32) : sg0 x < 2 ^ 32 := Nat.xor_lt_two_pow (Nat.xor_lt_two_pow (rotr_lt h _) (rotr_lt h _)) (sh_lt h _)
theorem sg1_lt {x : Nat} (h : x < 2 ^ 32) : sg1 x < 2 ^ 32 := Nat.xor_lt_two_pow (Nat.xor_lt_two_pow (rotr_lt h _) (rotr_lt h _)) (sh_lt h _)
/-- Bytes of a block, from place p on, as a number. -/
def wordK (s : List UInt8) (p : Nat) : Nat → Nat
  | 0 => 0
  | k + 1 => wordK s p k * 256 + s[p + k]!.toNat
theorem wordK_lt (s : List UInt8) (p : Nat) : ∀ k, wordK s p k < 256 ^ k
  | 0 => by rw [wordK]; decide
  | k + 1 => by
    have h := wordK_lt s p k
    have hc := UInt8.toNat_lt s[p + k]!
    rw [wordK, Nat.pow_succ]; omega
def mixW (w : List Nat) (i : Nat) : Nat := ad (ad (ad w[i - 16]! w[i - 7]!) (sg0 w[i - 15]!)) (sg1 w[i - 2]!)
def sched (s : List UInt8) : Nat → List Nat
  | 0 => []
  | i + 1 => sched s i ++ [if i < 16 then wordK s (4 * i) 4 else mixW (sched s i) i]
theorem vw_one {l : List Nat} : ((l.map vw).all Value.oneCell') = true := by
  rw [List.all_eq_true]; intro x hx; obtain ⟨n, _, rfl⟩ := List.mem_map.1 hx; rfl
theorem sched_length (s : List UInt8) : ∀ i, (sched s i).length = i
  | 0 => rfl
  | i + 1 => by rw [sched, List.length_append, sched_length s i]; rfl
theorem sched_lt (s : List UInt8) : ∀ i, ∀ x ∈ sched s i, x < 2 ^ 32
  | 0, x, h => by cases h
  | i + 1, x, h => by
    rw [sched] at h
    rcases List.mem_append.1 h with h | h
    · exact sched_lt s i x h
    · simp only [List.mem_singleton] at h
      subst h
      split
      · exact Nat.lt_of_lt_of_le (wordK_lt s _ 4) (by decide)
      · exact ad_lt _ _
theorem sched_get_lt (s : List UInt8) {i j : Nat} (h : j < i) : (sched s i)[j]! < 2 ^ 32 := by
  rw [getElem!_pos _ _ (by rw [sched_length]; exact h)]; exact sched_lt s i _ (List.getElem_mem _)
/-- The cells of the words when i of them are there; n stands in place i. -/
def wrow (s : List UInt8) (i : Nat) : List Value := (sched s i).map vw ++ List.replicate (64 - i) (vw 0)
theorem wrow_set {s : List UInt8} {i n : Nat} (h : i < 64) : (wrow s i).set i (vw n) = (sched s i).map vw ++ vw n :: List.replicate (63 - i) (vw 0) := by
  rw [wrow, List.set_append_right _ _ (by rw [List.length_map, sched_length]; exact Nat.le_refl _), List.length_map, sched_length, Nat.sub_self, show 64 - i = (63 - i) + 1 from by omega, List.replicate_succ]; rfl
theorem wrow_done {s : List UInt8} {i n : Nat} (h : i < 64) (hn : n = if i < 16 then wordK s (4 * i) 4 else mixW (sched s i) i) : (sched s i).map vw ++ vw n :: List.replicate (63 - i) (vw 0) = wrow s (i + 1) := by
  rw [wrow, sched, List.map_append, ← hn, show 64 - (i + 1) = 63 - i from by omega, List.append_assoc]; rfl
theorem wrow_cons {s : List UInt8} {i : Nat} (h : i < 64) : wrow s i = (sched s i).map vw ++ vw (wordK s (4 * i) 0) :: List.replicate (63 - i) (vw 0) := by
  rw [wrow, show 64 - i = (63 - i) + 1 from by omega, List.replicate_succ]; rfl
theorem sched_cell (s : List UInt8) {i j : Nat} (h : j < i) : ((sched s i).map vw)[j]? = some (vw (sched s i)[j]!) := by
  rw [List.getElem?_map, get!_of_lt (by rw [sched_length]; exact h)]; rfl
theorem mid_get {α : Type} (x : List α) (y : α) (z : List α) {k : Nat} (h : x.length = k) : (x ++ y :: z)[k]? = some y := by subst h; rw [List.getElem?_append_right (Nat.le_refl _), Nat.sub_self]; rfl
theorem mid_set {α : Type} (x : List α) (y v : α) (z : List α) {k : Nat} (h : x.length = k) : (x ++ y :: z).set k v = x ++ v :: z := by subst h; rw [List.set_append_right _ _ (Nat.le_refl _), Nat.sub_self]; rfl
theorem or_byte {a : Nat} (ha : a < 256 ^ 3) (c : UInt8) : (a * 2 ^ 8 % 2 ^ 32) ||| c.toNat = a * 256 + c.toNat := by
  rw [Nat.mod_eq_of_lt (by omega), Nat.mul_comm a, ← Nat.two_pow_add_eq_or_of_lt (UInt8.toNat_lt c)]

set_option maxRecDepth 20000 in
set_option maxHeartbeats 4000000 in
theorem words_spec {R : List RO} {O : List Own} {POST : Value → List RO → List Own → Prop} {s : List UInt8} (hs : s.length = 64)
    (hk : POST (.agg ((sched s 64).map vw).toArray) R O) : Fun Tryd.prog 35 #[vs s] R O POST := by
  refine Fun.thin (post' := fun v R' O' => v = .agg ((sched s 64).map vw).toArray ∧ R' = R ∧ ∃ b, O' = rowC b 73 ((sched s 64).map vw) :: O) ?_ (by rintro v R' O' ⟨rfl, rfl, b, rfl⟩; exact ⟨_, O, hk, fun w h => h.drop⟩)
  refine Fun.enter (l := [_]) Tryd.func35 rfl Tryd.ntmps35 rfl (L0 := [(0, _)]) rfl ?_
  refine WC.seq ?_
  refine WC.region ?_
  refine WL.op rfl ?_
  refine OpW.alloc rfl I73 rfl (by repeat (first | exact NF.nil | apply NF.cons)) rfl rfl ?_; intro b2
  refine WL.nil ?_
  refine thenQ.normal ?_
  refine WC.seq ?_
  refine WC.region ?_
  refine WL.op rfl ?_
  refine OpW.alloc rfl I73 rfl (by repeat (first | exact NF.nil | apply NF.cons)) rfl rfl ?_; intro b3
  refine WL.nil ?_
  refine thenQ.normal ?_
  refine WC.seq ?_
  refine WC.seq ?_
  refine WC.region ?_
  refine WL.rd rfl rfl rfl (Rd.move rfl rfl) ?_
  refine WL.nil ?_
  refine thenQ.normal ?_
  refine WC.block ?_
  refine WC.pick [9, 0, 2, 3] (by repeat (first | exact Pick.nil | apply Pick.cons rfl)) ?_
  refine WC.loop1 1 (fun (i : Nat) => [(9, .int .i64 (i : Int))]) (fun (i : Nat) => rowC b3 73 (wrow s i) :: rowC b2 73 (List.replicate 64 (vw 0)) :: O) (fun (i : Nat) => i ≤ 16) (fun (i : Nat) => 16 - i) (0) (by repeat (first | exact Split.zero | apply Split.succ)) ?hinv1 (by repeat (first | exact Sub.nil | refine Sub.cons rfl (by first | rfl | (congr 1; omega) | assumption) ?_)) (fun _ h => h) ?_
  case hinv1 =>
    exact Nat.zero_le _
  intro i
  rintro i1
  refine WC.seq ?_
  refine WC.region ?_
  refine WL.rd rfl rfl rfl (Rd.lss rfl rfl rfl) ?_
  refine WL.nil ?_
  refine thenQ.normal ?_
  refine WC.seq ?_
  first | refine WC.ite rfl (fun hc1 => ?_) (fun hc1 => ?_) | refine WC.cond rfl (fun hc1 => ?_) (fun hc1 => ?_)
  · skip
    refine WC.heap (fun w h => by rw [wrow_cons (by omega)] at h; exact h) ?_
    refine WC.skip ?_
    refine thenQ.normal ?_
    refine WC.seq ?_
    refine WC.block ?_
    refine WC.seq ?_
    refine WC.region ?_
    refine WL.rd rfl rfl rfl (Rd.move rfl rfl) ?_
    refine WL.rd rfl rfl rfl (Rd.assign rfl rfl) ?_
    refine WL.nil ?_
    refine thenQ.normal ?_
    refine WC.seq ?_
    refine WC.region ?_
    refine WL.rd rfl rfl rfl (Rd.move rfl rfl) ?_
    refine WL.nil ?_
    refine thenQ.normal ?_
    refine WC.block ?_
    refine WC.pick [12, 0, 2, 3, 4, 9] (by repeat (first | exact Pick.nil | apply Pick.cons rfl)) ?_
    refine WC.loop1 1 (fun (k : Nat) => [(12, .int .i64 (k : Int))]) (fun (k : Nat) => rowC b3 73 ((sched s i).map vw ++ vw (wordK s (4 * i) k) :: List.replicate (63 - i) (vw 0)) :: rowC b2 73 (List.replicate 64 (vw 0)) :: O) (fun (k : Nat) => k ≤ 4) (fun (k : Nat) => 4 - k) (0) (by repeat (first | exact Split.zero | apply Split.succ)) ?hinv2 (by repeat (first | exact Sub.nil | refine Sub.cons rfl (by first | rfl | (congr 1; omega) | assumption) ?_)) (fun _ h => h) ?_
    case hinv2 =>
      exact Nat.zero_le _
    intro k
    rintro k1
    refine WC.seq ?_
    refine WC.region ?_
    refine WL.rd rfl rfl rfl (Rd.lss rfl rfl rfl) ?_
    refine WL.nil ?_
    refine thenQ.normal ?_
    refine WC.seq ?_
    first | refine WC.ite rfl (fun hc2 => ?_) (fun hc2 => ?_) | refine WC.cond rfl (fun hc2 => ?_) (fun hc2 => ?_)
    · skip
      have hw := wordK_lt s (4 * i) k
      have hw3 : wordK s (4 * i) k < 256 ^ 3 := Nat.lt_of_lt_of_le hw (Nat.pow_le_pow_right (by decide) (by omega))
      have hml : ((sched s i).map vw).length = i := by rw [List.length_map, sched_length]
      have hcl : ((sched s i).map vw ++ vw (wordK s (4 * i) k) :: List.replicate (63 - i) (vw 0)).length = 64 := by rw [List.length_append, hml, List.length_cons, List.length_replicate]; omega
      have hc : s[4 * i + k]!.toNat < 2 ^ 32 := Nat.lt_trans (UInt8.toNat_lt _) (by decide)
      refine WC.skip ?_
      refine thenQ.normal ?_
      refine WC.seq ?_
      refine WC.block ?_
      refine WC.seq ?_
      refine WC.region ?_
      refine WL.rd rfl rfl rfl (Rd.move rfl rfl) ?_
      refine WL.rd rfl rfl rfl (Rd.assign rfl rfl) ?_
      refine WL.nil ?_
      refine thenQ.normal ?_
      refine WC.tail 14 mixed (by kernel_rfl) ?_
      refine WS.rd rfl rfl rfl (Rd.move rfl rfl) ?_
      refine WS.rd rfl rfl rfl (Rd.move rfl rfl) ?_
      refine WS.rd rfl rfl rfl ((by first | exact Rd.idxArr1 (k := i) rfl A73 rfl rfl (by omega) (by first | omega | (dsimp only; omega)) | exact Rd.idxArr (k := i) rfl A73 rfl rfl (by omega) (by first | omega | (dsimp only; omega)) rfl)) ?_
      refine WS.rd rfl rfl rfl (Rd.row1 rfl C38 rfl (by repeat (first | assumption | exact mS | apply mT)) (mid_get _ _ _ hml)) ?_
      refine WS.rd rfl rfl rfl (Rd.shl32 (a := wordK s (4 * i) k) (m := 8) rfl rfl rfl rfl rfl (by decide)) ?_
      refine WS.rd rfl rfl rfl (Rd.move rfl rfl) ?_
      refine WS.rd rfl rfl rfl (Rd.move rfl rfl) ?_
      refine WS.rd rfl rfl rfl (Rd.mul rfl rfl rfl (by omega)) ?_
      refine WS.rd rfl rfl rfl (Rd.move rfl rfl) ?_
      refine WS.rd rfl rfl rfl (Rd.add rfl rfl rfl (by omega)) ?_
      refine WS.rd rfl rfl rfl (Rd.sidx (k := 4 * i + k) rfl Tryd.underlying9 rfl rfl (by omega) (by first | assumption | rfl | exact get!_of_lt (by omega))) ?_
      refine WS.rd rfl rfl rfl (Rd.conv rfl rfl Tryd.underlying38 (wrap_natU rfl hc) (hS := Tryd.underlying5)) ?_
      refine WS.rd rfl rfl rfl (Rd.orU rfl rfl rfl rfl rfl rfl (Nat.mod_lt _ (by decide)) hc) ?_
      refine WS.say 27 (u := vw (wordK s (4 * i) (k + 1))) rfl (by rw [or_byte hw3]; rfl) ?_
      refine WS.rd rfl rfl rfl ((by first | exact Rd.idxArr1 (k := i) rfl A73 rfl rfl (by omega) (by first | omega | (dsimp only; omega)) | exact Rd.idxArr (k := i) rfl A73 rfl rfl (by omega) (by first | omega | (dsimp only; omega)) rfl)) ?_
      refine WS.switch ?_
      refine WL.op rfl ?_
      refine OpW.store1 rfl Z38 rfl rfl (by first | exact ⟨rfl, rfl⟩ | assumption) (by repeat (first | assumption | exact Take.head _ | apply Take.tail)) (by first | (simp; done) | omega | exact of_decide_eq_true rfl | (simp only [List.length_append, List.length_replicate, List.length_map, List.length_set]; omega)) rfl ?_
      refine WL.heap (fun w h => by rw [mid_set _ _ _ _ hml] at h; exact h) ?_
      refine WL.nil ?_
      refine blockQ.normal ?_
      refine thenQ.normal ?_
      refine WC.region ?_
      refine WL.rd rfl rfl rfl (Rd.add rfl rfl rfl (by omega)) ?_
      refine WL.rd rfl rfl rfl (Rd.move rfl rfl) ?_
      refine WL.nil ?_
      exact loopQ1.mk (k + 1) (by omega) (by omega) (by repeat (first | exact Sub.nil | refine Sub.cons rfl (by first | rfl | (congr 1; omega) | assumption) ?_)) (fun w h => OwnL.sat (by repeat (first | exact OwnL.refl | apply OwnL.take (by repeat (first | exact Take.head _ | apply Take.tail)) | apply OwnL.drop)) w (h.thin (SubL.mem (by repeat (first | exact SubL.refl | refine SubL.cons (by repeat (first | assumption | exact mS | apply mT)) ?_ | refine SubL.skip ?_)))))
    · skip
      refine WC.exit ?_
      refine thenQ.exit ?_
      refine loopQ1.exit ?_
      refine blockQ.exit ?_
      refine blockQ.normal ?_
      refine thenQ.normal ?_
      refine WC.region ?_
      refine WL.rd rfl rfl rfl (Rd.add rfl rfl rfl (by omega)) ?_
      refine WL.rd rfl rfl rfl (Rd.move rfl rfl) ?_
      refine WL.nil ?_
      obtain rfl : k = 4 := by omega
      exact loopQ1.mk (i + 1) (by omega) (by omega) (by repeat (first | exact Sub.nil | refine Sub.cons rfl (by first | rfl | (congr 1; omega) | assumption) ?_)) (fun w h => by rw [← wrow_done (n := wordK s (4 * i) 4) (by omega) (by rw [if_pos (by omega)])]; exact (fun w h => OwnL.sat (by repeat (first | exact OwnL.refl | apply OwnL.take (by repeat (first | exact Take.head _ | apply Take.tail)) | apply OwnL.drop)) w (h.thin (SubL.mem (by repeat (first | exact SubL.refl | refine SubL.cons (by repeat (first | assumption | exact mS | apply mT)) ?_ | refine SubL.skip ?_))))) w h)
  · skip
    refine WC.exit ?_
    refine thenQ.exit ?_
    refine loopQ1.exit ?_
    refine blockQ.exit ?_
    refine thenQ.normal ?_
    refine WC.seq ?_
    refine WC.seq ?_
    refine WC.region ?_
    refine WL.rd rfl rfl rfl (Rd.assign rfl rfl) ?_
    refine WL.nil ?_
    refine thenQ.normal ?_
    refine WC.block ?_
    refine WC.pick [6, 2, 3] (by repeat (first | exact Pick.nil | apply Pick.cons rfl)) ?_
    refine WC.loop1 1 (fun (j : Nat) => [(6, .int .i64 (j : Int))]) (fun (j : Nat) => rowC b3 73 (wrow s j) :: rowC b2 73 (List.replicate 64 (vw 0)) :: O) (fun (j : Nat) => 16 ≤ j ∧ j ≤ 64) (fun (j : Nat) => 64 - j) (16) (by repeat (first | exact Split.zero | apply Split.succ)) ?hinv3 (by repeat (first | exact Sub.nil | refine Sub.cons rfl (by first | rfl | (congr 1; omega) | assumption) ?_)) (fun w h => by
    obtain rfl : i = 16 := by omega
    exact (fun w h => OwnL.sat (by repeat (first | exact OwnL.refl | apply OwnL.take (by repeat (first | exact Take.head _ | apply Take.tail)) | apply OwnL.drop)) w (h.thin (SubL.mem (by repeat (first | exact SubL.refl | refine SubL.cons (by repeat (first | assumption | exact mS | apply mT)) ?_ | refine SubL.skip ?_))))) w h) ?_
    case hinv3 =>
      exact ⟨Nat.le_refl _, by omega⟩
    intro j
    rintro ⟨j1, j2⟩
    refine WC.seq ?_
    refine WC.seq ?_
    refine WC.region ?_
    refine WL.rd rfl rfl rfl (Rd.move rfl rfl) ?_
    refine WL.rd rfl rfl rfl (Rd.lss rfl rfl rfl) ?_
    refine WL.nil ?_
    refine thenQ.normal ?_
    first | refine WC.ite rfl (fun hc3 => ?_) (fun hc3 => ?_) | refine WC.cond rfl (fun hc3 => ?_) (fun hc3 => ?_)
    · skip
      have g15 := sched_get_lt s (i := j) (j := j - 15) (by omega)
      have g2 := sched_get_lt s (i := j) (j := j - 2) (by omega)
      have hml : ((sched s j).map vw).length = j := by rw [List.length_map, sched_length]
      have hwl : (wrow s j).length = 64 := by rw [wrow, List.length_append, hml, List.length_replicate]; omega
      refine WC.skip ?_
      refine thenQ.normal ?_
      refine WC.seq ?_
      refine WC.block ?_
      refine WC.seq ?_
      refine WC.still mixed (by kernel_rfl) ?_
      refine WA.rd rfl rfl rfl (Rd.move rfl rfl) ?_
      refine WA.rd rfl rfl rfl (Rd.sub rfl rfl rfl (by omega)) ?_
      refine WA.rd rfl rfl rfl ((by first | exact Rd.idxArr1 (k := j - 15) rfl A73 rfl rfl (by omega) (by first | omega | (dsimp only; omega)) | exact Rd.idxArr (k := j - 15) rfl A73 rfl rfl (by omega) (by first | omega | (dsimp only; omega)) rfl)) ?_
      refine WA.rd rfl rfl rfl (Rd.row1 rfl C38 rfl (by repeat (first | assumption | exact mS | apply mT)) (pref_app _ _ (sched_cell s (by omega)))) ?_
      refine WA.rd rfl rfl rfl (Rd.move rfl rfl) ?_
      refine WA.rd rfl rfl rfl (Rd.sub rfl rfl rfl (by omega)) ?_
      refine WA.rd rfl rfl rfl ((by first | exact Rd.idxArr1 (k := j - 2) rfl A73 rfl rfl (by omega) (by first | omega | (dsimp only; omega)) | exact Rd.idxArr (k := j - 2) rfl A73 rfl rfl (by omega) (by first | omega | (dsimp only; omega)) rfl)) ?_
      refine WA.rd rfl rfl rfl (Rd.row1 rfl C38 rfl (by repeat (first | assumption | exact mS | apply mT)) (pref_app _ _ (sched_cell s (by omega)))) ?_
      refine WA.rd rfl rfl rfl (Rd.assign rfl rfl) ?_
      refine WA.rd rfl rfl rfl (Rd.assign rfl rfl) ?_
      refine WA.nil ?_
      refine thenQ.normal ?_
      refine WC.drawn (prefC b3 ((sched s j).map vw) :: rowC b2 73 (List.replicate 64 (vw 0)) :: O) 30 rfl mixed ?_
      refine WD.take 0 rfl (by kernel_rfl) (by first | exact Held.see (by repeat (first | exact SubL.refl | refine SubL.cons (by repeat (first | assumption | exact mS | apply mT)) ?_ | refine SubL.skip ?_)) (by repeat (first | assumption | exact Take.head _ | apply Take.tail)) (row_pref pref_app) (by repeat (first | exact OwnL.refl | apply OwnL.take (by repeat (first | exact Take.head _ | apply Take.tail)) | apply OwnL.drop)) | exact Held.see (by repeat (first | exact SubL.refl | refine SubL.cons (by repeat (first | assumption | exact mS | apply mT)) ?_ | refine SubL.skip ?_)) (by repeat (first | assumption | exact Take.head _ | apply Take.tail)) (row_pref (pref_set (by omega))) (by repeat (first | exact OwnL.refl | apply OwnL.take (by repeat (first | exact Take.head _ | apply Take.tail)) | apply OwnL.drop))) rfl rfl rfl (Rd.move rfl rfl) ?_
      refine WD.take 1 rfl (by kernel_rfl) (by first | exact Held.see (by repeat (first | exact SubL.refl | refine SubL.cons (by repeat (first | assumption | exact mS | apply mT)) ?_ | refine SubL.skip ?_)) (by repeat (first | assumption | exact Take.head _ | apply Take.tail)) (row_pref pref_app) (by repeat (first | exact OwnL.refl | apply OwnL.take (by repeat (first | exact Take.head _ | apply Take.tail)) | apply OwnL.drop)) | exact Held.see (by repeat (first | exact SubL.refl | refine SubL.cons (by repeat (first | assumption | exact mS | apply mT)) ?_ | refine SubL.skip ?_)) (by repeat (first | assumption | exact Take.head _ | apply Take.tail)) (row_pref (pref_set (by omega))) (by repeat (first | exact OwnL.refl | apply OwnL.take (by repeat (first | exact Take.head _ | apply Take.tail)) | apply OwnL.drop))) rfl rfl rfl (Rd.move rfl rfl) ?_
      refine WD.take 2 rfl (by kernel_rfl) (by first | exact Held.see (by repeat (first | exact SubL.refl | refine SubL.cons (by repeat (first | assumption | exact mS | apply mT)) ?_ | refine SubL.skip ?_)) (by repeat (first | assumption | exact Take.head _ | apply Take.tail)) (row_pref pref_app) (by repeat (first | exact OwnL.refl | apply OwnL.take (by repeat (first | exact Take.head _ | apply Take.tail)) | apply OwnL.drop)) | exact Held.see (by repeat (first | exact SubL.refl | refine SubL.cons (by repeat (first | assumption | exact mS | apply mT)) ?_ | refine SubL.skip ?_)) (by repeat (first | assumption | exact Take.head _ | apply Take.tail)) (row_pref (pref_set (by omega))) (by repeat (first | exact OwnL.refl | apply OwnL.take (by repeat (first | exact Take.head _ | apply Take.tail)) | apply OwnL.drop))) rfl rfl rfl (Rd.sub rfl rfl rfl (by omega)) ?_
      refine WD.take 3 rfl (by kernel_rfl) (by first | exact Held.see (by repeat (first | exact SubL.refl | refine SubL.cons (by repeat (first | assumption | exact mS | apply mT)) ?_ | refine SubL.skip ?_)) (by repeat (first | assumption | exact Take.head _ | apply Take.tail)) (row_pref pref_app) (by repeat (first | exact OwnL.refl | apply OwnL.take (by repeat (first | exact Take.head _ | apply Take.tail)) | apply OwnL.drop)) | exact Held.see (by repeat (first | exact SubL.refl | refine SubL.cons (by repeat (first | assumption | exact mS | apply mT)) ?_ | refine SubL.skip ?_)) (by repeat (first | assumption | exact Take.head _ | apply Take.tail)) (row_pref (pref_set (by omega))) (by repeat (first | exact OwnL.refl | apply OwnL.take (by repeat (first | exact Take.head _ | apply Take.tail)) | apply OwnL.drop))) rfl rfl rfl ((by first | exact Rd.idxArr1 (k := j - 16) rfl A73 rfl rfl (by omega) (by first | omega | (dsimp only; omega)) | exact Rd.idxArr (k := j - 16) rfl A73 rfl rfl (by omega) (by first | omega | (dsimp only; omega)) rfl)) ?_
      refine WD.take 4 rfl (by kernel_rfl) (by first | exact Held.see (by repeat (first | exact SubL.refl | refine SubL.cons (by repeat (first | assumption | exact mS | apply mT)) ?_ | refine SubL.skip ?_)) (by repeat (first | assumption | exact Take.head _ | apply Take.tail)) (row_pref pref_app) (by repeat (first | exact OwnL.refl | apply OwnL.take (by repeat (first | exact Take.head _ | apply Take.tail)) | apply OwnL.drop)) | exact Held.see (by repeat (first | exact SubL.refl | refine SubL.cons (by repeat (first | assumption | exact mS | apply mT)) ?_ | refine SubL.skip ?_)) (by repeat (first | assumption | exact Take.head _ | apply Take.tail)) (row_pref (pref_set (by omega))) (by repeat (first | exact OwnL.refl | apply OwnL.take (by repeat (first | exact Take.head _ | apply Take.tail)) | apply OwnL.drop))) rfl rfl rfl (Rd.pref rfl C38 rfl (by repeat (first | assumption | exact mS | apply mT)) (sched_cell s (by omega))) ?_
      refine WD.take 5 rfl (by kernel_rfl) (by first | exact Held.see (by repeat (first | exact SubL.refl | refine SubL.cons (by repeat (first | assumption | exact mS | apply mT)) ?_ | refine SubL.skip ?_)) (by repeat (first | assumption | exact Take.head _ | apply Take.tail)) (row_pref pref_app) (by repeat (first | exact OwnL.refl | apply OwnL.take (by repeat (first | exact Take.head _ | apply Take.tail)) | apply OwnL.drop)) | exact Held.see (by repeat (first | exact SubL.refl | refine SubL.cons (by repeat (first | assumption | exact mS | apply mT)) ?_ | refine SubL.skip ?_)) (by repeat (first | assumption | exact Take.head _ | apply Take.tail)) (row_pref (pref_set (by omega))) (by repeat (first | exact OwnL.refl | apply OwnL.take (by repeat (first | exact Take.head _ | apply Take.tail)) | apply OwnL.drop))) rfl rfl rfl (Rd.move rfl rfl) ?_
      refine WD.take 6 rfl (by kernel_rfl) (by first | exact Held.see (by repeat (first | exact SubL.refl | refine SubL.cons (by repeat (first | assumption | exact mS | apply mT)) ?_ | refine SubL.skip ?_)) (by repeat (first | assumption | exact Take.head _ | apply Take.tail)) (row_pref pref_app) (by repeat (first | exact OwnL.refl | apply OwnL.take (by repeat (first | exact Take.head _ | apply Take.tail)) | apply OwnL.drop)) | exact Held.see (by repeat (first | exact SubL.refl | refine SubL.cons (by repeat (first | assumption | exact mS | apply mT)) ?_ | refine SubL.skip ?_)) (by repeat (first | assumption | exact Take.head _ | apply Take.tail)) (row_pref (pref_set (by omega))) (by repeat (first | exact OwnL.refl | apply OwnL.take (by repeat (first | exact Take.head _ | apply Take.tail)) | apply OwnL.drop))) rfl rfl rfl (Rd.sub rfl rfl rfl (by omega)) ?_
      refine WD.take 7 rfl (by kernel_rfl) (by first | exact Held.see (by repeat (first | exact SubL.refl | refine SubL.cons (by repeat (first | assumption | exact mS | apply mT)) ?_ | refine SubL.skip ?_)) (by repeat (first | assumption | exact Take.head _ | apply Take.tail)) (row_pref pref_app) (by repeat (first | exact OwnL.refl | apply OwnL.take (by repeat (first | exact Take.head _ | apply Take.tail)) | apply OwnL.drop)) | exact Held.see (by repeat (first | exact SubL.refl | refine SubL.cons (by repeat (first | assumption | exact mS | apply mT)) ?_ | refine SubL.skip ?_)) (by repeat (first | assumption | exact Take.head _ | apply Take.tail)) (row_pref (pref_set (by omega))) (by repeat (first | exact OwnL.refl | apply OwnL.take (by repeat (first | exact Take.head _ | apply Take.tail)) | apply OwnL.drop))) rfl rfl rfl ((by first | exact Rd.idxArr1 (k := j - 7) rfl A73 rfl rfl (by omega) (by first | omega | (dsimp only; omega)) | exact Rd.idxArr (k := j - 7) rfl A73 rfl rfl (by omega) (by first | omega | (dsimp only; omega)) rfl)) ?_
      refine WD.take 8 rfl (by kernel_rfl) (by first | exact Held.see (by repeat (first | exact SubL.refl | refine SubL.cons (by repeat (first | assumption | exact mS | apply mT)) ?_ | refine SubL.skip ?_)) (by repeat (first | assumption | exact Take.head _ | apply Take.tail)) (row_pref pref_app) (by repeat (first | exact OwnL.refl | apply OwnL.take (by repeat (first | exact Take.head _ | apply Take.tail)) | apply OwnL.drop)) | exact Held.see (by repeat (first | exact SubL.refl | refine SubL.cons (by repeat (first | assumption | exact mS | apply mT)) ?_ | refine SubL.skip ?_)) (by repeat (first | assumption | exact Take.head _ | apply Take.tail)) (row_pref (pref_set (by omega))) (by repeat (first | exact OwnL.refl | apply OwnL.take (by repeat (first | exact Take.head _ | apply Take.tail)) | apply OwnL.drop))) rfl rfl rfl (Rd.pref rfl C38 rfl (by repeat (first | assumption | exact mS | apply mT)) (sched_cell s (by omega))) ?_
      refine WD.take 9 rfl (by kernel_rfl) (by first | exact Held.see (by repeat (first | exact SubL.refl | refine SubL.cons (by repeat (first | assumption | exact mS | apply mT)) ?_ | refine SubL.skip ?_)) (by repeat (first | assumption | exact Take.head _ | apply Take.tail)) (row_pref pref_app) (by repeat (first | exact OwnL.refl | apply OwnL.take (by repeat (first | exact Take.head _ | apply Take.tail)) | apply OwnL.drop)) | exact Held.see (by repeat (first | exact SubL.refl | refine SubL.cons (by repeat (first | assumption | exact mS | apply mT)) ?_ | refine SubL.skip ?_)) (by repeat (first | assumption | exact Take.head _ | apply Take.tail)) (row_pref (pref_set (by omega))) (by repeat (first | exact OwnL.refl | apply OwnL.take (by repeat (first | exact Take.head _ | apply Take.tail)) | apply OwnL.drop))) rfl rfl rfl (Rd.add32 rfl rfl rfl) ?_
      refine WD.take 10 rfl (by kernel_rfl) (by first | exact Held.see (by repeat (first | exact SubL.refl | refine SubL.cons (by repeat (first | assumption | exact mS | apply mT)) ?_ | refine SubL.skip ?_)) (by repeat (first | assumption | exact Take.head _ | apply Take.tail)) (row_pref pref_app) (by repeat (first | exact OwnL.refl | apply OwnL.take (by repeat (first | exact Take.head _ | apply Take.tail)) | apply OwnL.drop)) | exact Held.see (by repeat (first | exact SubL.refl | refine SubL.cons (by repeat (first | assumption | exact mS | apply mT)) ?_ | refine SubL.skip ?_)) (by repeat (first | assumption | exact Take.head _ | apply Take.tail)) (row_pref (pref_set (by omega))) (by repeat (first | exact OwnL.refl | apply OwnL.take (by repeat (first | exact Take.head _ | apply Take.tail)) | apply OwnL.drop))) rfl rfl rfl (Rd.move rfl rfl) ?_
      refine WD.take 12 rfl (by kernel_rfl) (by first | exact Held.see (by repeat (first | exact SubL.refl | refine SubL.cons (by repeat (first | assumption | exact mS | apply mT)) ?_ | refine SubL.skip ?_)) (by repeat (first | assumption | exact Take.head _ | apply Take.tail)) (row_pref pref_app) (by repeat (first | exact OwnL.refl | apply OwnL.take (by repeat (first | exact Take.head _ | apply Take.tail)) | apply OwnL.drop)) | exact Held.see (by repeat (first | exact SubL.refl | refine SubL.cons (by repeat (first | assumption | exact mS | apply mT)) ?_ | refine SubL.skip ?_)) (by repeat (first | assumption | exact Take.head _ | apply Take.tail)) (row_pref (pref_set (by omega))) (by repeat (first | exact OwnL.refl | apply OwnL.take (by repeat (first | exact Take.head _ | apply Take.tail)) | apply OwnL.drop))) rfl rfl rfl (Rd.move rfl rfl) ?_
      refine WD.take 15 rfl (by kernel_rfl) (by first | exact Held.see (by repeat (first | exact SubL.refl | refine SubL.cons (by repeat (first | assumption | exact mS | apply mT)) ?_ | refine SubL.skip ?_)) (by repeat (first | assumption | exact Take.head _ | apply Take.tail)) (row_pref pref_app) (by repeat (first | exact OwnL.refl | apply OwnL.take (by repeat (first | exact Take.head _ | apply Take.tail)) | apply OwnL.drop)) | exact Held.see (by repeat (first | exact SubL.refl | refine SubL.cons (by repeat (first | assumption | exact mS | apply mT)) ?_ | refine SubL.skip ?_)) (by repeat (first | assumption | exact Take.head _ | apply Take.tail)) (row_pref (pref_set (by omega))) (by repeat (first | exact OwnL.refl | apply OwnL.take (by repeat (first | exact Take.head _ | apply Take.tail)) | apply OwnL.drop))) rfl rfl rfl (Rd.move rfl rfl) ?_
      refine WD.take 16 rfl (by kernel_rfl) (by first | exact Held.see (by repeat (first | exact SubL.refl | refine SubL.cons (by repeat (first | assumption | exact mS | apply mT)) ?_ | refine SubL.skip ?_)) (by repeat (first | assumption | exact Take.head _ | apply Take.tail)) (row_pref pref_app) (by repeat (first | exact OwnL.refl | apply OwnL.take (by repeat (first | exact Take.head _ | apply Take.tail)) | apply OwnL.drop)) | exact Held.see (by repeat (first | exact SubL.refl | refine SubL.cons (by repeat (first | assumption | exact mS | apply mT)) ?_ | refine SubL.skip ?_)) (by repeat (first | assumption | exact Take.head _ | apply Take.tail)) (row_pref (pref_set (by omega))) (by repeat (first | exact OwnL.refl | apply OwnL.take (by repeat (first | exact Take.head _ | apply Take.tail)) | apply OwnL.drop))) rfl rfl rfl (Rd.shrN (a := (sched s j)[j - 15]!) (n := 3) rfl rfl rfl rfl rfl (by decide)) ?_
      refine WD.take 19 rfl (by kernel_rfl) (by first | exact Held.see (by repeat (first | exact SubL.refl | refine SubL.cons (by repeat (first | assumption | exact mS | apply mT)) ?_ | refine SubL.skip ?_)) (by repeat (first | assumption | exact Take.head _ | apply Take.tail)) (row_pref pref_app) (by repeat (first | exact OwnL.refl | apply OwnL.take (by repeat (first | exact Take.head _ | apply Take.tail)) | apply OwnL.drop)) | exact Held.see (by repeat (first | exact SubL.refl | refine SubL.cons (by repeat (first | assumption | exact mS | apply mT)) ?_ | refine SubL.skip ?_)) (by repeat (first | assumption | exact Take.head _ | apply Take.tail)) (row_pref (pref_set (by omega))) (by repeat (first | exact OwnL.refl | apply OwnL.take (by repeat (first | exact Take.head _ | apply Take.tail)) | apply OwnL.drop))) rfl rfl rfl (Rd.move rfl rfl) ?_
      refine WD.take 21 rfl (by kernel_rfl) (by first | exact Held.see (by repeat (first | exact SubL.refl | refine SubL.cons (by repeat (first | assumption | exact mS | apply mT)) ?_ | refine SubL.skip ?_)) (by repeat (first | assumption | exact Take.head _ | apply Take.tail)) (row_pref pref_app) (by repeat (first | exact OwnL.refl | apply OwnL.take (by repeat (first | exact Take.head _ | apply Take.tail)) | apply OwnL.drop)) | exact Held.see (by repeat (first | exact SubL.refl | refine SubL.cons (by repeat (first | assumption | exact mS | apply mT)) ?_ | refine SubL.skip ?_)) (by repeat (first | assumption | exact Take.head _ | apply Take.tail)) (row_pref (pref_set (by omega))) (by repeat (first | exact OwnL.refl | apply OwnL.take (by repeat (first | exact Take.head _ | apply Take.tail)) | apply OwnL.drop))) rfl rfl rfl (Rd.move rfl rfl) ?_
      refine WD.take 24 rfl (by kernel_rfl) (by first | exact Held.see (by repeat (first | exact SubL.refl | refine SubL.cons (by repeat (first | assumption | exact mS | apply mT)) ?_ | refine SubL.skip ?_)) (by repeat (first | assumption | exact Take.head _ | apply Take.tail)) (row_pref pref_app) (by repeat (first | exact OwnL.refl | apply OwnL.take (by repeat (first | exact Take.head _ | apply Take.tail)) | apply OwnL.drop)) | exact Held.see (by repeat (first | exact SubL.refl | refine SubL.cons (by repeat (first | assumption | exact mS | apply mT)) ?_ | refine SubL.skip ?_)) (by repeat (first | assumption | exact Take.head _ | apply Take.tail)) (row_pref (pref_set (by omega))) (by repeat (first | exact OwnL.refl | apply OwnL.take (by repeat (first | exact Take.head _ | apply Take.tail)) | apply OwnL.drop))) rfl rfl rfl (Rd.move rfl rfl) ?_
      refine WD.take 25 rfl (by kernel_rfl) (by first | exact Held.see (by repeat (first | exact SubL.refl | refine SubL.cons (by repeat (first | assumption | exact mS | apply mT)) ?_ | refine SubL.skip ?_)) (by repeat (first | assumption | exact Take.head _ | apply Take.tail)) (row_pref pref_app) (by repeat (first | exact OwnL.refl | apply OwnL.take (by repeat (first | exact Take.head _ | apply Take.tail)) | apply OwnL.drop)) | exact Held.see (by repeat (first | exact SubL.refl | refine SubL.cons (by repeat (first | assumption | exact mS | apply mT)) ?_ | refine SubL.skip ?_)) (by repeat (first | assumption | exact Take.head _ | apply Take.tail)) (row_pref (pref_set (by omega))) (by repeat (first | exact OwnL.refl | apply OwnL.take (by repeat (first | exact Take.head _ | apply Take.tail)) | apply OwnL.drop))) rfl rfl rfl (Rd.shrN (a := (sched s j)[j - 2]!) (n := 10) rfl rfl rfl rfl rfl (by decide)) ?_
      refine WD.one 11 rfl (by kernel_rfl) rfl ?_
      refine OpW.call rfl rfl (by repeat (first | exact Evs.nil | apply Evs.cons rfl)) (by kernel_rfl) rfl rfl rfl ?_
      refine right_spec g15 (by decide) ?_
      refine ⟨(by first | exact Held.see (by repeat (first | exact SubL.refl | refine SubL.cons (by repeat (first | assumption | exact mS | apply mT)) ?_ | refine SubL.skip ?_)) (by repeat (first | assumption | exact Take.head _ | apply Take.tail)) (row_pref pref_app) (by repeat (first | exact OwnL.refl | apply OwnL.take (by repeat (first | exact Take.head _ | apply Take.tail)) | apply OwnL.drop)) | exact Held.see (by repeat (first | exact SubL.refl | refine SubL.cons (by repeat (first | assumption | exact mS | apply mT)) ?_ | refine SubL.skip ?_)) (by repeat (first | assumption | exact Take.head _ | apply Take.tail)) (row_pref (pref_set (by omega))) (by repeat (first | exact OwnL.refl | apply OwnL.take (by repeat (first | exact Take.head _ | apply Take.tail)) | apply OwnL.drop))), ?_⟩
      refine WD.one 13 rfl (by kernel_rfl) rfl ?_
      refine OpW.call rfl rfl (by repeat (first | exact Evs.nil | apply Evs.cons rfl)) (by kernel_rfl) rfl rfl rfl ?_
      refine right_spec g15 (by decide) ?_
      refine ⟨(by first | exact Held.see (by repeat (first | exact SubL.refl | refine SubL.cons (by repeat (first | assumption | exact mS | apply mT)) ?_ | refine SubL.skip ?_)) (by repeat (first | assumption | exact Take.head _ | apply Take.tail)) (row_pref pref_app) (by repeat (first | exact OwnL.refl | apply OwnL.take (by repeat (first | exact Take.head _ | apply Take.tail)) | apply OwnL.drop)) | exact Held.see (by repeat (first | exact SubL.refl | refine SubL.cons (by repeat (first | assumption | exact mS | apply mT)) ?_ | refine SubL.skip ?_)) (by repeat (first | assumption | exact Take.head _ | apply Take.tail)) (row_pref (pref_set (by omega))) (by repeat (first | exact OwnL.refl | apply OwnL.take (by repeat (first | exact Take.head _ | apply Take.tail)) | apply OwnL.drop))), ?_⟩
      refine WD.take 14 rfl (by kernel_rfl) (by first | exact Held.see (by repeat (first | exact SubL.refl | refine SubL.cons (by repeat (first | assumption | exact mS | apply mT)) ?_ | refine SubL.skip ?_)) (by repeat (first | assumption | exact Take.head _ | apply Take.tail)) (row_pref pref_app) (by repeat (first | exact OwnL.refl | apply OwnL.take (by repeat (first | exact Take.head _ | apply Take.tail)) | apply OwnL.drop)) | exact Held.see (by repeat (first | exact SubL.refl | refine SubL.cons (by repeat (first | assumption | exact mS | apply mT)) ?_ | refine SubL.skip ?_)) (by repeat (first | assumption | exact Take.head _ | apply Take.tail)) (row_pref (pref_set (by omega))) (by repeat (first | exact OwnL.refl | apply OwnL.take (by repeat (first | exact Take.head _ | apply Take.tail)) | apply OwnL.drop))) rfl rfl rfl (Rd.xorU rfl rfl rfl rfl rfl rfl (rotr_lt g15 _) (rotr_lt g15 _)) ?_
      refine WD.take 17 rfl (by kernel_rfl) (by first | exact Held.see (by repeat (first | exact SubL.refl | refine SubL.cons (by repeat (first | assumption | exact mS | apply mT)) ?_ | refine SubL.skip ?_)) (by repeat (first | assumption | exact Take.head _ | apply Take.tail)) (row_pref pref_app) (by repeat (first | exact OwnL.refl | apply OwnL.take (by repeat (first | exact Take.head _ | apply Take.tail)) | apply OwnL.drop)) | exact Held.see (by repeat (first | exact SubL.refl | refine SubL.cons (by repeat (first | assumption | exact mS | apply mT)) ?_ | refine SubL.skip ?_)) (by repeat (first | assumption | exact Take.head _ | apply Take.tail)) (row_pref (pref_set (by omega))) (by repeat (first | exact OwnL.refl | apply OwnL.take (by repeat (first | exact Take.head _ | apply Take.tail)) | apply OwnL.drop))) rfl rfl rfl (Rd.xorU rfl rfl rfl rfl rfl rfl (Nat.xor_lt_two_pow (rotr_lt g15 _) (rotr_lt g15 _)) (sh_lt g15 _)) ?_
      refine WD.take 18 rfl (by kernel_rfl) (by first | exact Held.see (by repeat (first | exact SubL.refl | refine SubL.cons (by repeat (first | assumption | exact mS | apply mT)) ?_ | refine SubL.skip ?_)) (by repeat (first | assumption | exact Take.head _ | apply Take.tail)) (row_pref pref_app) (by repeat (first | exact OwnL.refl | apply OwnL.take (by repeat (first | exact Take.head _ | apply Take.tail)) | apply OwnL.drop)) | exact Held.see (by repeat (first | exact SubL.refl | refine SubL.cons (by repeat (first | assumption | exact mS | apply mT)) ?_ | refine SubL.skip ?_)) (by repeat (first | assumption | exact Take.head _ | apply Take.tail)) (row_pref (pref_set (by omega))) (by repeat (first | exact OwnL.refl | apply OwnL.take (by repeat (first | exact Take.head _ | apply Take.tail)) | apply OwnL.drop))) rfl rfl rfl (Rd.add32 rfl rfl rfl) ?_
      refine WD.one 20 rfl (by kernel_rfl) rfl ?_
      refine OpW.call rfl rfl (by repeat (first | exact Evs.nil | apply Evs.cons rfl)) (by kernel_rfl) rfl rfl rfl ?_
      refine right_spec g2 (by decide) ?_
      refine ⟨(by first | exact Held.see (by repeat (first | exact SubL.refl | refine SubL.cons (by repeat (first | assumption | exact mS | apply mT)) ?_ | refine SubL.skip ?_)) (by repeat (first | assumption | exact Take.head _ | apply Take.tail)) (row_pref pref_app) (by repeat (first | exact OwnL.refl | apply OwnL.take (by repeat (first | exact Take.head _ | apply Take.tail)) | apply OwnL.drop)) | exact Held.see (by repeat (first | exact SubL.refl | refine SubL.cons (by repeat (first | assumption | exact mS | apply mT)) ?_ | refine SubL.skip ?_)) (by repeat (first | assumption | exact Take.head _ | apply Take.tail)) (row_pref (pref_set (by omega))) (by repeat (first | exact OwnL.refl | apply OwnL.take (by repeat (first | exact Take.head _ | apply Take.tail)) | apply OwnL.drop))), ?_⟩
      refine WD.one 22 rfl (by kernel_rfl) rfl ?_
      refine OpW.call rfl rfl (by repeat (first | exact Evs.nil | apply Evs.cons rfl)) (by kernel_rfl) rfl rfl rfl ?_
      refine right_spec g2 (by decide) ?_
      refine ⟨(by first | exact Held.see (by repeat (first | exact SubL.refl | refine SubL.cons (by repeat (first | assumption | exact mS | apply mT)) ?_ | refine SubL.skip ?_)) (by repeat (first | assumption | exact Take.head _ | apply Take.tail)) (row_pref pref_app) (by repeat (first | exact OwnL.refl | apply OwnL.take (by repeat (first | exact Take.head _ | apply Take.tail)) | apply OwnL.drop)) | exact Held.see (by repeat (first | exact SubL.refl | refine SubL.cons (by repeat (first | assumption | exact mS | apply mT)) ?_ | refine SubL.skip ?_)) (by repeat (first | assumption | exact Take.head _ | apply Take.tail)) (row_pref (pref_set (by omega))) (by repeat (first | exact OwnL.refl | apply OwnL.take (by repeat (first | exact Take.head _ | apply Take.tail)) | apply OwnL.drop))), ?_⟩
      refine WD.take 23 rfl (by kernel_rfl) (by first | exact Held.see (by repeat (first | exact SubL.refl | refine SubL.cons (by repeat (first | assumption | exact mS | apply mT)) ?_ | refine SubL.skip ?_)) (by repeat (first | assumption | exact Take.head _ | apply Take.tail)) (row_pref pref_app) (by repeat (first | exact OwnL.refl | apply OwnL.take (by repeat (first | exact Take.head _ | apply Take.tail)) | apply OwnL.drop)) | exact Held.see (by repeat (first | exact SubL.refl | refine SubL.cons (by repeat (first | assumption | exact mS | apply mT)) ?_ | refine SubL.skip ?_)) (by repeat (first | assumption | exact Take.head _ | apply Take.tail)) (row_pref (pref_set (by omega))) (by repeat (first | exact OwnL.refl | apply OwnL.take (by repeat (first | exact Take.head _ | apply Take.tail)) | apply OwnL.drop))) rfl rfl rfl (Rd.xorU rfl rfl rfl rfl rfl rfl (rotr_lt g2 _) (rotr_lt g2 _)) ?_
      refine WD.take 26 rfl (by kernel_rfl) (by first | exact Held.see (by repeat (first | exact SubL.refl | refine SubL.cons (by repeat (first | assumption | exact mS | apply mT)) ?_ | refine SubL.skip ?_)) (by repeat (first | assumption | exact Take.head _ | apply Take.tail)) (row_pref pref_app) (by repeat (first | exact OwnL.refl | apply OwnL.take (by repeat (first | exact Take.head _ | apply Take.tail)) | apply OwnL.drop)) | exact Held.see (by repeat (first | exact SubL.refl | refine SubL.cons (by repeat (first | assumption | exact mS | apply mT)) ?_ | refine SubL.skip ?_)) (by repeat (first | assumption | exact Take.head _ | apply Take.tail)) (row_pref (pref_set (by omega))) (by repeat (first | exact OwnL.refl | apply OwnL.take (by repeat (first | exact Take.head _ | apply Take.tail)) | apply OwnL.drop))) rfl rfl rfl (Rd.xorU rfl rfl rfl rfl rfl rfl (Nat.xor_lt_two_pow (rotr_lt g2 _) (rotr_lt g2 _)) (sh_lt g2 _)) ?_
      refine WD.take 27 rfl (by kernel_rfl) (by first | exact Held.see (by repeat (first | exact SubL.refl | refine SubL.cons (by repeat (first | assumption | exact mS | apply mT)) ?_ | refine SubL.skip ?_)) (by repeat (first | assumption | exact Take.head _ | apply Take.tail)) (row_pref pref_app) (by repeat (first | exact OwnL.refl | apply OwnL.take (by repeat (first | exact Take.head _ | apply Take.tail)) | apply OwnL.drop)) | exact Held.see (by repeat (first | exact SubL.refl | refine SubL.cons (by repeat (first | assumption | exact mS | apply mT)) ?_ | refine SubL.skip ?_)) (by repeat (first | assumption | exact Take.head _ | apply Take.tail)) (row_pref (pref_set (by omega))) (by repeat (first | exact OwnL.refl | apply OwnL.take (by repeat (first | exact Take.head _ | apply Take.tail)) | apply OwnL.drop))) rfl rfl rfl (Rd.add32 rfl rfl rfl) ?_
      refine WD.take 28 rfl (by kernel_rfl) (by first | exact Held.see (by repeat (first | exact SubL.refl | refine SubL.cons (by repeat (first | assumption | exact mS | apply mT)) ?_ | refine SubL.skip ?_)) (by repeat (first | assumption | exact Take.head _ | apply Take.tail)) (row_pref pref_app) (by repeat (first | exact OwnL.refl | apply OwnL.take (by repeat (first | exact Take.head _ | apply Take.tail)) | apply OwnL.drop)) | exact Held.see (by repeat (first | exact SubL.refl | refine SubL.cons (by repeat (first | assumption | exact mS | apply mT)) ?_ | refine SubL.skip ?_)) (by repeat (first | assumption | exact Take.head _ | apply Take.tail)) (row_pref (pref_set (by omega))) (by repeat (first | exact OwnL.refl | apply OwnL.take (by repeat (first | exact Take.head _ | apply Take.tail)) | apply OwnL.drop))) rfl rfl rfl ((by first | exact Rd.idxArr1 (k := j) rfl A73 rfl rfl (by omega) (by first | omega | (dsimp only; omega)) | exact Rd.idxArr (k := j) rfl A73 rfl rfl (by omega) (by first | omega | (dsimp only; omega)) rfl)) ?_
      refine WD.one 29 rfl (by kernel_rfl) rfl ?_
      refine OpW.store1 rfl Z38 rfl rfl (by first | exact ⟨rfl, rfl⟩ | assumption) (by repeat (first | assumption | exact Take.head _ | apply Take.tail)) (by first | (simp; done) | omega | exact of_decide_eq_true rfl | (simp only [List.length_append, List.length_replicate, List.length_map, List.length_set]; omega)) rfl ?_
      refine ⟨(by first | exact Held.see (by repeat (first | exact SubL.refl | refine SubL.cons (by repeat (first | assumption | exact mS | apply mT)) ?_ | refine SubL.skip ?_)) (by repeat (first | assumption | exact Take.head _ | apply Take.tail)) (row_pref pref_app) (by repeat (first | exact OwnL.refl | apply OwnL.take (by repeat (first | exact Take.head _ | apply Take.tail)) | apply OwnL.drop)) | exact Held.see (by repeat (first | exact SubL.refl | refine SubL.cons (by repeat (first | assumption | exact mS | apply mT)) ?_ | refine SubL.skip ?_)) (by repeat (first | assumption | exact Take.head _ | apply Take.tail)) (row_pref (pref_set (by omega))) (by repeat (first | exact OwnL.refl | apply OwnL.take (by repeat (first | exact Take.head _ | apply Take.tail)) | apply OwnL.drop))), ?_⟩
      refine WD.done (by kernel_rfl) ?_
      refine blockQ.normal ?_
      refine thenQ.normal ?_
      refine WC.region ?_
      refine WL.rd rfl rfl rfl (Rd.move rfl rfl) ?_
      refine WL.rd rfl rfl rfl (Rd.add rfl rfl rfl (by omega)) ?_
      refine WL.rd rfl rfl rfl (Rd.assign rfl rfl) ?_
      refine WL.nil ?_
      exact loopQ1.mk (j + 1) ⟨by omega, by omega⟩ (by omega) (by repeat (first | exact Sub.nil | refine Sub.cons rfl (by first | rfl | (congr 1; omega) | assumption) ?_)) (fun w h => by
      rw [wrow_set (by omega), wrow_done (by omega) (by rw [if_neg (by omega)]; rfl)] at h
      exact (fun w h => OwnL.sat (by repeat (first | exact OwnL.refl | apply OwnL.take (by repeat (first | exact Take.head _ | apply Take.tail)) | apply OwnL.drop)) w (h.thin (SubL.mem (by repeat (first | exact SubL.refl | refine SubL.cons (by repeat (first | assumption | exact mS | apply mT)) ?_ | refine SubL.skip ?_))))) w h)
    · skip
      obtain rfl : j = 64 := by omega
      have hwz : wrow s 64 = (sched s 64).map vw := by rw [wrow, Nat.sub_self, List.replicate_zero, List.append_nil]
      have hwl : ((sched s 64).map vw).length = 64 := by rw [List.length_map, sched_length]
      refine WC.heap (fun w h => by rw [hwz] at h; exact h) ?_
      refine WC.exit ?_
      refine thenQ.exit ?_
      refine loopQ1.exit ?_
      refine blockQ.exit ?_
      refine thenQ.normal ?_
      refine WC.seq ?_
      refine WC.region ?_
      refine WL.rd rfl rfl rfl (Rd.rowW rfl G73 rfl (by repeat (first | assumption | exact mS | apply mT)) hwl) ?_
      refine WL.op rfl ?_
      refine OpW.storeW rfl G73 rfl rfl (by repeat (first | assumption | exact Take.head _ | apply Take.tail)) hwl (by simp) vw_one rfl ?_
      refine WL.nil ?_
      refine thenQ.normal ?_
      refine WC.heap (R' := R) (O' := rowC b2 73 ((sched s 64).map vw) :: O) (fun w h => OwnL.sat (by repeat (first | exact OwnL.refl | apply OwnL.take (by repeat (first | exact Take.head _ | apply Take.tail)) | apply OwnL.drop)) w (h.thin (SubL.mem (by repeat (first | exact SubL.refl | refine SubL.cons (by repeat (first | assumption | exact mS | apply mT)) ?_ | refine SubL.skip ?_))))) ?_
      refine WC.ret (Ret.cellRow Tryd.results35 rfl (by repeat (first | assumption | exact mS | apply mT)) G73 hwl ?_)
      exact ⟨rfl, rfl, _, rfl⟩
end Go.Proofs.YtedgndhbieeffaaDoor
