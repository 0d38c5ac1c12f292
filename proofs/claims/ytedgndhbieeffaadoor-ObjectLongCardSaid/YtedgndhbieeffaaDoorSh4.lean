/-
  Layer 2: the digest of what was put.
-/
import Derived.Test.YtedgndhbieeffaaDoorSh3
namespace Go.Proofs.YtedgndhbieeffaaDoor
open Go Go.SL

def padE (n : Nat) : List UInt8 := 128 :: List.replicate ((119 - n % 64) % 64) 0
def lenB (n i : Nat) : UInt8 := UInt8.ofNat (n * 8 / 2 ^ (56 - 8 * i) % 256)
def lenE (n : Nat) : List UInt8 := (List.range 8).map (lenB n)
def St8.wl (v : St8) : List Nat := [v.a, v.b, v.c, v.d, v.e, v.f, v.g, v.h]
theorem wl_cs (v : St8) : v.cs = v.wl.map vw := rfl
def be4 (n : Nat) : List UInt8 := [UInt8.ofNat (n / 2 ^ 24 % 256), UInt8.ofNat (n / 2 ^ 16 % 256), UInt8.ofNat (n / 2 ^ 8 % 256), UInt8.ofNat (n % 256)]
def digestS (v : St8) : List UInt8 := v.wl.flatMap be4
theorem digestS_length (v : St8) : (digestS v).length = 32 := rfl
def finS (v : St8) (r : List UInt8) (n : Nat) : St8 := (blocks v (r ++ padE n ++ lenE n)).1
/-- The digest of a text. -/
def shaE (t : List UInt8) : List UInt8 := digestS (finS first8 t t.length)
theorem shaE_length (t : List UInt8) : (shaE t).length = 32 := digestS_length _
/-- A Hasher that was given the text t. -/
def HashOf (v : St8) (g : Bool) (r : List UInt8) (n : Nat) (t : List UInt8) : Prop := (g = true → v.Ok) ∧ blocks first8 t = (v.begun g, r) ∧ n = t.length
theorem HashOf.new (v : St8) : HashOf v false [] 0 [] := ⟨(fun h => by cases h), blocks_lt (by decide), rfl⟩
theorem HashOf.put {v : St8} {g : Bool} {r : List UInt8} {n : Nat} {t : List UInt8} (h : HashOf v g r n t) (s : List UInt8) : HashOf (blocks (v.begun g) (r ++ s)).1 true (blocks (v.begun g) (r ++ s)).2 (n + s.length) (t ++ s) := by
  obtain ⟨h1, h2, h3⟩ := h
  have ha := blocks_append first8 t s
  rw [h2] at ha
  exact ⟨fun _ => blocks_ok _ _ (begun_ok h1), by rw [← ha]; rfl, by rw [h3, List.length_append]⟩
theorem HashOf.rest {v : St8} {g : Bool} {r : List UInt8} {n : Nat} {t : List UInt8} (h : HashOf v g r n t) : r.length < 64 ∧ r.length % 64 = n % 64 := by
  have h1 := blocks_rest first8 t
  rw [h.2.1, ← h.2.2] at h1
  exact h1
theorem HashOf.sum {v : St8} {g : Bool} {r : List UInt8} {n : Nat} {t : List UInt8} (h : HashOf v g r n t) : digestS (finS (v.begun g) r n) = shaE t := by
  have ha := blocks_append first8 t (padE n ++ lenE n)
  rw [h.2.1] at ha
  rw [shaE, finS, finS, ← h.2.2, List.append_assoc, ha, List.append_assoc]
theorem lenE_length (n : Nat) : (lenE n).length = 8 := by simp [lenE]
theorem len_step {n i : Nat} (hi : i < 7) : (n / 2 ^ (56 - 8 * i) * 8 % 256) ||| (n / 2 ^ (48 - 8 * i) &&& 255) / 2 ^ 5 = n * 8 / 2 ^ (56 - 8 * i) % 256 := by
  obtain ⟨q, hq⟩ : ∃ q, q = n / 2 ^ (48 - 8 * i) := ⟨_, rfl⟩
  have e1 : n / 2 ^ (56 - 8 * i) = q / 256 := by
    rw [hq, Nat.div_div_eq_div_mul, show 56 - 8 * i = (48 - 8 * i) + 8 from by omega, Nat.pow_add]
  have e2 : n * 8 / 2 ^ (56 - 8 * i) = q / 32 := by
    rw [hq, Nat.div_div_eq_div_mul, show 56 - 8 * i = ((48 - 8 * i) + 5) + 3 from by omega, Nat.pow_add _ _ 3, Nat.mul_div_mul_right _ _ (by decide), Nat.pow_add]
  rw [e1, e2, ← hq, show (255 : Nat) = 2 ^ 8 - 1 from rfl, Nat.and_two_pow_sub_one_eq_mod]
  have e3 : q / 256 * 8 % 256 = 2 ^ 3 * (q / 256 % 32) := by omega
  rw [e3, ← Nat.two_pow_add_eq_or_of_lt (by omega)]
  omega
theorem last_step (n : Nat) : n / 2 ^ (56 - 8 * 7) * 8 % 256 = n * 8 / 2 ^ (56 - 8 * 7) % 256 := by simp
/-- The cells of the length when i bytes of it are there. -/
def hlrow (n i : Nat) : List Value := ((List.range i).map (lenB n)).map vy ++ List.replicate (8 - i) (vy 0)
theorem lrow_set {n i : Nat} (h : i < 8) (c : UInt8) : (hlrow n i).set i (vy c) = ((List.range i).map (lenB n)).map vy ++ vy c :: List.replicate (7 - i) (vy 0) := by
  rw [hlrow, List.set_append_right _ _ (by simp), List.length_map, List.length_map, List.length_range, Nat.sub_self, show 8 - i = (7 - i) + 1 from by omega, List.replicate_succ]; rfl
theorem lrow_done {n i : Nat} (h : i < 8) : ((List.range i).map (lenB n)).map vy ++ vy (lenB n i) :: List.replicate (7 - i) (vy 0) = hlrow n (i + 1) := by
  rw [hlrow, List.range_succ, List.map_append, List.map_append, show 8 - (i + 1) = 7 - i from by omega, List.append_assoc]; rfl
theorem flat_snoc {l : List Nat} {i : Nat} (h : i < l.length) : (l.take (i + 1)).flatMap be4 = (l.take i).flatMap be4 ++ be4 l[i]! := by
  rw [List.take_add_one, get!_of_lt h, List.flatMap_append]; simp
theorem be4_length (l : List Nat) : (l.flatMap be4).length = 4 * l.length := by
  induction l with
  | nil => rfl
  | cons a l ih => rw [List.flatMap_cons, List.length_append, ih, List.length_cons]; simp [be4]; omega

theorem repeat_zero (n : Nat) : Lib.repeatL [0] n = List.replicate n 0 := by
  have := Lib.repeatL_replicate 0 1 n
  rwa [Nat.mul_one] at this
theorem byte_wrap (n : Nat) : IntKind.u8.wrap (n : Int) = ((UInt8.ofNat (n % 256)).toNat : Int) := by
  have : (UInt8.ofNat (n % 256)).toNat = n % 256 := by simp
  rw [this]; simp only [IntKind.wrap, IntKind.signed, IntKind.bits, Bool.false_and, Bool.false_eq_true, if_false]; omega

set_option maxRecDepth 20000 in
theorem sum_nil {R : List RO} {O : List Own} {POST : Value → List RO → List Own → Prop} (hk : POST (vs []) R O) : Fun Tryd.prog 10 #[.pointer none] R O POST := by
  refine Fun.enter (l := [_]) Tryd.func10 rfl Tryd.ntmps10 rfl (L0 := [(0, _)]) rfl ?_
  refine WC.seq ?_
  refine WC.region ?_
  refine WL.rd rfl rfl rfl (Rd.assign rfl rfl) ?_
  refine WL.nil ?_
  refine thenQ.normal ?_
  refine WC.seq ?_
  refine WC.seq ?_
  refine WC.region ?_
  refine WL.rd rfl rfl rfl (Rd.move rfl rfl) ?_
  refine WL.rd rfl rfl rfl ((by first | exact Rd.peq_nn rfl Tryd.underlying57 rfl rfl | exact Rd.peq_sn rfl Tryd.underlying57 rfl rfl)) ?_
  refine WL.nil ?_
  refine thenQ.normal ?_
  first | refine WC.ite rfl (fun hc1 => ?_) (fun hc1 => ?_) | refine WC.cond rfl (fun hc1 => ?_) (fun hc1 => ?_)
  · skip
    refine WC.seq ?_
    refine WC.region ?_
    refine WL.rd rfl rfl rfl (Rd.assign rfl rfl) ?_
    refine WL.nil ?_
    refine thenQ.normal ?_
    refine WC.ret (Ret.one Tryd.results10 rfl ?_)
    exact hk
  · skip
    simp at hc1
set_option maxRecDepth 20000 in
set_option maxHeartbeats 4000000 in
theorem hsum_spec {R : List RO} {O : List Own} {POST : Value → List RO → List Own → Prop} {v : St8} {g : Bool} {r t : List UInt8} {b n : Nat} (hr : rootsR ∈ R) (hh : HashOf v g r n t) (hn : n ≤ 281474976710656)
    (hk : POST (vs (shaE t)) R (rowC b 42 (hcell v g r n) :: O)) :
    Fun Tryd.prog 10 #[.pointer (some ⟨b, 0, none⟩)] R (rowC b 42 (hcell v g r n) :: O) POST := by
  obtain ⟨hr1, hr2⟩ := hh.rest
  have hpl : (padE n).length = (119 - n % 64) % 64 + 1 := by simp [padE]
  refine Fun.enter (l := [_]) Tryd.func10 rfl Tryd.ntmps10 rfl (L0 := [(0, _)]) rfl ?_
  refine WC.seq ?_
  refine WC.region ?_
  refine WL.rd rfl rfl rfl (Rd.assign rfl rfl) ?_
  refine WL.nil ?_
  refine thenQ.normal ?_
  refine WC.seq ?_
  refine WC.seq ?_
  refine WC.region ?_
  refine WL.rd rfl rfl rfl (Rd.move rfl rfl) ?_
  refine WL.rd rfl rfl rfl ((by first | exact Rd.peq_nn rfl Tryd.underlying57 rfl rfl | exact Rd.peq_sn rfl Tryd.underlying57 rfl rfl)) ?_
  refine WL.nil ?_
  refine thenQ.normal ?_
  first | refine WC.ite rfl (fun hc1 => ?_) (fun hc1 => ?_) | refine WC.cond rfl (fun hc1 => ?_) (fun hc1 => ?_)
  · skip
    cases hc1
  · skip
    refine WC.skip ?_
    refine thenQ.normal ?_
    refine WC.seq ?_
    refine WC.region ?_
    refine WL.rd rfl rfl rfl (Rd.move rfl rfl) ?_
    refine WL.rd rfl rfl rfl (Rd.nilc rfl rfl) ?_
    refine WL.rd rfl rfl rfl ((by first | exact Rd.rowS rfl G42 rfl (by repeat (first | assumption | exact mS | apply mT)) (by repeat (first | exact NF.nil | apply NF.cons)) rfl | exact Rd.getS rfl G42 rfl (by repeat (first | assumption | exact mS | apply mT)) (by intro x; first | rfl | (cases x; rfl) | (rcases x with ⟨_, _, _⟩; rfl) | (rcases x with ⟨_, _, _, _⟩; rfl)) (by first | assumption | rfl | exact get!_of_lt (by omega)) (by repeat (first | exact NF.nil | apply NF.cons)) | exact Rd.getSA rfl G42 rfl (by repeat (first | assumption | exact mS | apply mT)) (by intro x; first | rfl | (cases x; rfl) | (rcases x with ⟨_, _, _⟩; rfl) | (rcases x with ⟨_, _, _, _⟩; rfl)) (by first | assumption | rfl | exact get!_of_lt (by omega)) (by repeat (first | exact NF.nil | apply NF.cons)))) ?_
    refine WL.op rfl ?_
    refine OpW.alloc rfl I42 rfl (by repeat (first | exact NF.nil | apply NF.cons)) rfl rfl ?_; intro b3
    refine WL.op rfl ?_
    refine OpW.storeS rfl G42 rfl rfl (by repeat (first | exact NF.nil | apply NF.cons)) (by repeat (first | assumption | exact Take.head _ | apply Take.tail)) rfl rfl (by repeat (first | exact NF.nil | apply NF.cons)) rfl ?_
    refine WL.nil ?_
    refine thenQ.normal ?_
    refine WC.seq ?_
    refine WC.region ?_
    refine WL.rd rfl rfl rfl (Rd.move rfl rfl) ?_
    refine WL.rd rfl rfl rfl (Rd.nilc rfl rfl) ?_
    refine WL.rd rfl rfl rfl ((by first | exact Rd.field rfl F42_3 rfl rfl | exact Rd.fieldE rfl F42_3 rfl (by repeat (first | assumption | exact mS | apply mT)) (by omega) | exact Rd.fieldA rfl F42_3 rfl (by repeat (first | assumption | exact mS | apply mT)) (by omega))) ?_
    refine WL.rd rfl rfl rfl ((by first | exact Rd.get rfl C3 rfl (by repeat (first | assumption | exact mS | apply mT)) (by first | assumption | rfl | exact get!_of_lt (by omega)) | exact Rd.getA rfl C3 rfl (by repeat (first | assumption | exact mS | apply mT)) (by first | assumption | rfl | exact get!_of_lt (by omega)) | exact Rd.row1 rfl C3 rfl (by repeat (first | assumption | exact mS | apply mT)) (by rfl) | exact Rd.getF rfl C3 rfl (by repeat (first | assumption | exact mS | apply mT)) (by intro x; first | rfl | (cases x; rfl) | (rcases x with ⟨_, _, _⟩; rfl) | (rcases x with ⟨_, _, _, _⟩; rfl)) rfl (by first | assumption | rfl | exact get!_of_lt (by omega)) (by rfl) | exact Rd.getFA rfl C3 rfl (by repeat (first | assumption | exact mS | apply mT)) (by intro x; first | rfl | (cases x; rfl) | (rcases x with ⟨_, _, _⟩; rfl) | (rcases x with ⟨_, _, _, _⟩; rfl)) rfl (by first | assumption | rfl | exact get!_of_lt (by omega)) (by rfl))) ?_
    refine WL.rd rfl rfl rfl (Rd.remN (a := n) (b := 64) rfl rfl rfl rfl rfl (by decide)) ?_
    refine WL.rd rfl rfl rfl (Rd.sub rfl rfl rfl (by omega)) ?_
    refine WL.say 19 (u := .int .i64 ((119 - n % 64 : Nat) : Int)) rfl (by congr 1; omega) ?_
    refine WL.rd rfl rfl rfl (Rd.remN (a := 119 - n % 64) (b := 64) rfl rfl rfl rfl rfl (by decide)) ?_
    refine WL.op rfl ?_
    refine OpW.call rfl rfl (by repeat (first | exact Evs.nil | apply Evs.cons rfl)) (by kernel_rfl) rfl rfl rfl ?_
    refine Fun.below (v := vs (Lib.repeatL [0] ((119 - n % 64) % 64))) (fun w => Tryd.strings_Repeat ⟨#[0]⟩ ((119 - n % 64) % 64) w (by omega) (by show 1 * _ ≤ _; omega)) ?_
    rw [repeat_zero]
    refine WL.rd rfl rfl rfl (Rd.scat rfl rfl rfl (by rw [List.length_replicate, List.length_singleton]; omega)) ?_
    refine WL.op rfl ?_
    refine OpW.call rfl rfl (by repeat (first | exact Evs.nil | apply Evs.cons rfl)) (by kernel_rfl) rfl rfl rfl ?_
    refine hput_spec (v := v) (g := g) (r := r) (s := padE n) hr hh.1 (by omega) (by omega) ?_
    obtain ⟨x, hx⟩ : ∃ x, x = blocks (v.begun g) (r ++ padE n) := ⟨_, rfl⟩
    have hxo := blocks_ok (v.begun g) (r ++ padE n) (begun_ok hh.1)
    have hxr := blocks_rest (v.begun g) (r ++ padE n)
    have hxa := blocks_append (v.begun g) (r ++ padE n) (lenE n)
    rw [← hx] at hxo hxr hxa ⊢
    refine WL.nil ?_
    refine thenQ.normal ?_
    refine WC.seq ?_
    refine WC.region ?_
    refine WL.op rfl ?_
    refine OpW.alloc rfl I61 rfl (by repeat (first | exact NF.nil | apply NF.cons)) rfl rfl ?_; intro b4
    refine WL.nil ?_
    refine thenQ.normal ?_
    refine WC.seq ?_
    refine WC.seq ?_
    refine WC.region ?_
    refine WL.rd rfl rfl rfl (Rd.move rfl rfl) ?_
    refine WL.nil ?_
    refine thenQ.normal ?_
    refine WC.block ?_
    refine WC.pick [24, 0, 3, 4] (by repeat (first | exact Pick.nil | apply Pick.cons rfl)) ?_
    refine WC.loop1 1 (fun (i : Nat) => [(24, .int .i64 (i : Int))]) (fun (i : Nat) => rowC b4 61 (hlrow n i) :: rowC b3 42 (hcell x.1 true x.2 (n + (padE n).length)) :: rowC b 42 (hcell v g r n) :: O) (fun (i : Nat) => i ≤ 8) (fun (i : Nat) => 8 - i) (0) (by repeat (first | exact Split.zero | apply Split.succ)) ?hinv1 (by repeat (first | exact Sub.nil | refine Sub.cons rfl (by first | rfl | (congr 1; omega) | assumption) ?_)) (fun _ h => h) ?_
    case hinv1 =>
      exact Nat.zero_le _
    intro i
    rintro i1
    refine WC.seq ?_
    refine WC.region ?_
    refine WL.rd rfl rfl rfl (Rd.lss rfl rfl rfl) ?_
    refine WL.nil ?_
    refine thenQ.normal ?_
    refine WC.seq ?_
    first | refine WC.ite rfl (fun hc2 => ?_) (fun hc2 => ?_) | refine WC.cond rfl (fun hc2 => ?_) (fun hc2 => ?_)
    · skip
      have hml : (((List.range i).map (lenB n)).map vy).length = i := by simp
      have hll : (hlrow n i).length = 8 := by rw [hlrow, List.length_append, hml, List.length_replicate]; omega
      have hd1 := Nat.div_le_self n (2 ^ (56 - 8 * i))
      have hd2 := Nat.div_le_self n (2 ^ (48 - 8 * i))
      refine WC.skip ?_
      refine thenQ.normal ?_
      refine WC.seq ?_
      refine WC.block ?_
      refine WC.seq ?_
      refine WC.region ?_
      refine WL.rd rfl rfl rfl (Rd.move rfl rfl) ?_
      refine WL.rd rfl rfl rfl (Rd.assign rfl rfl) ?_
      refine WL.nil ?_
      refine thenQ.normal ?_
      refine WC.seq ?_
      refine WC.region ?_
      refine WL.rd rfl rfl rfl (Rd.move rfl rfl) ?_
      refine WL.rd rfl rfl rfl (Rd.move rfl rfl) ?_
      refine WL.rd rfl rfl rfl (Rd.nilc rfl rfl) ?_
      refine WL.rd rfl rfl rfl ((by first | exact Rd.field rfl F42_3 rfl rfl | exact Rd.fieldE rfl F42_3 rfl (by repeat (first | assumption | exact mS | apply mT)) (by omega) | exact Rd.fieldA rfl F42_3 rfl (by repeat (first | assumption | exact mS | apply mT)) (by omega))) ?_
      refine WL.rd rfl rfl rfl ((by first | exact Rd.get rfl C3 rfl (by repeat (first | assumption | exact mS | apply mT)) (by first | assumption | rfl | exact get!_of_lt (by omega)) | exact Rd.getA rfl C3 rfl (by repeat (first | assumption | exact mS | apply mT)) (by first | assumption | rfl | exact get!_of_lt (by omega)) | exact Rd.row1 rfl C3 rfl (by repeat (first | assumption | exact mS | apply mT)) (by rfl) | exact Rd.getF rfl C3 rfl (by repeat (first | assumption | exact mS | apply mT)) (by intro x; first | rfl | (cases x; rfl) | (rcases x with ⟨_, _, _⟩; rfl) | (rcases x with ⟨_, _, _, _⟩; rfl)) rfl (by first | assumption | rfl | exact get!_of_lt (by omega)) (by rfl) | exact Rd.getFA rfl C3 rfl (by repeat (first | assumption | exact mS | apply mT)) (by intro x; first | rfl | (cases x; rfl) | (rcases x with ⟨_, _, _⟩; rfl) | (rcases x with ⟨_, _, _, _⟩; rfl)) rfl (by first | assumption | rfl | exact get!_of_lt (by omega)) (by rfl))) ?_
      refine WL.rd rfl rfl rfl (Rd.move rfl rfl) ?_
      refine WL.rd rfl rfl rfl (Rd.mul rfl rfl rfl (by omega)) ?_
      refine WL.rd rfl rfl rfl (Rd.sub rfl rfl rfl (by omega)) ?_
      refine WL.rd rfl rfl rfl (Rd.shrN (a := n) (n := 56 - 8 * i) rfl rfl rfl rfl (by omega) (by show 56 - 8 * i ≤ 64; omega)) ?_
      refine WL.rd rfl rfl rfl (Rd.shlS (a := n / 2 ^ (56 - 8 * i)) (n := 3) rfl rfl rfl rfl rfl (by decide) (by omega)) ?_
      refine WL.rd rfl rfl rfl (Rd.convw rfl rfl Tryd.underlying5 (hS := Tryd.underlying3)) ?_
      refine WL.say 37 (u := vy (UInt8.ofNat (n / 2 ^ (56 - 8 * i) * 8 % 256))) rfl (by rw [byte_wrap]) ?_
      refine WL.rd rfl rfl rfl ((by first | exact Rd.idxArr1 (k := i) rfl A61 rfl rfl (by omega) (by first | omega | (dsimp only; omega)) | exact Rd.idxArr (k := i) rfl A61 rfl rfl (by omega) (by first | omega | (dsimp only; omega)) rfl)) ?_
      refine WL.op rfl ?_
      refine OpW.store1 rfl Z5 rfl rfl (by first | exact ⟨rfl, rfl⟩ | assumption) (by repeat (first | assumption | exact Take.head _ | apply Take.tail)) (by first | (simp; done) | omega | exact of_decide_eq_true rfl | (simp only [List.length_append, List.length_replicate, List.length_map, List.length_set]; omega)) rfl ?_
      refine WL.heap (fun w h => by rw [lrow_set (by omega)] at h; exact h) ?_
      refine WL.nil ?_
      refine thenQ.normal ?_
      refine WC.seq ?_
      refine WC.region ?_
      refine WL.rd rfl rfl rfl (Rd.move rfl rfl) ?_
      refine WL.rd rfl rfl rfl (Rd.lss rfl rfl rfl) ?_
      refine WL.nil ?_
      refine thenQ.normal ?_
      first | refine WC.ite rfl (fun hc3 => ?_) (fun hc3 => ?_) | refine WC.cond rfl (fun hc3 => ?_) (fun hc3 => ?_)
      · skip
        refine WC.tail 16 mixed (by kernel_rfl) ?_
        refine WS.rd rfl rfl rfl (Rd.move rfl rfl) ?_
        refine WS.rd rfl rfl rfl ((by first | exact Rd.idxArr1 (k := i) rfl A61 rfl rfl (by omega) (by first | omega | (dsimp only; omega)) | exact Rd.idxArr (k := i) rfl A61 rfl rfl (by omega) (by first | omega | (dsimp only; omega)) rfl)) ?_
        refine WS.rd rfl rfl rfl (Rd.row1 rfl C5 rfl (by repeat (first | assumption | exact mS | apply mT)) (mid_get _ _ _ hml)) ?_
        refine WS.rd rfl rfl rfl (Rd.move rfl rfl) ?_
        refine WS.rd rfl rfl rfl (Rd.nilc rfl rfl) ?_
        refine WS.rd rfl rfl rfl ((by first | exact Rd.field rfl F42_3 rfl rfl | exact Rd.fieldE rfl F42_3 rfl (by repeat (first | assumption | exact mS | apply mT)) (by omega) | exact Rd.fieldA rfl F42_3 rfl (by repeat (first | assumption | exact mS | apply mT)) (by omega))) ?_
        refine WS.rd rfl rfl rfl ((by first | exact Rd.get rfl C3 rfl (by repeat (first | assumption | exact mS | apply mT)) (by first | assumption | rfl | exact get!_of_lt (by omega)) | exact Rd.getA rfl C3 rfl (by repeat (first | assumption | exact mS | apply mT)) (by first | assumption | rfl | exact get!_of_lt (by omega)) | exact Rd.row1 rfl C3 rfl (by repeat (first | assumption | exact mS | apply mT)) (by rfl) | exact Rd.getF rfl C3 rfl (by repeat (first | assumption | exact mS | apply mT)) (by intro x; first | rfl | (cases x; rfl) | (rcases x with ⟨_, _, _⟩; rfl) | (rcases x with ⟨_, _, _, _⟩; rfl)) rfl (by first | assumption | rfl | exact get!_of_lt (by omega)) (by rfl) | exact Rd.getFA rfl C3 rfl (by repeat (first | assumption | exact mS | apply mT)) (by intro x; first | rfl | (cases x; rfl) | (rcases x with ⟨_, _, _⟩; rfl) | (rcases x with ⟨_, _, _, _⟩; rfl)) rfl (by first | assumption | rfl | exact get!_of_lt (by omega)) (by rfl))) ?_
        refine WS.rd rfl rfl rfl (Rd.move rfl rfl) ?_
        refine WS.rd rfl rfl rfl (Rd.mul rfl rfl rfl (by omega)) ?_
        refine WS.rd rfl rfl rfl (Rd.sub rfl rfl rfl (by omega)) ?_
        refine WS.rd rfl rfl rfl (Rd.shrN (a := n) (n := 48 - 8 * i) rfl rfl rfl rfl (by omega) (by show 48 - 8 * i ≤ 64; omega)) ?_
        refine WS.rd rfl rfl rfl (Rd.andS (a := n / 2 ^ (48 - 8 * i)) (c := 255) rfl rfl rfl rfl rfl (show _ < 9223372036854775808 by omega) (by decide)) ?_
        refine WS.rd rfl rfl rfl (Rd.shrN (a := n / 2 ^ (48 - 8 * i) &&& 255) (n := 5) rfl rfl rfl rfl rfl (by decide)) ?_
        have h255 : n / 2 ^ (48 - 8 * i) &&& 255 ≤ 255 := Nat.and_le_right
        refine WS.rd rfl rfl rfl (Rd.conv rfl rfl Tryd.underlying5 (wrap_natU rfl (show _ < 256 by omega)) (hS := Tryd.underlying3)) ?_
        refine WS.rd rfl rfl rfl (Rd.orU rfl rfl rfl rfl rfl rfl (UInt8.toNat_lt _) (show _ < 256 by omega)) ?_
        refine WS.say 55 (u := vy (lenB n i)) rfl (by
        have e : ∀ m : Nat, m < 256 → (UInt8.ofNat m).toNat = m := fun m h => by simp; omega
        rw [e _ (Nat.mod_lt _ (by decide)), len_step (by omega), lenB, vy, e _ (Nat.mod_lt _ (by decide))]) ?_
        refine WS.rd rfl rfl rfl ((by first | exact Rd.idxArr1 (k := i) rfl A61 rfl rfl (by omega) (by first | omega | (dsimp only; omega)) | exact Rd.idxArr (k := i) rfl A61 rfl rfl (by omega) (by first | omega | (dsimp only; omega)) rfl)) ?_
        refine WS.switch ?_
        refine WL.op rfl ?_
        refine OpW.store1 rfl Z5 rfl rfl (by first | exact ⟨rfl, rfl⟩ | assumption) (by repeat (first | assumption | exact Take.head _ | apply Take.tail)) (by first | (simp; done) | omega | exact of_decide_eq_true rfl | (simp only [List.length_append, List.length_replicate, List.length_map, List.length_set]; omega)) rfl ?_
        refine WL.heap (fun w h => by rw [mid_set _ _ _ _ hml] at h; exact h) ?_
        refine WL.nil ?_
        refine blockQ.normal ?_
        refine thenQ.normal ?_
        refine WC.region ?_
        refine WL.rd rfl rfl rfl (Rd.add rfl rfl rfl (by omega)) ?_
        refine WL.rd rfl rfl rfl (Rd.move rfl rfl) ?_
        refine WL.nil ?_
        exact loopQ1.mk (i + 1) (by omega) (by omega) (by repeat (first | exact Sub.nil | refine Sub.cons rfl (by first | rfl | (congr 1; omega) | assumption) ?_)) (fun w h => by rw [← lrow_done (by omega)]; exact (fun w h => OwnL.sat (by repeat (first | exact OwnL.refl | apply OwnL.take (by repeat (first | exact Take.head _ | apply Take.tail)) | apply OwnL.drop)) w (h.thin (SubL.mem (by repeat (first | exact SubL.refl | refine SubL.cons (by repeat (first | assumption | exact mS | apply mT)) ?_ | refine SubL.skip ?_))))) w h)
      · skip
        refine WC.skip ?_
        refine blockQ.normal ?_
        refine thenQ.normal ?_
        refine WC.region ?_
        refine WL.rd rfl rfl rfl (Rd.add rfl rfl rfl (by omega)) ?_
        refine WL.rd rfl rfl rfl (Rd.move rfl rfl) ?_
        refine WL.nil ?_
        obtain rfl : i = 7 := by omega
        exact loopQ1.mk (7 + 1) (by omega) (by omega) (by repeat (first | exact Sub.nil | refine Sub.cons rfl (by first | rfl | (congr 1; omega) | assumption) ?_)) (fun w h => by rw [← lrow_done (by omega), lenB, ← last_step]; exact (fun w h => OwnL.sat (by repeat (first | exact OwnL.refl | apply OwnL.take (by repeat (first | exact Take.head _ | apply Take.tail)) | apply OwnL.drop)) w (h.thin (SubL.mem (by repeat (first | exact SubL.refl | refine SubL.cons (by repeat (first | assumption | exact mS | apply mT)) ?_ | refine SubL.skip ?_))))) w h)
    · skip
      obtain rfl : i = 8 := by omega
      refine WC.heap (R' := R) (O' := rowC b4 61 ((lenE n).map vy) :: rowC b3 42 (hcell x.1 true x.2 (n + (padE n).length)) :: rowC b 42 (hcell v g r n) :: O) (fun w h => by
        have e : hlrow n 8 = (lenE n).map vy := by rw [hlrow, Nat.sub_self, List.replicate_zero, List.append_nil]; rfl
        rw [e] at h; exact h) ?_
      refine WC.exit ?_
      refine thenQ.exit ?_
      refine loopQ1.exit ?_
      refine blockQ.exit ?_
      refine thenQ.normal ?_
      refine WC.seq ?_
      refine WC.region ?_
      refine WL.rd rfl rfl rfl (Rd.sliceArr rfl A61 rfl (by decide)) ?_
      refine WL.rd rfl rfl rfl (Rd.strOfR (bs := lenE n) rfl Tryd.underlying27 Tryd.underlying9 Tryd.underlying5 rfl (by repeat (first | assumption | exact mS | apply mT)) rfl (lenE_length n) (by omega)) ?_
      refine WL.op rfl ?_
      refine OpW.call rfl rfl (by repeat (first | exact Evs.nil | apply Evs.cons rfl)) (by kernel_rfl) rfl rfl rfl ?_
      have hlE := lenE_length n
      refine Fun.heap (R' := R) (O' := rowC b3 42 (hcell x.1 true x.2 (n + (padE n).length)) :: rowC b 42 (hcell v g r n) :: O) (fun w h => OwnL.sat (by repeat (first | exact OwnL.refl | apply OwnL.take (by repeat (first | exact Take.head _ | apply Take.tail)) | apply OwnL.drop)) w (h.thin (SubL.mem (by repeat (first | exact SubL.refl | refine SubL.cons (by repeat (first | assumption | exact mS | apply mT)) ?_ | refine SubL.skip ?_))))) ?_
      refine hput_spec (v := x.1) (g := true) (r := x.2) (s := lenE n) hr (fun _ => hxo) (by omega) (by omega) ?_
      rw [show x.1.begun true = x.1 from rfl, hxa]
      obtain ⟨y, hy⟩ : ∃ y, y = (blocks (v.begun g) (r ++ padE n ++ lenE n)).1 := ⟨_, rfl⟩
      rw [← hy]
      have hdg : digestS y = shaE t := by rw [hy]; exact hh.sum
      refine WL.nil ?_
      refine thenQ.normal ?_
      refine WC.seq ?_
      refine WC.region ?_
      refine WL.op rfl ?_
      refine OpW.make1 (m := 0) (c := 32) rfl S27 rfl rfl rfl rfl rfl (by omega) (by omega) (by omega) rfl rfl ?_; intro b61
      refine WL.heap (fun w h => Sat.accCap (α := UInt8) (enc := one vy) (size := 1) (c := 32) (by repeat (first | assumption | exact Take.head _ | apply Take.tail)) (by simp) (by decide) h) ?_
      refine WL.rd rfl rfl rfl (Rd.assign rfl rfl) ?_
      refine WL.nil ?_
      refine thenQ.normal ?_
      refine WC.seq ?_
      refine WC.seq ?_
      refine WC.region ?_
      refine WL.rd rfl rfl rfl ((by first | exact Rd.field rfl F42_0 rfl rfl | exact Rd.fieldE rfl F42_0 rfl (by repeat (first | assumption | exact mS | apply mT)) (by omega) | exact Rd.fieldA rfl F42_0 rfl (by repeat (first | assumption | exact mS | apply mT)) (by omega))) ?_
      refine WL.rd rfl rfl rfl (Rd.rowS (ds := y.cs) rfl G40 rfl (by repeat (first | assumption | exact mS | apply mT)) (by repeat (first | exact NF.nil | apply NF.cons)) rfl) ?_
      refine WL.rd rfl rfl rfl (Rd.move rfl rfl) ?_
      refine WL.nil ?_
      refine thenQ.normal ?_
      refine WC.block ?_
      refine WC.pick [64, 6, 63] (by repeat (first | exact Pick.nil | apply Pick.cons rfl)) ?_
      refine WC.loop2 2 (fun (j : Nat) (u : Value) => [(64, .int .i64 (j : Int)), (6, u)]) (fun (j : Nat) (u : Value) => accC 5 1 (one vy) u ((y.wl.take j).flatMap be4) :: rowC b3 42 (hcell y true (blocks (v.begun g) (r ++ padE n ++ lenE n)).2 (n + (padE n).length + (lenE n).length)) :: rowC b 42 (hcell v g r n) :: O) (fun (j : Nat) (u : Value) => j ≤ 8 ∧ OneV u) (fun (j : Nat) (u : Value) => 8 - j) (0) (.slice (some ⟨b61, 0, none⟩) 0 32) (by repeat (first | exact Split.zero | apply Split.succ)) ?hinv2 (by repeat (first | exact Sub.nil | refine Sub.cons rfl (by first | rfl | (congr 1; omega) | assumption) ?_)) (fun _ h => h) ?_
      case hinv2 =>
        exact ⟨Nat.zero_le _, OneV.sl⟩
      intro j u
      rintro ⟨j1, j2⟩
      refine WC.seq ?_
      refine WC.region ?_
      refine WL.rd rfl rfl rfl (Rd.lss rfl rfl rfl) ?_
      refine WL.nil ?_
      refine thenQ.normal ?_
      refine WC.seq ?_
      first | refine WC.ite rfl (fun hc4 => ?_) (fun hc4 => ?_) | refine WC.cond rfl (fun hc4 => ?_) (fun hc4 => ?_)
      · skip
        have hyl : y.wl.length = 8 := rfl
        have hfs := flat_snoc (l := y.wl) (i := j) (by omega)
        have hfl := be4_length (y.wl.take j)
        rw [List.length_take] at hfl
        refine WC.skip ?_
        refine thenQ.normal ?_
        refine WC.seq ?_
        refine WC.block ?_
        refine WC.seq ?_
        refine WC.region ?_
        refine WL.rd rfl rfl rfl (Rd.idxAgg (k := j) rfl A40 C38 rfl rfl (by omega) (by omega) (by rw [wl_cs, List.getElem?_map, get!_of_lt (xs := y.wl) (by omega)]; rfl)) ?_
        refine WL.rd rfl rfl rfl (Rd.assign rfl rfl) ?_
        refine WL.nil ?_
        refine thenQ.normal ?_
        refine WC.region ?_
        refine WL.rd rfl rfl rfl (Rd.move rfl rfl) ?_
        refine WL.rd rfl rfl rfl (Rd.move rfl rfl) ?_
        refine WL.rd rfl rfl rfl (Rd.shrN (a := y.wl[j]!) (n := 24) rfl rfl rfl rfl rfl (by decide)) ?_
        refine WL.rd rfl rfl rfl ((by first | exact Rd.conv rfl rfl Tryd.underlying5 (by first | rfl | omega) (hS := Tryd.underlying38) | exact Rd.convw rfl rfl Tryd.underlying5 (hS := Tryd.underlying38))) ?_
        refine WL.say 70 (u := vy (UInt8.ofNat (y.wl[j]! / 2 ^ 24 % 256))) rfl (by rw [byte_wrap]) ?_
        refine WL.rd rfl rfl rfl (Rd.move rfl rfl) ?_
        refine WL.rd rfl rfl rfl (Rd.shrN (a := y.wl[j]!) (n := 16) rfl rfl rfl rfl rfl (by decide)) ?_
        refine WL.rd rfl rfl rfl ((by first | exact Rd.conv rfl rfl Tryd.underlying5 (by first | rfl | omega) (hS := Tryd.underlying38) | exact Rd.convw rfl rfl Tryd.underlying5 (hS := Tryd.underlying38))) ?_
        refine WL.say 73 (u := vy (UInt8.ofNat (y.wl[j]! / 2 ^ 16 % 256))) rfl (by rw [byte_wrap]) ?_
        refine WL.rd rfl rfl rfl (Rd.move rfl rfl) ?_
        refine WL.rd rfl rfl rfl (Rd.shrN (a := y.wl[j]!) (n := 8) rfl rfl rfl rfl rfl (by decide)) ?_
        refine WL.rd rfl rfl rfl ((by first | exact Rd.conv rfl rfl Tryd.underlying5 (by first | rfl | omega) (hS := Tryd.underlying38) | exact Rd.convw rfl rfl Tryd.underlying5 (hS := Tryd.underlying38))) ?_
        refine WL.say 76 (u := vy (UInt8.ofNat (y.wl[j]! / 2 ^ 8 % 256))) rfl (by rw [byte_wrap]) ?_
        refine WL.rd rfl rfl rfl (Rd.move rfl rfl) ?_
        refine WL.rd rfl rfl rfl ((by first | exact Rd.conv rfl rfl Tryd.underlying5 (by first | rfl | omega) (hS := Tryd.underlying38) | exact Rd.convw rfl rfl Tryd.underlying5 (hS := Tryd.underlying38))) ?_
        refine WL.say 78 (u := vy (UInt8.ofNat (y.wl[j]! % 256))) rfl (by rw [byte_wrap]) ?_
        refine WL.op rfl ?_
        refine OpW.buildSl (ps := [(0, _), (1, _), (2, _), (3, _)]) rfl S27 (by repeat (first | exact Evs.nil | apply Evs.cons rfl)) rfl rfl (by repeat (first | exact CellsOf.nil | apply CellsOf.cons rfl)) (by kernel_rfl) rfl rfl rfl ?_; intro b79
        refine WL.op rfl ?_
        refine OpW.appendRow (enc := one vy) rfl S27 rfl rfl (by repeat (first | assumption | exact Take.head _ | apply Take.tail)) (by repeat (first | assumption | exact Take.head _ | apply Take.tail)) (be4 y.wl[j]!) rfl (by rfl) rfl (by intro x; first | rfl | (cases x; rfl) | (rcases x with ⟨_, _, _⟩; rfl) | (rcases x with ⟨_, _, _, _⟩; rfl)) (by intro x; first | rfl | (cases x; rfl) | (rcases x with ⟨_, _, _⟩; rfl) | (rcases x with ⟨_, _, _, _⟩; rfl)) ⟨by simp only [maxLen, List.length_append, List.length_nil, List.length_cons, List.length_drop, List.length_take, List.length_map]; omega, by first | omega | (simp only [List.length_append, List.length_nil, List.length_cons, List.length_drop, List.length_take, List.length_map]; omega)⟩ rfl rfl ?_; intro v80 hv80
        refine WL.rd rfl rfl rfl (Rd.assign rfl rfl) ?_
        refine WL.nil ?_
        refine blockQ.normal ?_
        refine thenQ.normal ?_
        refine WC.region ?_
        refine WL.rd rfl rfl rfl (Rd.add rfl rfl rfl (by omega)) ?_
        refine WL.rd rfl rfl rfl (Rd.move rfl rfl) ?_
        refine WL.nil ?_
        exact loopQ2.mk (j + 1) v80 ⟨by omega, hv80⟩ (by omega) (by repeat (first | exact Sub.nil | refine Sub.cons rfl (by first | rfl | (congr 1; omega) | assumption) ?_)) (fun w h => by rw [hfs]; exact (fun w h => OwnL.sat (by repeat (first | exact OwnL.refl | apply OwnL.take (by repeat (first | exact Take.head _ | apply Take.tail)) | apply OwnL.drop)) w (h.thin (SubL.mem (by repeat (first | exact SubL.refl | refine SubL.cons (by repeat (first | assumption | exact mS | apply mT)) ?_ | refine SubL.skip ?_))))) w h)
      · skip
        obtain rfl : j = 8 := by omega
        have hfin : (y.wl.take 8).flatMap be4 = shaE t := hdg
        refine WC.heap (fun w h => by rw [hfin] at h; exact h) ?_
        refine WC.exit ?_
        refine thenQ.exit ?_
        refine loopQ2.exit ?_
        refine blockQ.exit ?_
        refine thenQ.normal ?_
        refine WC.seq ?_
        refine WC.region ?_
        refine WL.rd rfl rfl rfl (Rd.move rfl rfl) ?_
        refine WL.rd rfl rfl rfl ((by first | exact Rd.strOfA rfl Tryd.underlying27 Tryd.underlying9 Tryd.underlying5 rfl (by repeat (first | assumption | exact mS | apply mT)) | exact Rd.strOfE rfl Tryd.underlying27 Tryd.underlying9 Tryd.underlying5 rfl (by repeat (first | assumption | exact mS | apply mT)) | exact Rd.strOfR rfl Tryd.underlying27 Tryd.underlying9 Tryd.underlying5 rfl (by repeat (first | assumption | exact mS | apply mT)) rfl rfl (by omega))) ?_
        refine WL.rd rfl rfl rfl (Rd.assign rfl rfl) ?_
        refine WL.nil ?_
        refine thenQ.normal ?_
        refine WC.heap (R' := R) (O' := rowC b 42 (hcell v g r n) :: O) (fun w h => OwnL.sat (by repeat (first | exact OwnL.refl | apply OwnL.take (by repeat (first | exact Take.head _ | apply Take.tail)) | apply OwnL.drop)) w (h.thin (SubL.mem (by repeat (first | exact SubL.refl | refine SubL.cons (by repeat (first | assumption | exact mS | apply mT)) ?_ | refine SubL.skip ?_))))) ?_
        refine WC.ret (Ret.one Tryd.results10 rfl ?_)
        exact hk
end Go.Proofs.YtedgndhbieeffaaDoor
