/-
  Layer 2: the state behind a block.
-/
import Derived.Test.YtedgndhbieeffaaDoorSh1
namespace Go.Proofs.YtedgndhbieeffaaDoor
open Go Go.SL

structure St8 where
  a : Nat
  b : Nat
  c : Nat
  d : Nat
  e : Nat
  f : Nat
  g : Nat
  h : Nat
def St8.cs (v : St8) : List Value := [vw v.a, vw v.b, vw v.c, vw v.d, vw v.e, vw v.f, vw v.g, vw v.h]
structure St8.Ok (v : St8) : Prop where
  a : v.a < 2 ^ 32
  b : v.b < 2 ^ 32
  c : v.c < 2 ^ 32
  d : v.d < 2 ^ 32
  e : v.e < 2 ^ 32
  f : v.f < 2 ^ 32
  g : v.g < 2 ^ 32
  h : v.h < 2 ^ 32
def first8 : St8 := ⟨1779033703, 3144134277, 1013904242, 2773480762, 1359893119, 2600822924, 528734635, 1541459225⟩
theorem first8_ok : first8.Ok := ⟨by decide, by decide, by decide, by decide, by decide, by decide, by decide, by decide⟩
def bg1 (e : Nat) : Nat := rotr e 6 ^^^ rotr e 11 ^^^ rotr e 25
def bg0 (a : Nat) : Nat := rotr a 2 ^^^ rotr a 13 ^^^ rotr a 22
def chE (e f g : Nat) : Nat := (e &&& f) ^^^ ((4294967295 - e) &&& g)
def majE (a b c : Nat) : Nat := (a &&& b) ^^^ (a &&& c) ^^^ (b &&& c)
def tE (v : St8) (k w : Nat) : Nat := ad (ad (ad (ad v.h (bg1 v.e)) (chE v.e v.f v.g)) k) w
def uE (v : St8) : Nat := ad (bg0 v.a) (majE v.a v.b v.c)
def St8.round (v : St8) (k w : Nat) : St8 := ⟨ad (tE v k w) (uE v), v.a, v.b, v.c, ad v.d (tE v k w), v.e, v.f, v.g⟩
theorem St8.Ok.round {v : St8} (h : v.Ok) (k w : Nat) : (v.round k w).Ok := ⟨ad_lt _ _, h.a, h.b, h.c, ad_lt _ _, h.e, h.f, h.g⟩
def St8.add (v x : St8) : St8 := ⟨ad v.a x.a, ad v.b x.b, ad v.c x.c, ad v.d x.d, ad v.e x.e, ad v.f x.f, ad v.g x.g, ad v.h x.h⟩
theorem St8.add_ok (v x : St8) : (v.add x).Ok := ⟨ad_lt _ _, ad_lt _ _, ad_lt _ _, ad_lt _ _, ad_lt _ _, ad_lt _ _, ad_lt _ _, ad_lt _ _⟩
def rootsN : List Nat := [
  1116352408, 1899447441, 3049323471, 3921009573, 961987163, 1508970993, 2453635748, 2870763221,
  3624381080, 310598401, 607225278, 1426881987, 1925078388, 2162078206, 2614888103, 3248222580,
  3835390401, 4022224774, 264347078, 604807628, 770255983, 1249150122, 1555081692, 1996064986,
  2554220882, 2821834349, 2952996808, 3210313671, 3336571891, 3584528711, 113926993, 338241895,
  666307205, 773529912, 1294757372, 1396182291, 1695183700, 1986661051, 2177026350, 2456956037,
  2730485921, 2820302411, 3259730800, 3345764771, 3516065817, 3600352804, 4094571909, 275423344,
  430227734, 506948616, 659060556, 883997877, 958139571, 1322822218, 1537002063, 1747873779,
  1955562222, 2024104815, 2227730452, 2361852424, 2428436474, 2756734187, 3204031479, 3329325298]
def rootsZ : List Int := rootsN.map fun n : Nat => (n : Int)
def rootsV : List Value := rootsZ.map fun z => .int .u32 z
abbrev rootsR : RO := garr 0 rootsV
theorem roots_get {k : Nat} (h : k < 64) : rootsV[k]? = some (vw rootsN[k]!) := by
  have hl : rootsN.length = 64 := by decide
  rw [rootsV, rootsZ, List.map_map, List.getElem?_map, get!_of_lt (by rw [hl]; exact h)]; rfl
def rounds (ws : List Nat) (v : St8) : Nat → St8
  | 0 => v
  | i + 1 => (rounds ws v i).round rootsN[i]! ws[i]!
theorem rounds_ok {ws : List Nat} {v : St8} (h : v.Ok) : ∀ i, (rounds ws v i).Ok
  | 0 => h
  | i + 1 => (rounds_ok h i).round _ _
/-- The state behind a block. -/
def nextS (v : St8) (s : List UInt8) : St8 := v.add (rounds (sched s 64) v 64)
theorem nextS_ok (v : St8) (s : List UInt8) : (nextS v s).Ok := St8.add_ok _ _
theorem not_lt (e : Nat) : 4294967295 - e < 2 ^ 32 := Nat.lt_of_le_of_lt (Nat.sub_le _ _) (by decide)
theorem and_lt {a : Nat} (h : a < 2 ^ 32) (b : Nat) : a &&& b < 2 ^ 32 := Nat.lt_of_le_of_lt Nat.and_le_left h
theorem x3_lt {a b c : Nat} (ha : a < 2 ^ 32) (hb : b < 2 ^ 32) (hc : c < 2 ^ 32) : a ^^^ b ^^^ c < 2 ^ 32 := Nat.xor_lt_two_pow (Nat.xor_lt_two_pow ha hb) hc
theorem _root_.Go.SL.Rd.not32 {P : Program} {o : Oper} {L : Env} {R : List RO} {O : List Own} {t : TypeId} {x : Operand} {a : Nat} (ho : o.op = .unOp .xor t x) (hx : ev L x = some (vw a)) (ha : a < 2 ^ 32) : Rd P o L R O (vw (4294967295 - a)) :=
  Rd.bnotU (k := .u32) ho hx rfl rfl ha rfl
/-- The cells of a state of which the first i are added up. -/
def mixC (v x : St8) (i : Nat) : List Value := (v.add x).cs.take i ++ v.cs.drop i
theorem cs_length (v : St8) : v.cs.length = 8 := rfl
theorem mixC_step (v x : St8) : ∀ i, i < 8 → ∃ p q, v.cs[i]? = some (vw p) ∧ x.cs[i]? = some (vw q) ∧ (mixC v x i)[i]? = some (vw p) ∧ (mixC v x i).set i (vw (ad p q)) = mixC v x (i + 1)
  | 0, _ => ⟨_, _, rfl, rfl, rfl, rfl⟩
  | 1, _ => ⟨_, _, rfl, rfl, rfl, rfl⟩
  | 2, _ => ⟨_, _, rfl, rfl, rfl, rfl⟩
  | 3, _ => ⟨_, _, rfl, rfl, rfl, rfl⟩
  | 4, _ => ⟨_, _, rfl, rfl, rfl, rfl⟩
  | 5, _ => ⟨_, _, rfl, rfl, rfl, rfl⟩
  | 6, _ => ⟨_, _, rfl, rfl, rfl, rfl⟩
  | 7, _ => ⟨_, _, rfl, rfl, rfl, rfl⟩
  | i + 8, h => by omega

set_option maxRecDepth 20000 in
set_option maxHeartbeats 4000000 in
theorem stateNext_spec {R : List RO} {O : List Own} {POST : Value → List RO → List Own → Prop} {v : St8} {s : List UInt8} (hr : rootsR ∈ R) (hv : v.Ok) (hs : s.length = 64)
    (hk : POST (.agg (nextS v s).cs.toArray) R O) : Fun Tryd.prog 16 #[.agg v.cs.toArray, vs s] R O POST := by
  refine Fun.thin (post' := fun r R' O' => r = .agg (nextS v s).cs.toArray ∧ R' = R ∧ ∃ b, O' = rowC b 40 (nextS v s).cs :: O) ?_ (by rintro r R' O' ⟨rfl, rfl, b, rfl⟩; exact ⟨_, O, hk, fun w h => h.drop⟩)
  refine Fun.enter (l := [_, _]) Tryd.func16 rfl Tryd.ntmps16 rfl (L0 := [(0, _), (1, _)]) rfl ?_
  refine WC.seq ?_
  refine WC.region ?_
  refine WL.op rfl ?_
  refine OpW.box rfl rfl (by repeat (first | exact NF.nil | apply NF.cons)) rfl rfl ?_; intro b2
  refine WL.op rfl ?_
  refine OpW.alloc rfl I40 rfl (by repeat (first | exact NF.nil | apply NF.cons)) rfl rfl ?_; intro b4
  refine WL.nil ?_
  refine thenQ.normal ?_
  refine WC.seq ?_
  refine WC.region ?_
  refine WL.rd rfl rfl rfl ((by first | exact Rd.rowS rfl G40 rfl (by repeat (first | assumption | exact mS | apply mT)) (by repeat (first | exact NF.nil | apply NF.cons)) rfl | exact Rd.getS rfl G40 rfl (by repeat (first | assumption | exact mS | apply mT)) (by intro x; first | rfl | (cases x; rfl) | (rcases x with ⟨_, _, _⟩; rfl) | (rcases x with ⟨_, _, _, _⟩; rfl)) (by first | assumption | rfl | exact get!_of_lt (by omega)) (by repeat (first | exact NF.nil | apply NF.cons)) | exact Rd.getSA rfl G40 rfl (by repeat (first | assumption | exact mS | apply mT)) (by intro x; first | rfl | (cases x; rfl) | (rcases x with ⟨_, _, _⟩; rfl) | (rcases x with ⟨_, _, _, _⟩; rfl)) (by first | assumption | rfl | exact get!_of_lt (by omega)) (by repeat (first | exact NF.nil | apply NF.cons)))) ?_
  refine WL.op rfl ?_
  refine OpW.alloc rfl I40 rfl (by repeat (first | exact NF.nil | apply NF.cons)) rfl rfl ?_; intro b5
  refine WL.op rfl ?_
  refine OpW.storeS rfl G40 rfl rfl (by repeat (first | exact NF.nil | apply NF.cons)) (by repeat (first | assumption | exact Take.head _ | apply Take.tail)) rfl rfl (by repeat (first | exact NF.nil | apply NF.cons)) rfl ?_
  refine WL.nil ?_
  refine thenQ.normal ?_
  refine WC.seq ?_
  refine WC.seq ?_
  refine WC.region ?_
  refine WL.rd rfl rfl rfl (Rd.move rfl rfl) ?_
  refine WL.op rfl ?_
  refine OpW.call rfl rfl (by repeat (first | exact Evs.nil | apply Evs.cons rfl)) (by kernel_rfl) rfl rfl rfl ?_
  refine words_spec hs ?_
  refine WL.rd rfl rfl rfl (Rd.move rfl rfl) ?_
  refine WL.nil ?_
  refine thenQ.normal ?_
  refine WC.block ?_
  refine WC.pick [14, 2, 4, 5, 13] (by repeat (first | exact Pick.nil | apply Pick.cons rfl)) ?_
  refine WC.loop1 1 (fun (i : Nat) => [(14, .int .i64 (i : Int))]) (fun (i : Nat) => rowC b5 40 (rounds (sched s 64) v i).cs :: rowC b4 40 (List.replicate 8 (vw 0)) :: rowC b2 40 v.cs :: O) (fun (i : Nat) => i ≤ 64) (fun (i : Nat) => 64 - i) (0) (by repeat (first | exact Split.zero | apply Split.succ)) ?hinv1 (by repeat (first | exact Sub.nil | refine Sub.cons rfl (by first | rfl | (congr 1; omega) | assumption) ?_)) (fun _ h => h) ?_
  case hinv1 =>
    exact Nat.zero_le _
  intro i
  rintro i1
  
  obtain ⟨x, hx⟩ : ∃ x, x = rounds (sched s 64) v i := ⟨_, rfl⟩
  have hxo := rounds_ok (ws := sched s 64) hv i
  rw [← hx] at hxo ⊢
  refine WC.seq ?_
  refine WC.region ?_
  refine WL.rd rfl rfl rfl (Rd.lss rfl rfl rfl) ?_
  refine WL.nil ?_
  refine thenQ.normal ?_
  refine WC.seq ?_
  first | refine WC.ite rfl (fun hc1 => ?_) (fun hc1 => ?_) | refine WC.cond rfl (fun hc1 => ?_) (fun hc1 => ?_)
  · skip
    have hwl := sched_get_lt s (i := 64) (j := i) (by omega)
    have hst : rounds (sched s 64) v (i + 1) = x.round rootsN[i]! (sched s 64)[i]! := by rw [rounds, ← hx]
    refine WC.skip ?_
    refine thenQ.normal ?_
    refine WC.seq ?_
    refine WC.block ?_
    refine WC.seq ?_
    refine WC.region ?_
    refine WL.rd rfl rfl rfl (Rd.move rfl rfl) ?_
    refine WL.rd rfl rfl rfl (Rd.idxAgg (k := i) rfl A73 C38 rfl rfl (by omega) (by omega) (sched_cell s (by omega))) ?_
    refine WL.rd rfl rfl rfl (Rd.assign rfl rfl) ?_
    refine WL.rd rfl rfl rfl (Rd.assign rfl rfl) ?_
    refine WL.nil ?_
    refine thenQ.normal ?_
    refine WC.pick [2, 4, 5, 6, 7, 13, 14] (by repeat (first | exact Pick.nil | apply Pick.cons rfl)) ?_
    refine WC.val 8 (vw (tE x rootsN[i]! (sched s 64)[i]!)) ?_ ?_
    · skip
      refine WC.drawnA 34 rfl mixed ?_
      refine WD.take 0 rfl (by kernel_rfl) Held.all rfl rfl rfl ((by first | exact Rd.idxArr1 (k := 7) rfl A40 rfl rfl rfl (by first | omega | (dsimp only; omega)) | exact Rd.idxArr (k := 7) rfl A40 rfl rfl rfl (by first | omega | (dsimp only; omega)) rfl)) ?_
      refine WD.take 1 rfl (by kernel_rfl) Held.all rfl rfl rfl ((by first | exact Rd.get rfl C38 rfl (by repeat (first | assumption | exact mS | apply mT)) (by first | assumption | rfl | exact get!_of_lt (by omega)) | exact Rd.getA rfl C38 rfl (by repeat (first | assumption | exact mS | apply mT)) (by first | assumption | rfl | exact get!_of_lt (by omega)) | exact Rd.row1 rfl C38 rfl (by repeat (first | assumption | exact mS | apply mT)) (by rfl) | exact Rd.getF rfl C38 rfl (by repeat (first | assumption | exact mS | apply mT)) (by intro x; first | rfl | (cases x; rfl) | (rcases x with ⟨_, _, _⟩; rfl) | (rcases x with ⟨_, _, _, _⟩; rfl)) rfl (by first | assumption | rfl | exact get!_of_lt (by omega)) (by rfl) | exact Rd.getFA rfl C38 rfl (by repeat (first | assumption | exact mS | apply mT)) (by intro x; first | rfl | (cases x; rfl) | (rcases x with ⟨_, _, _⟩; rfl) | (rcases x with ⟨_, _, _, _⟩; rfl)) rfl (by first | assumption | rfl | exact get!_of_lt (by omega)) (by rfl))) ?_
      refine WD.take 2 rfl (by kernel_rfl) Held.all rfl rfl rfl ((by first | exact Rd.idxArr1 (k := 4) rfl A40 rfl rfl rfl (by first | omega | (dsimp only; omega)) | exact Rd.idxArr (k := 4) rfl A40 rfl rfl rfl (by first | omega | (dsimp only; omega)) rfl)) ?_
      refine WD.take 3 rfl (by kernel_rfl) Held.all rfl rfl rfl ((by first | exact Rd.get rfl C38 rfl (by repeat (first | assumption | exact mS | apply mT)) (by first | assumption | rfl | exact get!_of_lt (by omega)) | exact Rd.getA rfl C38 rfl (by repeat (first | assumption | exact mS | apply mT)) (by first | assumption | rfl | exact get!_of_lt (by omega)) | exact Rd.row1 rfl C38 rfl (by repeat (first | assumption | exact mS | apply mT)) (by rfl) | exact Rd.getF rfl C38 rfl (by repeat (first | assumption | exact mS | apply mT)) (by intro x; first | rfl | (cases x; rfl) | (rcases x with ⟨_, _, _⟩; rfl) | (rcases x with ⟨_, _, _, _⟩; rfl)) rfl (by first | assumption | rfl | exact get!_of_lt (by omega)) (by rfl) | exact Rd.getFA rfl C38 rfl (by repeat (first | assumption | exact mS | apply mT)) (by intro x; first | rfl | (cases x; rfl) | (rcases x with ⟨_, _, _⟩; rfl) | (rcases x with ⟨_, _, _, _⟩; rfl)) rfl (by first | assumption | rfl | exact get!_of_lt (by omega)) (by rfl))) ?_
      refine WD.take 5 rfl (by kernel_rfl) Held.all rfl rfl rfl ((by first | exact Rd.idxArr1 (k := 4) rfl A40 rfl rfl rfl (by first | omega | (dsimp only; omega)) | exact Rd.idxArr (k := 4) rfl A40 rfl rfl rfl (by first | omega | (dsimp only; omega)) rfl)) ?_
      refine WD.take 6 rfl (by kernel_rfl) Held.all rfl rfl rfl ((by first | exact Rd.get rfl C38 rfl (by repeat (first | assumption | exact mS | apply mT)) (by first | assumption | rfl | exact get!_of_lt (by omega)) | exact Rd.getA rfl C38 rfl (by repeat (first | assumption | exact mS | apply mT)) (by first | assumption | rfl | exact get!_of_lt (by omega)) | exact Rd.row1 rfl C38 rfl (by repeat (first | assumption | exact mS | apply mT)) (by rfl) | exact Rd.getF rfl C38 rfl (by repeat (first | assumption | exact mS | apply mT)) (by intro x; first | rfl | (cases x; rfl) | (rcases x with ⟨_, _, _⟩; rfl) | (rcases x with ⟨_, _, _, _⟩; rfl)) rfl (by first | assumption | rfl | exact get!_of_lt (by omega)) (by rfl) | exact Rd.getFA rfl C38 rfl (by repeat (first | assumption | exact mS | apply mT)) (by intro x; first | rfl | (cases x; rfl) | (rcases x with ⟨_, _, _⟩; rfl) | (rcases x with ⟨_, _, _, _⟩; rfl)) rfl (by first | assumption | rfl | exact get!_of_lt (by omega)) (by rfl))) ?_
      refine WD.take 9 rfl (by kernel_rfl) Held.all rfl rfl rfl ((by first | exact Rd.idxArr1 (k := 4) rfl A40 rfl rfl rfl (by first | omega | (dsimp only; omega)) | exact Rd.idxArr (k := 4) rfl A40 rfl rfl rfl (by first | omega | (dsimp only; omega)) rfl)) ?_
      refine WD.take 10 rfl (by kernel_rfl) Held.all rfl rfl rfl ((by first | exact Rd.get rfl C38 rfl (by repeat (first | assumption | exact mS | apply mT)) (by first | assumption | rfl | exact get!_of_lt (by omega)) | exact Rd.getA rfl C38 rfl (by repeat (first | assumption | exact mS | apply mT)) (by first | assumption | rfl | exact get!_of_lt (by omega)) | exact Rd.row1 rfl C38 rfl (by repeat (first | assumption | exact mS | apply mT)) (by rfl) | exact Rd.getF rfl C38 rfl (by repeat (first | assumption | exact mS | apply mT)) (by intro x; first | rfl | (cases x; rfl) | (rcases x with ⟨_, _, _⟩; rfl) | (rcases x with ⟨_, _, _, _⟩; rfl)) rfl (by first | assumption | rfl | exact get!_of_lt (by omega)) (by rfl) | exact Rd.getFA rfl C38 rfl (by repeat (first | assumption | exact mS | apply mT)) (by intro x; first | rfl | (cases x; rfl) | (rcases x with ⟨_, _, _⟩; rfl) | (rcases x with ⟨_, _, _, _⟩; rfl)) rfl (by first | assumption | rfl | exact get!_of_lt (by omega)) (by rfl))) ?_
      refine WD.take 14 rfl (by kernel_rfl) Held.all rfl rfl rfl ((by first | exact Rd.idxArr1 (k := 4) rfl A40 rfl rfl rfl (by first | omega | (dsimp only; omega)) | exact Rd.idxArr (k := 4) rfl A40 rfl rfl rfl (by first | omega | (dsimp only; omega)) rfl)) ?_
      refine WD.take 15 rfl (by kernel_rfl) Held.all rfl rfl rfl ((by first | exact Rd.get rfl C38 rfl (by repeat (first | assumption | exact mS | apply mT)) (by first | assumption | rfl | exact get!_of_lt (by omega)) | exact Rd.getA rfl C38 rfl (by repeat (first | assumption | exact mS | apply mT)) (by first | assumption | rfl | exact get!_of_lt (by omega)) | exact Rd.row1 rfl C38 rfl (by repeat (first | assumption | exact mS | apply mT)) (by rfl) | exact Rd.getF rfl C38 rfl (by repeat (first | assumption | exact mS | apply mT)) (by intro x; first | rfl | (cases x; rfl) | (rcases x with ⟨_, _, _⟩; rfl) | (rcases x with ⟨_, _, _, _⟩; rfl)) rfl (by first | assumption | rfl | exact get!_of_lt (by omega)) (by rfl) | exact Rd.getFA rfl C38 rfl (by repeat (first | assumption | exact mS | apply mT)) (by intro x; first | rfl | (cases x; rfl) | (rcases x with ⟨_, _, _⟩; rfl) | (rcases x with ⟨_, _, _, _⟩; rfl)) rfl (by first | assumption | rfl | exact get!_of_lt (by omega)) (by rfl))) ?_
      refine WD.take 16 rfl (by kernel_rfl) Held.all rfl rfl rfl ((by first | exact Rd.idxArr1 (k := 5) rfl A40 rfl rfl rfl (by first | omega | (dsimp only; omega)) | exact Rd.idxArr (k := 5) rfl A40 rfl rfl rfl (by first | omega | (dsimp only; omega)) rfl)) ?_
      refine WD.take 17 rfl (by kernel_rfl) Held.all rfl rfl rfl ((by first | exact Rd.get rfl C38 rfl (by repeat (first | assumption | exact mS | apply mT)) (by first | assumption | rfl | exact get!_of_lt (by omega)) | exact Rd.getA rfl C38 rfl (by repeat (first | assumption | exact mS | apply mT)) (by first | assumption | rfl | exact get!_of_lt (by omega)) | exact Rd.row1 rfl C38 rfl (by repeat (first | assumption | exact mS | apply mT)) (by rfl) | exact Rd.getF rfl C38 rfl (by repeat (first | assumption | exact mS | apply mT)) (by intro x; first | rfl | (cases x; rfl) | (rcases x with ⟨_, _, _⟩; rfl) | (rcases x with ⟨_, _, _, _⟩; rfl)) rfl (by first | assumption | rfl | exact get!_of_lt (by omega)) (by rfl) | exact Rd.getFA rfl C38 rfl (by repeat (first | assumption | exact mS | apply mT)) (by intro x; first | rfl | (cases x; rfl) | (rcases x with ⟨_, _, _⟩; rfl) | (rcases x with ⟨_, _, _, _⟩; rfl)) rfl (by first | assumption | rfl | exact get!_of_lt (by omega)) (by rfl))) ?_
      refine WD.take 18 rfl (by kernel_rfl) Held.all rfl rfl rfl (Rd.andU rfl rfl rfl rfl rfl rfl hxo.e hxo.f) ?_
      refine WD.take 19 rfl (by kernel_rfl) Held.all rfl rfl rfl ((by first | exact Rd.idxArr1 (k := 4) rfl A40 rfl rfl rfl (by first | omega | (dsimp only; omega)) | exact Rd.idxArr (k := 4) rfl A40 rfl rfl rfl (by first | omega | (dsimp only; omega)) rfl)) ?_
      refine WD.take 20 rfl (by kernel_rfl) Held.all rfl rfl rfl ((by first | exact Rd.get rfl C38 rfl (by repeat (first | assumption | exact mS | apply mT)) (by first | assumption | rfl | exact get!_of_lt (by omega)) | exact Rd.getA rfl C38 rfl (by repeat (first | assumption | exact mS | apply mT)) (by first | assumption | rfl | exact get!_of_lt (by omega)) | exact Rd.row1 rfl C38 rfl (by repeat (first | assumption | exact mS | apply mT)) (by rfl) | exact Rd.getF rfl C38 rfl (by repeat (first | assumption | exact mS | apply mT)) (by intro x; first | rfl | (cases x; rfl) | (rcases x with ⟨_, _, _⟩; rfl) | (rcases x with ⟨_, _, _, _⟩; rfl)) rfl (by first | assumption | rfl | exact get!_of_lt (by omega)) (by rfl) | exact Rd.getFA rfl C38 rfl (by repeat (first | assumption | exact mS | apply mT)) (by intro x; first | rfl | (cases x; rfl) | (rcases x with ⟨_, _, _⟩; rfl) | (rcases x with ⟨_, _, _, _⟩; rfl)) rfl (by first | assumption | rfl | exact get!_of_lt (by omega)) (by rfl))) ?_
      refine WD.take 21 rfl (by kernel_rfl) Held.all rfl rfl rfl (Rd.not32 rfl rfl hxo.e) ?_
      refine WD.take 22 rfl (by kernel_rfl) Held.all rfl rfl rfl ((by first | exact Rd.idxArr1 (k := 6) rfl A40 rfl rfl rfl (by first | omega | (dsimp only; omega)) | exact Rd.idxArr (k := 6) rfl A40 rfl rfl rfl (by first | omega | (dsimp only; omega)) rfl)) ?_
      refine WD.take 23 rfl (by kernel_rfl) Held.all rfl rfl rfl ((by first | exact Rd.get rfl C38 rfl (by repeat (first | assumption | exact mS | apply mT)) (by first | assumption | rfl | exact get!_of_lt (by omega)) | exact Rd.getA rfl C38 rfl (by repeat (first | assumption | exact mS | apply mT)) (by first | assumption | rfl | exact get!_of_lt (by omega)) | exact Rd.row1 rfl C38 rfl (by repeat (first | assumption | exact mS | apply mT)) (by rfl) | exact Rd.getF rfl C38 rfl (by repeat (first | assumption | exact mS | apply mT)) (by intro x; first | rfl | (cases x; rfl) | (rcases x with ⟨_, _, _⟩; rfl) | (rcases x with ⟨_, _, _, _⟩; rfl)) rfl (by first | assumption | rfl | exact get!_of_lt (by omega)) (by rfl) | exact Rd.getFA rfl C38 rfl (by repeat (first | assumption | exact mS | apply mT)) (by intro x; first | rfl | (cases x; rfl) | (rcases x with ⟨_, _, _⟩; rfl) | (rcases x with ⟨_, _, _, _⟩; rfl)) rfl (by first | assumption | rfl | exact get!_of_lt (by omega)) (by rfl))) ?_
      refine WD.take 24 rfl (by kernel_rfl) Held.all rfl rfl rfl (Rd.andU rfl rfl rfl rfl rfl rfl (not_lt _) hxo.g) ?_
      refine WD.take 25 rfl (by kernel_rfl) Held.all rfl rfl rfl (Rd.xorU rfl rfl rfl rfl rfl rfl (and_lt hxo.e _) (and_lt (not_lt _) _)) ?_
      refine WD.take 27 rfl (by kernel_rfl) Held.all rfl rfl rfl (Rd.move rfl rfl) ?_
      refine WD.take 28 rfl (by kernel_rfl) Held.all rfl rfl rfl ((by first | exact Rd.idxArr1 (k := i) rfl A73 rfl rfl (by omega) (by first | omega | (dsimp only; omega)) | exact Rd.idxArr (k := i) rfl A73 rfl rfl (by omega) (by first | omega | (dsimp only; omega)) rfl)) ?_
      refine WD.take 29 rfl (by kernel_rfl) Held.all rfl rfl rfl (Rd.getGl rfl C38 rfl hr (roots_get (by omega))) ?_
      refine WD.take 31 rfl (by kernel_rfl) Held.all rfl rfl rfl (Rd.move rfl rfl) ?_
      refine WD.one 4 rfl (by kernel_rfl) rfl ?_
      refine OpW.call rfl rfl (by repeat (first | exact Evs.nil | apply Evs.cons rfl)) (by kernel_rfl) rfl rfl rfl ?_
      refine right_spec hxo.e (by decide) ?_
      refine ⟨(Held.mk' (by repeat (first | exact SubL.refl | refine SubL.cons (by repeat (first | assumption | exact mS | apply mT)) ?_ | refine SubL.skip ?_)) (by repeat (first | exact OwnL.refl | apply OwnL.take (by repeat (first | exact Take.head _ | apply Take.tail)) | apply OwnL.drop))), ?_⟩
      refine WD.one 7 rfl (by kernel_rfl) rfl ?_
      refine OpW.call rfl rfl (by repeat (first | exact Evs.nil | apply Evs.cons rfl)) (by kernel_rfl) rfl rfl rfl ?_
      refine right_spec hxo.e (by decide) ?_
      refine ⟨(Held.mk' (by repeat (first | exact SubL.refl | refine SubL.cons (by repeat (first | assumption | exact mS | apply mT)) ?_ | refine SubL.skip ?_)) (by repeat (first | exact OwnL.refl | apply OwnL.take (by repeat (first | exact Take.head _ | apply Take.tail)) | apply OwnL.drop))), ?_⟩
      refine WD.take 8 rfl (by kernel_rfl) (Held.mk' (by repeat (first | exact SubL.refl | refine SubL.cons (by repeat (first | assumption | exact mS | apply mT)) ?_ | refine SubL.skip ?_)) (by repeat (first | exact OwnL.refl | apply OwnL.take (by repeat (first | exact Take.head _ | apply Take.tail)) | apply OwnL.drop))) rfl rfl rfl (Rd.xorU rfl rfl rfl rfl rfl rfl (rotr_lt hxo.e _) (rotr_lt hxo.e _)) ?_
      refine WD.one 11 rfl (by kernel_rfl) rfl ?_
      refine OpW.call rfl rfl (by repeat (first | exact Evs.nil | apply Evs.cons rfl)) (by kernel_rfl) rfl rfl rfl ?_
      refine right_spec hxo.e (by decide) ?_
      refine ⟨(Held.mk' (by repeat (first | exact SubL.refl | refine SubL.cons (by repeat (first | assumption | exact mS | apply mT)) ?_ | refine SubL.skip ?_)) (by repeat (first | exact OwnL.refl | apply OwnL.take (by repeat (first | exact Take.head _ | apply Take.tail)) | apply OwnL.drop))), ?_⟩
      refine WD.take 12 rfl (by kernel_rfl) (Held.mk' (by repeat (first | exact SubL.refl | refine SubL.cons (by repeat (first | assumption | exact mS | apply mT)) ?_ | refine SubL.skip ?_)) (by repeat (first | exact OwnL.refl | apply OwnL.take (by repeat (first | exact Take.head _ | apply Take.tail)) | apply OwnL.drop))) rfl rfl rfl (Rd.xorU rfl rfl rfl rfl rfl rfl (Nat.xor_lt_two_pow (rotr_lt hxo.e _) (rotr_lt hxo.e _)) (rotr_lt hxo.e _)) ?_
      refine WD.take 13 rfl (by kernel_rfl) (Held.mk' (by repeat (first | exact SubL.refl | refine SubL.cons (by repeat (first | assumption | exact mS | apply mT)) ?_ | refine SubL.skip ?_)) (by repeat (first | exact OwnL.refl | apply OwnL.take (by repeat (first | exact Take.head _ | apply Take.tail)) | apply OwnL.drop))) rfl rfl rfl (Rd.add32 rfl rfl rfl) ?_
      refine WD.take 26 rfl (by kernel_rfl) (Held.mk' (by repeat (first | exact SubL.refl | refine SubL.cons (by repeat (first | assumption | exact mS | apply mT)) ?_ | refine SubL.skip ?_)) (by repeat (first | exact OwnL.refl | apply OwnL.take (by repeat (first | exact Take.head _ | apply Take.tail)) | apply OwnL.drop))) rfl rfl rfl (Rd.add32 rfl rfl rfl) ?_
      refine WD.take 30 rfl (by kernel_rfl) (Held.mk' (by repeat (first | exact SubL.refl | refine SubL.cons (by repeat (first | assumption | exact mS | apply mT)) ?_ | refine SubL.skip ?_)) (by repeat (first | exact OwnL.refl | apply OwnL.take (by repeat (first | exact Take.head _ | apply Take.tail)) | apply OwnL.drop))) rfl rfl rfl (Rd.add32 rfl rfl rfl) ?_
      refine WD.take 32 rfl (by kernel_rfl) (Held.mk' (by repeat (first | exact SubL.refl | refine SubL.cons (by repeat (first | assumption | exact mS | apply mT)) ?_ | refine SubL.skip ?_)) (by repeat (first | exact OwnL.refl | apply OwnL.take (by repeat (first | exact Take.head _ | apply Take.tail)) | apply OwnL.drop))) rfl rfl rfl (Rd.add32 rfl rfl rfl) ?_
      refine WD.take 33 rfl (by kernel_rfl) (Held.mk' (by repeat (first | exact SubL.refl | refine SubL.cons (by repeat (first | assumption | exact mS | apply mT)) ?_ | refine SubL.skip ?_)) (by repeat (first | exact OwnL.refl | apply OwnL.take (by repeat (first | exact Take.head _ | apply Take.tail)) | apply OwnL.drop))) rfl rfl rfl (Rd.assign rfl rfl) ?_
      refine WD.done (by kernel_rfl) ?_
      exact ⟨by repeat (first | exact Sub.nil | refine Sub.cons rfl (by first | rfl | (first | rfl | exact vb (by omega) | exact vb_t (by omega) | exact vb_f (by omega) | (simp [*]; done) | (simp_all; done))) ?_), by first | exact (fun _ h => h.thin (SubL.mem (by repeat (first | exact SubL.refl | refine SubL.cons (by repeat (first | assumption | exact mS | apply mT)) ?_ | refine SubL.skip ?_)))) | exact (fun w h => OwnL.sat (by repeat (first | exact OwnL.refl | apply OwnL.take (by repeat (first | exact Take.head _ | apply Take.tail)) | apply OwnL.drop)) w (h.thin (SubL.mem (by repeat (first | exact SubL.refl | refine SubL.cons (by repeat (first | assumption | exact mS | apply mT)) ?_ | refine SubL.skip ?_)))))⟩
    · skip
      refine WC.pick [2, 4, 5, 8, 13, 14] (by repeat (first | exact Pick.nil | apply Pick.cons rfl)) ?_
      refine WC.val 9 (vw (uE x)) ?_ ?_
      · skip
        refine WC.drawnA 30 rfl mixed ?_
        refine WD.take 0 rfl (by kernel_rfl) Held.all rfl rfl rfl ((by first | exact Rd.idxArr1 (k := 0) rfl A40 rfl rfl rfl (by first | omega | (dsimp only; omega)) | exact Rd.idxArr (k := 0) rfl A40 rfl rfl rfl (by first | omega | (dsimp only; omega)) rfl)) ?_
        refine WD.take 1 rfl (by kernel_rfl) Held.all rfl rfl rfl ((by first | exact Rd.get rfl C38 rfl (by repeat (first | assumption | exact mS | apply mT)) (by first | assumption | rfl | exact get!_of_lt (by omega)) | exact Rd.getA rfl C38 rfl (by repeat (first | assumption | exact mS | apply mT)) (by first | assumption | rfl | exact get!_of_lt (by omega)) | exact Rd.row1 rfl C38 rfl (by repeat (first | assumption | exact mS | apply mT)) (by rfl) | exact Rd.getF rfl C38 rfl (by repeat (first | assumption | exact mS | apply mT)) (by intro x; first | rfl | (cases x; rfl) | (rcases x with ⟨_, _, _⟩; rfl) | (rcases x with ⟨_, _, _, _⟩; rfl)) rfl (by first | assumption | rfl | exact get!_of_lt (by omega)) (by rfl) | exact Rd.getFA rfl C38 rfl (by repeat (first | assumption | exact mS | apply mT)) (by intro x; first | rfl | (cases x; rfl) | (rcases x with ⟨_, _, _⟩; rfl) | (rcases x with ⟨_, _, _, _⟩; rfl)) rfl (by first | assumption | rfl | exact get!_of_lt (by omega)) (by rfl))) ?_
        refine WD.take 3 rfl (by kernel_rfl) Held.all rfl rfl rfl ((by first | exact Rd.idxArr1 (k := 0) rfl A40 rfl rfl rfl (by first | omega | (dsimp only; omega)) | exact Rd.idxArr (k := 0) rfl A40 rfl rfl rfl (by first | omega | (dsimp only; omega)) rfl)) ?_
        refine WD.take 4 rfl (by kernel_rfl) Held.all rfl rfl rfl ((by first | exact Rd.get rfl C38 rfl (by repeat (first | assumption | exact mS | apply mT)) (by first | assumption | rfl | exact get!_of_lt (by omega)) | exact Rd.getA rfl C38 rfl (by repeat (first | assumption | exact mS | apply mT)) (by first | assumption | rfl | exact get!_of_lt (by omega)) | exact Rd.row1 rfl C38 rfl (by repeat (first | assumption | exact mS | apply mT)) (by rfl) | exact Rd.getF rfl C38 rfl (by repeat (first | assumption | exact mS | apply mT)) (by intro x; first | rfl | (cases x; rfl) | (rcases x with ⟨_, _, _⟩; rfl) | (rcases x with ⟨_, _, _, _⟩; rfl)) rfl (by first | assumption | rfl | exact get!_of_lt (by omega)) (by rfl) | exact Rd.getFA rfl C38 rfl (by repeat (first | assumption | exact mS | apply mT)) (by intro x; first | rfl | (cases x; rfl) | (rcases x with ⟨_, _, _⟩; rfl) | (rcases x with ⟨_, _, _, _⟩; rfl)) rfl (by first | assumption | rfl | exact get!_of_lt (by omega)) (by rfl))) ?_
        refine WD.take 7 rfl (by kernel_rfl) Held.all rfl rfl rfl ((by first | exact Rd.idxArr1 (k := 0) rfl A40 rfl rfl rfl (by first | omega | (dsimp only; omega)) | exact Rd.idxArr (k := 0) rfl A40 rfl rfl rfl (by first | omega | (dsimp only; omega)) rfl)) ?_
        refine WD.take 8 rfl (by kernel_rfl) Held.all rfl rfl rfl ((by first | exact Rd.get rfl C38 rfl (by repeat (first | assumption | exact mS | apply mT)) (by first | assumption | rfl | exact get!_of_lt (by omega)) | exact Rd.getA rfl C38 rfl (by repeat (first | assumption | exact mS | apply mT)) (by first | assumption | rfl | exact get!_of_lt (by omega)) | exact Rd.row1 rfl C38 rfl (by repeat (first | assumption | exact mS | apply mT)) (by rfl) | exact Rd.getF rfl C38 rfl (by repeat (first | assumption | exact mS | apply mT)) (by intro x; first | rfl | (cases x; rfl) | (rcases x with ⟨_, _, _⟩; rfl) | (rcases x with ⟨_, _, _, _⟩; rfl)) rfl (by first | assumption | rfl | exact get!_of_lt (by omega)) (by rfl) | exact Rd.getFA rfl C38 rfl (by repeat (first | assumption | exact mS | apply mT)) (by intro x; first | rfl | (cases x; rfl) | (rcases x with ⟨_, _, _⟩; rfl) | (rcases x with ⟨_, _, _, _⟩; rfl)) rfl (by first | assumption | rfl | exact get!_of_lt (by omega)) (by rfl))) ?_
        refine WD.take 11 rfl (by kernel_rfl) Held.all rfl rfl rfl ((by first | exact Rd.idxArr1 (k := 0) rfl A40 rfl rfl rfl (by first | omega | (dsimp only; omega)) | exact Rd.idxArr (k := 0) rfl A40 rfl rfl rfl (by first | omega | (dsimp only; omega)) rfl)) ?_
        refine WD.take 12 rfl (by kernel_rfl) Held.all rfl rfl rfl ((by first | exact Rd.get rfl C38 rfl (by repeat (first | assumption | exact mS | apply mT)) (by first | assumption | rfl | exact get!_of_lt (by omega)) | exact Rd.getA rfl C38 rfl (by repeat (first | assumption | exact mS | apply mT)) (by first | assumption | rfl | exact get!_of_lt (by omega)) | exact Rd.row1 rfl C38 rfl (by repeat (first | assumption | exact mS | apply mT)) (by rfl) | exact Rd.getF rfl C38 rfl (by repeat (first | assumption | exact mS | apply mT)) (by intro x; first | rfl | (cases x; rfl) | (rcases x with ⟨_, _, _⟩; rfl) | (rcases x with ⟨_, _, _, _⟩; rfl)) rfl (by first | assumption | rfl | exact get!_of_lt (by omega)) (by rfl) | exact Rd.getFA rfl C38 rfl (by repeat (first | assumption | exact mS | apply mT)) (by intro x; first | rfl | (cases x; rfl) | (rcases x with ⟨_, _, _⟩; rfl) | (rcases x with ⟨_, _, _, _⟩; rfl)) rfl (by first | assumption | rfl | exact get!_of_lt (by omega)) (by rfl))) ?_
        refine WD.take 13 rfl (by kernel_rfl) Held.all rfl rfl rfl ((by first | exact Rd.idxArr1 (k := 1) rfl A40 rfl rfl rfl (by first | omega | (dsimp only; omega)) | exact Rd.idxArr (k := 1) rfl A40 rfl rfl rfl (by first | omega | (dsimp only; omega)) rfl)) ?_
        refine WD.take 14 rfl (by kernel_rfl) Held.all rfl rfl rfl ((by first | exact Rd.get rfl C38 rfl (by repeat (first | assumption | exact mS | apply mT)) (by first | assumption | rfl | exact get!_of_lt (by omega)) | exact Rd.getA rfl C38 rfl (by repeat (first | assumption | exact mS | apply mT)) (by first | assumption | rfl | exact get!_of_lt (by omega)) | exact Rd.row1 rfl C38 rfl (by repeat (first | assumption | exact mS | apply mT)) (by rfl) | exact Rd.getF rfl C38 rfl (by repeat (first | assumption | exact mS | apply mT)) (by intro x; first | rfl | (cases x; rfl) | (rcases x with ⟨_, _, _⟩; rfl) | (rcases x with ⟨_, _, _, _⟩; rfl)) rfl (by first | assumption | rfl | exact get!_of_lt (by omega)) (by rfl) | exact Rd.getFA rfl C38 rfl (by repeat (first | assumption | exact mS | apply mT)) (by intro x; first | rfl | (cases x; rfl) | (rcases x with ⟨_, _, _⟩; rfl) | (rcases x with ⟨_, _, _, _⟩; rfl)) rfl (by first | assumption | rfl | exact get!_of_lt (by omega)) (by rfl))) ?_
        refine WD.take 15 rfl (by kernel_rfl) Held.all rfl rfl rfl (Rd.andU rfl rfl rfl rfl rfl rfl hxo.a hxo.b) ?_
        refine WD.take 16 rfl (by kernel_rfl) Held.all rfl rfl rfl ((by first | exact Rd.idxArr1 (k := 0) rfl A40 rfl rfl rfl (by first | omega | (dsimp only; omega)) | exact Rd.idxArr (k := 0) rfl A40 rfl rfl rfl (by first | omega | (dsimp only; omega)) rfl)) ?_
        refine WD.take 17 rfl (by kernel_rfl) Held.all rfl rfl rfl ((by first | exact Rd.get rfl C38 rfl (by repeat (first | assumption | exact mS | apply mT)) (by first | assumption | rfl | exact get!_of_lt (by omega)) | exact Rd.getA rfl C38 rfl (by repeat (first | assumption | exact mS | apply mT)) (by first | assumption | rfl | exact get!_of_lt (by omega)) | exact Rd.row1 rfl C38 rfl (by repeat (first | assumption | exact mS | apply mT)) (by rfl) | exact Rd.getF rfl C38 rfl (by repeat (first | assumption | exact mS | apply mT)) (by intro x; first | rfl | (cases x; rfl) | (rcases x with ⟨_, _, _⟩; rfl) | (rcases x with ⟨_, _, _, _⟩; rfl)) rfl (by first | assumption | rfl | exact get!_of_lt (by omega)) (by rfl) | exact Rd.getFA rfl C38 rfl (by repeat (first | assumption | exact mS | apply mT)) (by intro x; first | rfl | (cases x; rfl) | (rcases x with ⟨_, _, _⟩; rfl) | (rcases x with ⟨_, _, _, _⟩; rfl)) rfl (by first | assumption | rfl | exact get!_of_lt (by omega)) (by rfl))) ?_
        refine WD.take 18 rfl (by kernel_rfl) Held.all rfl rfl rfl ((by first | exact Rd.idxArr1 (k := 2) rfl A40 rfl rfl rfl (by first | omega | (dsimp only; omega)) | exact Rd.idxArr (k := 2) rfl A40 rfl rfl rfl (by first | omega | (dsimp only; omega)) rfl)) ?_
        refine WD.take 19 rfl (by kernel_rfl) Held.all rfl rfl rfl ((by first | exact Rd.get rfl C38 rfl (by repeat (first | assumption | exact mS | apply mT)) (by first | assumption | rfl | exact get!_of_lt (by omega)) | exact Rd.getA rfl C38 rfl (by repeat (first | assumption | exact mS | apply mT)) (by first | assumption | rfl | exact get!_of_lt (by omega)) | exact Rd.row1 rfl C38 rfl (by repeat (first | assumption | exact mS | apply mT)) (by rfl) | exact Rd.getF rfl C38 rfl (by repeat (first | assumption | exact mS | apply mT)) (by intro x; first | rfl | (cases x; rfl) | (rcases x with ⟨_, _, _⟩; rfl) | (rcases x with ⟨_, _, _, _⟩; rfl)) rfl (by first | assumption | rfl | exact get!_of_lt (by omega)) (by rfl) | exact Rd.getFA rfl C38 rfl (by repeat (first | assumption | exact mS | apply mT)) (by intro x; first | rfl | (cases x; rfl) | (rcases x with ⟨_, _, _⟩; rfl) | (rcases x with ⟨_, _, _, _⟩; rfl)) rfl (by first | assumption | rfl | exact get!_of_lt (by omega)) (by rfl))) ?_
        refine WD.take 20 rfl (by kernel_rfl) Held.all rfl rfl rfl (Rd.andU rfl rfl rfl rfl rfl rfl hxo.a hxo.c) ?_
        refine WD.take 21 rfl (by kernel_rfl) Held.all rfl rfl rfl (Rd.xorU rfl rfl rfl rfl rfl rfl (and_lt hxo.a _) (and_lt hxo.a _)) ?_
        refine WD.take 22 rfl (by kernel_rfl) Held.all rfl rfl rfl ((by first | exact Rd.idxArr1 (k := 1) rfl A40 rfl rfl rfl (by first | omega | (dsimp only; omega)) | exact Rd.idxArr (k := 1) rfl A40 rfl rfl rfl (by first | omega | (dsimp only; omega)) rfl)) ?_
        refine WD.take 23 rfl (by kernel_rfl) Held.all rfl rfl rfl ((by first | exact Rd.get rfl C38 rfl (by repeat (first | assumption | exact mS | apply mT)) (by first | assumption | rfl | exact get!_of_lt (by omega)) | exact Rd.getA rfl C38 rfl (by repeat (first | assumption | exact mS | apply mT)) (by first | assumption | rfl | exact get!_of_lt (by omega)) | exact Rd.row1 rfl C38 rfl (by repeat (first | assumption | exact mS | apply mT)) (by rfl) | exact Rd.getF rfl C38 rfl (by repeat (first | assumption | exact mS | apply mT)) (by intro x; first | rfl | (cases x; rfl) | (rcases x with ⟨_, _, _⟩; rfl) | (rcases x with ⟨_, _, _, _⟩; rfl)) rfl (by first | assumption | rfl | exact get!_of_lt (by omega)) (by rfl) | exact Rd.getFA rfl C38 rfl (by repeat (first | assumption | exact mS | apply mT)) (by intro x; first | rfl | (cases x; rfl) | (rcases x with ⟨_, _, _⟩; rfl) | (rcases x with ⟨_, _, _, _⟩; rfl)) rfl (by first | assumption | rfl | exact get!_of_lt (by omega)) (by rfl))) ?_
        refine WD.take 24 rfl (by kernel_rfl) Held.all rfl rfl rfl ((by first | exact Rd.idxArr1 (k := 2) rfl A40 rfl rfl rfl (by first | omega | (dsimp only; omega)) | exact Rd.idxArr (k := 2) rfl A40 rfl rfl rfl (by first | omega | (dsimp only; omega)) rfl)) ?_
        refine WD.take 25 rfl (by kernel_rfl) Held.all rfl rfl rfl ((by first | exact Rd.get rfl C38 rfl (by repeat (first | assumption | exact mS | apply mT)) (by first | assumption | rfl | exact get!_of_lt (by omega)) | exact Rd.getA rfl C38 rfl (by repeat (first | assumption | exact mS | apply mT)) (by first | assumption | rfl | exact get!_of_lt (by omega)) | exact Rd.row1 rfl C38 rfl (by repeat (first | assumption | exact mS | apply mT)) (by rfl) | exact Rd.getF rfl C38 rfl (by repeat (first | assumption | exact mS | apply mT)) (by intro x; first | rfl | (cases x; rfl) | (rcases x with ⟨_, _, _⟩; rfl) | (rcases x with ⟨_, _, _, _⟩; rfl)) rfl (by first | assumption | rfl | exact get!_of_lt (by omega)) (by rfl) | exact Rd.getFA rfl C38 rfl (by repeat (first | assumption | exact mS | apply mT)) (by intro x; first | rfl | (cases x; rfl) | (rcases x with ⟨_, _, _⟩; rfl) | (rcases x with ⟨_, _, _, _⟩; rfl)) rfl (by first | assumption | rfl | exact get!_of_lt (by omega)) (by rfl))) ?_
        refine WD.take 26 rfl (by kernel_rfl) Held.all rfl rfl rfl (Rd.andU rfl rfl rfl rfl rfl rfl hxo.b hxo.c) ?_
        refine WD.take 27 rfl (by kernel_rfl) Held.all rfl rfl rfl (Rd.xorU rfl rfl rfl rfl rfl rfl (Nat.xor_lt_two_pow (and_lt hxo.a _) (and_lt hxo.a _)) (and_lt hxo.b _)) ?_
        refine WD.one 2 rfl (by kernel_rfl) rfl ?_
        refine OpW.call rfl rfl (by repeat (first | exact Evs.nil | apply Evs.cons rfl)) (by kernel_rfl) rfl rfl rfl ?_
        refine right_spec hxo.a (by decide) ?_
        refine ⟨(Held.mk' (by repeat (first | exact SubL.refl | refine SubL.cons (by repeat (first | assumption | exact mS | apply mT)) ?_ | refine SubL.skip ?_)) (by repeat (first | exact OwnL.refl | apply OwnL.take (by repeat (first | exact Take.head _ | apply Take.tail)) | apply OwnL.drop))), ?_⟩
        refine WD.one 5 rfl (by kernel_rfl) rfl ?_
        refine OpW.call rfl rfl (by repeat (first | exact Evs.nil | apply Evs.cons rfl)) (by kernel_rfl) rfl rfl rfl ?_
        refine right_spec hxo.a (by decide) ?_
        refine ⟨(Held.mk' (by repeat (first | exact SubL.refl | refine SubL.cons (by repeat (first | assumption | exact mS | apply mT)) ?_ | refine SubL.skip ?_)) (by repeat (first | exact OwnL.refl | apply OwnL.take (by repeat (first | exact Take.head _ | apply Take.tail)) | apply OwnL.drop))), ?_⟩
        refine WD.take 6 rfl (by kernel_rfl) (Held.mk' (by repeat (first | exact SubL.refl | refine SubL.cons (by repeat (first | assumption | exact mS | apply mT)) ?_ | refine SubL.skip ?_)) (by repeat (first | exact OwnL.refl | apply OwnL.take (by repeat (first | exact Take.head _ | apply Take.tail)) | apply OwnL.drop))) rfl rfl rfl (Rd.xorU rfl rfl rfl rfl rfl rfl (rotr_lt hxo.a _) (rotr_lt hxo.a _)) ?_
        refine WD.one 9 rfl (by kernel_rfl) rfl ?_
        refine OpW.call rfl rfl (by repeat (first | exact Evs.nil | apply Evs.cons rfl)) (by kernel_rfl) rfl rfl rfl ?_
        refine right_spec hxo.a (by decide) ?_
        refine ⟨(Held.mk' (by repeat (first | exact SubL.refl | refine SubL.cons (by repeat (first | assumption | exact mS | apply mT)) ?_ | refine SubL.skip ?_)) (by repeat (first | exact OwnL.refl | apply OwnL.take (by repeat (first | exact Take.head _ | apply Take.tail)) | apply OwnL.drop))), ?_⟩
        refine WD.take 10 rfl (by kernel_rfl) (Held.mk' (by repeat (first | exact SubL.refl | refine SubL.cons (by repeat (first | assumption | exact mS | apply mT)) ?_ | refine SubL.skip ?_)) (by repeat (first | exact OwnL.refl | apply OwnL.take (by repeat (first | exact Take.head _ | apply Take.tail)) | apply OwnL.drop))) rfl rfl rfl (Rd.xorU rfl rfl rfl rfl rfl rfl (Nat.xor_lt_two_pow (rotr_lt hxo.a _) (rotr_lt hxo.a _)) (rotr_lt hxo.a _)) ?_
        refine WD.take 28 rfl (by kernel_rfl) (Held.mk' (by repeat (first | exact SubL.refl | refine SubL.cons (by repeat (first | assumption | exact mS | apply mT)) ?_ | refine SubL.skip ?_)) (by repeat (first | exact OwnL.refl | apply OwnL.take (by repeat (first | exact Take.head _ | apply Take.tail)) | apply OwnL.drop))) rfl rfl rfl (Rd.add32 rfl rfl rfl) ?_
        refine WD.take 29 rfl (by kernel_rfl) (Held.mk' (by repeat (first | exact SubL.refl | refine SubL.cons (by repeat (first | assumption | exact mS | apply mT)) ?_ | refine SubL.skip ?_)) (by repeat (first | exact OwnL.refl | apply OwnL.take (by repeat (first | exact Take.head _ | apply Take.tail)) | apply OwnL.drop))) rfl rfl rfl (Rd.assign rfl rfl) ?_
        refine WD.done (by kernel_rfl) ?_
        exact ⟨by repeat (first | exact Sub.nil | refine Sub.cons rfl (by first | rfl | (first | rfl | exact vb (by omega) | exact vb_t (by omega) | exact vb_f (by omega) | (simp [*]; done) | (simp_all; done))) ?_), by first | exact (fun _ h => h.thin (SubL.mem (by repeat (first | exact SubL.refl | refine SubL.cons (by repeat (first | assumption | exact mS | apply mT)) ?_ | refine SubL.skip ?_)))) | exact (fun w h => OwnL.sat (by repeat (first | exact OwnL.refl | apply OwnL.take (by repeat (first | exact Take.head _ | apply Take.tail)) | apply OwnL.drop)) w (h.thin (SubL.mem (by repeat (first | exact SubL.refl | refine SubL.cons (by repeat (first | assumption | exact mS | apply mT)) ?_ | refine SubL.skip ?_)))))⟩
      · skip
        refine WC.region ?_
        refine WL.rd rfl rfl rfl (Rd.move rfl rfl) ?_
        refine WL.rd rfl rfl rfl (Rd.move rfl rfl) ?_
        refine WL.rd rfl rfl rfl (Rd.add32 rfl rfl rfl) ?_
        refine WL.rd rfl rfl rfl ((by first | exact Rd.idxArr1 (k := 0) rfl A40 rfl rfl rfl (by first | omega | (dsimp only; omega)) | exact Rd.idxArr (k := 0) rfl A40 rfl rfl rfl (by first | omega | (dsimp only; omega)) rfl)) ?_
        refine WL.rd rfl rfl rfl ((by first | exact Rd.get rfl C38 rfl (by repeat (first | assumption | exact mS | apply mT)) (by first | assumption | rfl | exact get!_of_lt (by omega)) | exact Rd.getA rfl C38 rfl (by repeat (first | assumption | exact mS | apply mT)) (by first | assumption | rfl | exact get!_of_lt (by omega)) | exact Rd.row1 rfl C38 rfl (by repeat (first | assumption | exact mS | apply mT)) (by rfl) | exact Rd.getF rfl C38 rfl (by repeat (first | assumption | exact mS | apply mT)) (by intro x; first | rfl | (cases x; rfl) | (rcases x with ⟨_, _, _⟩; rfl) | (rcases x with ⟨_, _, _, _⟩; rfl)) rfl (by first | assumption | rfl | exact get!_of_lt (by omega)) (by rfl) | exact Rd.getFA rfl C38 rfl (by repeat (first | assumption | exact mS | apply mT)) (by intro x; first | rfl | (cases x; rfl) | (rcases x with ⟨_, _, _⟩; rfl) | (rcases x with ⟨_, _, _, _⟩; rfl)) rfl (by first | assumption | rfl | exact get!_of_lt (by omega)) (by rfl))) ?_
        refine WL.rd rfl rfl rfl ((by first | exact Rd.idxArr1 (k := 1) rfl A40 rfl rfl rfl (by first | omega | (dsimp only; omega)) | exact Rd.idxArr (k := 1) rfl A40 rfl rfl rfl (by first | omega | (dsimp only; omega)) rfl)) ?_
        refine WL.rd rfl rfl rfl ((by first | exact Rd.get rfl C38 rfl (by repeat (first | assumption | exact mS | apply mT)) (by first | assumption | rfl | exact get!_of_lt (by omega)) | exact Rd.getA rfl C38 rfl (by repeat (first | assumption | exact mS | apply mT)) (by first | assumption | rfl | exact get!_of_lt (by omega)) | exact Rd.row1 rfl C38 rfl (by repeat (first | assumption | exact mS | apply mT)) (by rfl) | exact Rd.getF rfl C38 rfl (by repeat (first | assumption | exact mS | apply mT)) (by intro x; first | rfl | (cases x; rfl) | (rcases x with ⟨_, _, _⟩; rfl) | (rcases x with ⟨_, _, _, _⟩; rfl)) rfl (by first | assumption | rfl | exact get!_of_lt (by omega)) (by rfl) | exact Rd.getFA rfl C38 rfl (by repeat (first | assumption | exact mS | apply mT)) (by intro x; first | rfl | (cases x; rfl) | (rcases x with ⟨_, _, _⟩; rfl) | (rcases x with ⟨_, _, _, _⟩; rfl)) rfl (by first | assumption | rfl | exact get!_of_lt (by omega)) (by rfl))) ?_
        refine WL.rd rfl rfl rfl ((by first | exact Rd.idxArr1 (k := 2) rfl A40 rfl rfl rfl (by first | omega | (dsimp only; omega)) | exact Rd.idxArr (k := 2) rfl A40 rfl rfl rfl (by first | omega | (dsimp only; omega)) rfl)) ?_
        refine WL.rd rfl rfl rfl ((by first | exact Rd.get rfl C38 rfl (by repeat (first | assumption | exact mS | apply mT)) (by first | assumption | rfl | exact get!_of_lt (by omega)) | exact Rd.getA rfl C38 rfl (by repeat (first | assumption | exact mS | apply mT)) (by first | assumption | rfl | exact get!_of_lt (by omega)) | exact Rd.row1 rfl C38 rfl (by repeat (first | assumption | exact mS | apply mT)) (by rfl) | exact Rd.getF rfl C38 rfl (by repeat (first | assumption | exact mS | apply mT)) (by intro x; first | rfl | (cases x; rfl) | (rcases x with ⟨_, _, _⟩; rfl) | (rcases x with ⟨_, _, _, _⟩; rfl)) rfl (by first | assumption | rfl | exact get!_of_lt (by omega)) (by rfl) | exact Rd.getFA rfl C38 rfl (by repeat (first | assumption | exact mS | apply mT)) (by intro x; first | rfl | (cases x; rfl) | (rcases x with ⟨_, _, _⟩; rfl) | (rcases x with ⟨_, _, _, _⟩; rfl)) rfl (by first | assumption | rfl | exact get!_of_lt (by omega)) (by rfl))) ?_
        refine WL.rd rfl rfl rfl ((by first | exact Rd.idxArr1 (k := 3) rfl A40 rfl rfl rfl (by first | omega | (dsimp only; omega)) | exact Rd.idxArr (k := 3) rfl A40 rfl rfl rfl (by first | omega | (dsimp only; omega)) rfl)) ?_
        refine WL.rd rfl rfl rfl ((by first | exact Rd.get rfl C38 rfl (by repeat (first | assumption | exact mS | apply mT)) (by first | assumption | rfl | exact get!_of_lt (by omega)) | exact Rd.getA rfl C38 rfl (by repeat (first | assumption | exact mS | apply mT)) (by first | assumption | rfl | exact get!_of_lt (by omega)) | exact Rd.row1 rfl C38 rfl (by repeat (first | assumption | exact mS | apply mT)) (by rfl) | exact Rd.getF rfl C38 rfl (by repeat (first | assumption | exact mS | apply mT)) (by intro x; first | rfl | (cases x; rfl) | (rcases x with ⟨_, _, _⟩; rfl) | (rcases x with ⟨_, _, _, _⟩; rfl)) rfl (by first | assumption | rfl | exact get!_of_lt (by omega)) (by rfl) | exact Rd.getFA rfl C38 rfl (by repeat (first | assumption | exact mS | apply mT)) (by intro x; first | rfl | (cases x; rfl) | (rcases x with ⟨_, _, _⟩; rfl) | (rcases x with ⟨_, _, _, _⟩; rfl)) rfl (by first | assumption | rfl | exact get!_of_lt (by omega)) (by rfl))) ?_
        refine WL.rd rfl rfl rfl (Rd.move rfl rfl) ?_
        refine WL.rd rfl rfl rfl (Rd.add32 rfl rfl rfl) ?_
        refine WL.rd rfl rfl rfl ((by first | exact Rd.idxArr1 (k := 4) rfl A40 rfl rfl rfl (by first | omega | (dsimp only; omega)) | exact Rd.idxArr (k := 4) rfl A40 rfl rfl rfl (by first | omega | (dsimp only; omega)) rfl)) ?_
        refine WL.rd rfl rfl rfl ((by first | exact Rd.get rfl C38 rfl (by repeat (first | assumption | exact mS | apply mT)) (by first | assumption | rfl | exact get!_of_lt (by omega)) | exact Rd.getA rfl C38 rfl (by repeat (first | assumption | exact mS | apply mT)) (by first | assumption | rfl | exact get!_of_lt (by omega)) | exact Rd.row1 rfl C38 rfl (by repeat (first | assumption | exact mS | apply mT)) (by rfl) | exact Rd.getF rfl C38 rfl (by repeat (first | assumption | exact mS | apply mT)) (by intro x; first | rfl | (cases x; rfl) | (rcases x with ⟨_, _, _⟩; rfl) | (rcases x with ⟨_, _, _, _⟩; rfl)) rfl (by first | assumption | rfl | exact get!_of_lt (by omega)) (by rfl) | exact Rd.getFA rfl C38 rfl (by repeat (first | assumption | exact mS | apply mT)) (by intro x; first | rfl | (cases x; rfl) | (rcases x with ⟨_, _, _⟩; rfl) | (rcases x with ⟨_, _, _, _⟩; rfl)) rfl (by first | assumption | rfl | exact get!_of_lt (by omega)) (by rfl))) ?_
        refine WL.rd rfl rfl rfl ((by first | exact Rd.idxArr1 (k := 5) rfl A40 rfl rfl rfl (by first | omega | (dsimp only; omega)) | exact Rd.idxArr (k := 5) rfl A40 rfl rfl rfl (by first | omega | (dsimp only; omega)) rfl)) ?_
        refine WL.rd rfl rfl rfl ((by first | exact Rd.get rfl C38 rfl (by repeat (first | assumption | exact mS | apply mT)) (by first | assumption | rfl | exact get!_of_lt (by omega)) | exact Rd.getA rfl C38 rfl (by repeat (first | assumption | exact mS | apply mT)) (by first | assumption | rfl | exact get!_of_lt (by omega)) | exact Rd.row1 rfl C38 rfl (by repeat (first | assumption | exact mS | apply mT)) (by rfl) | exact Rd.getF rfl C38 rfl (by repeat (first | assumption | exact mS | apply mT)) (by intro x; first | rfl | (cases x; rfl) | (rcases x with ⟨_, _, _⟩; rfl) | (rcases x with ⟨_, _, _, _⟩; rfl)) rfl (by first | assumption | rfl | exact get!_of_lt (by omega)) (by rfl) | exact Rd.getFA rfl C38 rfl (by repeat (first | assumption | exact mS | apply mT)) (by intro x; first | rfl | (cases x; rfl) | (rcases x with ⟨_, _, _⟩; rfl) | (rcases x with ⟨_, _, _, _⟩; rfl)) rfl (by first | assumption | rfl | exact get!_of_lt (by omega)) (by rfl))) ?_
        refine WL.rd rfl rfl rfl ((by first | exact Rd.idxArr1 (k := 6) rfl A40 rfl rfl rfl (by first | omega | (dsimp only; omega)) | exact Rd.idxArr (k := 6) rfl A40 rfl rfl rfl (by first | omega | (dsimp only; omega)) rfl)) ?_
        refine WL.rd rfl rfl rfl ((by first | exact Rd.get rfl C38 rfl (by repeat (first | assumption | exact mS | apply mT)) (by first | assumption | rfl | exact get!_of_lt (by omega)) | exact Rd.getA rfl C38 rfl (by repeat (first | assumption | exact mS | apply mT)) (by first | assumption | rfl | exact get!_of_lt (by omega)) | exact Rd.row1 rfl C38 rfl (by repeat (first | assumption | exact mS | apply mT)) (by rfl) | exact Rd.getF rfl C38 rfl (by repeat (first | assumption | exact mS | apply mT)) (by intro x; first | rfl | (cases x; rfl) | (rcases x with ⟨_, _, _⟩; rfl) | (rcases x with ⟨_, _, _, _⟩; rfl)) rfl (by first | assumption | rfl | exact get!_of_lt (by omega)) (by rfl) | exact Rd.getFA rfl C38 rfl (by repeat (first | assumption | exact mS | apply mT)) (by intro x; first | rfl | (cases x; rfl) | (rcases x with ⟨_, _, _⟩; rfl) | (rcases x with ⟨_, _, _, _⟩; rfl)) rfl (by first | assumption | rfl | exact get!_of_lt (by omega)) (by rfl))) ?_
        refine WL.rd rfl rfl rfl (Rd.buildA (ps := [(0, _), (1, _), (2, _), (3, _), (4, _), (5, _), (6, _), (7, _)]) rfl A40 I40 rfl (by kernel_rfl) (by repeat (first | exact Evs.nil | apply Evs.cons rfl)) rfl (by repeat (first | exact CellsOf.nil | apply CellsOf.cons rfl)) (by kernel_rfl) rfl) ?_
        refine WL.op rfl ?_
        refine OpW.storeW (ds := (x.round rootsN[i]! (sched s 64)[i]!).cs) rfl G40 rfl rfl (by repeat (first | assumption | exact Take.head _ | apply Take.tail)) rfl rfl rfl rfl ?_
        refine WL.nil ?_
        refine blockQ.normal ?_
        refine thenQ.normal ?_
        refine WC.region ?_
        refine WL.rd rfl rfl rfl (Rd.add rfl rfl rfl (by omega)) ?_
        refine WL.rd rfl rfl rfl (Rd.move rfl rfl) ?_
        refine WL.nil ?_
        exact loopQ1.mk (i + 1) (by omega) (by omega) (by repeat (first | exact Sub.nil | refine Sub.cons rfl (by first | rfl | (congr 1; omega) | assumption) ?_)) (fun w h => by rw [hst]; exact (fun w h => OwnL.sat (by repeat (first | exact OwnL.refl | apply OwnL.take (by repeat (first | exact Take.head _ | apply Take.tail)) | apply OwnL.drop)) w (h.thin (SubL.mem (by repeat (first | exact SubL.refl | refine SubL.cons (by repeat (first | assumption | exact mS | apply mT)) ?_ | refine SubL.skip ?_))))) w h)
  · skip
    refine WC.exit ?_
    refine thenQ.exit ?_
    refine loopQ1.exit ?_
    refine blockQ.exit ?_
    refine thenQ.normal ?_
    refine WC.seq ?_
    refine WC.seq ?_
    refine WC.region ?_
    refine WL.rd rfl rfl rfl (Rd.move rfl rfl) ?_
    refine WL.nil ?_
    refine thenQ.normal ?_
    refine WC.block ?_
    refine WC.pick [101, 2, 4, 5] (by repeat (first | exact Pick.nil | apply Pick.cons rfl)) ?_
    refine WC.loop1 1 (fun (j : Nat) => [(101, .int .i64 (j : Int))]) (fun (j : Nat) => rowC b5 40 x.cs :: rowC b4 40 (List.replicate 8 (vw 0)) :: rowC b2 40 (mixC v x j) :: O) (fun (j : Nat) => j ≤ 8) (fun (j : Nat) => 8 - j) (0) (by repeat (first | exact Split.zero | apply Split.succ)) ?hinv2 (by repeat (first | exact Sub.nil | refine Sub.cons rfl (by first | rfl | (congr 1; omega) | assumption) ?_)) (fun _ h => h) ?_
    case hinv2 =>
      exact Nat.zero_le _
    intro j
    rintro j1
    refine WC.seq ?_
    refine WC.region ?_
    refine WL.rd rfl rfl rfl (Rd.lss rfl rfl rfl) ?_
    refine WL.nil ?_
    refine thenQ.normal ?_
    refine WC.seq ?_
    first | refine WC.ite rfl (fun hc2 => ?_) (fun hc2 => ?_) | refine WC.cond rfl (fun hc2 => ?_) (fun hc2 => ?_)
    · skip
      obtain ⟨p, q, m1, m2, m3, m4⟩ := mixC_step v x j (by omega)
      have m5 : (mixC v x j).length = 8 := by rw [mixC, List.length_append, List.length_take, List.length_drop, cs_length, cs_length]; omega
      refine WC.skip ?_
      refine thenQ.normal ?_
      refine WC.seq ?_
      refine WC.block ?_
      refine WC.seq ?_
      refine WC.region ?_
      refine WL.rd rfl rfl rfl (Rd.move rfl rfl) ?_
      refine WL.rd rfl rfl rfl (Rd.assign rfl rfl) ?_
      refine WL.nil ?_
      refine thenQ.normal ?_
      refine WC.tail 8 mixed (by kernel_rfl) ?_
      refine WS.rd rfl rfl rfl (Rd.move rfl rfl) ?_
      refine WS.rd rfl rfl rfl ((by first | exact Rd.idxArr1 (k := j) rfl A40 rfl rfl (by omega) (by first | omega | (dsimp only; omega)) | exact Rd.idxArr (k := j) rfl A40 rfl rfl (by omega) (by first | omega | (dsimp only; omega)) rfl)) ?_
      refine WS.rd rfl rfl rfl (Rd.row1 rfl C38 rfl (by repeat (first | assumption | exact mS | apply mT)) m3) ?_
      refine WS.rd rfl rfl rfl (Rd.move rfl rfl) ?_
      refine WS.rd rfl rfl rfl ((by first | exact Rd.idxArr1 (k := j) rfl A40 rfl rfl (by omega) (by first | omega | (dsimp only; omega)) | exact Rd.idxArr (k := j) rfl A40 rfl rfl (by omega) (by first | omega | (dsimp only; omega)) rfl)) ?_
      refine WS.rd rfl rfl rfl (Rd.row1 rfl C38 rfl (by repeat (first | assumption | exact mS | apply mT)) m2) ?_
      refine WS.rd rfl rfl rfl (Rd.add32 rfl rfl rfl) ?_
      refine WS.rd rfl rfl rfl ((by first | exact Rd.idxArr1 (k := j) rfl A40 rfl rfl (by omega) (by first | omega | (dsimp only; omega)) | exact Rd.idxArr (k := j) rfl A40 rfl rfl (by omega) (by first | omega | (dsimp only; omega)) rfl)) ?_
      refine WS.switch ?_
      refine WL.op rfl ?_
      refine OpW.store1 rfl Z38 rfl rfl (by first | exact ⟨rfl, rfl⟩ | assumption) (by repeat (first | assumption | exact Take.head _ | apply Take.tail)) (by first | (simp; done) | omega | exact of_decide_eq_true rfl | (simp only [List.length_append, List.length_replicate, List.length_map, List.length_set]; omega)) rfl ?_
      refine WL.heap (fun w h => by rw [m4] at h; exact h) ?_
      refine WL.nil ?_
      refine blockQ.normal ?_
      refine thenQ.normal ?_
      refine WC.region ?_
      refine WL.rd rfl rfl rfl (Rd.add rfl rfl rfl (by omega)) ?_
      refine WL.rd rfl rfl rfl (Rd.move rfl rfl) ?_
      refine WL.nil ?_
      exact loopQ1.mk (j + 1) (by omega) (by omega) (by repeat (first | exact Sub.nil | refine Sub.cons rfl (by first | rfl | (congr 1; omega) | assumption) ?_)) (fun w h => OwnL.sat (by repeat (first | exact OwnL.refl | apply OwnL.take (by repeat (first | exact Take.head _ | apply Take.tail)) | apply OwnL.drop)) w (h.thin (SubL.mem (by repeat (first | exact SubL.refl | refine SubL.cons (by repeat (first | assumption | exact mS | apply mT)) ?_ | refine SubL.skip ?_)))))
    · skip
      obtain rfl : j = 8 := by omega
      obtain rfl : i = 64 := by omega
      have hfin : mixC v x 8 = (nextS v s).cs := by rw [hx]; rfl
      refine WC.heap (fun w h => by rw [hfin] at h; exact h) ?_
      refine WC.exit ?_
      refine thenQ.exit ?_
      refine loopQ1.exit ?_
      refine blockQ.exit ?_
      refine thenQ.normal ?_
      refine WC.seq ?_
      refine WC.region ?_
      refine WL.rd rfl rfl rfl (Rd.rowW rfl G40 rfl (by repeat (first | assumption | exact mS | apply mT)) rfl) ?_
      refine WL.op rfl ?_
      refine OpW.storeW rfl G40 rfl rfl (by repeat (first | assumption | exact Take.head _ | apply Take.tail)) rfl rfl rfl rfl ?_
      refine WL.nil ?_
      refine thenQ.normal ?_
      refine WC.heap (R' := R) (O' := rowC b4 40 (nextS v s).cs :: O) (fun w h => OwnL.sat (by repeat (first | exact OwnL.refl | apply OwnL.take (by repeat (first | exact Take.head _ | apply Take.tail)) | apply OwnL.drop)) w (h.thin (SubL.mem (by repeat (first | exact SubL.refl | refine SubL.cons (by repeat (first | assumption | exact mS | apply mT)) ?_ | refine SubL.skip ?_))))) ?_
      refine WC.ret (Ret.cellRow Tryd.results16 rfl (by repeat (first | assumption | exact mS | apply mT)) G40 rfl ?_)
      exact ⟨rfl, rfl, _, rfl⟩
set_option maxRecDepth 20000 in
theorem first_spec {R : List RO} {O : List Own} {POST : Value → List RO → List Own → Prop} (hk : POST (.agg first8.cs.toArray) R O) : Fun Tryd.prog 15 #[] R O POST := by
  refine Fun.thin (post' := fun r R' O' => r = .agg first8.cs.toArray ∧ R' = R ∧ ∃ b, O' = rowC b 40 first8.cs :: O) ?_ (by rintro r R' O' ⟨rfl, rfl, b, rfl⟩; exact ⟨_, O, hk, fun w h => h.drop⟩)
  refine Fun.enter (l := []) Tryd.func15 rfl Tryd.ntmps15 rfl (L0 := []) rfl ?_
  refine WC.seq ?_
  refine WC.region ?_
  refine WL.op rfl ?_
  refine OpW.alloc rfl I40 rfl (by repeat (first | exact NF.nil | apply NF.cons)) rfl rfl ?_; intro b0
  refine WL.nil ?_
  refine thenQ.normal ?_
  refine WC.seq ?_
  refine WC.region ?_
  refine WL.rd rfl rfl rfl (Rd.buildA (ps := [(0, _), (1, _), (2, _), (3, _), (4, _), (5, _), (6, _), (7, _)]) rfl A40 I40 rfl (by kernel_rfl) (by repeat (first | exact Evs.nil | apply Evs.cons rfl)) rfl (by repeat (first | exact CellsOf.nil | apply CellsOf.cons rfl)) (by kernel_rfl) rfl) ?_
  refine WL.op rfl ?_
  refine OpW.storeW (ds := first8.cs) rfl G40 rfl rfl (by repeat (first | assumption | exact Take.head _ | apply Take.tail)) rfl rfl rfl rfl ?_
  refine WL.nil ?_
  refine thenQ.normal ?_
  refine WC.ret (Ret.cellRow Tryd.results15 rfl (by repeat (first | assumption | exact mS | apply mT)) G40 rfl ?_)
  exact ⟨rfl, rfl, _, rfl⟩
end Go.Proofs.YtedgndhbieeffaaDoor
