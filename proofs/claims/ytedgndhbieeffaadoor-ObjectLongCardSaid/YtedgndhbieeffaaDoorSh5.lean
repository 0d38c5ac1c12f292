/-
  Layer 2: the digest of parts; digits.
-/
import Derived.Test.YtedgndhbieeffaaDoorSh4
import Derived.Lib.IndexLaws
namespace Go.Proofs.YtedgndhbieeffaaDoor
open Go Go.SL

theorem flatten_snoc {l : List (List UInt8)} {i : Nat} (h : i < l.length) : (l.take (i + 1)).flatten = (l.take i).flatten ++ l[i]! := by
  rw [List.take_add_one, get!_of_lt h, List.flatten_append]; simp
theorem flatten_take_le (l : List (List UInt8)) (i : Nat) : (l.take i).flatten.length ≤ l.flatten.length := by
  have h : l.flatten = (l.take i).flatten ++ (l.drop i).flatten := by rw [← List.flatten_append, List.take_append_drop]
  rw [h, List.length_append]; omega
set_option maxRecDepth 20000 in
set_option maxHeartbeats 1000000 in
theorem shaSum_spec {R : List RO} {O : List Own} {POST : Value → List RO → List Own → Prop} {l : List (List UInt8)} {lv : Value} (hr : rootsR ∈ R) (hl : SlE (one vs) lv l ∈ R) (hn : l.flatten.length ≤ 281474976710656)
    (hk : POST (vs (shaE l.flatten)) R O) : Fun Tryd.prog 5 #[lv] R O POST := by
  refine Fun.len hl fun hll => ?_
  refine Fun.enter (l := [_]) Tryd.func5 rfl Tryd.ntmps5 rfl (L0 := [(0, _)]) rfl ?_
  refine WC.seq ?_
  refine WC.region ?_
  refine WL.rd rfl rfl rfl (Rd.assign rfl rfl) ?_
  refine WL.nil ?_
  refine thenQ.normal ?_
  refine WC.seq ?_
  refine WC.region ?_
  refine WL.op rfl ?_
  refine OpW.alloc rfl I42 rfl (by repeat (first | exact NF.nil | apply NF.cons)) rfl rfl ?_; intro b3
  refine WL.nil ?_
  refine thenQ.normal ?_
  refine WC.seq ?_
  refine WC.seq ?_
  refine WC.region ?_
  refine WL.rd rfl rfl rfl (Rd.move rfl rfl) ?_
  refine WL.rd rfl rfl rfl ((by first | exact Rd.lenE rfl rfl Tryd.underlying24 (by repeat (first | assumption | exact mS | apply mT)) | exact Rd.lenA rfl rfl Tryd.underlying24 (by repeat (first | assumption | exact mS | apply mT)) | exact Rd.len rfl rfl Tryd.underlying24)) ?_
  refine WL.rd rfl rfl rfl (Rd.move rfl rfl) ?_
  refine WL.nil ?_
  refine thenQ.normal ?_
  refine WC.block ?_
  refine WC.pick [8, 3, 6, 7] (by repeat (first | exact Pick.nil | apply Pick.cons rfl)) ?_
  refine WC.loop5 1 (fun (i : Nat) (v : St8) (g : Bool) (r : List UInt8) (n : Nat) => [(8, .int .i64 (i : Int))]) (fun (i : Nat) (v : St8) (g : Bool) (r : List UInt8) (n : Nat) => rowC b3 42 (hcell v g r n) :: O) (fun (i : Nat) (v : St8) (g : Bool) (r : List UInt8) (n : Nat) => i ≤ l.length ∧ HashOf v g r n (l.take i).flatten) (fun (i : Nat) (v : St8) (g : Bool) (r : List UInt8) (n : Nat) => l.length - i) (0) (⟨0, 0, 0, 0, 0, 0, 0, 0⟩) (false) ([]) (0) (by repeat (first | exact Split.zero | apply Split.succ)) ?hinv1 (by repeat (first | exact Sub.nil | refine Sub.cons rfl (by first | rfl | (congr 1; omega) | assumption) ?_)) (fun _ h => h) ?_
  case hinv1 =>
    exact ⟨Nat.zero_le _, HashOf.new _⟩
  intro i v g r n
  rintro ⟨h1, h2⟩
  refine WC.seq ?_
  refine WC.region ?_
  refine WL.rd rfl rfl rfl (Rd.lss rfl rfl rfl) ?_
  refine WL.nil ?_
  refine thenQ.normal ?_
  refine WC.seq ?_
  first | refine WC.ite rfl (fun hc1 => ?_) (fun hc1 => ?_) | refine WC.cond rfl (fun hc1 => ?_) (fun hc1 => ?_)
  · skip
    have hf := flatten_snoc (l := l) (i := i) (by omega)
    have hfl := congrArg List.length hf
    rw [List.length_append] at hfl
    have hfn := flatten_take_le l (i + 1)
    have hrr := h2.rest
    have hnn : n = (l.take i).flatten.length := h2.2.2
    refine WC.skip ?_
    refine thenQ.normal ?_
    refine WC.seq ?_
    refine WC.block ?_
    refine WC.seq ?_
    refine WC.region ?_
    refine WL.rd rfl rfl rfl ((by first | exact Rd.idx1 (k := i) rfl S24 rfl rfl (by omega) (by repeat (first | assumption | exact mS | apply mT)) (by first | omega | (simp only [List.length_cons, List.length_nil, List.length_append, List.length_map]; omega)) | exact Rd.idxA1 (k := i) rfl S24 rfl rfl (by omega) (by repeat (first | assumption | exact mS | apply mT)) (by first | omega | (simp only [List.length_cons, List.length_nil, List.length_append, List.length_map]; omega)) | exact Rd.idxR1 (k := i) rfl S24 rfl rfl (by omega) (by omega))) ?_
    refine WL.rd rfl rfl rfl ((by first | exact Rd.get rfl C9 rfl (by repeat (first | assumption | exact mS | apply mT)) (by first | assumption | rfl | exact get!_of_lt (by omega)) | exact Rd.getA rfl C9 rfl (by repeat (first | assumption | exact mS | apply mT)) (by first | assumption | rfl | exact get!_of_lt (by omega)) | exact Rd.row1 rfl C9 rfl (by repeat (first | assumption | exact mS | apply mT)) (by rfl) | exact Rd.getF rfl C9 rfl (by repeat (first | assumption | exact mS | apply mT)) (by intro x; first | rfl | (cases x; rfl) | (rcases x with ⟨_, _, _⟩; rfl) | (rcases x with ⟨_, _, _, _⟩; rfl)) rfl (by first | assumption | rfl | exact get!_of_lt (by omega)) (by rfl) | exact Rd.getFA rfl C9 rfl (by repeat (first | assumption | exact mS | apply mT)) (by intro x; first | rfl | (cases x; rfl) | (rcases x with ⟨_, _, _⟩; rfl) | (rcases x with ⟨_, _, _, _⟩; rfl)) rfl (by first | assumption | rfl | exact get!_of_lt (by omega)) (by rfl))) ?_
    refine WL.rd rfl rfl rfl (Rd.assign rfl rfl) ?_
    refine WL.nil ?_
    refine thenQ.normal ?_
    refine WC.region ?_
    refine WL.rd rfl rfl rfl (Rd.move rfl rfl) ?_
    refine WL.op rfl ?_
    refine OpW.call rfl rfl (by repeat (first | exact Evs.nil | apply Evs.cons rfl)) (by kernel_rfl) rfl rfl rfl ?_
    refine hput_spec hr h2.1 (by omega) (by omega) ?_
    refine WL.nil ?_
    refine blockQ.normal ?_
    refine thenQ.normal ?_
    refine WC.region ?_
    refine WL.rd rfl rfl rfl (Rd.add rfl rfl rfl (by omega)) ?_
    refine WL.rd rfl rfl rfl (Rd.move rfl rfl) ?_
    refine WL.nil ?_
    exact loopQ5.mk (i + 1) _ _ _ _ ⟨by omega, by rw [hf]; exact h2.put _⟩ (by omega) (by repeat (first | exact Sub.nil | refine Sub.cons rfl (by first | rfl | (congr 1; omega) | assumption) ?_)) (fun w h => OwnL.sat (by repeat (first | exact OwnL.refl | apply OwnL.take (by repeat (first | exact Take.head _ | apply Take.tail)) | apply OwnL.drop)) w (h.thin (SubL.mem (by repeat (first | exact SubL.refl | refine SubL.cons (by repeat (first | assumption | exact mS | apply mT)) ?_ | refine SubL.skip ?_)))))
  · skip
    have hi : l.take i = l := List.take_of_length_le (by omega)
    rw [hi] at h2
    have hnn : n = l.flatten.length := h2.2.2
    refine WC.exit ?_
    refine thenQ.exit ?_
    refine loopQ5.exit ?_
    refine blockQ.exit ?_
    refine thenQ.normal ?_
    refine WC.seq ?_
    refine WC.region ?_
    refine WL.op rfl ?_
    refine OpW.call rfl rfl (by repeat (first | exact Evs.nil | apply Evs.cons rfl)) (by kernel_rfl) rfl rfl rfl ?_
    refine hsum_spec hr h2 (by omega) ?_
    refine WL.rd rfl rfl rfl (Rd.assign rfl rfl) ?_
    refine WL.nil ?_
    refine thenQ.normal ?_
    refine WC.heap (R' := R) (O' := O) (fun w h => OwnL.sat (by repeat (first | exact OwnL.refl | apply OwnL.take (by repeat (first | exact Take.head _ | apply Take.tail)) | apply OwnL.drop)) w (h.thin (SubL.mem (by repeat (first | exact SubL.refl | refine SubL.cons (by repeat (first | assumption | exact mS | apply mT)) ?_ | refine SubL.skip ?_))))) ?_
    refine WC.ret (Ret.one Tryd.results5 rfl ?_)
    exact hk

/-! ### digits -/
def digs : List UInt8 := [48, 49, 50, 51, 52, 53, 54, 55, 56, 57, 97, 98, 99, 100, 101, 102]
def dg (n : Nat) : UInt8 := digs[n]!
def val (c : UInt8) : Int := Lib.indexByte digs c
def hnib (c : UInt8) : Nat := (val c).toNat
theorem dg_val : ∀ n, n < 16 → val (dg n) = n := by decide +kernel
theorem val_all : ∀ n, n < 256 → (val (UInt8.ofNat n) < 0 ∧ ¬ ((48 ≤ n ∧ n ≤ 57) ∨ (97 ≤ n ∧ n ≤ 102))) ∨ (0 ≤ val (UInt8.ofNat n) ∧ val (UInt8.ofNat n) < 16 ∧ dg (hnib (UInt8.ofNat n)) = UInt8.ofNat n ∧ ((48 ≤ n ∧ n ≤ 57) ∨ (97 ≤ n ∧ n ≤ 102))) := by decide +kernel
theorem val_cases (c : UInt8) : (val c < 0 ∧ ¬ ((48 ≤ c.toNat ∧ c.toNat ≤ 57) ∨ (97 ≤ c.toNat ∧ c.toNat ≤ 102))) ∨ (0 ≤ val c ∧ val c < 16 ∧ dg (hnib c) = c ∧ ((48 ≤ c.toNat ∧ c.toNat ≤ 57) ∨ (97 ≤ c.toNat ∧ c.toNat ≤ 102))) := by
  have h := val_all c.toNat (UInt8.toNat_lt c)
  rwa [UInt8.ofNat_toNat] at h
def hx (c : UInt8) : List UInt8 := [dg (c.toNat / 16), dg (c.toNat % 16)]
def hexE (s : List UInt8) : List UInt8 := if s.length ≠ 32 then [] else s.flatMap hx
theorem hx_length (s : List UInt8) : (s.flatMap hx).length = 2 * s.length := by
  induction s with
  | nil => rfl
  | cons a l ih => rw [List.flatMap_cons, List.length_append, ih, List.length_cons]; simp [hx]; omega
theorem hx_snoc {s : List UInt8} {i : Nat} (h : i < s.length) : (s.take (i + 1)).flatMap hx = (s.take i).flatMap hx ++ hx s[i]! := by
  rw [List.take_add_one, get!_of_lt h, List.flatMap_append]; simp
def parseR : List UInt8 → List UInt8
  | a :: b :: r => UInt8.ofNat (hnib a * 16 + hnib b) :: parseR r
  | _ => []
abbrev Digs (s : List UInt8) : Prop := ∀ c ∈ s, 0 ≤ val c
theorem nib_lt {c : UInt8} (h : 0 ≤ val c) : hnib c < 16 := by
  rcases val_cases c with h1 | h1
  · omega
  · unfold hnib; omega
theorem nib_dg {n : Nat} (h : n < 16) : hnib (dg n) = n := by rw [hnib, dg_val n h]; rfl
theorem dg_nib {c : UInt8} (h : 0 ≤ val c) : dg (hnib c) = c := by
  rcases val_cases c with h1 | h1
  · omega
  · exact h1.2.2.1
theorem parse_hex : ∀ s : List UInt8, parseR (s.flatMap hx) = s
  | [] => rfl
  | c :: s => by
    have hc := UInt8.toNat_lt c
    rw [List.flatMap_cons, hx, List.cons_append, List.cons_append, List.nil_append, parseR, parse_hex s, nib_dg (by omega), nib_dg (Nat.mod_lt _ (by decide))]
    congr 1
    apply UInt8.toNat_inj.1
    have : (UInt8.ofNat (c.toNat / 16 * 16 + c.toNat % 16)).toNat = c.toNat / 16 * 16 + c.toNat % 16 := by simp; omega
    rw [this]; omega
theorem hex_digs (s : List UInt8) : Digs (s.flatMap hx) := by
  intro c hc
  obtain ⟨b, _, hb⟩ := List.mem_flatMap.1 hc
  have hbl := UInt8.toNat_lt b
  simp only [hx, List.mem_cons, List.not_mem_nil, or_false] at hb
  rcases hb with rfl | rfl
  · rw [dg_val _ (by omega)]; omega
  · rw [dg_val _ (Nat.mod_lt _ (by decide))]; omega
theorem hex_parse : ∀ {s : List UInt8}, s.length % 2 = 0 → Digs s → (parseR s).flatMap hx = s ∧ (parseR s).length = s.length / 2
  | [], _, _ => ⟨rfl, rfl⟩
  | [a], h, _ => by simp at h
  | a :: b :: r, h, hd => by
    have ha := nib_lt (hd a (by simp))
    have hb := nib_lt (hd b (by simp))
    obtain ⟨h1, h2⟩ := hex_parse (s := r) (by simp at h; omega) (fun c hc => hd c (by simp [hc]))
    have hv : (UInt8.ofNat (hnib a * 16 + hnib b)).toNat = hnib a * 16 + hnib b := by simp; omega
    refine ⟨?_, ?_⟩
    · rw [parseR, List.flatMap_cons, h1, hx, hv, show (hnib a * 16 + hnib b) / 16 = hnib a from by omega, show (hnib a * 16 + hnib b) % 16 = hnib b from by omega, dg_nib (hd a (by simp)), dg_nib (hd b (by simp))]; rfl
    · rw [parseR, List.length_cons, h2]; simp; omega
theorem parse_get : ∀ {s : List UInt8} {k : Nat}, 2 * k + 1 < s.length → (parseR s)[k]? = some (UInt8.ofNat (hnib s[2 * k]! * 16 + hnib s[2 * k + 1]!))
  | [], k, h => by simp at h
  | [a], k, h => by simp at h
  | a :: b :: r, 0, _ => rfl
  | a :: b :: r, k + 1, h => by
    have h1 := parse_get (s := r) (k := k) (by simp at h; omega)
    rw [parseR, List.getElem?_cons_succ, h1]
    rfl
theorem digs_get {n : Nat} (h : n < 16) : digs[n]? = some (dg n) := get!_of_lt (by decide +revert)


end Go.Proofs.YtedgndhbieeffaaDoor
