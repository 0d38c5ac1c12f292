/-
  Layer 2: the digest of parts; digits.
-/
import Derived.Test.YtcojkjalpkagoaaDoorSh4
import Derived.Lib.IndexLaws
namespace Go.Proofs.YtcojkjalpkagoaaDoor
open Go Go.SL

theorem flatten_snoc {l : List (List UInt8)} {i : Nat} (h : i < l.length) : (l.take (i + 1)).flatten = (l.take i).flatten ++ l[i]! := by
  rw [List.take_add_one, get!_of_lt h, List.flatten_append]; simp
theorem flatten_take_le (l : List (List UInt8)) (i : Nat) : (l.take i).flatten.length ≤ l.flatten.length := by
  have h : l.flatten = (l.take i).flatten ++ (l.drop i).flatten := by rw [← List.flatten_append, List.take_append_drop]
  rw [h, List.length_append]; omega
set_option maxHeartbeats 1000000 in
theorem shaSum_spec {R : List RO} {O : List Own} {POST : Value → List RO → List Own → Prop} {l : List (List UInt8)} {lv : Value} (hr : rootsR ∈ R) (hl : SlE (one vs) lv l ∈ R) (hn : l.flatten.length ≤ 281474976710656)
    (hk : POST (vs (shaE l.flatten)) R O) : Fun Tryd.prog 12 #[lv] R O POST := by
  refine Fun.len hl fun hll => ?_
  refine Fun.enter (l := [_]) Tryd.func12 rfl Tryd.ntmps12 rfl (L0 := [(0, _)]) rfl ?_
  refine WC.seq ?_
  refine WC.region ?_
  refine WL.rd rfl rfl rfl (Rd.assign rfl rfl) ?_
  refine WL.nil ?_
  refine thenQ.normal ?_
  refine WC.seq ?_
  refine WC.region ?_
  refine WL.op rfl ?_
  refine OpW.alloc rfl I29 rfl (by repeat (first | exact NF.nil | apply NF.cons)) rfl rfl ?_; intro b3
  refine WL.nil ?_
  refine thenQ.normal ?_
  refine WC.seq ?_
  refine WC.seq ?_
  refine WC.region ?_
  refine WL.rd rfl rfl rfl (Rd.move rfl rfl) ?_
  refine WL.rd rfl rfl rfl ((by first | exact Rd.lenE rfl rfl Tryd.underlying30 (by repeat (first | assumption | exact List.mem_cons_self | refine List.mem_cons_of_mem _ ?_)) | exact Rd.lenA rfl rfl Tryd.underlying30 (by repeat (first | assumption | exact List.mem_cons_self | refine List.mem_cons_of_mem _ ?_)) | exact Rd.len rfl rfl Tryd.underlying30)) ?_
  refine WL.rd rfl rfl rfl (Rd.move rfl rfl) ?_
  refine WL.nil ?_
  refine thenQ.normal ?_
  refine WC.block ?_
  refine WC.pick [8, 3, 6, 7] (by repeat (first | exact Pick.nil | apply Pick.cons rfl)) ?_
  refine WC.loop5 1 (fun (i : Nat) (v : St8) (g : Bool) (r : List UInt8) (n : Nat) => [(8, .int .i64 (i : Int))]) (fun (i : Nat) (v : St8) (g : Bool) (r : List UInt8) (n : Nat) => rowC b3 29 (hcell v g r n) :: O) (fun (i : Nat) (v : St8) (g : Bool) (r : List UInt8) (n : Nat) => i ≤ l.length ∧ HashOf v g r n (l.take i).flatten) (fun (i : Nat) (v : St8) (g : Bool) (r : List UInt8) (n : Nat) => l.length - i) (0) (⟨0, 0, 0, 0, 0, 0, 0, 0⟩) (false) ([]) (0) (by repeat (first | exact Split.zero | apply Split.succ)) ?hinv1 (by repeat (first | exact Sub.nil | refine Sub.cons rfl (by first | rfl | (congr 1; omega) | assumption) ?_)) (fun _ h => h) ?_
  case hinv1 =>
    exact ⟨Nat.zero_le _, HashOf.new _⟩
  intro i v g r n
  rintro ⟨h1, h2⟩
  refine WC.seq ?_
  refine WC.region ?_
  refine WL.rd rfl rfl rfl (Rd.lss rfl rfl rfl) ?_
  refine WL.nil ?_
  refine thenQ.normal ?_
  refine WC.seq ?_
  first | refine WC.ite rfl (fun hc1 => ?_) (fun hc1 => ?_) | refine WC.cond rfl (fun hc1 => ?_) (fun hc1 => ?_)
  · skip
    have hf := flatten_snoc (l := l) (i := i) (by omega)
    have hfl := congrArg List.length hf
    rw [List.length_append] at hfl
    have hfn := flatten_take_le l (i + 1)
    have hrr := h2.rest
    have hnn : n = (l.take i).flatten.length := h2.2.2
    refine WC.skip ?_
    refine thenQ.normal ?_
    refine WC.seq ?_
    refine WC.block ?_
    refine WC.seq ?_
    refine WC.region ?_
    refine WL.rd rfl rfl rfl ((by first | exact Rd.idx1 (k := i) rfl S30 rfl rfl (by omega) (by repeat (first | assumption | exact List.mem_cons_self | refine List.mem_cons_of_mem _ ?_)) (by first | omega | (simp only [List.length_cons, List.length_nil, List.length_append, List.length_map]; omega)) | exact Rd.idxA1 (k := i) rfl S30 rfl rfl (by omega) (by repeat (first | assumption | exact List.mem_cons_self | refine List.mem_cons_of_mem _ ?_)) (by first | omega | (simp only [List.length_cons, List.length_nil, List.length_append, List.length_map]; omega)) | exact Rd.idxR1 (k := i) rfl S30 rfl rfl (by omega) (by omega))) ?_
    refine WL.rd rfl rfl rfl ((by first | exact Rd.get rfl C9 rfl (by repeat (first | assumption | exact List.mem_cons_self | refine List.mem_cons_of_mem _ ?_)) (by first | assumption | rfl | exact get!_of_lt (by omega)) | exact Rd.getA rfl C9 rfl (by repeat (first | assumption | exact List.mem_cons_self | refine List.mem_cons_of_mem _ ?_)) (by first | assumption | rfl | exact get!_of_lt (by omega)) | exact Rd.row1 rfl C9 rfl (by repeat (first | assumption | exact List.mem_cons_self | refine List.mem_cons_of_mem _ ?_)) (by rfl) | exact Rd.getF rfl C9 rfl (by repeat (first | assumption | exact List.mem_cons_self | refine List.mem_cons_of_mem _ ?_)) (by intro x; first | rfl | (cases x; rfl) | (rcases x with ⟨_, _, _⟩; rfl) | (rcases x with ⟨_, _, _, _⟩; rfl)) rfl (by first | assumption | rfl | exact get!_of_lt (by omega)) (by rfl) | exact Rd.getFA rfl C9 rfl (by repeat (first | assumption | exact List.mem_cons_self | refine List.mem_cons_of_mem _ ?_)) (by intro x; first | rfl | (cases x; rfl) | (rcases x with ⟨_, _, _⟩; rfl) | (rcases x with ⟨_, _, _, _⟩; rfl)) rfl (by first | assumption | rfl | exact get!_of_lt (by omega)) (by rfl))) ?_
    refine WL.rd rfl rfl rfl (Rd.assign rfl rfl) ?_
    refine WL.nil ?_
    refine thenQ.normal ?_
    refine WC.region ?_
    refine WL.rd rfl rfl rfl (Rd.move rfl rfl) ?_
    refine WL.op rfl ?_
    refine OpW.call rfl rfl (by repeat (first | exact Evs.nil | apply Evs.cons rfl)) (by kernel_rfl) rfl rfl rfl ?_
    refine hput_spec hr h2.1 (by omega) (by omega) ?_
    refine WL.nil ?_
    refine blockQ.normal ?_
    refine thenQ.normal ?_
    refine WC.region ?_
    refine WL.rd rfl rfl rfl (Rd.add rfl rfl rfl (by omega)) ?_
    refine WL.rd rfl rfl rfl (Rd.move rfl rfl) ?_
    refine WL.nil ?_
    -- next1_1
    exact loopQ5.mk (i + 1) _ _ _ _ ⟨by omega, by rw [hf]; exact h2.put _⟩ (by omega) (by repeat (first | exact Sub.nil | refine Sub.cons rfl (by first | rfl | (congr 1; omega) | assumption) ?_)) (fun w h => OwnL.sat (by repeat (first | exact OwnL.refl | apply OwnL.take (by repeat (first | exact Take.head _ | apply Take.tail)) | apply OwnL.drop)) w (h.thin (SubL.mem (by repeat (first | exact SubL.refl | refine SubL.cons (by repeat (first | assumption | exact List.mem_cons_self | refine List.mem_cons_of_mem _ ?_)) ?_ | refine SubL.skip ?_)))))
  · skip
    have hi : l.take i = l := List.take_of_length_le (by omega)
    rw [hi] at h2
    have hnn : n = l.flatten.length := h2.2.2
    refine WC.exit ?_
    refine thenQ.exit ?_
    refine loopQ5.exit ?_
    refine blockQ.exit ?_
    refine thenQ.normal ?_
    refine WC.seq ?_
    refine WC.region ?_
    refine WL.op rfl ?_
    refine OpW.call rfl rfl (by repeat (first | exact Evs.nil | apply Evs.cons rfl)) (by kernel_rfl) rfl rfl rfl ?_
    refine hsum_spec hr h2 (by omega) ?_
    refine WL.rd rfl rfl rfl (Rd.assign rfl rfl) ?_
    refine WL.nil ?_
    refine thenQ.normal ?_
    -- ret_1
    refine WC.heap (R' := R) (O' := O) (fun w h => OwnL.sat (by repeat (first | exact OwnL.refl | apply OwnL.take (by repeat (first | exact Take.head _ | apply Take.tail)) | apply OwnL.drop)) w (h.thin (SubL.mem (by repeat (first | exact SubL.refl | refine SubL.cons (by repeat (first | assumption | exact List.mem_cons_self | refine List.mem_cons_of_mem _ ?_)) ?_ | refine SubL.skip ?_))))) ?_
    refine WC.ret (Ret.one Tryd.results12 rfl ?_)
    exact hk

/-! ### digits -/
def digs : List UInt8 := [48, 49, 50, 51, 52, 53, 54, 55, 56, 57, 97, 98, 99, 100, 101, 102]
def dg (n : Nat) : UInt8 := digs[n]!
def val (c : UInt8) : Int := Lib.indexByte digs c
def nib (c : UInt8) : Nat := (val c).toNat
theorem dg_val : ∀ n, n < 16 → val (dg n) = n := by decide +kernel
theorem val_all : ∀ n, n < 256 → (val (UInt8.ofNat n) < 0 ∧ ¬ ((48 ≤ n ∧ n ≤ 57) ∨ (97 ≤ n ∧ n ≤ 102))) ∨ (0 ≤ val (UInt8.ofNat n) ∧ val (UInt8.ofNat n) < 16 ∧ dg (nib (UInt8.ofNat n)) = UInt8.ofNat n ∧ ((48 ≤ n ∧ n ≤ 57) ∨ (97 ≤ n ∧ n ≤ 102))) := by decide +kernel
theorem val_cases (c : UInt8) : (val c < 0 ∧ ¬ ((48 ≤ c.toNat ∧ c.toNat ≤ 57) ∨ (97 ≤ c.toNat ∧ c.toNat ≤ 102))) ∨ (0 ≤ val c ∧ val c < 16 ∧ dg (nib c) = c ∧ ((48 ≤ c.toNat ∧ c.toNat ≤ 57) ∨ (97 ≤ c.toNat ∧ c.toNat ≤ 102))) := by
  have h := val_all c.toNat (UInt8.toNat_lt c)
  rwa [UInt8.ofNat_toNat] at h
def hx (c : UInt8) : List UInt8 := [dg (c.toNat / 16), dg (c.toNat % 16)]
def hexE (s : List UInt8) : List UInt8 := if s.length ≠ 32 then [] else s.flatMap hx
theorem hx_length (s : List UInt8) : (s.flatMap hx).length = 2 * s.length := by
  induction s with
  | nil => rfl
  | cons a l ih => rw [List.flatMap_cons, List.length_append, ih, List.length_cons]; simp [hx]; omega
theorem hx_snoc {s : List UInt8} {i : Nat} (h : i < s.length) : (s.take (i + 1)).flatMap hx = (s.take i).flatMap hx ++ hx s[i]! := by
  rw [List.take_add_one, get!_of_lt h, List.flatMap_append]; simp
def parseR : List UInt8 → List UInt8
  | a :: b :: r => UInt8.ofNat (nib a * 16 + nib b) :: parseR r
  | _ => []
abbrev Digs (s : List UInt8) : Prop := ∀ c ∈ s, 0 ≤ val c
theorem nib_lt {c : UInt8} (h : 0 ≤ val c) : nib c < 16 := by
  rcases val_cases c with h1 | h1
  · omega
  · unfold nib; omega
theorem nib_dg {n : Nat} (h : n < 16) : nib (dg n) = n := by rw [nib, dg_val n h]; rfl
theorem dg_nib {c : UInt8} (h : 0 ≤ val c) : dg (nib c) = c := by
  rcases val_cases c with h1 | h1
  · omega
  · exact h1.2.2.1
theorem parse_hex : ∀ s : List UInt8, parseR (s.flatMap hx) = s
  | [] => rfl
  | c :: s => by
    have hc := UInt8.toNat_lt c
    rw [List.flatMap_cons, hx, List.cons_append, List.cons_append, List.nil_append, parseR, parse_hex s, nib_dg (by omega), nib_dg (Nat.mod_lt _ (by decide))]
    congr 1
    apply UInt8.toNat_inj.1
    have : (UInt8.ofNat (c.toNat / 16 * 16 + c.toNat % 16)).toNat = c.toNat / 16 * 16 + c.toNat % 16 := by simp; omega
    rw [this]; omega
theorem hex_digs (s : List UInt8) : Digs (s.flatMap hx) := by
  intro c hc
  obtain ⟨b, _, hb⟩ := List.mem_flatMap.1 hc
  have hbl := UInt8.toNat_lt b
  simp only [hx, List.mem_cons, List.not_mem_nil, or_false] at hb
  rcases hb with rfl | rfl
  · rw [dg_val _ (by omega)]; omega
  · rw [dg_val _ (Nat.mod_lt _ (by decide))]; omega
theorem hex_parse : ∀ {s : List UInt8}, s.length % 2 = 0 → Digs s → (parseR s).flatMap hx = s ∧ (parseR s).length = s.length / 2
  | [], _, _ => ⟨rfl, rfl⟩
  | [a], h, _ => by simp at h
  | a :: b :: r, h, hd => by
    have ha := nib_lt (hd a (by simp))
    have hb := nib_lt (hd b (by simp))
    obtain ⟨h1, h2⟩ := hex_parse (s := r) (by simp at h; omega) (fun c hc => hd c (by simp [hc]))
    have hv : (UInt8.ofNat (nib a * 16 + nib b)).toNat = nib a * 16 + nib b := by simp; omega
    refine ⟨?_, ?_⟩
    · rw [parseR, List.flatMap_cons, h1, hx, hv, show (nib a * 16 + nib b) / 16 = nib a from by omega, show (nib a * 16 + nib b) % 16 = nib b from by omega, dg_nib (hd a (by simp)), dg_nib (hd b (by simp))]; rfl
    · rw [parseR, List.length_cons, h2]; simp; omega
theorem parse_get : ∀ {s : List UInt8} {k : Nat}, 2 * k + 1 < s.length → (parseR s)[k]? = some (UInt8.ofNat (nib s[2 * k]! * 16 + nib s[2 * k + 1]!))
  | [], k, h => by simp at h
  | [a], k, h => by simp at h
  | a :: b :: r, 0, _ => rfl
  | a :: b :: r, k + 1, h => by
    have h1 := parse_get (s := r) (k := k) (by simp at h; omega)
    rw [parseR, List.getElem?_cons_succ, h1]
    rfl
theorem digs_get {n : Nat} (h : n < 16) : digs[n]? = some (dg n) := get!_of_lt (by decide +revert)

set_option maxHeartbeats 1000000 in
theorem hex_spec {R : List RO} {O : List Own} {POST : Value → List RO → List Own → Prop} {s : List UInt8} (hk : POST (vs (hexE s)) R O) : Fun Tryd.prog 13 #[vs s] R O POST := by
  unfold hexE at hk
  refine Fun.enter (l := [_]) Tryd.func13 rfl Tryd.ntmps13 rfl (L0 := [(0, _)]) rfl ?_
  refine WC.seq ?_
  refine WC.region ?_
  refine WL.rd rfl rfl rfl (Rd.assign rfl rfl) ?_
  refine WL.nil ?_
  refine thenQ.normal ?_
  refine WC.seq ?_
  refine WC.seq ?_
  refine WC.region ?_
  refine WL.rd rfl rfl rfl (Rd.move rfl rfl) ?_
  refine WL.rd rfl rfl rfl (Rd.slen (ts := #[]) (ty := 0) rfl rfl Tryd.underlying9) ?_
  refine WL.rd rfl rfl rfl (Rd.neq rfl rfl rfl) ?_
  refine WL.nil ?_
  refine thenQ.normal ?_
  first | refine WC.ite rfl (fun hc1 => ?_) (fun hc1 => ?_) | refine WC.cond rfl (fun hc1 => ?_) (fun hc1 => ?_)
  · skip
    refine WC.seq ?_
    refine WC.region ?_
    refine WL.rd rfl rfl rfl (Rd.assign rfl rfl) ?_
    refine WL.nil ?_
    refine thenQ.normal ?_
    -- ret_1
    refine WC.ret (Ret.one Tryd.results13 rfl ?_)
    rw [if_pos (by omega)] at hk; exact hk
  · skip
    rw [if_neg (by omega)] at hk
    refine WC.skip ?_
    refine thenQ.normal ?_
    refine WC.seq ?_
    refine WC.region ?_
    refine WL.op rfl ?_
    refine OpW.make1 (m := 0) (c := 64) rfl S43 rfl rfl rfl rfl rfl (by omega) (by omega) (by omega) rfl rfl ?_; intro b8
    refine WL.heap (fun w h => Sat.accCap (α := UInt8) (enc := one vy) (size := 1) (c := 64) (by repeat (first | assumption | exact Take.head _ | apply Take.tail)) (by simp) (by decide) h) ?_
    refine WL.rd rfl rfl rfl (Rd.assign rfl rfl) ?_
    refine WL.nil ?_
    refine thenQ.normal ?_
    refine WC.seq ?_
    refine WC.seq ?_
    refine WC.region ?_
    refine WL.rd rfl rfl rfl (Rd.move rfl rfl) ?_
    refine WL.nil ?_
    refine thenQ.normal ?_
    refine WC.block ?_
    refine WC.pick [9, 3, 0] (by repeat (first | exact Pick.nil | apply Pick.cons rfl)) ?_
    refine WC.loop2 2 (fun (i : Nat) (v : Value) => [(9, .int .i64 (i : Int)), (3, v)]) (fun (i : Nat) (v : Value) => accC 5 1 (one vy) v ((s.take i).flatMap hx) :: O) (fun (i : Nat) (v : Value) => i ≤ 32 ∧ OneV v) (fun (i : Nat) (v : Value) => 32 - i) (0) (.slice (some ⟨b8, 0, none⟩) 0 64) (by repeat (first | exact Split.zero | apply Split.succ)) ?hinv1 (by repeat (first | exact Sub.nil | refine Sub.cons rfl (by first | rfl | (congr 1; omega) | assumption) ?_)) (fun _ h => h) ?_
    case hinv1 =>
      exact ⟨Nat.zero_le _, OneV.sl⟩
    intro i v
    rintro ⟨i1, i2⟩
    refine WC.seq ?_
    refine WC.region ?_
    refine WL.rd rfl rfl rfl (Rd.lss rfl rfl rfl) ?_
    refine WL.nil ?_
    refine thenQ.normal ?_
    refine WC.seq ?_
    first | refine WC.ite rfl (fun hc2 => ?_) (fun hc2 => ?_) | refine WC.cond rfl (fun hc2 => ?_) (fun hc2 => ?_)
    · skip
      have hs := hx_snoc (s := s) (i := i) (by omega)
      have hl := hx_length (s.take i)
      rw [List.length_take] at hl
      have hc := UInt8.toNat_lt s[i]!
      refine WC.skip ?_
      refine thenQ.normal ?_
      refine WC.seq ?_
      refine WC.block ?_
      refine WC.seq ?_
      refine WC.region ?_
      refine WL.rd rfl rfl rfl (Rd.move rfl rfl) ?_
      refine WL.rd rfl rfl rfl (Rd.assign rfl rfl) ?_
      refine WL.nil ?_
      refine thenQ.normal ?_
      refine WC.drawn (O) 14 rfl mixed ?_
      refine WD.take 0 rfl (by kernel_rfl) (Held.mk' (by repeat (first | exact SubL.refl | refine SubL.cons (by repeat (first | assumption | exact List.mem_cons_self | refine List.mem_cons_of_mem _ ?_)) ?_ | refine SubL.skip ?_)) (by repeat (first | exact OwnL.refl | apply OwnL.take (by repeat (first | exact Take.head _ | apply Take.tail)) | apply OwnL.drop))) rfl rfl rfl (Rd.move rfl rfl) ?_
      refine WD.take 1 rfl (by kernel_rfl) (Held.mk' (by repeat (first | exact SubL.refl | refine SubL.cons (by repeat (first | assumption | exact List.mem_cons_self | refine List.mem_cons_of_mem _ ?_)) ?_ | refine SubL.skip ?_)) (by repeat (first | exact OwnL.refl | apply OwnL.take (by repeat (first | exact Take.head _ | apply Take.tail)) | apply OwnL.drop))) rfl rfl rfl (Rd.move rfl rfl) ?_
      refine WD.take 2 rfl (by kernel_rfl) (Held.mk' (by repeat (first | exact SubL.refl | refine SubL.cons (by repeat (first | assumption | exact List.mem_cons_self | refine List.mem_cons_of_mem _ ?_)) ?_ | refine SubL.skip ?_)) (by repeat (first | exact OwnL.refl | apply OwnL.take (by repeat (first | exact Take.head _ | apply Take.tail)) | apply OwnL.drop))) rfl rfl rfl (Rd.move rfl rfl) ?_
      refine WD.take 3 rfl (by kernel_rfl) (Held.mk' (by repeat (first | exact SubL.refl | refine SubL.cons (by repeat (first | assumption | exact List.mem_cons_self | refine List.mem_cons_of_mem _ ?_)) ?_ | refine SubL.skip ?_)) (by repeat (first | exact OwnL.refl | apply OwnL.take (by repeat (first | exact Take.head _ | apply Take.tail)) | apply OwnL.drop))) rfl rfl rfl (Rd.sidx (k := i) rfl Tryd.underlying9 rfl rfl (by omega) (by first | assumption | rfl | exact get!_of_lt (by omega))) ?_
      refine WD.take 4 rfl (by kernel_rfl) (Held.mk' (by repeat (first | exact SubL.refl | refine SubL.cons (by repeat (first | assumption | exact List.mem_cons_self | refine List.mem_cons_of_mem _ ?_)) ?_ | refine SubL.skip ?_)) (by repeat (first | exact OwnL.refl | apply OwnL.take (by repeat (first | exact Take.head _ | apply Take.tail)) | apply OwnL.drop))) rfl rfl rfl (Rd.shrN (a := s[i]!.toNat) (n := 4) rfl rfl rfl rfl rfl (by decide)) ?_
      refine WD.take 5 rfl (by kernel_rfl) (Held.mk' (by repeat (first | exact SubL.refl | refine SubL.cons (by repeat (first | assumption | exact List.mem_cons_self | refine List.mem_cons_of_mem _ ?_)) ?_ | refine SubL.skip ?_)) (by repeat (first | exact OwnL.refl | apply OwnL.take (by repeat (first | exact Take.head _ | apply Take.tail)) | apply OwnL.drop))) rfl rfl rfl (Rd.sidx (k := s[i]!.toNat / 16) rfl Tryd.underlying9 rfl rfl rfl (digs_get (by omega))) ?_
      refine WD.take 6 rfl (by kernel_rfl) (Held.mk' (by repeat (first | exact SubL.refl | refine SubL.cons (by repeat (first | assumption | exact List.mem_cons_self | refine List.mem_cons_of_mem _ ?_)) ?_ | refine SubL.skip ?_)) (by repeat (first | exact OwnL.refl | apply OwnL.take (by repeat (first | exact Take.head _ | apply Take.tail)) | apply OwnL.drop))) rfl rfl rfl (Rd.move rfl rfl) ?_
      refine WD.take 7 rfl (by kernel_rfl) (Held.mk' (by repeat (first | exact SubL.refl | refine SubL.cons (by repeat (first | assumption | exact List.mem_cons_self | refine List.mem_cons_of_mem _ ?_)) ?_ | refine SubL.skip ?_)) (by repeat (first | exact OwnL.refl | apply OwnL.take (by repeat (first | exact Take.head _ | apply Take.tail)) | apply OwnL.drop))) rfl rfl rfl (Rd.move rfl rfl) ?_
      refine WD.take 8 rfl (by kernel_rfl) (Held.mk' (by repeat (first | exact SubL.refl | refine SubL.cons (by repeat (first | assumption | exact List.mem_cons_self | refine List.mem_cons_of_mem _ ?_)) ?_ | refine SubL.skip ?_)) (by repeat (first | exact OwnL.refl | apply OwnL.take (by repeat (first | exact Take.head _ | apply Take.tail)) | apply OwnL.drop))) rfl rfl rfl (Rd.sidx (k := i) rfl Tryd.underlying9 rfl rfl (by omega) (by first | assumption | rfl | exact get!_of_lt (by omega))) ?_
      refine WD.take 9 rfl (by kernel_rfl) (Held.mk' (by repeat (first | exact SubL.refl | refine SubL.cons (by repeat (first | assumption | exact List.mem_cons_self | refine List.mem_cons_of_mem _ ?_)) ?_ | refine SubL.skip ?_)) (by repeat (first | exact OwnL.refl | apply OwnL.take (by repeat (first | exact Take.head _ | apply Take.tail)) | apply OwnL.drop))) rfl rfl rfl (Rd.andU (a := s[i]!.toNat) (b := 15) rfl rfl rfl rfl rfl rfl hc (by decide)) ?_
      refine WD.take 10 rfl (by kernel_rfl) (Held.mk' (by repeat (first | exact SubL.refl | refine SubL.cons (by repeat (first | assumption | exact List.mem_cons_self | refine List.mem_cons_of_mem _ ?_)) ?_ | refine SubL.skip ?_)) (by repeat (first | exact OwnL.refl | apply OwnL.take (by repeat (first | exact Take.head _ | apply Take.tail)) | apply OwnL.drop))) rfl rfl rfl (Rd.sidx (k := s[i]!.toNat % 16) rfl Tryd.underlying9 rfl rfl (by rw [show (15 : Nat) = 2 ^ 4 - 1 from rfl, Nat.and_two_pow_sub_one_eq_mod]) (digs_get (Nat.mod_lt _ (by decide)))) ?_
      refine WD.one 11 rfl (by kernel_rfl) rfl ?_
      refine OpW.buildSl (ps := [(0, _), (1, _)]) rfl S43 (by repeat (first | exact Evs.nil | apply Evs.cons rfl)) rfl rfl (by repeat (first | exact CellsOf.nil | apply CellsOf.cons rfl)) (by kernel_rfl) rfl rfl rfl ?_; intro b23
      refine ⟨(Held.mk' (by repeat (first | exact SubL.refl | refine SubL.cons (by repeat (first | assumption | exact List.mem_cons_self | refine List.mem_cons_of_mem _ ?_)) ?_ | refine SubL.skip ?_)) (by repeat (first | exact OwnL.refl | apply OwnL.take (by repeat (first | exact Take.head _ | apply Take.tail)) | apply OwnL.drop))), ?_⟩
      refine WD.one 12 rfl (by kernel_rfl) rfl ?_
      refine OpW.appendRow (enc := one vy) rfl S43 rfl rfl (by repeat (first | assumption | exact Take.head _ | apply Take.tail)) (by repeat (first | assumption | exact Take.head _ | apply Take.tail)) (hx s[i]!) rfl (by rfl) rfl (by intro x; first | rfl | (cases x; rfl) | (rcases x with ⟨_, _, _⟩; rfl) | (rcases x with ⟨_, _, _, _⟩; rfl)) (by intro x; first | rfl | (cases x; rfl) | (rcases x with ⟨_, _, _⟩; rfl) | (rcases x with ⟨_, _, _, _⟩; rfl)) ⟨by simp only [maxLen, List.length_append, List.length_nil, List.length_cons, List.length_drop, List.length_take, List.length_map]; omega, by first | omega | (simp only [List.length_append, List.length_nil, List.length_cons, List.length_drop, List.length_take, List.length_map]; omega)⟩ rfl rfl ?_; intro v24 hv24
      refine ⟨(Held.mk' (by repeat (first | exact SubL.refl | refine SubL.cons (by repeat (first | assumption | exact List.mem_cons_self | refine List.mem_cons_of_mem _ ?_)) ?_ | refine SubL.skip ?_)) (by repeat (first | exact OwnL.refl | apply OwnL.take (by repeat (first | exact Take.head _ | apply Take.tail)) | apply OwnL.drop))), ?_⟩
      refine WD.take 13 rfl (by kernel_rfl) (Held.mk' (by repeat (first | exact SubL.refl | refine SubL.cons (by repeat (first | assumption | exact List.mem_cons_self | refine List.mem_cons_of_mem _ ?_)) ?_ | refine SubL.skip ?_)) (by repeat (first | exact OwnL.refl | apply OwnL.take (by repeat (first | exact Take.head _ | apply Take.tail)) | apply OwnL.drop))) rfl rfl rfl (Rd.assign rfl rfl) ?_
      refine WD.done (by kernel_rfl) ?_
      refine blockQ.normal ?_
      refine thenQ.normal ?_
      refine WC.region ?_
      refine WL.rd rfl rfl rfl (Rd.add rfl rfl rfl (by omega)) ?_
      refine WL.rd rfl rfl rfl (Rd.move rfl rfl) ?_
      refine WL.nil ?_
      -- next1_1
      exact loopQ2.mk (i + 1) v24 ⟨by omega, hv24⟩ (by omega) (by repeat (first | exact Sub.nil | refine Sub.cons rfl (by first | rfl | (congr 1; omega) | assumption) ?_)) (fun w h => by rw [hs]; exact (fun w h => OwnL.sat (by repeat (first | exact OwnL.refl | apply OwnL.take (by repeat (first | exact Take.head _ | apply Take.tail)) | apply OwnL.drop)) w (h.thin (SubL.mem (by repeat (first | exact SubL.refl | refine SubL.cons (by repeat (first | assumption | exact List.mem_cons_self | refine List.mem_cons_of_mem _ ?_)) ?_ | refine SubL.skip ?_))))) w h)
    · skip
      have hi : s.take i = s := List.take_of_length_le (by omega)
      rw [hi]
      refine WC.exit ?_
      refine thenQ.exit ?_
      refine loopQ2.exit ?_
      refine blockQ.exit ?_
      refine thenQ.normal ?_
      refine WC.seq ?_
      refine WC.region ?_
      refine WL.rd rfl rfl rfl (Rd.move rfl rfl) ?_
      refine WL.rd rfl rfl rfl ((by first | exact Rd.strOfA rfl Tryd.underlying43 Tryd.underlying9 Tryd.underlying5 rfl (by repeat (first | assumption | exact List.mem_cons_self | refine List.mem_cons_of_mem _ ?_)) | exact Rd.strOfE rfl Tryd.underlying43 Tryd.underlying9 Tryd.underlying5 rfl (by repeat (first | assumption | exact List.mem_cons_self | refine List.mem_cons_of_mem _ ?_)) | exact Rd.strOfR rfl Tryd.underlying43 Tryd.underlying9 Tryd.underlying5 rfl (by repeat (first | assumption | exact List.mem_cons_self | refine List.mem_cons_of_mem _ ?_)) rfl rfl (by omega))) ?_
      refine WL.rd rfl rfl rfl (Rd.assign rfl rfl) ?_
      refine WL.nil ?_
      refine thenQ.normal ?_
      -- ret_2
      refine WC.heap (R' := R) (O' := O) (fun w h => OwnL.sat (by repeat (first | exact OwnL.refl | apply OwnL.take (by repeat (first | exact Take.head _ | apply Take.tail)) | apply OwnL.drop)) w (h.thin (SubL.mem (by repeat (first | exact SubL.refl | refine SubL.cons (by repeat (first | assumption | exact List.mem_cons_self | refine List.mem_cons_of_mem _ ?_)) ?_ | refine SubL.skip ?_))))) ?_
      refine WC.ret (Ret.one Tryd.results13 rfl ?_)
      exact hk
theorem one_cut {n : Nat} (h : n < 16) : (digs.take (n + 1)).drop n = [dg n] := by
  have : ∀ n, n < 16 → (digs.take (n + 1)).drop n = [dg n] := by decide +kernel
  exact this n h
set_option maxHeartbeats 1000000 in
theorem rhex_spec {R : List RO} {O : List Own} {POST : Value → List RO → List Own → Prop} {s : List UInt8} (hk : POST (vs (hexE s)) R O) : Fun Tryd.prog 14 #[vs s] R O POST := by
  unfold hexE at hk
  refine Fun.enter (l := [_]) Tryd.func14 rfl Tryd.ntmps14 rfl (L0 := [(0, _)]) rfl ?_
  refine WC.seq ?_
  refine WC.region ?_
  refine WL.rd rfl rfl rfl (Rd.assign rfl rfl) ?_
  refine WL.nil ?_
  refine thenQ.normal ?_
  refine WC.seq ?_
  refine WC.region ?_
  refine WL.rd rfl rfl rfl (Rd.assign rfl rfl) ?_
  refine WL.nil ?_
  refine thenQ.normal ?_
  refine WC.seq ?_
  refine WC.seq ?_
  refine WC.region ?_
  refine WL.rd rfl rfl rfl (Rd.move rfl rfl) ?_
  refine WL.rd rfl rfl rfl (Rd.slen (ts := #[]) (ty := 0) rfl rfl Tryd.underlying9) ?_
  refine WL.rd rfl rfl rfl (Rd.neq rfl rfl rfl) ?_
  refine WL.nil ?_
  refine thenQ.normal ?_
  first | refine WC.ite rfl (fun hc1 => ?_) (fun hc1 => ?_) | refine WC.cond rfl (fun hc1 => ?_) (fun hc1 => ?_)
  · skip
    refine WC.seq ?_
    refine WC.region ?_
    refine WL.rd rfl rfl rfl (Rd.assign rfl rfl) ?_
    refine WL.nil ?_
    refine thenQ.normal ?_
    -- ret_1
    refine WC.ret (Ret.one Tryd.results14 rfl ?_)
    rw [if_pos (by omega)] at hk; exact hk
  · skip
    rw [if_neg (by omega)] at hk
    refine WC.skip ?_
    refine thenQ.normal ?_
    refine WC.seq ?_
    refine WC.seq ?_
    refine WC.region ?_
    refine WL.rd rfl rfl rfl (Rd.assign rfl rfl) ?_
    refine WL.nil ?_
    refine thenQ.normal ?_
    refine WC.block ?_
    refine WC.pick [4, 3, 0] (by repeat (first | exact Pick.nil | apply Pick.cons rfl)) ?_
    refine WC.loop1o 2 (fun (i : Nat) => [(4, .int .i64 (i : Int)), (3, vs ((s.take i).flatMap hx))]) (fun (i : Nat) => i ≤ 32) (fun (i : Nat) => 32 - i) (0) (by repeat (first | exact Split.zero | apply Split.succ)) ?hinv1 (by repeat (first | exact Sub.nil | refine Sub.cons rfl (by first | rfl | (congr 1; omega) | assumption) ?_)) (fun _ h => h) ?_
    case hinv1 =>
      exact Nat.zero_le _
    intro i
    rintro i1
    refine WC.seq ?_
    refine WC.seq ?_
    refine WC.region ?_
    refine WL.rd rfl rfl rfl (Rd.move rfl rfl) ?_
    refine WL.rd rfl rfl rfl (Rd.lss rfl rfl rfl) ?_
    refine WL.nil ?_
    refine thenQ.normal ?_
    first | refine WC.ite rfl (fun hc2 => ?_) (fun hc2 => ?_) | refine WC.cond rfl (fun hc2 => ?_) (fun hc2 => ?_)
    · skip
      have hs := hx_snoc (s := s) (i := i) (by omega)
      have hl := hx_length (s.take i)
      rw [List.length_take] at hl
      have hc := UInt8.toNat_lt s[i]!
      have hdl : digs.length = 16 := by decide
      refine WC.skip ?_
      refine thenQ.normal ?_
      refine WC.seq ?_
      refine WC.block ?_
      refine WC.seq ?_
      refine WC.region ?_
      refine WL.rd rfl rfl rfl (Rd.assign rfl rfl) ?_
      refine WL.nil ?_
      refine thenQ.normal ?_
      refine WC.still mixed (by kernel_rfl) ?_
      refine WA.rd rfl rfl rfl (Rd.move rfl rfl) ?_
      refine WA.rd rfl rfl rfl (Rd.move rfl rfl) ?_
      refine WA.rd rfl rfl rfl (Rd.move rfl rfl) ?_
      refine WA.rd rfl rfl rfl (Rd.move rfl rfl) ?_
      refine WA.rd rfl rfl rfl (Rd.sidx (k := i) rfl Tryd.underlying9 rfl rfl (by omega) (by first | assumption | rfl | exact get!_of_lt (by omega))) ?_
      refine WA.rd rfl rfl rfl (Rd.quoN (a := s[i]!.toNat) (b := 16) rfl rfl rfl rfl rfl (by decide) (wrap_natU rfl (show _ < 256 by omega))) ?_
      refine WA.rd rfl rfl rfl (Rd.move rfl rfl) ?_
      refine WA.rd rfl rfl rfl (Rd.move rfl rfl) ?_
      refine WA.rd rfl rfl rfl (Rd.sidx (k := i) rfl Tryd.underlying9 rfl rfl (by omega) (by first | assumption | rfl | exact get!_of_lt (by omega))) ?_
      refine WA.rd rfl rfl rfl (Rd.quoN (a := s[i]!.toNat) (b := 16) rfl rfl rfl rfl rfl (by decide) (wrap_natU rfl (show _ < 256 by omega))) ?_
      refine WA.rd rfl rfl rfl (Rd.addk (r := ((s[i]!.toNat / 16 + 1 : Nat) : Int)) rfl rfl rfl (by rw [wrap_u8 (by omega)]; omega)) ?_
      refine WA.rd rfl rfl rfl (Rd.scut_lh (s := digs) (lo := s[i]!.toNat / 16) (hi := s[i]!.toNat / 16 + 1) rfl Tryd.underlying9 rfl rfl rfl rfl rfl (by omega) (by omega)) ?_
      refine WA.say 24 (u := vs [dg (s[i]!.toNat / 16)]) rfl (by rw [one_cut (by omega)]) ?_
      refine WA.rd rfl rfl rfl (Rd.move rfl rfl) ?_
      refine WA.rd rfl rfl rfl (Rd.move rfl rfl) ?_
      refine WA.rd rfl rfl rfl (Rd.move rfl rfl) ?_
      refine WA.rd rfl rfl rfl (Rd.sidx (k := i) rfl Tryd.underlying9 rfl rfl (by omega) (by first | assumption | rfl | exact get!_of_lt (by omega))) ?_
      refine WA.rd rfl rfl rfl (Rd.remN (a := s[i]!.toNat) (b := 16) rfl rfl rfl rfl rfl (by decide)) ?_
      refine WA.rd rfl rfl rfl (Rd.move rfl rfl) ?_
      refine WA.rd rfl rfl rfl (Rd.move rfl rfl) ?_
      refine WA.rd rfl rfl rfl (Rd.sidx (k := i) rfl Tryd.underlying9 rfl rfl (by omega) (by first | assumption | rfl | exact get!_of_lt (by omega))) ?_
      refine WA.rd rfl rfl rfl (Rd.remN (a := s[i]!.toNat) (b := 16) rfl rfl rfl rfl rfl (by decide)) ?_
      refine WA.rd rfl rfl rfl (Rd.addk (r := ((s[i]!.toNat % 16 + 1 : Nat) : Int)) rfl rfl rfl (by rw [wrap_u8 (by omega)]; omega)) ?_
      refine WA.rd rfl rfl rfl (Rd.scut_lh (s := digs) (lo := s[i]!.toNat % 16) (hi := s[i]!.toNat % 16 + 1) rfl Tryd.underlying9 rfl rfl rfl rfl rfl (by omega) (by omega)) ?_
      refine WA.say 35 (u := vs [dg (s[i]!.toNat % 16)]) rfl (by rw [one_cut (by omega)]) ?_
      refine WA.rd rfl rfl rfl (Rd.scat rfl rfl rfl (by simp)) ?_
      refine WA.rd rfl rfl rfl (Rd.scat rfl rfl rfl (by rw [hl, List.length_append, List.length_singleton, List.length_singleton]; omega)) ?_
      refine WA.say 37 (u := vs ((s.take (i + 1)).flatMap hx)) rfl (by rw [hs]; rfl) ?_
      refine WA.rd rfl rfl rfl (Rd.assign rfl rfl) ?_
      refine WA.nil ?_
      refine blockQ.normal ?_
      refine thenQ.normal ?_
      refine WC.region ?_
      refine WL.rd rfl rfl rfl (Rd.move rfl rfl) ?_
      refine WL.rd rfl rfl rfl (Rd.add rfl rfl rfl (by omega)) ?_
      refine WL.rd rfl rfl rfl (Rd.assign rfl rfl) ?_
      refine WL.nil ?_
      -- next1_1
      exact loopQ1.mk (i + 1) (by omega) (by omega) (by repeat (first | exact Sub.nil | refine Sub.cons rfl (by first | rfl | (congr 1; omega) | assumption) ?_)) (fun w h => OwnL.sat (by repeat (first | exact OwnL.refl | apply OwnL.take (by repeat (first | exact Take.head _ | apply Take.tail)) | apply OwnL.drop)) w (h.thin (SubL.mem (by repeat (first | exact SubL.refl | refine SubL.cons (by repeat (first | assumption | exact List.mem_cons_self | refine List.mem_cons_of_mem _ ?_)) ?_ | refine SubL.skip ?_)))))
    · skip
      have hi : s.take i = s := List.take_of_length_le (by omega)
      rw [hi]
      refine WC.exit ?_
      refine thenQ.exit ?_
      refine loopQ1.exit ?_
      refine blockQ.exit ?_
      refine thenQ.normal ?_
      refine WC.seq ?_
      refine WC.region ?_
      refine WL.rd rfl rfl rfl (Rd.move rfl rfl) ?_
      refine WL.rd rfl rfl rfl (Rd.assign rfl rfl) ?_
      refine WL.nil ?_
      refine thenQ.normal ?_
      -- ret_2
      refine WC.ret (Ret.one Tryd.results14 rfl ?_)
      exact hk

/-- What stands in byte k when i digits are read. -/
def pcell (s : List UInt8) (i k : Nat) : Nat := if 2 * k + 1 < i then nib s[2 * k]! * 16 + nib s[2 * k + 1]! else if 2 * k < i then nib s[2 * k]! else 0
def prow (s : List UInt8) (i : Nat) : List Value := (List.range 32).map fun k => vy (UInt8.ofNat (pcell s i k))
theorem prow_length (s : List UInt8) (i : Nat) : (prow s i).length = 32 := by simp [prow]
theorem prow_get (s : List UInt8) (i : Nat) {k : Nat} (h : k < 32) : (prow s i)[k]? = some (vy (UInt8.ofNat (pcell s i k))) := by
  rw [prow, List.getElem?_map, List.getElem?_range h]; rfl
theorem prow_set {s : List UInt8} {i : Nat} (h : i < 64) : (prow s i).set (i / 2) (vy (UInt8.ofNat (pcell s (i + 1) (i / 2)))) = prow s (i + 1) := by
  apply List.ext_getElem?
  intro k
  by_cases hk : k < 32
  · rw [prow_get _ _ hk, List.getElem?_set]
    by_cases e : i / 2 = k
    · subst e
      rw [if_pos rfl, if_pos (by rw [prow_length]; exact hk)]
    · rw [if_neg e, prow_get _ _ hk]
      have : pcell s i k = pcell s (i + 1) k := by
        unfold pcell
        by_cases h1 : 2 * k + 1 < i
        · rw [if_pos h1, if_pos (by omega)]
        · rw [if_neg h1, if_neg (show ¬ 2 * k + 1 < i + 1 by omega)]
          by_cases h2 : 2 * k < i
          · omega
          · rw [if_neg h2, if_neg (show ¬ 2 * k < i + 1 by omega)]
      rw [this]
  · rw [List.getElem?_eq_none (by rw [List.length_set, prow_length]; omega), List.getElem?_eq_none (by rw [prow_length]; omega)]
theorem pcell_lt {s : List UInt8} {i : Nat} (hd : ∀ j, j < i → 0 ≤ val s[j]!) (k : Nat) : pcell s i k < 256 := by
  unfold pcell
  split
  · have h1 := nib_lt (hd (2 * k) (by omega)); have h2 := nib_lt (hd (2 * k + 1) (by omega)); omega
  · split
    · have h1 := nib_lt (hd (2 * k) (by omega)); omega
    · decide
theorem pcell_step {s : List UInt8} {i : Nat} (hd : ∀ j, j < i + 1 → 0 ≤ val s[j]!) : (pcell s i (i / 2) * 2 ^ 4 % 2 ^ 8) ||| nib s[i]! = pcell s (i + 1) (i / 2) := by
  have hn := nib_lt (hd i (by omega))
  unfold pcell
  rcases Nat.mod_two_eq_zero_or_one i with h | h
  · have e : 2 * (i / 2) = i := by omega
    rw [e, if_neg (by omega), if_neg (by omega), if_neg (by omega), if_pos (by omega)]
    simp
  · have e : 2 * (i / 2) + 1 = i := by omega
    have h2 := nib_lt (hd (2 * (i / 2)) (by omega))
    rw [e, if_neg (by omega), if_pos (by omega), if_pos (by omega), Nat.mod_eq_of_lt (by omega), Nat.mul_comm, ← Nat.two_pow_add_eq_or_of_lt (by omega)]
set_option maxHeartbeats 1000000 in
theorem parse_spec {R : List RO} {O : List Own} {POST : Value → List RO → List Own → Prop} {s : List UInt8}
    (hk : POST (.tuple #[vs (if s.length = 64 ∧ Digs s then parseR s else []), .bool (decide (s.length = 64 ∧ Digs s))]) R O) : Fun Tryd.prog 15 #[vs s] R O POST := by
  refine Fun.enter (l := [_]) Tryd.func15 rfl Tryd.ntmps15 rfl (L0 := [(0, _)]) rfl ?_
  refine WC.seq ?_
  refine WC.region ?_
  refine WL.rd rfl rfl rfl (Rd.assign rfl rfl) ?_
  refine WL.rd rfl rfl rfl (Rd.assign rfl rfl) ?_
  refine WL.nil ?_
  refine thenQ.normal ?_
  refine WC.seq ?_
  refine WC.seq ?_
  refine WC.region ?_
  refine WL.rd rfl rfl rfl (Rd.move rfl rfl) ?_
  refine WL.rd rfl rfl rfl (Rd.slen (ts := #[]) (ty := 0) rfl rfl Tryd.underlying9) ?_
  refine WL.rd rfl rfl rfl (Rd.neq rfl rfl rfl) ?_
  refine WL.nil ?_
  refine thenQ.normal ?_
  first | refine WC.ite rfl (fun hc1 => ?_) (fun hc1 => ?_) | refine WC.cond rfl (fun hc1 => ?_) (fun hc1 => ?_)
  · skip
    refine WC.seq ?_
    refine WC.region ?_
    refine WL.rd rfl rfl rfl (Rd.assign rfl rfl) ?_
    refine WL.rd rfl rfl rfl (Rd.assign rfl rfl) ?_
    refine WL.nil ?_
    refine thenQ.normal ?_
    -- ret_1
    refine WC.ret (Ret.two Tryd.results15 rfl rfl ?_)
    rw [if_neg (fun h => by omega), decide_eq_false (fun h => by omega)] at hk; exact hk
  · skip
    refine WC.skip ?_
    refine thenQ.normal ?_
    refine WC.seq ?_
    refine WC.region ?_
    refine WL.op rfl ?_
    refine OpW.make1 (m := 32) (c := 32) rfl S43 rfl rfl rfl rfl rfl (by omega) (by omega) (by omega) rfl rfl ?_; intro b10
    refine WL.rd rfl rfl rfl (Rd.assign rfl rfl) ?_
    refine WL.nil ?_
    refine thenQ.normal ?_
    refine WC.seq ?_
    refine WC.seq ?_
    refine WC.region ?_
    refine WL.rd rfl rfl rfl (Rd.move rfl rfl) ?_
    refine WL.rd rfl rfl rfl (Rd.slen (ts := #[]) (ty := 0) rfl rfl Tryd.underlying9) ?_
    refine WL.rd rfl rfl rfl (Rd.move rfl rfl) ?_
    refine WL.nil ?_
    refine thenQ.normal ?_
    refine WC.block ?_
    refine WC.pick [13, 0, 4, 12] (by repeat (first | exact Pick.nil | apply Pick.cons rfl)) ?_
    refine WC.loop1 1 (fun (i : Nat) => [(13, .int .i64 (i : Int))]) (fun (i : Nat) => rowC b10 5 (prow s i) :: O) (fun (i : Nat) => i ≤ 64 ∧ ∀ j, j < i → 0 ≤ val s[j]!) (fun (i : Nat) => 64 - i) (0) (by repeat (first | exact Split.zero | apply Split.succ)) ?hinv1 (by repeat (first | exact Sub.nil | refine Sub.cons rfl (by first | rfl | (congr 1; omega) | assumption) ?_)) (fun _ h => h) ?_
    case hinv1 =>
      exact ⟨Nat.zero_le _, fun j hj => absurd hj (Nat.not_lt_zero _)⟩
    intro i
    rintro ⟨i1, i2⟩
    have hpl := prow_length s i
    refine WC.seq ?_
    refine WC.region ?_
    refine WL.rd rfl rfl rfl (Rd.lss rfl rfl rfl) ?_
    refine WL.nil ?_
    refine thenQ.normal ?_
    refine WC.seq ?_
    first | refine WC.ite rfl (fun hc2 => ?_) (fun hc2 => ?_) | refine WC.cond rfl (fun hc2 => ?_) (fun hc2 => ?_)
    · skip
      refine WC.skip ?_
      refine thenQ.normal ?_
      refine WC.seq ?_
      refine WC.block ?_
      refine WC.seq ?_
      refine WC.region ?_
      refine WL.rd rfl rfl rfl (Rd.move rfl rfl) ?_
      refine WL.rd rfl rfl rfl (Rd.assign rfl rfl) ?_
      refine WL.nil ?_
      refine thenQ.normal ?_
      refine WC.seq ?_
      refine WC.region ?_
      refine WL.rd rfl rfl rfl (Rd.move rfl rfl) ?_
      refine WL.rd rfl rfl rfl (Rd.move rfl rfl) ?_
      refine WL.rd rfl rfl rfl (Rd.sidx (k := i) rfl Tryd.underlying9 rfl rfl (by omega) (by first | assumption | rfl | exact get!_of_lt (by omega))) ?_
      refine WL.op rfl ?_
      refine OpW.call rfl rfl (by repeat (first | exact Evs.nil | apply Evs.cons rfl)) (by kernel_rfl) rfl rfl rfl ?_
      refine Fun.still (v := .int .i64 (val s[i]!)) (fun w => by
        have := Tryd.strings_IndexByte ⟨digs.toArray⟩ (s[i]!.toNat : Int) w
        rw [Int.toNat_natCast, show s[i]!.toNat.toUInt8 = s[i]! from UInt8.ofNat_toNat] at this
        exact this) ?_
      refine WL.rd rfl rfl rfl (Rd.assign rfl rfl) ?_
      refine WL.nil ?_
      refine thenQ.normal ?_
      refine WC.seq ?_
      refine WC.seq ?_
      refine WC.region ?_
      refine WL.rd rfl rfl rfl (Rd.move rfl rfl) ?_
      refine WL.rd rfl rfl rfl (Rd.lss rfl rfl rfl) ?_
      refine WL.nil ?_
      refine thenQ.normal ?_
      first | refine WC.ite rfl (fun hc3 => ?_) (fun hc3 => ?_) | refine WC.cond rfl (fun hc3 => ?_) (fun hc3 => ?_)
      · skip
        refine WC.seq ?_
        refine WC.region ?_
        refine WL.rd rfl rfl rfl (Rd.assign rfl rfl) ?_
        refine WL.rd rfl rfl rfl (Rd.assign rfl rfl) ?_
        refine WL.nil ?_
        refine thenQ.normal ?_
        -- ret_2
        refine WC.heap (R' := R) (O' := O) (fun w h => OwnL.sat (by repeat (first | exact OwnL.refl | apply OwnL.take (by repeat (first | exact Take.head _ | apply Take.tail)) | apply OwnL.drop)) w (h.thin (SubL.mem (by repeat (first | exact SubL.refl | refine SubL.cons (by repeat (first | assumption | exact List.mem_cons_self | refine List.mem_cons_of_mem _ ?_)) ?_ | refine SubL.skip ?_))))) ?_
        refine WC.ret (Ret.two Tryd.results15 rfl rfl ?_)
        have hnd : ¬ (s.length = 64 ∧ Digs s) := fun h => by
          have := h.2 s[i]! (by rw [getElem!_pos s i (by omega)]; exact List.getElem_mem _)
          omega
        rw [if_neg hnd, decide_eq_false hnd] at hk
        exact hk
      · skip
        have i2' : ∀ j, j < i + 1 → 0 ≤ val s[j]! := fun j hj => by
          rcases Nat.lt_or_ge j i with h | h
          · exact i2 j h
          · obtain rfl : j = i := by omega
            omega
        have hnl := nib_lt (i2' i (by omega))
        have hpc := pcell_lt i2 (i / 2)
        have hvn : val s[i]! = (nib s[i]! : Int) := by unfold nib; omega
        have e8 : ∀ m : Nat, m < 256 → (UInt8.ofNat m).toNat = m := fun m h => by simp; omega
        refine WC.skip ?_
        refine thenQ.normal ?_
        refine WC.region ?_
        refine WL.rd rfl rfl rfl (Rd.move rfl rfl) ?_
        refine WL.rd rfl rfl rfl (Rd.move rfl rfl) ?_
        refine WL.rd rfl rfl rfl (Rd.quoI (a := i) (b := 2) rfl rfl rfl rfl rfl (by decide) (by omega)) ?_
        refine WL.rd rfl rfl rfl (Rd.move rfl rfl) ?_
        refine WL.rd rfl rfl rfl (Rd.move rfl rfl) ?_
        refine WL.rd rfl rfl rfl (Rd.quoI (a := i) (b := 2) rfl rfl rfl rfl rfl (by decide) (by omega)) ?_
        refine WL.rd rfl rfl rfl (Rd.idxR1 (k := i / 2) rfl S43 rfl rfl rfl (by omega)) ?_
        refine WL.rd rfl rfl rfl (Rd.row1 rfl C5 rfl (by repeat (first | assumption | exact List.mem_cons_self | refine List.mem_cons_of_mem _ ?_)) (prow_get s i (by omega))) ?_
        refine WL.rd rfl rfl rfl (Rd.shlN (k := .u8) (a := pcell s i (i / 2)) (n := 4) rfl rfl rfl (by rw [e8 _ hpc]) rfl (by decide) rfl) ?_
        refine WL.rd rfl rfl rfl (Rd.move rfl rfl) ?_
        refine WL.rd rfl rfl rfl (Rd.conv rfl rfl Tryd.underlying5 (by rw [hvn]; exact wrap_natU rfl (show _ < 256 by omega))) ?_
        refine WL.rd rfl rfl rfl (Rd.orU (k := .u8) (b := nib s[i]!) rfl rfl rfl rfl rfl hvn (Nat.mod_lt _ (by decide)) (show _ < 256 by omega)) ?_
        refine WL.say 33 (u := vy (UInt8.ofNat (pcell s (i + 1) (i / 2)))) rfl (by
        rw [vy, e8 _ (pcell_lt i2' _), ← pcell_step i2']; rfl) ?_
        refine WL.rd rfl rfl rfl (Rd.idxR1 (k := i / 2) rfl S43 rfl rfl rfl (by omega)) ?_
        refine WL.op rfl ?_
        refine OpW.store1 rfl Z5 rfl rfl (by first | exact ⟨rfl, rfl⟩ | assumption) (by repeat (first | assumption | exact Take.head _ | apply Take.tail)) (by first | (simp; done) | omega | exact of_decide_eq_true rfl | (simp only [List.length_append, List.length_replicate, List.length_map, List.length_set]; omega)) rfl ?_
        refine WL.heap (fun w h => by rw [prow_set (by omega)] at h; exact h) ?_
        refine WL.nil ?_
        refine blockQ.normal ?_
        refine thenQ.normal ?_
        refine WC.region ?_
        refine WL.rd rfl rfl rfl (Rd.add rfl rfl rfl (by omega)) ?_
        refine WL.rd rfl rfl rfl (Rd.move rfl rfl) ?_
        refine WL.nil ?_
        -- next1_1
        exact loopQ1.mk (i + 1) ⟨by omega, i2'⟩ (by omega) (by repeat (first | exact Sub.nil | refine Sub.cons rfl (by first | rfl | (congr 1; omega) | assumption) ?_)) (fun w h => OwnL.sat (by repeat (first | exact OwnL.refl | apply OwnL.take (by repeat (first | exact Take.head _ | apply Take.tail)) | apply OwnL.drop)) w (h.thin (SubL.mem (by repeat (first | exact SubL.refl | refine SubL.cons (by repeat (first | assumption | exact List.mem_cons_self | refine List.mem_cons_of_mem _ ?_)) ?_ | refine SubL.skip ?_)))))
    · skip
      obtain rfl : i = 64 := by omega
      have hds : Digs s := fun c hc => by
        obtain ⟨j, hj, rfl⟩ := List.getElem_of_mem hc
        have := i2 j (by omega)
        rwa [getElem!_pos s j hj] at this
      have hand : s.length = 64 ∧ Digs s := ⟨by omega, hds⟩
      rw [if_pos hand, decide_eq_true hand] at hk
      have hpr : (parseR s).map vy = prow s 64 := by
        apply List.ext_getElem?
        intro k
        by_cases h : k < 32
        · rw [prow_get _ _ h, List.getElem?_map, parse_get (by omega), pcell, if_pos (by omega)]; rfl
        · rw [List.getElem?_eq_none (by rw [List.length_map, (hex_parse (by omega) hds).2]; omega), List.getElem?_eq_none (by rw [prow_length]; omega)]
      refine WC.exit ?_
      refine thenQ.exit ?_
      refine loopQ1.exit ?_
      refine blockQ.exit ?_
      refine thenQ.normal ?_
      refine WC.seq ?_
      refine WC.region ?_
      refine WL.rd rfl rfl rfl (Rd.move rfl rfl) ?_
      refine WL.rd rfl rfl rfl (Rd.strOfR (bs := parseR s) rfl Tryd.underlying43 Tryd.underlying9 Tryd.underlying5 rfl (by repeat (first | assumption | exact List.mem_cons_self | refine List.mem_cons_of_mem _ ?_)) hpr (by rw [(hex_parse (by omega) hds).2]; omega) (by omega)) ?_
      refine WL.rd rfl rfl rfl (Rd.assign rfl rfl) ?_
      refine WL.rd rfl rfl rfl (Rd.assign rfl rfl) ?_
      refine WL.nil ?_
      refine thenQ.normal ?_
      -- ret_3
      refine WC.heap (R' := R) (O' := O) (fun w h => OwnL.sat (by repeat (first | exact OwnL.refl | apply OwnL.take (by repeat (first | exact Take.head _ | apply Take.tail)) | apply OwnL.drop)) w (h.thin (SubL.mem (by repeat (first | exact SubL.refl | refine SubL.cons (by repeat (first | assumption | exact List.mem_cons_self | refine List.mem_cons_of_mem _ ?_)) ?_ | refine SubL.skip ?_))))) ?_
      refine WC.ret (Ret.two Tryd.results15 rfl rfl ?_)
      exact hk
end Go.Proofs.YtcojkjalpkagoaaDoor
