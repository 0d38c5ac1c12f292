/-
  Walks of layer 19: common, the table of the longest common subsequences.
-/
import Derived.Test.YtpicbbkmcbhnpaaLd2
import Derived.Test.YtpicbbkmcbhnpaaLcs
namespace Go.Proofs.Ytpicbbkmcbhnpaa
open Go Go.SL Go.Lcs

abbrev vu (n : Nat) : Value := .int .u16 n
abbrev vid (v : Value) : Value := v
/-- The rows of the table, from row m on. -/
def Rows (vsl : List Value) (xs ys : List (List UInt8)) (m : Nat) : RO := fun w => ∀ j, j < vsl.length → SlE (one vu) vsl[j]! (lrow (xs.drop (m + j)) ys) w

/-- The cells of a row of which the places from p on are done. -/
def part (x ys : List (List UInt8)) (p : Nat) : List Value := List.replicate p (.int .u16 0) ++ ((lrow x ys).drop p).map vu
theorem part_length (x ys : List (List UInt8)) {p : Nat} (h : p ≤ ys.length + 1) : (part x ys p).length = ys.length + 1 := by simp [part, lrow_length]; omega
theorem part_get (x ys : List (List UInt8)) {p q : Nat} (h : p ≤ q) (hq : q ≤ ys.length) : (part x ys p)[q]? = some (vu (lcs x (ys.drop q))) := by
  rw [part, List.getElem?_append_right (by simp; exact h)]
  simp only [List.length_replicate, List.getElem?_map, List.getElem?_drop]
  rw [show p + (q - p) = q from by omega, lrow_get x ys hq]; rfl
theorem part_step (x ys : List (List UInt8)) {p : Nat} (h : p ≤ ys.length) : (part x ys (p + 1)).set p (vu (lcs x (ys.drop p))) = part x ys p := by
  unfold part
  have h1 : (lrow x ys).drop p = lcs x (ys.drop p) :: (lrow x ys).drop (p + 1) := by
    have := lrow_get x ys h
    rw [List.drop_eq_getElem_cons (by rw [lrow_length]; omega)]
    rw [List.getElem?_eq_getElem (by rw [lrow_length]; omega), Option.some.injEq] at this
    rw [this]
  rw [h1, List.replicate_succ', List.append_assoc, List.set_append_right _ _ (by simp)]
  simp
theorem part_all (x ys : List (List UInt8)) : List.replicate (ys.length + 1) (Value.int .u16 0) = part x ys (ys.length + 1) := by
  simp [part, lrow_length]

theorem app_get {l1 l2 : List Value} {m : Nat} (hl : l1.length = m) (h : 0 < l2.length) : (l1 ++ l2)[m]? = some l2[0]! := by
  rw [List.getElem?_append_right (by omega), hl, Nat.sub_self]; exact get!_of_lt h
theorem drop_get' {xs : List (List UInt8)} {m : Nat} (h0 : 1 ≤ m) (h : m ≤ xs.length) : xs.drop (m - 1) = xs[m - 1]! :: xs.drop m := by
  have := drop_get (l := xs) (k := m - 1) (by omega)
  rwa [show m - 1 + 1 = m from by omega] at this

theorem part_step' (x ys : List (List UInt8)) {p n : Nat} (h0 : 1 ≤ p) (h : p ≤ ys.length) (hn : n = lcs x (ys.drop (p - 1))) : (part x ys p).set (p - 1) (vu n) = part x ys (p - 1) := by
  have := part_step x ys (p := p - 1) (by omega)
  rw [show p - 1 + 1 = p from by omega] at this
  rw [hn, this]

theorem lrow_last (x ys : List (List UInt8)) : (lrow x ys).drop ys.length = [0] := by
  have := lrow_get x ys (Nat.le_refl ys.length)
  rw [List.drop_eq_getElem_cons (by rw [lrow_length]; omega), List.drop_of_length_le (by rw [lrow_length]; omega)]
  rw [List.getElem?_eq_getElem (by rw [lrow_length]; omega), Option.some.injEq] at this
  rw [this]; simp
theorem part_start (x ys : List (List UInt8)) : List.replicate (ys.length + 1) (Value.int .u16 0) = part x ys ys.length := by
  rw [part, lrow_last, List.replicate_succ']; rfl
theorem part_zero (x ys : List (List UInt8)) : (lrow x ys).flatMap (one vu) = part x ys 0 := by rw [flat_one]; simp [part]
theorem lrow_nil (ys : List (List UInt8)) : (lrow ([] : List (List UInt8)) ys).flatMap (one vu) = List.replicate (ys.length + 1) (Value.int .u16 0) := by
  rw [flat_one]; apply List.ext_getElem <;> simp [lrow]
theorem set_last (n : Nat) (v x : Value) (l : List Value) : (List.replicate (n + 1) v ++ l).set n x = List.replicate n v ++ x :: l := by
  rw [List.set_append_left _ _ (by simp), List.replicate_succ', List.set_append_right _ _ (by simp)]; simp

set_option maxHeartbeats 1000000 in
theorem common_spec {R : List RO} {O : List Own} {POST : Value → List RO → List Own → Prop} {xs ys : List (List UInt8)} {av bv : Value} (ha : Strs av xs ∈ R) (hb : Strs bv ys ∈ R) (hla : xs.length ≤ 4096) (hlb : ys.length ≤ 4096)
    (hk : ∀ v vsl, vsl.length = xs.length + 1 → POST v (SlE (one vid) v vsl :: Rows vsl xs ys 0 :: R) O) : Fun Try.prog 41 #[av, bv] R O POST := by
  refine Fun.enter (l := [_, _]) Try.func41 rfl Try.ntmps41 rfl (L0 := [(0, _), (1, _)]) rfl ?_
  refine WC.seq ?_
  refine WC.region ?_
  refine WL.rd rfl rfl rfl (Rd.assign rfl rfl) ?_
  refine WL.nil ?_
  refine thenQ.normal ?_
  refine WC.seq ?_
  refine WC.region ?_
  refine WL.rd rfl rfl rfl (Rd.move rfl rfl) ?_
  refine WL.rd rfl rfl rfl ((by first | exact Rd.lenE rfl rfl Try.underlying22 (by repeat (first | assumption | exact List.mem_cons_self | refine List.mem_cons_of_mem _ ?_)) | exact Rd.lenA rfl rfl Try.underlying22 (by repeat (first | assumption | exact List.mem_cons_self | refine List.mem_cons_of_mem _ ?_)) | exact Rd.len rfl rfl Try.underlying22)) ?_
  refine WL.rd rfl rfl rfl (Rd.add rfl rfl rfl (by omega)) ?_
  refine WL.op rfl ?_
  refine OpW.make1 (m := xs.length + 1) (c := xs.length + 1) rfl S75 rfl rfl rfl rfl rfl (by omega) (by omega) (by omega) rfl rfl ?_; intro b13
  refine WL.rd rfl rfl rfl (Rd.assign rfl rfl) ?_
  refine WL.nil ?_
  refine thenQ.normal ?_
  refine WC.seq ?_
  refine WC.region ?_
  refine WL.rd rfl rfl rfl (Rd.move rfl rfl) ?_
  refine WL.rd rfl rfl rfl (Rd.move rfl rfl) ?_
  refine WL.rd rfl rfl rfl ((by first | exact Rd.lenE rfl rfl Try.underlying22 (by repeat (first | assumption | exact List.mem_cons_self | refine List.mem_cons_of_mem _ ?_)) | exact Rd.lenA rfl rfl Try.underlying22 (by repeat (first | assumption | exact List.mem_cons_self | refine List.mem_cons_of_mem _ ?_)) | exact Rd.len rfl rfl Try.underlying22)) ?_
  refine WL.rd rfl rfl rfl (Rd.move rfl rfl) ?_
  refine WL.rd rfl rfl rfl ((by first | exact Rd.lenE rfl rfl Try.underlying22 (by repeat (first | assumption | exact List.mem_cons_self | refine List.mem_cons_of_mem _ ?_)) | exact Rd.lenA rfl rfl Try.underlying22 (by repeat (first | assumption | exact List.mem_cons_self | refine List.mem_cons_of_mem _ ?_)) | exact Rd.len rfl rfl Try.underlying22)) ?_
  refine WL.rd rfl rfl rfl (Rd.add rfl rfl rfl (by omega)) ?_
  refine WL.op rfl ?_
  refine OpW.make1 (m := ys.length + 1) (c := ys.length + 1) rfl S78 rfl rfl rfl rfl rfl (by omega) (by omega) (by omega) rfl rfl ?_; intro b20
  refine WL.rd rfl rfl rfl ((by first | exact Rd.idx1 rfl S75 rfl rfl rfl (by repeat (first | assumption | exact List.mem_cons_self | refine List.mem_cons_of_mem _ ?_)) (by first | omega | (simp only [List.length_cons, List.length_nil, List.length_append, List.length_map]; omega)) | exact Rd.idxA1 rfl S75 rfl rfl rfl (by repeat (first | assumption | exact List.mem_cons_self | refine List.mem_cons_of_mem _ ?_)) (by first | omega | (simp only [List.length_cons, List.length_nil, List.length_append, List.length_map]; omega)) | exact Rd.idxR1 rfl S75 rfl rfl rfl (by omega))) ?_
  refine WL.op rfl ?_
  refine OpW.store1 rfl Z78 rfl rfl (by first | exact ⟨rfl, rfl⟩ | assumption) (by repeat (first | assumption | exact Take.head _ | apply Take.tail)) (by first | (simp; done) | omega | exact of_decide_eq_true rfl | (simp only [List.length_append, List.length_replicate, List.length_map, List.length_set]; omega)) rfl ?_
  refine WL.nil ?_
  refine thenQ.normal ?_
  refine WC.seq ?_
  refine WC.seq ?_
  refine WC.region ?_
  refine WL.rd rfl rfl rfl (Rd.move rfl rfl) ?_
  refine WL.rd rfl rfl rfl ((by first | exact Rd.lenE rfl rfl Try.underlying22 (by repeat (first | assumption | exact List.mem_cons_self | refine List.mem_cons_of_mem _ ?_)) | exact Rd.lenA rfl rfl Try.underlying22 (by repeat (first | assumption | exact List.mem_cons_self | refine List.mem_cons_of_mem _ ?_)) | exact Rd.len rfl rfl Try.underlying22)) ?_
  refine WL.rd rfl rfl rfl (Rd.sub rfl rfl rfl (by omega)) ?_
  refine WL.rd rfl rfl rfl (Rd.assign rfl rfl) ?_
  refine WL.nil ?_
  refine thenQ.normal ?_
  refine WC.block ?_
  refine WC.pick [6, 0, 1, 5] (by repeat (first | exact Pick.nil | apply Pick.cons rfl)) ?_
  refine WC.loop2r 1 (fun (m : Nat) (vsl : List Value) => [(6, .int .i64 ((m : Int) - 1))]) (fun (m : Nat) (vsl : List Value) => Rows vsl xs ys m :: R) (fun (m : Nat) (vsl : List Value) => rowC b13 78 (List.replicate m (.slice none 0 0) ++ vsl) :: O) (fun (m : Nat) (vsl : List Value) => m ≤ xs.length ∧ vsl.length + m = xs.length + 1) (fun (m : Nat) (vsl : List Value) => m) (xs.length) ([.slice (some ⟨b20, 0, none⟩) (ys.length + 1) (ys.length + 1)]) (by repeat (first | exact Split.zero | apply Split.succ)) ?hinv1 (by repeat (first | exact Sub.nil | refine Sub.cons rfl (by first | rfl | (congr 1; omega) | assumption) ?_)) (fun w h => by
  have h1 := Sat.shareRow (enc := one vu) (xs := lrow ([] : List (List UInt8)) ys) (by repeat (first | assumption | exact Take.head _ | apply Take.tail)) (lrow_nil ys) (lrow_length _ _) (by omega) h
  have h2 := h1.weaken List.mem_cons_self (q := Rows [.slice (some ⟨b20, 0, none⟩) (ys.length + 1) (ys.length + 1)] xs ys xs.length) (fun w hp j hj => by
  obtain rfl : j = 0 := by simp at hj; exact hj
  show SlE (one vu) _ (lrow (xs.drop (xs.length + 0)) ys) w
  simp only [Nat.add_zero, List.drop_length]; exact hp)
  have e := set_last xs.length (.slice none 0 0) (.slice (some ⟨b20, 0, none⟩) (ys.length + 1) (ys.length + 1)) []
  rw [List.append_nil] at e
  rw [e] at h2
  exact h2.thin (SubL.mem (by repeat (first | exact SubL.refl | refine SubL.cons (by repeat (first | assumption | exact List.mem_cons_self | refine List.mem_cons_of_mem _ ?_)) ?_ | refine SubL.skip ?_)))) ?_
  case hinv1 =>
    exact ⟨Nat.le_refl _, by simp; omega⟩
  intro m vsl
  rintro ⟨h1, h2⟩
  refine WC.seq ?_
  refine WC.seq ?_
  refine WC.region ?_
  refine WL.rd rfl rfl rfl (Rd.move rfl rfl) ?_
  refine WL.rd rfl rfl rfl (Rd.geq rfl rfl rfl) ?_
  refine WL.nil ?_
  refine thenQ.normal ?_
  first | refine WC.ite rfl (fun hc1 => ?_) (fun hc1 => ?_) | refine WC.cond rfl (fun hc1 => ?_) (fun hc1 => ?_)
  · skip
    refine WC.skip ?_
    refine thenQ.normal ?_
    refine WC.seq ?_
    refine WC.block ?_
    refine WC.seq ?_
    refine WC.drawnA 11 rfl mixed ?_
    refine WD.take 0 rfl (by kernel_rfl) (Held.mk' (by repeat (first | exact SubL.refl | refine SubL.cons (by repeat (first | assumption | exact List.mem_cons_self | refine List.mem_cons_of_mem _ ?_)) ?_ | refine SubL.skip ?_)) (by repeat (first | exact OwnL.refl | apply OwnL.take (by repeat (first | exact Take.head _ | apply Take.tail)) | apply OwnL.drop))) rfl rfl rfl (Rd.move rfl rfl) ?_
    refine WD.take 1 rfl (by kernel_rfl) (Held.mk' (by repeat (first | exact SubL.refl | refine SubL.cons (by repeat (first | assumption | exact List.mem_cons_self | refine List.mem_cons_of_mem _ ?_)) ?_ | refine SubL.skip ?_)) (by repeat (first | exact OwnL.refl | apply OwnL.take (by repeat (first | exact Take.head _ | apply Take.tail)) | apply OwnL.drop))) rfl rfl rfl ((by first | exact Rd.lenE rfl rfl Try.underlying22 (by repeat (first | assumption | exact List.mem_cons_self | refine List.mem_cons_of_mem _ ?_)) | exact Rd.lenA rfl rfl Try.underlying22 (by repeat (first | assumption | exact List.mem_cons_self | refine List.mem_cons_of_mem _ ?_)) | exact Rd.len rfl rfl Try.underlying22)) ?_
    refine WD.take 2 rfl (by kernel_rfl) (Held.mk' (by repeat (first | exact SubL.refl | refine SubL.cons (by repeat (first | assumption | exact List.mem_cons_self | refine List.mem_cons_of_mem _ ?_)) ?_ | refine SubL.skip ?_)) (by repeat (first | exact OwnL.refl | apply OwnL.take (by repeat (first | exact Take.head _ | apply Take.tail)) | apply OwnL.drop))) rfl rfl rfl (Rd.add rfl rfl rfl (by omega)) ?_
    refine WD.take 4 rfl (by kernel_rfl) (Held.mk' (by repeat (first | exact SubL.refl | refine SubL.cons (by repeat (first | assumption | exact List.mem_cons_self | refine List.mem_cons_of_mem _ ?_)) ?_ | refine SubL.skip ?_)) (by repeat (first | exact OwnL.refl | apply OwnL.take (by repeat (first | exact Take.head _ | apply Take.tail)) | apply OwnL.drop))) rfl rfl rfl (Rd.move rfl rfl) ?_
    refine WD.take 5 rfl (by kernel_rfl) (Held.mk' (by repeat (first | exact SubL.refl | refine SubL.cons (by repeat (first | assumption | exact List.mem_cons_self | refine List.mem_cons_of_mem _ ?_)) ?_ | refine SubL.skip ?_)) (by repeat (first | exact OwnL.refl | apply OwnL.take (by repeat (first | exact Take.head _ | apply Take.tail)) | apply OwnL.drop))) rfl rfl rfl (Rd.move rfl rfl) ?_
    refine WD.take 6 rfl (by kernel_rfl) (Held.mk' (by repeat (first | exact SubL.refl | refine SubL.cons (by repeat (first | assumption | exact List.mem_cons_self | refine List.mem_cons_of_mem _ ?_)) ?_ | refine SubL.skip ?_)) (by repeat (first | exact OwnL.refl | apply OwnL.take (by repeat (first | exact Take.head _ | apply Take.tail)) | apply OwnL.drop))) rfl rfl rfl (Rd.add rfl rfl rfl (by omega)) ?_
    refine WD.take 7 rfl (by kernel_rfl) (Held.mk' (by repeat (first | exact SubL.refl | refine SubL.cons (by repeat (first | assumption | exact List.mem_cons_self | refine List.mem_cons_of_mem _ ?_)) ?_ | refine SubL.skip ?_)) (by repeat (first | exact OwnL.refl | apply OwnL.take (by repeat (first | exact Take.head _ | apply Take.tail)) | apply OwnL.drop))) rfl rfl rfl (Rd.idxR1 (k := m) rfl S75 rfl rfl (by omega) (by omega)) ?_
    refine WD.take 8 rfl (by kernel_rfl) (Held.mk' (by repeat (first | exact SubL.refl | refine SubL.cons (by repeat (first | assumption | exact List.mem_cons_self | refine List.mem_cons_of_mem _ ?_)) ?_ | refine SubL.skip ?_)) (by repeat (first | exact OwnL.refl | apply OwnL.take (by repeat (first | exact Take.head _ | apply Take.tail)) | apply OwnL.drop))) rfl rfl rfl (Rd.row1 (u := vsl[0]!) rfl C78 rfl (by repeat (first | assumption | exact List.mem_cons_self | refine List.mem_cons_of_mem _ ?_)) (app_get (by simp) (by omega))) ?_
    refine WD.heap (fun w h => h.weaken List.mem_cons_self (q := SlE (one vu) vsl[0]! (lrow (xs.drop m) ys)) (fun w hp => hp 0 (by omega))) ?_
    refine WD.one 3 rfl (by kernel_rfl) rfl ?_
    refine OpW.make1 (m := ys.length + 1) (c := ys.length + 1) rfl S78 rfl rfl rfl rfl rfl (by omega) (by omega) (by omega) rfl rfl ?_; intro b32
    refine ⟨(Held.mk' (by repeat (first | exact SubL.refl | refine SubL.cons (by repeat (first | assumption | exact List.mem_cons_self | refine List.mem_cons_of_mem _ ?_)) ?_ | refine SubL.skip ?_)) (by repeat (first | exact OwnL.refl | apply OwnL.take (by repeat (first | exact Take.head _ | apply Take.tail)) | apply OwnL.drop))), ?_⟩
    refine WD.take 9 rfl (by kernel_rfl) (Held.mk' (by repeat (first | exact SubL.refl | refine SubL.cons (by repeat (first | assumption | exact List.mem_cons_self | refine List.mem_cons_of_mem _ ?_)) ?_ | refine SubL.skip ?_)) (by repeat (first | exact OwnL.refl | apply OwnL.take (by repeat (first | exact Take.head _ | apply Take.tail)) | apply OwnL.drop))) rfl rfl rfl (Rd.assign rfl rfl) ?_
    refine WD.take 10 rfl (by kernel_rfl) (Held.mk' (by repeat (first | exact SubL.refl | refine SubL.cons (by repeat (first | assumption | exact List.mem_cons_self | refine List.mem_cons_of_mem _ ?_)) ?_ | refine SubL.skip ?_)) (by repeat (first | exact OwnL.refl | apply OwnL.take (by repeat (first | exact Take.head _ | apply Take.tail)) | apply OwnL.drop))) rfl rfl rfl (Rd.assign rfl rfl) ?_
    refine WD.done (by kernel_rfl) ?_
    refine thenQ.normal ?_
    refine WC.seq ?_
    refine WC.seq ?_
    refine WC.region ?_
    refine WL.rd rfl rfl rfl (Rd.move rfl rfl) ?_
    refine WL.rd rfl rfl rfl ((by first | exact Rd.lenE rfl rfl Try.underlying22 (by repeat (first | assumption | exact List.mem_cons_self | refine List.mem_cons_of_mem _ ?_)) | exact Rd.lenA rfl rfl Try.underlying22 (by repeat (first | assumption | exact List.mem_cons_self | refine List.mem_cons_of_mem _ ?_)) | exact Rd.len rfl rfl Try.underlying22)) ?_
    refine WL.rd rfl rfl rfl (Rd.sub rfl rfl rfl (by omega)) ?_
    refine WL.rd rfl rfl rfl (Rd.assign rfl rfl) ?_
    refine WL.nil ?_
    refine thenQ.normal ?_
    refine WC.block ?_
    refine WC.pick [9, 0, 1, 5, 6, 7, 8] (by repeat (first | exact Pick.nil | apply Pick.cons rfl)) ?_
    refine WC.loop1 1 (fun (p : Nat) => [(9, .int .i64 ((p : Int) - 1))]) (fun (p : Nat) => rowC b32 77 (part (xs.drop (m - 1)) ys p) :: rowC b13 78 (List.replicate m (.slice none 0 0) ++ vsl) :: O) (fun (p : Nat) => p ≤ ys.length) (fun (p : Nat) => p) (ys.length) (by repeat (first | exact Split.zero | apply Split.succ)) ?hinv2 (by repeat (first | exact Sub.nil | refine Sub.cons rfl (by first | rfl | (congr 1; omega) | assumption) ?_)) (fun w h => by rw [part_start (xs.drop (m - 1)) ys] at h; exact h) ?_
    case hinv2 =>
      exact Nat.le_refl _
    intro p
    rintro h3
    have hlr := lrow_length (xs.drop m) ys; have hpl := part_length (xs.drop (m - 1)) ys (p := p) (by omega)
    refine WC.seq ?_
    refine WC.seq ?_
    refine WC.region ?_
    refine WL.rd rfl rfl rfl (Rd.move rfl rfl) ?_
    refine WL.rd rfl rfl rfl (Rd.geq rfl rfl rfl) ?_
    refine WL.nil ?_
    refine thenQ.normal ?_
    first | refine WC.ite rfl (fun hc2 => ?_) (fun hc2 => ?_) | refine WC.cond rfl (fun hc2 => ?_) (fun hc2 => ?_)
    · skip
      have hp0 := drop_get' (xs := ys) (m := p) (by omega) h3; have hm0 := drop_get' (xs := xs) (m := m) (by omega) h1
      refine WC.skip ?_
      refine thenQ.normal ?_
      refine WC.seq ?_
      refine WC.block ?_
      refine WC.seq ?_
      refine WC.still mixed (by kernel_rfl) ?_
      refine WA.rd rfl rfl rfl (Rd.move rfl rfl) ?_
      refine WA.rd rfl rfl rfl (Rd.move rfl rfl) ?_
      refine WA.rd rfl rfl rfl ((by first | exact Rd.idx1 (k := m - 1) rfl S22 rfl rfl (by omega) (by repeat (first | assumption | exact List.mem_cons_self | refine List.mem_cons_of_mem _ ?_)) (by first | omega | (simp only [List.length_cons, List.length_nil, List.length_append, List.length_map]; omega)) | exact Rd.idxA1 (k := m - 1) rfl S22 rfl rfl (by omega) (by repeat (first | assumption | exact List.mem_cons_self | refine List.mem_cons_of_mem _ ?_)) (by first | omega | (simp only [List.length_cons, List.length_nil, List.length_append, List.length_map]; omega)) | exact Rd.idxR1 (k := m - 1) rfl S22 rfl rfl (by omega) (by omega))) ?_
      refine WA.rd rfl rfl rfl ((by first | exact Rd.get rfl C9 rfl (by repeat (first | assumption | exact List.mem_cons_self | refine List.mem_cons_of_mem _ ?_)) (by first | assumption | rfl | exact get!_of_lt (by omega)) | exact Rd.getA rfl C9 rfl (by repeat (first | assumption | exact List.mem_cons_self | refine List.mem_cons_of_mem _ ?_)) (by first | assumption | rfl | exact get!_of_lt (by omega)) | exact Rd.row1 rfl C9 rfl (by repeat (first | assumption | exact List.mem_cons_self | refine List.mem_cons_of_mem _ ?_)) (by rfl) | exact Rd.getF rfl C9 rfl (by repeat (first | assumption | exact List.mem_cons_self | refine List.mem_cons_of_mem _ ?_)) (by intro x; first | rfl | (cases x; rfl) | (rcases x with ⟨_, _, _⟩; rfl) | (rcases x with ⟨_, _, _, _⟩; rfl)) rfl (by first | assumption | rfl | exact get!_of_lt (by omega)) (by rfl) | exact Rd.getFA rfl C9 rfl (by repeat (first | assumption | exact List.mem_cons_self | refine List.mem_cons_of_mem _ ?_)) (by intro x; first | rfl | (cases x; rfl) | (rcases x with ⟨_, _, _⟩; rfl) | (rcases x with ⟨_, _, _, _⟩; rfl)) rfl (by first | assumption | rfl | exact get!_of_lt (by omega)) (by rfl))) ?_
      refine WA.rd rfl rfl rfl (Rd.move rfl rfl) ?_
      refine WA.rd rfl rfl rfl (Rd.move rfl rfl) ?_
      refine WA.rd rfl rfl rfl ((by first | exact Rd.idx1 (k := p - 1) rfl S22 rfl rfl (by omega) (by repeat (first | assumption | exact List.mem_cons_self | refine List.mem_cons_of_mem _ ?_)) (by first | omega | (simp only [List.length_cons, List.length_nil, List.length_append, List.length_map]; omega)) | exact Rd.idxA1 (k := p - 1) rfl S22 rfl rfl (by omega) (by repeat (first | assumption | exact List.mem_cons_self | refine List.mem_cons_of_mem _ ?_)) (by first | omega | (simp only [List.length_cons, List.length_nil, List.length_append, List.length_map]; omega)) | exact Rd.idxR1 (k := p - 1) rfl S22 rfl rfl (by omega) (by omega))) ?_
      refine WA.rd rfl rfl rfl ((by first | exact Rd.get rfl C9 rfl (by repeat (first | assumption | exact List.mem_cons_self | refine List.mem_cons_of_mem _ ?_)) (by first | assumption | rfl | exact get!_of_lt (by omega)) | exact Rd.getA rfl C9 rfl (by repeat (first | assumption | exact List.mem_cons_self | refine List.mem_cons_of_mem _ ?_)) (by first | assumption | rfl | exact get!_of_lt (by omega)) | exact Rd.row1 rfl C9 rfl (by repeat (first | assumption | exact List.mem_cons_self | refine List.mem_cons_of_mem _ ?_)) (by rfl) | exact Rd.getF rfl C9 rfl (by repeat (first | assumption | exact List.mem_cons_self | refine List.mem_cons_of_mem _ ?_)) (by intro x; first | rfl | (cases x; rfl) | (rcases x with ⟨_, _, _⟩; rfl) | (rcases x with ⟨_, _, _, _⟩; rfl)) rfl (by first | assumption | rfl | exact get!_of_lt (by omega)) (by rfl) | exact Rd.getFA rfl C9 rfl (by repeat (first | assumption | exact List.mem_cons_self | refine List.mem_cons_of_mem _ ?_)) (by intro x; first | rfl | (cases x; rfl) | (rcases x with ⟨_, _, _⟩; rfl) | (rcases x with ⟨_, _, _, _⟩; rfl)) rfl (by first | assumption | rfl | exact get!_of_lt (by omega)) (by rfl))) ?_
      refine WA.rd rfl rfl rfl (Rd.seql rfl rfl rfl) ?_
      refine WA.nil ?_
      refine thenQ.normal ?_
      first | refine WC.ite rfl (fun hc3 => ?_) (fun hc3 => ?_) | refine WC.cond rfl (fun hc3 => ?_) (fun hc3 => ?_)
      · skip
        refine WC.region ?_
        refine WL.rd rfl rfl rfl (Rd.move rfl rfl) ?_
        refine WL.rd rfl rfl rfl (Rd.move rfl rfl) ?_
        refine WL.rd rfl rfl rfl (Rd.move rfl rfl) ?_
        refine WL.rd rfl rfl rfl (Rd.move rfl rfl) ?_
        refine WL.rd rfl rfl rfl (Rd.add rfl rfl rfl (by omega)) ?_
        refine WL.rd rfl rfl rfl ((by first | exact Rd.idx1 (k := p) rfl S78 rfl rfl (by omega) (by repeat (first | assumption | exact List.mem_cons_self | refine List.mem_cons_of_mem _ ?_)) (by first | omega | (simp only [List.length_cons, List.length_nil, List.length_append, List.length_map]; omega)) | exact Rd.idxA1 (k := p) rfl S78 rfl rfl (by omega) (by repeat (first | assumption | exact List.mem_cons_self | refine List.mem_cons_of_mem _ ?_)) (by first | omega | (simp only [List.length_cons, List.length_nil, List.length_append, List.length_map]; omega)) | exact Rd.idxR1 (k := p) rfl S78 rfl rfl (by omega) (by omega))) ?_
        refine WL.rd rfl rfl rfl (Rd.get (k := p) (a := lcs (xs.drop m) (ys.drop p)) rfl C77 rfl (by repeat (first | assumption | exact List.mem_cons_self | refine List.mem_cons_of_mem _ ?_)) (lrow_get _ _ h3)) ?_
        refine WL.rd rfl rfl rfl (Rd.addk (r := ((lcs (xs.drop m) (ys.drop p) + 1 : Nat) : Int)) rfl rfl rfl (by have := lcs_le_right (xs.drop m) (ys.drop p); rw [List.length_drop] at this; rw [wrap_u16 (by omega)]; omega)) ?_
        refine WL.rd rfl rfl rfl ((by first | exact Rd.idx1 (k := p - 1) rfl S78 rfl rfl (by omega) (by repeat (first | assumption | exact List.mem_cons_self | refine List.mem_cons_of_mem _ ?_)) (by first | omega | (simp only [List.length_cons, List.length_nil, List.length_append, List.length_map]; omega)) | exact Rd.idxA1 (k := p - 1) rfl S78 rfl rfl (by omega) (by repeat (first | assumption | exact List.mem_cons_self | refine List.mem_cons_of_mem _ ?_)) (by first | omega | (simp only [List.length_cons, List.length_nil, List.length_append, List.length_map]; omega)) | exact Rd.idxR1 (k := p - 1) rfl S78 rfl rfl (by omega) (by omega))) ?_
        refine WL.op rfl ?_
        refine OpW.store1 rfl Z77 rfl rfl (by first | exact ⟨rfl, rfl⟩ | assumption) (by repeat (first | assumption | exact Take.head _ | apply Take.tail)) (by first | (simp; done) | omega | exact of_decide_eq_true rfl | (simp only [List.length_append, List.length_replicate, List.length_map, List.length_set]; omega)) rfl ?_
        refine WL.heap (fun w h => by rw [part_step' _ _ (by omega) h3 (by rw [hp0, hm0, lcs_cons, if_pos hc3])] at h; exact h) ?_
        refine WL.nil ?_
        refine blockQ.normal ?_
        refine thenQ.normal ?_
        refine WC.region ?_
        refine WL.rd rfl rfl rfl (Rd.move rfl rfl) ?_
        refine WL.rd rfl rfl rfl (Rd.sub rfl rfl rfl (by omega)) ?_
        refine WL.rd rfl rfl rfl (Rd.assign rfl rfl) ?_
        refine WL.nil ?_
        -- next2_1
        exact loopQ1.mk (p - 1) (by omega) (by omega) (by repeat (first | exact Sub.nil | refine Sub.cons rfl (by first | rfl | (congr 1; omega) | assumption) ?_)) (fun w h => OwnL.sat (by repeat (first | exact OwnL.refl | apply OwnL.take (by repeat (first | exact Take.head _ | apply Take.tail)) | apply OwnL.drop)) w (h.thin (SubL.mem (by repeat (first | exact SubL.refl | refine SubL.cons (by repeat (first | assumption | exact List.mem_cons_self | refine List.mem_cons_of_mem _ ?_)) ?_ | refine SubL.skip ?_)))))
      · skip
        refine WC.tail 13 mixed (by kernel_rfl) ?_
        refine WS.rd rfl rfl rfl (Rd.move rfl rfl) ?_
        refine WS.rd rfl rfl rfl (Rd.move rfl rfl) ?_
        refine WS.rd rfl rfl rfl (Rd.move rfl rfl) ?_
        refine WS.rd rfl rfl rfl (Rd.move rfl rfl) ?_
        refine WS.rd rfl rfl rfl ((by first | exact Rd.idx1 (k := p - 1) rfl S78 rfl rfl (by omega) (by repeat (first | assumption | exact List.mem_cons_self | refine List.mem_cons_of_mem _ ?_)) (by first | omega | (simp only [List.length_cons, List.length_nil, List.length_append, List.length_map]; omega)) | exact Rd.idxA1 (k := p - 1) rfl S78 rfl rfl (by omega) (by repeat (first | assumption | exact List.mem_cons_self | refine List.mem_cons_of_mem _ ?_)) (by first | omega | (simp only [List.length_cons, List.length_nil, List.length_append, List.length_map]; omega)) | exact Rd.idxR1 (k := p - 1) rfl S78 rfl rfl (by omega) (by omega))) ?_
        refine WS.rd rfl rfl rfl (Rd.get (k := p - 1) (a := lcs (xs.drop m) (ys.drop (p - 1))) rfl C77 rfl (by repeat (first | assumption | exact List.mem_cons_self | refine List.mem_cons_of_mem _ ?_)) (lrow_get _ _ (by omega))) ?_
        refine WS.rd rfl rfl rfl (Rd.move rfl rfl) ?_
        refine WS.rd rfl rfl rfl (Rd.move rfl rfl) ?_
        refine WS.rd rfl rfl rfl (Rd.add rfl rfl rfl (by omega)) ?_
        refine WS.rd rfl rfl rfl ((by first | exact Rd.idx1 (k := p) rfl S78 rfl rfl (by omega) (by repeat (first | assumption | exact List.mem_cons_self | refine List.mem_cons_of_mem _ ?_)) (by first | omega | (simp only [List.length_cons, List.length_nil, List.length_append, List.length_map]; omega)) | exact Rd.idxA1 (k := p) rfl S78 rfl rfl (by omega) (by repeat (first | assumption | exact List.mem_cons_self | refine List.mem_cons_of_mem _ ?_)) (by first | omega | (simp only [List.length_cons, List.length_nil, List.length_append, List.length_map]; omega)) | exact Rd.idxR1 (k := p) rfl S78 rfl rfl (by omega) (by omega))) ?_
        refine WS.rd rfl rfl rfl (Rd.row1 (u := vu (lcs (xs.drop (m - 1)) (ys.drop p))) rfl C77 rfl (by repeat (first | assumption | exact List.mem_cons_self | refine List.mem_cons_of_mem _ ?_)) (part_get _ _ (Nat.le_refl _) h3)) ?_
        refine WS.rd rfl rfl rfl (Rd.max2 rfl rfl rfl) ?_
        refine WS.say 74 (u := vu (max (lcs (xs.drop m) (ys.drop (p - 1))) (lcs (xs.drop (m - 1)) (ys.drop p)))) rfl (by congr 1; split <;> omega) ?_
        refine WS.rd rfl rfl rfl ((by first | exact Rd.idx1 (k := p - 1) rfl S78 rfl rfl (by omega) (by repeat (first | assumption | exact List.mem_cons_self | refine List.mem_cons_of_mem _ ?_)) (by first | omega | (simp only [List.length_cons, List.length_nil, List.length_append, List.length_map]; omega)) | exact Rd.idxA1 (k := p - 1) rfl S78 rfl rfl (by omega) (by repeat (first | assumption | exact List.mem_cons_self | refine List.mem_cons_of_mem _ ?_)) (by first | omega | (simp only [List.length_cons, List.length_nil, List.length_append, List.length_map]; omega)) | exact Rd.idxR1 (k := p - 1) rfl S78 rfl rfl (by omega) (by omega))) ?_
        refine WS.switch ?_
        refine WL.op rfl ?_
        refine OpW.store1 rfl Z77 rfl rfl (by first | exact ⟨rfl, rfl⟩ | assumption) (by repeat (first | assumption | exact Take.head _ | apply Take.tail)) (by first | (simp; done) | omega | exact of_decide_eq_true rfl | (simp only [List.length_append, List.length_replicate, List.length_map, List.length_set]; omega)) rfl ?_
        refine WL.heap (fun w h => by rw [part_step' _ _ (by omega) h3 (by rw [hp0, hm0, lcs_cons, if_neg hc3, ← hp0, ← hm0])] at h; exact h) ?_
        refine WL.nil ?_
        refine blockQ.normal ?_
        refine thenQ.normal ?_
        refine WC.region ?_
        refine WL.rd rfl rfl rfl (Rd.move rfl rfl) ?_
        refine WL.rd rfl rfl rfl (Rd.sub rfl rfl rfl (by omega)) ?_
        refine WL.rd rfl rfl rfl (Rd.assign rfl rfl) ?_
        refine WL.nil ?_
        -- next2_2
        exact loopQ1.mk (p - 1) (by omega) (by omega) (by repeat (first | exact Sub.nil | refine Sub.cons rfl (by first | rfl | (congr 1; omega) | assumption) ?_)) (fun w h => OwnL.sat (by repeat (first | exact OwnL.refl | apply OwnL.take (by repeat (first | exact Take.head _ | apply Take.tail)) | apply OwnL.drop)) w (h.thin (SubL.mem (by repeat (first | exact SubL.refl | refine SubL.cons (by repeat (first | assumption | exact List.mem_cons_self | refine List.mem_cons_of_mem _ ?_)) ?_ | refine SubL.skip ?_)))))
    · skip
      refine WC.exit ?_
      refine thenQ.exit ?_
      refine loopQ1.exit ?_
      refine blockQ.exit ?_
      refine thenQ.normal ?_
      refine WC.region ?_
      refine WL.rd rfl rfl rfl (Rd.move rfl rfl) ?_
      refine WL.rd rfl rfl rfl (Rd.move rfl rfl) ?_
      refine WL.rd rfl rfl rfl (Rd.move rfl rfl) ?_
      refine WL.rd rfl rfl rfl ((by first | exact Rd.idx1 (k := m - 1) rfl S75 rfl rfl (by omega) (by repeat (first | assumption | exact List.mem_cons_self | refine List.mem_cons_of_mem _ ?_)) (by first | omega | (simp only [List.length_cons, List.length_nil, List.length_append, List.length_map]; omega)) | exact Rd.idxA1 (k := m - 1) rfl S75 rfl rfl (by omega) (by repeat (first | assumption | exact List.mem_cons_self | refine List.mem_cons_of_mem _ ?_)) (by first | omega | (simp only [List.length_cons, List.length_nil, List.length_append, List.length_map]; omega)) | exact Rd.idxR1 (k := m - 1) rfl S75 rfl rfl (by omega) (by omega))) ?_
      refine WL.op rfl ?_
      refine OpW.store1 rfl Z78 rfl rfl (by first | exact ⟨rfl, rfl⟩ | assumption) (by repeat (first | assumption | exact Take.head _ | apply Take.tail)) (by first | (simp; done) | omega | exact of_decide_eq_true rfl | (simp only [List.length_append, List.length_replicate, List.length_map, List.length_set]; omega)) rfl ?_
      refine WL.nil ?_
      refine blockQ.normal ?_
      refine thenQ.normal ?_
      refine WC.region ?_
      refine WL.rd rfl rfl rfl (Rd.move rfl rfl) ?_
      refine WL.rd rfl rfl rfl (Rd.sub rfl rfl rfl (by omega)) ?_
      refine WL.rd rfl rfl rfl (Rd.assign rfl rfl) ?_
      refine WL.nil ?_
      -- next1_1
      exact loopQ2.mk (m - 1) (.slice (some ⟨b32, 0, none⟩) (ys.length + 1) (ys.length + 1) :: vsl) ⟨by omega, by simp; omega⟩ (by omega) (by repeat (first | exact Sub.nil | refine Sub.cons rfl (by first | rfl | (congr 1; omega) | assumption) ?_)) (fun w h => by
      obtain rfl : p = 0 := by omega
      have h1 := Sat.shareRow (enc := one vu) (xs := lrow (xs.drop (m - 1)) ys) (by repeat (first | assumption | exact Take.head _ | apply Take.tail)) (part_zero _ ys) (lrow_length _ _) (by omega) h
      have e := set_last (m - 1) (.slice none 0 0) (.slice (some ⟨b32, 0, none⟩) (ys.length + 1) (ys.length + 1)) vsl
      rw [show m - 1 + 1 = m from by omega] at e
      rw [e] at h1
      have h2 := h1.derive (q := Rows (.slice (some ⟨b32, 0, none⟩) (ys.length + 1) (ys.length + 1) :: vsl) xs ys (m - 1)) (fun w hr j hj => by
        cases j with
        | zero => exact hr _ List.mem_cons_self
        | succ j =>
          have := hr (Rows vsl xs ys m) (by repeat (first | assumption | exact List.mem_cons_self | refine List.mem_cons_of_mem _ ?_)) j (by simpa using hj)
          rw [show m - 1 + (j + 1) = m + j from by omega]
          exact this)
      exact h2.thin (SubL.mem (by repeat (first | exact SubL.refl | refine SubL.cons (by repeat (first | assumption | exact List.mem_cons_self | refine List.mem_cons_of_mem _ ?_)) ?_ | refine SubL.skip ?_))))
  · skip
    refine WC.exit ?_
    refine thenQ.exit ?_
    refine loopQ2.exit ?_
    refine blockQ.exit ?_
    refine thenQ.normal ?_
    refine WC.seq ?_
    refine WC.region ?_
    refine WL.rd rfl rfl rfl (Rd.move rfl rfl) ?_
    refine WL.rd rfl rfl rfl (Rd.assign rfl rfl) ?_
    refine WL.nil ?_
    refine thenQ.normal ?_
    -- ret_1
    refine WC.heap (R' := SlE (one vid) (.slice (some ⟨b13, 0, none⟩) (xs.length + 1) (xs.length + 1)) vsl :: Rows vsl xs ys 0 :: R) (O' := O) (fun w h => by
    obtain rfl : m = 0 := by omega
    rw [List.replicate_zero, List.nil_append] at h
    exact h.shareRow (enc := one vid) (xs := vsl) (by repeat (first | assumption | exact Take.head _ | apply Take.tail)) (by rw [flat_one]; simp) (by omega) (by omega)) ?_
    refine WC.ret (Ret.one Try.results41 rfl ?_)
    exact hk _ vsl (by omega)
end Go.Proofs.Ytpicbbkmcbhnpaa
