/-
  Walks of layer 19: the reference's Common.
-/
import Derived.Test.YtpicbbkmcbhnpaaLd6
namespace Go.Proofs.Ytpicbbkmcbhnpaa
open Go Go.SL Go.Lcs

/-- The rows of the table while it is made: the rows below m are done, row m - 1 from p on; the others are noughts. -/
def partI (x ys : List (List UInt8)) (p : Nat) : List Value := List.replicate p (.int .i64 0) ++ ((lrow x ys).drop p).map (fun n : Nat => vi n)
def tabI (xs ys : List (List UInt8)) (m p : Nat) : List (List Value) :=
  (List.range (xs.length + 1)).map fun i => if i + 1 < m then List.replicate (ys.length + 1) (.int .i64 0) else if i + 1 = m then partI (xs.drop i) ys p else partI (xs.drop i) ys 0
theorem partI_length (x ys : List (List UInt8)) {p : Nat} (h : p ≤ ys.length + 1) : (partI x ys p).length = ys.length + 1 := by simp [partI, lrow_length]; omega
theorem partI_get (x ys : List (List UInt8)) {p q : Nat} (h : p ≤ q) (hq : q ≤ ys.length) : (partI x ys p)[q]? = some (vi (lcs x (ys.drop q))) := by
  rw [partI, List.getElem?_append_right (by simp; exact h)]
  simp only [List.length_replicate, List.getElem?_map, List.getElem?_drop]
  rw [show p + (q - p) = q from by omega, lrow_get x ys hq]; rfl
theorem partI_step (x ys : List (List UInt8)) {p n : Nat} (h0 : 1 ≤ p) (h : p ≤ ys.length) (hn : n = lcs x (ys.drop (p - 1))) : (partI x ys p).set (p - 1) (vi n) = partI x ys (p - 1) := by
  obtain ⟨q, rfl⟩ : ∃ q, p = q + 1 := ⟨p - 1, by omega⟩
  simp only [Nat.add_sub_cancel] at hn ⊢
  unfold partI
  have h1 : (lrow x ys).drop q = lcs x (ys.drop q) :: (lrow x ys).drop (q + 1) := by
    have := lrow_get x ys (q := q) (by omega)
    rw [List.drop_eq_getElem_cons (by rw [lrow_length]; omega)]
    rw [List.getElem?_eq_getElem (by rw [lrow_length]; omega), Option.some.injEq] at this
    rw [this]
  rw [h1, List.replicate_succ', List.append_assoc, List.set_append_right _ _ (by simp), hn]
  simp
theorem partI_start (x ys : List (List UInt8)) : partI x ys ys.length = List.replicate (ys.length + 1) (.int .i64 0) := by
  rw [partI, lrow_last, List.replicate_succ']; rfl
theorem partI_nil (ys : List (List UInt8)) : partI [] ys 0 = List.replicate (ys.length + 1) (.int .i64 0) := by
  rw [partI]; apply List.ext_getElem <;> simp [lrow]
theorem tabI_get (xs ys : List (List UInt8)) {m p i : Nat} (hi : i ≤ xs.length) : (tabI xs ys m p)[i]? = some (if i + 1 < m then List.replicate (ys.length + 1) (.int .i64 0) else if i + 1 = m then partI (xs.drop i) ys p else partI (xs.drop i) ys 0) := by
  simp [tabI, show i < xs.length + 1 from by omega]
theorem tabI_length (xs ys : List (List UInt8)) (m p : Nat) : (tabI xs ys m p).length = xs.length + 1 := by simp [tabI]
theorem tabI_start (xs ys : List (List UInt8)) : List.replicate (xs.length + 1) (List.replicate (ys.length + 1) (.int .i64 0)) = tabI xs ys xs.length ys.length := by
  apply List.ext_getElem?
  intro i
  rcases Nat.lt_or_ge i (xs.length + 1) with h | h
  · rw [tabI_get xs ys (by omega)]
    simp only [List.getElem?_replicate, h, if_true, Option.some.injEq]
    split
    · rfl
    · split
      · rw [partI_start]
      · rw [show xs.drop i = [] from List.drop_of_length_le (by omega), partI_nil]
  · rw [List.getElem?_eq_none (by simp; omega), List.getElem?_eq_none (by rw [tabI_length]; omega)]
theorem tabI_set (xs ys : List (List UInt8)) {m p n : Nat} (hm : 1 ≤ m) (hml : m ≤ xs.length) (h0 : 1 ≤ p) (h : p ≤ ys.length) (hn : n = lcs (xs.drop (m - 1)) (ys.drop (p - 1))) :
    (tabI xs ys m p).set (m - 1) ((partI (xs.drop (m - 1)) ys p).set (p - 1) (vi n)) = tabI xs ys m (p - 1) := by
  rw [partI_step _ _ h0 h hn]
  apply List.ext_getElem?
  intro i
  rcases Nat.lt_or_ge i (xs.length + 1) with hi | hi
  · rw [tabI_get xs ys (by omega)]
    by_cases e : m - 1 = i
    · subst e
      rw [List.getElem?_set_self (by rw [tabI_length]; omega), if_neg (by omega), if_pos (by omega)]
    · rw [List.getElem?_set_ne e, tabI_get xs ys (by omega)]
      split
      · rfl
      · rw [if_neg (by omega), if_neg (by omega)]
  · rw [List.getElem?_eq_none (by simp [tabI_length]; omega), List.getElem?_eq_none (by rw [tabI_length]; omega)]
theorem tabI_next (xs ys : List (List UInt8)) {m : Nat} (hm : 1 ≤ m) : tabI xs ys m 0 = tabI xs ys (m - 1) ys.length := by
  apply List.ext_getElem?
  intro i
  rcases Nat.lt_or_ge i (xs.length + 1) with hi | hi
  · rw [tabI_get xs ys (by omega), tabI_get xs ys (by omega)]
    by_cases h1 : i + 1 < m - 1
    · rw [if_pos (by omega), if_pos h1]
    · by_cases h2 : i + 1 = m - 1
      · rw [if_pos (by omega), if_neg h1, if_pos h2, partI_start]
      · rw [if_neg (by omega), if_neg h1, if_neg h2]
        split <;> rfl
  · rw [List.getElem?_eq_none (by rw [tabI_length]; omega), List.getElem?_eq_none (by rw [tabI_length]; omega)]

theorem tabI_row (xs ys : List (List UInt8)) {m p i : Nat} (hi : i ≤ xs.length) (hm : m ≤ i) : (tabI xs ys m p)[i]? = some (partI (xs.drop i) ys 0) := by
  rw [tabI_get xs ys hi, if_neg (by omega), if_neg (by omega)]
theorem tabI_cur (xs ys : List (List UInt8)) {m p : Nat} (h1 : 1 ≤ m) (hm : m ≤ xs.length) : (tabI xs ys m p)[m - 1]? = some (partI (xs.drop (m - 1)) ys p) := by
  rw [tabI_get xs ys (by omega), if_neg (by omega), if_pos (by omega)]

/-- The finished table. -/
def RowsI (vsl : List Value) (xs ys : List (List UInt8)) : RO := fun w => ∀ j, j < vsl.length → SlE (one fun n : Nat => vi n) vsl[j]! (lrow (xs.drop j) ys) w

theorem _root_.Go.SL.Sat.rot3 {R : List RO} {a b c : Own} {O : List Own} {w : World} (h : Sat R (a :: b :: c :: O) w) : Sat R (c :: b :: a :: O) w :=
  h.perm ((List.Perm.swap _ _ _).trans (((List.Perm.swap _ _ _).cons _).trans (List.Perm.swap _ _ _)))
theorem SlE.mapOne {α : Type} {g : α → Value} {v : Value} {xs : List α} {w : World} (h : SlE (one g) v xs w) : SlE (one vid) v (xs.map g) w := by
  unfold SlE at *
  rw [flat_one] at *
  simpa [vid] using h
theorem rows_share {e : TypeId} {bs : List Nat} {xs ys : List (List UInt8)} {p : Nat} {w : World} (hb : ys.length ≤ 4096) (hl : bs.length = xs.length + 1) (h : (rowsC e bs (tabI xs ys 0 p)).pred w) : RowsI (bs.map (rowSl (ys.length + 1))) xs ys w := fun j hj => by
  rw [List.length_map] at hj
  have h2 := h.2 j bs[j] (partI (xs.drop j) ys 0) (by simp [hj]) (tabI_row xs ys (by omega) (Nat.zero_le _))
  rw [getElem!_pos _ j (by simpa using hj), List.getElem_map]
  exact row_SlE (cells := partI (xs.drop j) ys 0) (e := e) (by rw [flat_one]; simp [partI]) (lrow_length _ _) (Nat.le_refl _) (by show ys.length + 1 ≤ 9223372036854775807; omega) h2

set_option maxHeartbeats 2000000 in
theorem refCommon_spec {R : List RO} {O : List Own} {POST : Value → List RO → List Own → Prop} {xs ys : List (List UInt8)} {av bv : Value} (ha : Strs av xs ∈ R) (hb : Strs bv ys ∈ R) (hla : xs.length ≤ 4096) (hlb : ys.length ≤ 4096)
    (hk : ∀ v vsl, vsl.length = xs.length + 1 → POST v (SlE (one vid) v vsl :: RowsI vsl xs ys :: R) O) : Fun Try.prog 42 #[av, bv] R O POST := by
  refine Fun.enter (l := [_, _]) Try.func42 rfl Try.ntmps42 rfl (L0 := [(0, _), (1, _)]) rfl ?_
  refine WC.seq ?_
  refine WC.region ?_
  refine WL.rd rfl rfl rfl (Rd.assign rfl rfl) ?_
  refine WL.nil ?_
  refine thenQ.normal ?_
  refine WC.seq ?_
  refine WC.region ?_
  refine WL.rd rfl rfl rfl (Rd.assign rfl rfl) ?_
  refine WL.nil ?_
  refine thenQ.normal ?_
  refine WC.seq ?_
  refine WC.seq ?_
  refine WC.heap (fun w h => ((h.rowsNil (e := 3)).accNil (α := Nat) (e := 56) (size := 1) (enc := one (rowSl (ys.length + 1))))) ?_
  refine WC.region ?_
  refine WL.rd rfl rfl rfl (Rd.assign rfl rfl) ?_
  refine WL.nil ?_
  refine thenQ.normal ?_
  refine WC.block ?_
  refine WC.pick [5, 6, 0, 1] (by repeat (first | exact Pick.nil | apply Pick.cons rfl)) ?_
  refine WC.loop3 2 (fun (k : Nat) (bs : List Nat) (cv : Value) => [(5, cv), (6, .int .i64 (k : Int))]) (fun (k : Nat) (bs : List Nat) (cv : Value) => accC 56 1 (one (rowSl (ys.length + 1))) cv bs :: rowsC 3 bs (List.replicate k (List.replicate (ys.length + 1) (.int .i64 0))) :: O) (fun (k : Nat) (bs : List Nat) (cv : Value) => k ≤ xs.length + 1 ∧ bs.length = k ∧ OneV cv) (fun (k : Nat) (bs : List Nat) (cv : Value) => xs.length + 1 - k) (0) ([]) (.slice none 0 0) (by repeat (first | exact Split.zero | apply Split.succ)) ?hinv1 (by repeat (first | exact Sub.nil | refine Sub.cons rfl (by first | rfl | (congr 1; omega) | assumption) ?_)) (fun w h => h) ?_
  case hinv1 =>
    exact ⟨Nat.zero_le _, rfl, OneV.sl⟩
  intro k bs cv
  rintro ⟨h1, h2, h3⟩
  refine WC.seq ?_
  refine WC.seq ?_
  refine WC.region ?_
  refine WL.rd rfl rfl rfl (Rd.move rfl rfl) ?_
  refine WL.rd rfl rfl rfl (Rd.move rfl rfl) ?_
  refine WL.rd rfl rfl rfl ((by first | exact Rd.lenE rfl rfl Try.underlying22 (by repeat (first | assumption | exact List.mem_cons_self | refine List.mem_cons_of_mem _ ?_)) | exact Rd.lenA rfl rfl Try.underlying22 (by repeat (first | assumption | exact List.mem_cons_self | refine List.mem_cons_of_mem _ ?_)) | exact Rd.len rfl rfl Try.underlying22)) ?_
  refine WL.rd rfl rfl rfl (Rd.leq rfl rfl rfl) ?_
  refine WL.nil ?_
  refine thenQ.normal ?_
  first | refine WC.ite rfl (fun hc1 => ?_) (fun hc1 => ?_) | refine WC.cond rfl (fun hc1 => ?_) (fun hc1 => ?_)
  · skip
    refine WC.skip ?_
    refine thenQ.normal ?_
    refine WC.seq ?_
    refine WC.block ?_
    refine WC.region ?_
    refine WL.rd rfl rfl rfl (Rd.move rfl rfl) ?_
    refine WL.rd rfl rfl rfl (Rd.move rfl rfl) ?_
    refine WL.rd rfl rfl rfl ((by first | exact Rd.lenE rfl rfl Try.underlying22 (by repeat (first | assumption | exact List.mem_cons_self | refine List.mem_cons_of_mem _ ?_)) | exact Rd.lenA rfl rfl Try.underlying22 (by repeat (first | assumption | exact List.mem_cons_self | refine List.mem_cons_of_mem _ ?_)) | exact Rd.len rfl rfl Try.underlying22)) ?_
    refine WL.rd rfl rfl rfl (Rd.add rfl rfl rfl (by omega)) ?_
    refine WL.op rfl ?_
    refine OpW.make1 (m := ys.length + 1) (c := ys.length + 1) rfl S56 rfl rfl rfl rfl rfl (by omega) (by omega) (by omega) rfl rfl ?_; intro b19
    refine WL.op rfl ?_
    refine OpW.buildSl (ps := [(0, _)]) rfl S79 (by repeat (first | exact Evs.nil | apply Evs.cons rfl)) rfl rfl (by repeat (first | exact CellsOf.nil | apply CellsOf.cons rfl)) (by kernel_rfl) rfl rfl rfl ?_; intro b20
    refine WL.op rfl ?_
    refine OpW.appendRow rfl S79 rfl rfl (by repeat (first | assumption | exact Take.head _ | apply Take.tail)) (by repeat (first | assumption | exact Take.head _ | apply Take.tail)) [b19] rfl (by rfl) rfl (by intro x; first | rfl | (cases x; rfl) | (rcases x with ⟨_, _, _⟩; rfl) | (rcases x with ⟨_, _, _, _⟩; rfl)) (by intro x; first | rfl | (cases x; rfl) | (rcases x with ⟨_, _, _⟩; rfl) | (rcases x with ⟨_, _, _, _⟩; rfl)) ⟨by simp only [maxLen, List.length_append, List.length_nil, List.length_cons, List.length_drop, List.length_take, List.length_map]; omega, by first | omega | (simp only [List.length_append, List.length_nil, List.length_cons, List.length_drop, List.length_take, List.length_map]; omega)⟩ rfl rfl ?_; intro v21 hv21
    refine WL.rd rfl rfl rfl (Rd.assign rfl rfl) ?_
    refine WL.nil ?_
    refine blockQ.normal ?_
    refine thenQ.normal ?_
    refine WC.region ?_
    refine WL.rd rfl rfl rfl (Rd.move rfl rfl) ?_
    refine WL.rd rfl rfl rfl (Rd.add rfl rfl rfl (by omega)) ?_
    refine WL.rd rfl rfl rfl (Rd.assign rfl rfl) ?_
    refine WL.nil ?_
    -- next1_1
    exact loopQ3.mk (k + 1) (bs ++ [b19]) v21 ⟨by omega, by simp; omega, hv21⟩ (by omega) (by repeat (first | exact Sub.nil | refine Sub.cons rfl (by first | rfl | (congr 1; omega) | assumption) ?_)) (fun w h => by
    rw [List.replicate_succ']
    exact h.rot3.rowsAdd.swap)
  · skip
    refine WC.exit ?_
    refine thenQ.exit ?_
    refine loopQ3.exit ?_
    refine blockQ.exit ?_
    refine thenQ.normal ?_
    refine WC.seq ?_
    refine WC.seq ?_
    refine WC.region ?_
    refine WL.rd rfl rfl rfl (Rd.move rfl rfl) ?_
    refine WL.rd rfl rfl rfl ((by first | exact Rd.lenE rfl rfl Try.underlying22 (by repeat (first | assumption | exact List.mem_cons_self | refine List.mem_cons_of_mem _ ?_)) | exact Rd.lenA rfl rfl Try.underlying22 (by repeat (first | assumption | exact List.mem_cons_self | refine List.mem_cons_of_mem _ ?_)) | exact Rd.len rfl rfl Try.underlying22)) ?_
    refine WL.rd rfl rfl rfl (Rd.sub rfl rfl rfl (by omega)) ?_
    refine WL.rd rfl rfl rfl (Rd.assign rfl rfl) ?_
    refine WL.nil ?_
    refine thenQ.normal ?_
    refine WC.block ?_
    refine WC.pick [7, 0, 1, 5] (by repeat (first | exact Pick.nil | apply Pick.cons rfl)) ?_
    refine WC.loop1 1 (fun (m : Nat) => [(7, .int .i64 ((m : Int) - 1))]) (fun (m : Nat) => accC 56 1 (one (rowSl (ys.length + 1))) cv bs :: rowsC 3 bs (tabI xs ys m ys.length) :: O) (fun (m : Nat) => m ≤ xs.length ∧ bs.length = xs.length + 1) (fun (m : Nat) => m) (xs.length) (by repeat (first | exact Split.zero | apply Split.succ)) ?hinv2 (by repeat (first | exact Sub.nil | refine Sub.cons rfl (by first | rfl | (congr 1; omega) | assumption) ?_)) (fun w h => by
    obtain rfl : k = xs.length + 1 := by omega
    rw [tabI_start] at h; exact h) ?_
    case hinv2 =>
      exact ⟨Nat.le_refl _, by omega⟩
    intro m
    rintro ⟨g1, g2⟩
    refine WC.seq ?_
    refine WC.seq ?_
    refine WC.region ?_
    refine WL.rd rfl rfl rfl (Rd.move rfl rfl) ?_
    refine WL.rd rfl rfl rfl (Rd.geq rfl rfl rfl) ?_
    refine WL.nil ?_
    refine thenQ.normal ?_
    first | refine WC.ite rfl (fun hc2 => ?_) (fun hc2 => ?_) | refine WC.cond rfl (fun hc2 => ?_) (fun hc2 => ?_)
    · skip
      refine WC.skip ?_
      refine thenQ.normal ?_
      refine WC.seq ?_
      refine WC.block ?_
      refine WC.seq ?_
      refine WC.region ?_
      refine WL.rd rfl rfl rfl (Rd.move rfl rfl) ?_
      refine WL.rd rfl rfl rfl ((by first | exact Rd.lenE rfl rfl Try.underlying22 (by repeat (first | assumption | exact List.mem_cons_self | refine List.mem_cons_of_mem _ ?_)) | exact Rd.lenA rfl rfl Try.underlying22 (by repeat (first | assumption | exact List.mem_cons_self | refine List.mem_cons_of_mem _ ?_)) | exact Rd.len rfl rfl Try.underlying22)) ?_
      refine WL.rd rfl rfl rfl (Rd.sub rfl rfl rfl (by omega)) ?_
      refine WL.rd rfl rfl rfl (Rd.assign rfl rfl) ?_
      refine WL.nil ?_
      refine thenQ.normal ?_
      refine WC.block ?_
      refine WC.pick [8, 0, 1, 5, 7] (by repeat (first | exact Pick.nil | apply Pick.cons rfl)) ?_
      refine WC.loop1 1 (fun (p : Nat) => [(8, .int .i64 ((p : Int) - 1))]) (fun (p : Nat) => rowsC 3 bs (tabI xs ys m p) :: accC 56 1 (one (rowSl (ys.length + 1))) cv bs :: O) (fun (p : Nat) => p ≤ ys.length) (fun (p : Nat) => p) (ys.length) (by repeat (first | exact Split.zero | apply Split.succ)) ?hinv3 (by repeat (first | exact Sub.nil | refine Sub.cons rfl (by first | rfl | (congr 1; omega) | assumption) ?_)) (fun w h => h.swap) ?_
      case hinv3 =>
        exact Nat.le_refl _
      intro p
      rintro g3
      refine WC.seq ?_
      refine WC.seq ?_
      refine WC.region ?_
      refine WL.rd rfl rfl rfl (Rd.move rfl rfl) ?_
      refine WL.rd rfl rfl rfl (Rd.geq rfl rfl rfl) ?_
      refine WL.nil ?_
      refine thenQ.normal ?_
      first | refine WC.ite rfl (fun hc3 => ?_) (fun hc3 => ?_) | refine WC.cond rfl (fun hc3 => ?_) (fun hc3 => ?_)
      · skip
        refine WC.skip ?_
        refine thenQ.normal ?_
        refine WC.seq ?_
        refine WC.block ?_
        refine WC.seq ?_
        refine WC.still mixed (by kernel_rfl) ?_
        refine WA.rd rfl rfl rfl (Rd.move rfl rfl) ?_
        refine WA.rd rfl rfl rfl (Rd.move rfl rfl) ?_
        refine WA.rd rfl rfl rfl ((by first | exact Rd.idx1 (k := m - 1) rfl S22 rfl rfl (by omega) (by repeat (first | assumption | exact List.mem_cons_self | refine List.mem_cons_of_mem _ ?_)) (by first | omega | (simp only [List.length_cons, List.length_nil, List.length_append, List.length_map]; omega)) | exact Rd.idxA1 (k := m - 1) rfl S22 rfl rfl (by omega) (by repeat (first | assumption | exact List.mem_cons_self | refine List.mem_cons_of_mem _ ?_)) (by first | omega | (simp only [List.length_cons, List.length_nil, List.length_append, List.length_map]; omega)) | exact Rd.idxR1 (k := m - 1) rfl S22 rfl rfl (by omega) (by omega))) ?_
        refine WA.rd rfl rfl rfl ((by first | exact Rd.get rfl C9 rfl (by repeat (first | assumption | exact List.mem_cons_self | refine List.mem_cons_of_mem _ ?_)) (by first | assumption | rfl | exact get!_of_lt (by omega)) | exact Rd.getA rfl C9 rfl (by repeat (first | assumption | exact List.mem_cons_self | refine List.mem_cons_of_mem _ ?_)) (by first | assumption | rfl | exact get!_of_lt (by omega)) | exact Rd.row1 rfl C9 rfl (by repeat (first | assumption | exact List.mem_cons_self | refine List.mem_cons_of_mem _ ?_)) (by rfl) | exact Rd.getF rfl C9 rfl (by repeat (first | assumption | exact List.mem_cons_self | refine List.mem_cons_of_mem _ ?_)) (by intro x; first | rfl | (cases x; rfl) | (rcases x with ⟨_, _, _⟩; rfl) | (rcases x with ⟨_, _, _, _⟩; rfl)) rfl (by first | assumption | rfl | exact get!_of_lt (by omega)) (by rfl) | exact Rd.getFA rfl C9 rfl (by repeat (first | assumption | exact List.mem_cons_self | refine List.mem_cons_of_mem _ ?_)) (by intro x; first | rfl | (cases x; rfl) | (rcases x with ⟨_, _, _⟩; rfl) | (rcases x with ⟨_, _, _, _⟩; rfl)) rfl (by first | assumption | rfl | exact get!_of_lt (by omega)) (by rfl))) ?_
        refine WA.rd rfl rfl rfl (Rd.move rfl rfl) ?_
        refine WA.rd rfl rfl rfl (Rd.move rfl rfl) ?_
        refine WA.rd rfl rfl rfl ((by first | exact Rd.idx1 (k := p - 1) rfl S22 rfl rfl (by omega) (by repeat (first | assumption | exact List.mem_cons_self | refine List.mem_cons_of_mem _ ?_)) (by first | omega | (simp only [List.length_cons, List.length_nil, List.length_append, List.length_map]; omega)) | exact Rd.idxA1 (k := p - 1) rfl S22 rfl rfl (by omega) (by repeat (first | assumption | exact List.mem_cons_self | refine List.mem_cons_of_mem _ ?_)) (by first | omega | (simp only [List.length_cons, List.length_nil, List.length_append, List.length_map]; omega)) | exact Rd.idxR1 (k := p - 1) rfl S22 rfl rfl (by omega) (by omega))) ?_
        refine WA.rd rfl rfl rfl ((by first | exact Rd.get rfl C9 rfl (by repeat (first | assumption | exact List.mem_cons_self | refine List.mem_cons_of_mem _ ?_)) (by first | assumption | rfl | exact get!_of_lt (by omega)) | exact Rd.getA rfl C9 rfl (by repeat (first | assumption | exact List.mem_cons_self | refine List.mem_cons_of_mem _ ?_)) (by first | assumption | rfl | exact get!_of_lt (by omega)) | exact Rd.row1 rfl C9 rfl (by repeat (first | assumption | exact List.mem_cons_self | refine List.mem_cons_of_mem _ ?_)) (by rfl) | exact Rd.getF rfl C9 rfl (by repeat (first | assumption | exact List.mem_cons_self | refine List.mem_cons_of_mem _ ?_)) (by intro x; first | rfl | (cases x; rfl) | (rcases x with ⟨_, _, _⟩; rfl) | (rcases x with ⟨_, _, _, _⟩; rfl)) rfl (by first | assumption | rfl | exact get!_of_lt (by omega)) (by rfl) | exact Rd.getFA rfl C9 rfl (by repeat (first | assumption | exact List.mem_cons_self | refine List.mem_cons_of_mem _ ?_)) (by intro x; first | rfl | (cases x; rfl) | (rcases x with ⟨_, _, _⟩; rfl) | (rcases x with ⟨_, _, _, _⟩; rfl)) rfl (by first | assumption | rfl | exact get!_of_lt (by omega)) (by rfl))) ?_
        refine WA.rd rfl rfl rfl (Rd.seql rfl rfl rfl) ?_
        refine WA.nil ?_
        refine thenQ.normal ?_
        first | refine WC.ite rfl (fun hc4 => ?_) (fun hc4 => ?_) | refine WC.cond rfl (fun hc4 => ?_) (fun hc4 => ?_)
        · skip
          have hp0 := drop_get' (xs := ys) (m := p) (by omega) g3; have hm0 := drop_get' (xs := xs) (m := m) (by omega) g1; have hle := lcs_le_right (xs.drop m) (ys.drop p); rw [List.length_drop] at hle
          refine WC.tail 16 mixed (by kernel_rfl) ?_
          refine WS.rd rfl rfl rfl (Rd.move rfl rfl) ?_
          refine WS.rd rfl rfl rfl (Rd.move rfl rfl) ?_
          refine WS.rd rfl rfl rfl ((by first | exact Rd.idx1 (k := m - 1) rfl S79 rfl rfl (by omega) (by repeat (first | assumption | exact List.mem_cons_self | refine List.mem_cons_of_mem _ ?_)) (by first | omega | (simp only [List.length_cons, List.length_nil, List.length_append, List.length_map]; omega)) | exact Rd.idxA1 (k := m - 1) rfl S79 rfl rfl (by omega) (by repeat (first | assumption | exact List.mem_cons_self | refine List.mem_cons_of_mem _ ?_)) (by first | omega | (simp only [List.length_cons, List.length_nil, List.length_append, List.length_map]; omega)) | exact Rd.idxR1 (k := m - 1) rfl S79 rfl rfl (by omega) (by omega))) ?_
          refine WS.rd rfl rfl rfl ((by first | exact Rd.get rfl C56 rfl (by repeat (first | assumption | exact List.mem_cons_self | refine List.mem_cons_of_mem _ ?_)) (by first | assumption | rfl | exact get!_of_lt (by omega)) | exact Rd.getA rfl C56 rfl (by repeat (first | assumption | exact List.mem_cons_self | refine List.mem_cons_of_mem _ ?_)) (by first | assumption | rfl | exact get!_of_lt (by omega)) | exact Rd.row1 rfl C56 rfl (by repeat (first | assumption | exact List.mem_cons_self | refine List.mem_cons_of_mem _ ?_)) (by rfl) | exact Rd.getF rfl C56 rfl (by repeat (first | assumption | exact List.mem_cons_self | refine List.mem_cons_of_mem _ ?_)) (by intro x; first | rfl | (cases x; rfl) | (rcases x with ⟨_, _, _⟩; rfl) | (rcases x with ⟨_, _, _, _⟩; rfl)) rfl (by first | assumption | rfl | exact get!_of_lt (by omega)) (by rfl) | exact Rd.getFA rfl C56 rfl (by repeat (first | assumption | exact List.mem_cons_self | refine List.mem_cons_of_mem _ ?_)) (by intro x; first | rfl | (cases x; rfl) | (rcases x with ⟨_, _, _⟩; rfl) | (rcases x with ⟨_, _, _, _⟩; rfl)) rfl (by first | assumption | rfl | exact get!_of_lt (by omega)) (by rfl))) ?_
          refine WS.rd rfl rfl rfl (Rd.move rfl rfl) ?_
          refine WS.rd rfl rfl rfl (Rd.move rfl rfl) ?_
          refine WS.rd rfl rfl rfl (Rd.move rfl rfl) ?_
          refine WS.rd rfl rfl rfl (Rd.add rfl rfl rfl (by omega)) ?_
          refine WS.rd rfl rfl rfl ((by first | exact Rd.idx1 (k := m) rfl S79 rfl rfl (by omega) (by repeat (first | assumption | exact List.mem_cons_self | refine List.mem_cons_of_mem _ ?_)) (by first | omega | (simp only [List.length_cons, List.length_nil, List.length_append, List.length_map]; omega)) | exact Rd.idxA1 (k := m) rfl S79 rfl rfl (by omega) (by repeat (first | assumption | exact List.mem_cons_self | refine List.mem_cons_of_mem _ ?_)) (by first | omega | (simp only [List.length_cons, List.length_nil, List.length_append, List.length_map]; omega)) | exact Rd.idxR1 (k := m) rfl S79 rfl rfl (by omega) (by omega))) ?_
          refine WS.rd rfl rfl rfl ((by first | exact Rd.get rfl C56 rfl (by repeat (first | assumption | exact List.mem_cons_self | refine List.mem_cons_of_mem _ ?_)) (by first | assumption | rfl | exact get!_of_lt (by omega)) | exact Rd.getA rfl C56 rfl (by repeat (first | assumption | exact List.mem_cons_self | refine List.mem_cons_of_mem _ ?_)) (by first | assumption | rfl | exact get!_of_lt (by omega)) | exact Rd.row1 rfl C56 rfl (by repeat (first | assumption | exact List.mem_cons_self | refine List.mem_cons_of_mem _ ?_)) (by rfl) | exact Rd.getF rfl C56 rfl (by repeat (first | assumption | exact List.mem_cons_self | refine List.mem_cons_of_mem _ ?_)) (by intro x; first | rfl | (cases x; rfl) | (rcases x with ⟨_, _, _⟩; rfl) | (rcases x with ⟨_, _, _, _⟩; rfl)) rfl (by first | assumption | rfl | exact get!_of_lt (by omega)) (by rfl) | exact Rd.getFA rfl C56 rfl (by repeat (first | assumption | exact List.mem_cons_self | refine List.mem_cons_of_mem _ ?_)) (by intro x; first | rfl | (cases x; rfl) | (rcases x with ⟨_, _, _⟩; rfl) | (rcases x with ⟨_, _, _, _⟩; rfl)) rfl (by first | assumption | rfl | exact get!_of_lt (by omega)) (by rfl))) ?_
          refine WS.rd rfl rfl rfl (Rd.move rfl rfl) ?_
          refine WS.rd rfl rfl rfl (Rd.add rfl rfl rfl (by omega)) ?_
          refine WS.rd rfl rfl rfl ((by first | exact Rd.idx1 (k := p) rfl S56 rfl rfl (by omega) (by repeat (first | assumption | exact List.mem_cons_self | refine List.mem_cons_of_mem _ ?_)) (by first | omega | (simp only [List.length_cons, List.length_nil, List.length_append, List.length_map]; omega)) | exact Rd.idxA1 (k := p) rfl S56 rfl rfl (by omega) (by repeat (first | assumption | exact List.mem_cons_self | refine List.mem_cons_of_mem _ ?_)) (by first | omega | (simp only [List.length_cons, List.length_nil, List.length_append, List.length_map]; omega)) | exact Rd.idxR1 (k := p) rfl S56 rfl rfl (by omega) (by omega))) ?_
          refine WS.rd rfl rfl rfl (Rd.rows1 (i := m) rfl C3 rfl (by repeat (first | assumption | exact List.mem_cons_self | refine List.mem_cons_of_mem _ ?_)) (get!_of_lt (by omega)) (tabI_row xs ys (by omega) (Nat.le_refl _)) (partI_get _ ys (Nat.zero_le _) g3)) ?_
          refine WS.rd rfl rfl rfl (Rd.add rfl rfl rfl (by omega)) ?_
          refine WS.say 59 (u := vi ((lcs (xs.drop m) (ys.drop p) + 1 : Nat) : Int)) rfl (by congr 1; omega) ?_
          refine WS.rd rfl rfl rfl ((by first | exact Rd.idx1 (k := p - 1) rfl S56 rfl rfl (by omega) (by repeat (first | assumption | exact List.mem_cons_self | refine List.mem_cons_of_mem _ ?_)) (by first | omega | (simp only [List.length_cons, List.length_nil, List.length_append, List.length_map]; omega)) | exact Rd.idxA1 (k := p - 1) rfl S56 rfl rfl (by omega) (by repeat (first | assumption | exact List.mem_cons_self | refine List.mem_cons_of_mem _ ?_)) (by first | omega | (simp only [List.length_cons, List.length_nil, List.length_append, List.length_map]; omega)) | exact Rd.idxR1 (k := p - 1) rfl S56 rfl rfl (by omega) (by omega))) ?_
          refine WS.switch ?_
          refine WL.op rfl ?_
          refine OpW.storeRows (i := m - 1) rfl Z3 rfl rfl (by first | exact ⟨rfl, rfl⟩ | assumption) (by repeat (first | assumption | exact Take.head _ | apply Take.tail)) (get!_of_lt (by omega)) (tabI_cur xs ys (by omega) (by omega)) (by rw [partI_length _ _ (by omega)]; omega) rfl ?_
          refine WL.heap (fun w h => by rw [tabI_set xs ys (by omega) g1 (by omega) g3 (by rw [hp0, hm0, lcs_cons, if_pos hc4])] at h; exact h) ?_
          refine WL.nil ?_
          refine blockQ.normal ?_
          refine thenQ.normal ?_
          refine WC.region ?_
          refine WL.rd rfl rfl rfl (Rd.move rfl rfl) ?_
          refine WL.rd rfl rfl rfl (Rd.sub rfl rfl rfl (by omega)) ?_
          refine WL.rd rfl rfl rfl (Rd.assign rfl rfl) ?_
          refine WL.nil ?_
          -- next3_1
          exact loopQ1.mk (p - 1) (by omega) (by omega) (by repeat (first | exact Sub.nil | refine Sub.cons rfl (by first | rfl | (congr 1; omega) | assumption) ?_)) (fun w h => OwnL.sat (by repeat (first | exact OwnL.refl | apply OwnL.take (by repeat (first | exact Take.head _ | apply Take.tail)) | apply OwnL.drop)) w (h.thin (SubL.mem (by repeat (first | exact SubL.refl | refine SubL.cons (by repeat (first | assumption | exact List.mem_cons_self | refine List.mem_cons_of_mem _ ?_)) ?_ | refine SubL.skip ?_)))))
        · skip
          have hp0 := drop_get' (xs := ys) (m := p) (by omega) g3; have hm0 := drop_get' (xs := xs) (m := m) (by omega) g1
          refine WC.seq ?_
          refine WC.still mixed (by kernel_rfl) ?_
          refine WA.rd rfl rfl rfl (Rd.move rfl rfl) ?_
          refine WA.rd rfl rfl rfl (Rd.move rfl rfl) ?_
          refine WA.rd rfl rfl rfl (Rd.add rfl rfl rfl (by omega)) ?_
          refine WA.rd rfl rfl rfl ((by first | exact Rd.idx1 (k := m) rfl S79 rfl rfl (by omega) (by repeat (first | assumption | exact List.mem_cons_self | refine List.mem_cons_of_mem _ ?_)) (by first | omega | (simp only [List.length_cons, List.length_nil, List.length_append, List.length_map]; omega)) | exact Rd.idxA1 (k := m) rfl S79 rfl rfl (by omega) (by repeat (first | assumption | exact List.mem_cons_self | refine List.mem_cons_of_mem _ ?_)) (by first | omega | (simp only [List.length_cons, List.length_nil, List.length_append, List.length_map]; omega)) | exact Rd.idxR1 (k := m) rfl S79 rfl rfl (by omega) (by omega))) ?_
          refine WA.rd rfl rfl rfl ((by first | exact Rd.get rfl C56 rfl (by repeat (first | assumption | exact List.mem_cons_self | refine List.mem_cons_of_mem _ ?_)) (by first | assumption | rfl | exact get!_of_lt (by omega)) | exact Rd.getA rfl C56 rfl (by repeat (first | assumption | exact List.mem_cons_self | refine List.mem_cons_of_mem _ ?_)) (by first | assumption | rfl | exact get!_of_lt (by omega)) | exact Rd.row1 rfl C56 rfl (by repeat (first | assumption | exact List.mem_cons_self | refine List.mem_cons_of_mem _ ?_)) (by rfl) | exact Rd.getF rfl C56 rfl (by repeat (first | assumption | exact List.mem_cons_self | refine List.mem_cons_of_mem _ ?_)) (by intro x; first | rfl | (cases x; rfl) | (rcases x with ⟨_, _, _⟩; rfl) | (rcases x with ⟨_, _, _, _⟩; rfl)) rfl (by first | assumption | rfl | exact get!_of_lt (by omega)) (by rfl) | exact Rd.getFA rfl C56 rfl (by repeat (first | assumption | exact List.mem_cons_self | refine List.mem_cons_of_mem _ ?_)) (by intro x; first | rfl | (cases x; rfl) | (rcases x with ⟨_, _, _⟩; rfl) | (rcases x with ⟨_, _, _, _⟩; rfl)) rfl (by first | assumption | rfl | exact get!_of_lt (by omega)) (by rfl))) ?_
          refine WA.rd rfl rfl rfl (Rd.move rfl rfl) ?_
          refine WA.rd rfl rfl rfl ((by first | exact Rd.idx1 (k := p - 1) rfl S56 rfl rfl (by omega) (by repeat (first | assumption | exact List.mem_cons_self | refine List.mem_cons_of_mem _ ?_)) (by first | omega | (simp only [List.length_cons, List.length_nil, List.length_append, List.length_map]; omega)) | exact Rd.idxA1 (k := p - 1) rfl S56 rfl rfl (by omega) (by repeat (first | assumption | exact List.mem_cons_self | refine List.mem_cons_of_mem _ ?_)) (by first | omega | (simp only [List.length_cons, List.length_nil, List.length_append, List.length_map]; omega)) | exact Rd.idxR1 (k := p - 1) rfl S56 rfl rfl (by omega) (by omega))) ?_
          refine WA.rd rfl rfl rfl (Rd.rows1 (i := m) rfl C3 rfl (by repeat (first | assumption | exact List.mem_cons_self | refine List.mem_cons_of_mem _ ?_)) (get!_of_lt (by omega)) (tabI_row xs ys (by omega) (Nat.le_refl _)) (partI_get _ ys (Nat.zero_le _) (q := p - 1) (by omega))) ?_
          refine WA.rd rfl rfl rfl (Rd.move rfl rfl) ?_
          refine WA.rd rfl rfl rfl (Rd.move rfl rfl) ?_
          refine WA.rd rfl rfl rfl ((by first | exact Rd.idx1 (k := m - 1) rfl S79 rfl rfl (by omega) (by repeat (first | assumption | exact List.mem_cons_self | refine List.mem_cons_of_mem _ ?_)) (by first | omega | (simp only [List.length_cons, List.length_nil, List.length_append, List.length_map]; omega)) | exact Rd.idxA1 (k := m - 1) rfl S79 rfl rfl (by omega) (by repeat (first | assumption | exact List.mem_cons_self | refine List.mem_cons_of_mem _ ?_)) (by first | omega | (simp only [List.length_cons, List.length_nil, List.length_append, List.length_map]; omega)) | exact Rd.idxR1 (k := m - 1) rfl S79 rfl rfl (by omega) (by omega))) ?_
          refine WA.rd rfl rfl rfl ((by first | exact Rd.get rfl C56 rfl (by repeat (first | assumption | exact List.mem_cons_self | refine List.mem_cons_of_mem _ ?_)) (by first | assumption | rfl | exact get!_of_lt (by omega)) | exact Rd.getA rfl C56 rfl (by repeat (first | assumption | exact List.mem_cons_self | refine List.mem_cons_of_mem _ ?_)) (by first | assumption | rfl | exact get!_of_lt (by omega)) | exact Rd.row1 rfl C56 rfl (by repeat (first | assumption | exact List.mem_cons_self | refine List.mem_cons_of_mem _ ?_)) (by rfl) | exact Rd.getF rfl C56 rfl (by repeat (first | assumption | exact List.mem_cons_self | refine List.mem_cons_of_mem _ ?_)) (by intro x; first | rfl | (cases x; rfl) | (rcases x with ⟨_, _, _⟩; rfl) | (rcases x with ⟨_, _, _, _⟩; rfl)) rfl (by first | assumption | rfl | exact get!_of_lt (by omega)) (by rfl) | exact Rd.getFA rfl C56 rfl (by repeat (first | assumption | exact List.mem_cons_self | refine List.mem_cons_of_mem _ ?_)) (by intro x; first | rfl | (cases x; rfl) | (rcases x with ⟨_, _, _⟩; rfl) | (rcases x with ⟨_, _, _, _⟩; rfl)) rfl (by first | assumption | rfl | exact get!_of_lt (by omega)) (by rfl))) ?_
          refine WA.rd rfl rfl rfl (Rd.move rfl rfl) ?_
          refine WA.rd rfl rfl rfl (Rd.add rfl rfl rfl (by omega)) ?_
          refine WA.rd rfl rfl rfl ((by first | exact Rd.idx1 (k := p) rfl S56 rfl rfl (by omega) (by repeat (first | assumption | exact List.mem_cons_self | refine List.mem_cons_of_mem _ ?_)) (by first | omega | (simp only [List.length_cons, List.length_nil, List.length_append, List.length_map]; omega)) | exact Rd.idxA1 (k := p) rfl S56 rfl rfl (by omega) (by repeat (first | assumption | exact List.mem_cons_self | refine List.mem_cons_of_mem _ ?_)) (by first | omega | (simp only [List.length_cons, List.length_nil, List.length_append, List.length_map]; omega)) | exact Rd.idxR1 (k := p) rfl S56 rfl rfl (by omega) (by omega))) ?_
          refine WA.rd rfl rfl rfl (Rd.rows1 (i := m - 1) rfl C3 rfl (by repeat (first | assumption | exact List.mem_cons_self | refine List.mem_cons_of_mem _ ?_)) (get!_of_lt (by omega)) (tabI_cur xs ys (by omega) (by omega)) (partI_get _ ys (Nat.le_refl _) g3)) ?_
          refine WA.rd rfl rfl rfl (Rd.gtr rfl rfl rfl) ?_
          refine WA.nil ?_
          refine thenQ.normal ?_
          first | refine WC.ite rfl (fun hc5 => ?_) (fun hc5 => ?_) | refine WC.cond rfl (fun hc5 => ?_) (fun hc5 => ?_)
          · skip
            refine WC.tail 14 mixed (by kernel_rfl) ?_
            refine WS.rd rfl rfl rfl (Rd.move rfl rfl) ?_
            refine WS.rd rfl rfl rfl (Rd.move rfl rfl) ?_
            refine WS.rd rfl rfl rfl ((by first | exact Rd.idx1 (k := m - 1) rfl S79 rfl rfl (by omega) (by repeat (first | assumption | exact List.mem_cons_self | refine List.mem_cons_of_mem _ ?_)) (by first | omega | (simp only [List.length_cons, List.length_nil, List.length_append, List.length_map]; omega)) | exact Rd.idxA1 (k := m - 1) rfl S79 rfl rfl (by omega) (by repeat (first | assumption | exact List.mem_cons_self | refine List.mem_cons_of_mem _ ?_)) (by first | omega | (simp only [List.length_cons, List.length_nil, List.length_append, List.length_map]; omega)) | exact Rd.idxR1 (k := m - 1) rfl S79 rfl rfl (by omega) (by omega))) ?_
            refine WS.rd rfl rfl rfl ((by first | exact Rd.get rfl C56 rfl (by repeat (first | assumption | exact List.mem_cons_self | refine List.mem_cons_of_mem _ ?_)) (by first | assumption | rfl | exact get!_of_lt (by omega)) | exact Rd.getA rfl C56 rfl (by repeat (first | assumption | exact List.mem_cons_self | refine List.mem_cons_of_mem _ ?_)) (by first | assumption | rfl | exact get!_of_lt (by omega)) | exact Rd.row1 rfl C56 rfl (by repeat (first | assumption | exact List.mem_cons_self | refine List.mem_cons_of_mem _ ?_)) (by rfl) | exact Rd.getF rfl C56 rfl (by repeat (first | assumption | exact List.mem_cons_self | refine List.mem_cons_of_mem _ ?_)) (by intro x; first | rfl | (cases x; rfl) | (rcases x with ⟨_, _, _⟩; rfl) | (rcases x with ⟨_, _, _, _⟩; rfl)) rfl (by first | assumption | rfl | exact get!_of_lt (by omega)) (by rfl) | exact Rd.getFA rfl C56 rfl (by repeat (first | assumption | exact List.mem_cons_self | refine List.mem_cons_of_mem _ ?_)) (by intro x; first | rfl | (cases x; rfl) | (rcases x with ⟨_, _, _⟩; rfl) | (rcases x with ⟨_, _, _, _⟩; rfl)) rfl (by first | assumption | rfl | exact get!_of_lt (by omega)) (by rfl))) ?_
            refine WS.rd rfl rfl rfl (Rd.move rfl rfl) ?_
            refine WS.rd rfl rfl rfl (Rd.move rfl rfl) ?_
            refine WS.rd rfl rfl rfl (Rd.move rfl rfl) ?_
            refine WS.rd rfl rfl rfl (Rd.add rfl rfl rfl (by omega)) ?_
            refine WS.rd rfl rfl rfl ((by first | exact Rd.idx1 (k := m) rfl S79 rfl rfl (by omega) (by repeat (first | assumption | exact List.mem_cons_self | refine List.mem_cons_of_mem _ ?_)) (by first | omega | (simp only [List.length_cons, List.length_nil, List.length_append, List.length_map]; omega)) | exact Rd.idxA1 (k := m) rfl S79 rfl rfl (by omega) (by repeat (first | assumption | exact List.mem_cons_self | refine List.mem_cons_of_mem _ ?_)) (by first | omega | (simp only [List.length_cons, List.length_nil, List.length_append, List.length_map]; omega)) | exact Rd.idxR1 (k := m) rfl S79 rfl rfl (by omega) (by omega))) ?_
            refine WS.rd rfl rfl rfl ((by first | exact Rd.get rfl C56 rfl (by repeat (first | assumption | exact List.mem_cons_self | refine List.mem_cons_of_mem _ ?_)) (by first | assumption | rfl | exact get!_of_lt (by omega)) | exact Rd.getA rfl C56 rfl (by repeat (first | assumption | exact List.mem_cons_self | refine List.mem_cons_of_mem _ ?_)) (by first | assumption | rfl | exact get!_of_lt (by omega)) | exact Rd.row1 rfl C56 rfl (by repeat (first | assumption | exact List.mem_cons_self | refine List.mem_cons_of_mem _ ?_)) (by rfl) | exact Rd.getF rfl C56 rfl (by repeat (first | assumption | exact List.mem_cons_self | refine List.mem_cons_of_mem _ ?_)) (by intro x; first | rfl | (cases x; rfl) | (rcases x with ⟨_, _, _⟩; rfl) | (rcases x with ⟨_, _, _, _⟩; rfl)) rfl (by first | assumption | rfl | exact get!_of_lt (by omega)) (by rfl) | exact Rd.getFA rfl C56 rfl (by repeat (first | assumption | exact List.mem_cons_self | refine List.mem_cons_of_mem _ ?_)) (by intro x; first | rfl | (cases x; rfl) | (rcases x with ⟨_, _, _⟩; rfl) | (rcases x with ⟨_, _, _, _⟩; rfl)) rfl (by first | assumption | rfl | exact get!_of_lt (by omega)) (by rfl))) ?_
            refine WS.rd rfl rfl rfl (Rd.move rfl rfl) ?_
            refine WS.rd rfl rfl rfl ((by first | exact Rd.idx1 (k := p - 1) rfl S56 rfl rfl (by omega) (by repeat (first | assumption | exact List.mem_cons_self | refine List.mem_cons_of_mem _ ?_)) (by first | omega | (simp only [List.length_cons, List.length_nil, List.length_append, List.length_map]; omega)) | exact Rd.idxA1 (k := p - 1) rfl S56 rfl rfl (by omega) (by repeat (first | assumption | exact List.mem_cons_self | refine List.mem_cons_of_mem _ ?_)) (by first | omega | (simp only [List.length_cons, List.length_nil, List.length_append, List.length_map]; omega)) | exact Rd.idxR1 (k := p - 1) rfl S56 rfl rfl (by omega) (by omega))) ?_
            refine WS.rd rfl rfl rfl (Rd.rows1 (i := m) rfl C3 rfl (by repeat (first | assumption | exact List.mem_cons_self | refine List.mem_cons_of_mem _ ?_)) (get!_of_lt (by omega)) (tabI_row xs ys (by omega) (Nat.le_refl _)) (partI_get _ ys (Nat.zero_le _) (q := p - 1) (by omega))) ?_
            refine WS.rd rfl rfl rfl ((by first | exact Rd.idx1 (k := p - 1) rfl S56 rfl rfl (by omega) (by repeat (first | assumption | exact List.mem_cons_self | refine List.mem_cons_of_mem _ ?_)) (by first | omega | (simp only [List.length_cons, List.length_nil, List.length_append, List.length_map]; omega)) | exact Rd.idxA1 (k := p - 1) rfl S56 rfl rfl (by omega) (by repeat (first | assumption | exact List.mem_cons_self | refine List.mem_cons_of_mem _ ?_)) (by first | omega | (simp only [List.length_cons, List.length_nil, List.length_append, List.length_map]; omega)) | exact Rd.idxR1 (k := p - 1) rfl S56 rfl rfl (by omega) (by omega))) ?_
            refine WS.switch ?_
            refine WL.op rfl ?_
            refine OpW.storeRows (i := m - 1) rfl Z3 rfl rfl (by first | exact ⟨rfl, rfl⟩ | assumption) (by repeat (first | assumption | exact Take.head _ | apply Take.tail)) (get!_of_lt (by omega)) (tabI_cur xs ys (by omega) (by omega)) (by rw [partI_length _ _ (by omega)]; omega) rfl ?_
            refine WL.heap (fun w h => by rw [tabI_set xs ys (by omega) g1 (by omega) g3 (by rw [hp0, hm0, lcs_cons, if_neg hc4, ← hp0, ← hm0]; omega)] at h; exact h) ?_
            refine WL.nil ?_
            refine blockQ.normal ?_
            refine thenQ.normal ?_
            refine WC.region ?_
            refine WL.rd rfl rfl rfl (Rd.move rfl rfl) ?_
            refine WL.rd rfl rfl rfl (Rd.sub rfl rfl rfl (by omega)) ?_
            refine WL.rd rfl rfl rfl (Rd.assign rfl rfl) ?_
            refine WL.nil ?_
            -- next3_2
            exact loopQ1.mk (p - 1) (by omega) (by omega) (by repeat (first | exact Sub.nil | refine Sub.cons rfl (by first | rfl | (congr 1; omega) | assumption) ?_)) (fun w h => OwnL.sat (by repeat (first | exact OwnL.refl | apply OwnL.take (by repeat (first | exact Take.head _ | apply Take.tail)) | apply OwnL.drop)) w (h.thin (SubL.mem (by repeat (first | exact SubL.refl | refine SubL.cons (by repeat (first | assumption | exact List.mem_cons_self | refine List.mem_cons_of_mem _ ?_)) ?_ | refine SubL.skip ?_)))))
          · skip
            refine WC.tail 14 mixed (by kernel_rfl) ?_
            refine WS.rd rfl rfl rfl (Rd.move rfl rfl) ?_
            refine WS.rd rfl rfl rfl (Rd.move rfl rfl) ?_
            refine WS.rd rfl rfl rfl ((by first | exact Rd.idx1 (k := m - 1) rfl S79 rfl rfl (by omega) (by repeat (first | assumption | exact List.mem_cons_self | refine List.mem_cons_of_mem _ ?_)) (by first | omega | (simp only [List.length_cons, List.length_nil, List.length_append, List.length_map]; omega)) | exact Rd.idxA1 (k := m - 1) rfl S79 rfl rfl (by omega) (by repeat (first | assumption | exact List.mem_cons_self | refine List.mem_cons_of_mem _ ?_)) (by first | omega | (simp only [List.length_cons, List.length_nil, List.length_append, List.length_map]; omega)) | exact Rd.idxR1 (k := m - 1) rfl S79 rfl rfl (by omega) (by omega))) ?_
            refine WS.rd rfl rfl rfl ((by first | exact Rd.get rfl C56 rfl (by repeat (first | assumption | exact List.mem_cons_self | refine List.mem_cons_of_mem _ ?_)) (by first | assumption | rfl | exact get!_of_lt (by omega)) | exact Rd.getA rfl C56 rfl (by repeat (first | assumption | exact List.mem_cons_self | refine List.mem_cons_of_mem _ ?_)) (by first | assumption | rfl | exact get!_of_lt (by omega)) | exact Rd.row1 rfl C56 rfl (by repeat (first | assumption | exact List.mem_cons_self | refine List.mem_cons_of_mem _ ?_)) (by rfl) | exact Rd.getF rfl C56 rfl (by repeat (first | assumption | exact List.mem_cons_self | refine List.mem_cons_of_mem _ ?_)) (by intro x; first | rfl | (cases x; rfl) | (rcases x with ⟨_, _, _⟩; rfl) | (rcases x with ⟨_, _, _, _⟩; rfl)) rfl (by first | assumption | rfl | exact get!_of_lt (by omega)) (by rfl) | exact Rd.getFA rfl C56 rfl (by repeat (first | assumption | exact List.mem_cons_self | refine List.mem_cons_of_mem _ ?_)) (by intro x; first | rfl | (cases x; rfl) | (rcases x with ⟨_, _, _⟩; rfl) | (rcases x with ⟨_, _, _, _⟩; rfl)) rfl (by first | assumption | rfl | exact get!_of_lt (by omega)) (by rfl))) ?_
            refine WS.rd rfl rfl rfl (Rd.move rfl rfl) ?_
            refine WS.rd rfl rfl rfl (Rd.move rfl rfl) ?_
            refine WS.rd rfl rfl rfl (Rd.move rfl rfl) ?_
            refine WS.rd rfl rfl rfl ((by first | exact Rd.idx1 (k := m - 1) rfl S79 rfl rfl (by omega) (by repeat (first | assumption | exact List.mem_cons_self | refine List.mem_cons_of_mem _ ?_)) (by first | omega | (simp only [List.length_cons, List.length_nil, List.length_append, List.length_map]; omega)) | exact Rd.idxA1 (k := m - 1) rfl S79 rfl rfl (by omega) (by repeat (first | assumption | exact List.mem_cons_self | refine List.mem_cons_of_mem _ ?_)) (by first | omega | (simp only [List.length_cons, List.length_nil, List.length_append, List.length_map]; omega)) | exact Rd.idxR1 (k := m - 1) rfl S79 rfl rfl (by omega) (by omega))) ?_
            refine WS.rd rfl rfl rfl ((by first | exact Rd.get rfl C56 rfl (by repeat (first | assumption | exact List.mem_cons_self | refine List.mem_cons_of_mem _ ?_)) (by first | assumption | rfl | exact get!_of_lt (by omega)) | exact Rd.getA rfl C56 rfl (by repeat (first | assumption | exact List.mem_cons_self | refine List.mem_cons_of_mem _ ?_)) (by first | assumption | rfl | exact get!_of_lt (by omega)) | exact Rd.row1 rfl C56 rfl (by repeat (first | assumption | exact List.mem_cons_self | refine List.mem_cons_of_mem _ ?_)) (by rfl) | exact Rd.getF rfl C56 rfl (by repeat (first | assumption | exact List.mem_cons_self | refine List.mem_cons_of_mem _ ?_)) (by intro x; first | rfl | (cases x; rfl) | (rcases x with ⟨_, _, _⟩; rfl) | (rcases x with ⟨_, _, _, _⟩; rfl)) rfl (by first | assumption | rfl | exact get!_of_lt (by omega)) (by rfl) | exact Rd.getFA rfl C56 rfl (by repeat (first | assumption | exact List.mem_cons_self | refine List.mem_cons_of_mem _ ?_)) (by intro x; first | rfl | (cases x; rfl) | (rcases x with ⟨_, _, _⟩; rfl) | (rcases x with ⟨_, _, _, _⟩; rfl)) rfl (by first | assumption | rfl | exact get!_of_lt (by omega)) (by rfl))) ?_
            refine WS.rd rfl rfl rfl (Rd.move rfl rfl) ?_
            refine WS.rd rfl rfl rfl (Rd.add rfl rfl rfl (by omega)) ?_
            refine WS.rd rfl rfl rfl ((by first | exact Rd.idx1 (k := p) rfl S56 rfl rfl (by omega) (by repeat (first | assumption | exact List.mem_cons_self | refine List.mem_cons_of_mem _ ?_)) (by first | omega | (simp only [List.length_cons, List.length_nil, List.length_append, List.length_map]; omega)) | exact Rd.idxA1 (k := p) rfl S56 rfl rfl (by omega) (by repeat (first | assumption | exact List.mem_cons_self | refine List.mem_cons_of_mem _ ?_)) (by first | omega | (simp only [List.length_cons, List.length_nil, List.length_append, List.length_map]; omega)) | exact Rd.idxR1 (k := p) rfl S56 rfl rfl (by omega) (by omega))) ?_
            refine WS.rd rfl rfl rfl (Rd.rows1 (i := m - 1) rfl C3 rfl (by repeat (first | assumption | exact List.mem_cons_self | refine List.mem_cons_of_mem _ ?_)) (get!_of_lt (by omega)) (tabI_cur xs ys (by omega) (by omega)) (partI_get _ ys (Nat.le_refl _) g3)) ?_
            refine WS.rd rfl rfl rfl ((by first | exact Rd.idx1 (k := p - 1) rfl S56 rfl rfl (by omega) (by repeat (first | assumption | exact List.mem_cons_self | refine List.mem_cons_of_mem _ ?_)) (by first | omega | (simp only [List.length_cons, List.length_nil, List.length_append, List.length_map]; omega)) | exact Rd.idxA1 (k := p - 1) rfl S56 rfl rfl (by omega) (by repeat (first | assumption | exact List.mem_cons_self | refine List.mem_cons_of_mem _ ?_)) (by first | omega | (simp only [List.length_cons, List.length_nil, List.length_append, List.length_map]; omega)) | exact Rd.idxR1 (k := p - 1) rfl S56 rfl rfl (by omega) (by omega))) ?_
            refine WS.switch ?_
            refine WL.op rfl ?_
            refine OpW.storeRows (i := m - 1) rfl Z3 rfl rfl (by first | exact ⟨rfl, rfl⟩ | assumption) (by repeat (first | assumption | exact Take.head _ | apply Take.tail)) (get!_of_lt (by omega)) (tabI_cur xs ys (by omega) (by omega)) (by rw [partI_length _ _ (by omega)]; omega) rfl ?_
            refine WL.heap (fun w h => by rw [tabI_set xs ys (by omega) g1 (by omega) g3 (by rw [hp0, hm0, lcs_cons, if_neg hc4, ← hp0, ← hm0]; omega)] at h; exact h) ?_
            refine WL.nil ?_
            refine blockQ.normal ?_
            refine thenQ.normal ?_
            refine WC.region ?_
            refine WL.rd rfl rfl rfl (Rd.move rfl rfl) ?_
            refine WL.rd rfl rfl rfl (Rd.sub rfl rfl rfl (by omega)) ?_
            refine WL.rd rfl rfl rfl (Rd.assign rfl rfl) ?_
            refine WL.nil ?_
            -- next3_3
            exact loopQ1.mk (p - 1) (by omega) (by omega) (by repeat (first | exact Sub.nil | refine Sub.cons rfl (by first | rfl | (congr 1; omega) | assumption) ?_)) (fun w h => OwnL.sat (by repeat (first | exact OwnL.refl | apply OwnL.take (by repeat (first | exact Take.head _ | apply Take.tail)) | apply OwnL.drop)) w (h.thin (SubL.mem (by repeat (first | exact SubL.refl | refine SubL.cons (by repeat (first | assumption | exact List.mem_cons_self | refine List.mem_cons_of_mem _ ?_)) ?_ | refine SubL.skip ?_)))))
      · skip
        refine WC.exit ?_
        refine thenQ.exit ?_
        refine loopQ1.exit ?_
        refine blockQ.exit ?_
        refine blockQ.normal ?_
        refine thenQ.normal ?_
        refine WC.region ?_
        refine WL.rd rfl rfl rfl (Rd.move rfl rfl) ?_
        refine WL.rd rfl rfl rfl (Rd.sub rfl rfl rfl (by omega)) ?_
        refine WL.rd rfl rfl rfl (Rd.assign rfl rfl) ?_
        refine WL.nil ?_
        -- next2_1
        exact loopQ1.mk (m - 1) ⟨by omega, g2⟩ (by omega) (by repeat (first | exact Sub.nil | refine Sub.cons rfl (by first | rfl | (congr 1; omega) | assumption) ?_)) (fun w h => by
        obtain rfl : p = 0 := by omega
        rw [tabI_next xs ys (by omega)] at h
        exact h.swap)
    · skip
      refine WC.exit ?_
      refine thenQ.exit ?_
      refine loopQ1.exit ?_
      refine blockQ.exit ?_
      refine thenQ.normal ?_
      refine WC.seq ?_
      refine WC.region ?_
      refine WL.rd rfl rfl rfl (Rd.move rfl rfl) ?_
      refine WL.rd rfl rfl rfl (Rd.assign rfl rfl) ?_
      refine WL.nil ?_
      refine thenQ.normal ?_
      -- ret_1
      refine WC.heap (R' := SlE (one vid) cv (bs.map (rowSl (ys.length + 1))) :: RowsI (bs.map (rowSl (ys.length + 1))) xs ys :: R) (O' := O) (fun w h => by
      obtain rfl : m = 0 := by omega
      have h1 := h.swap.share (RowsI (bs.map (rowSl (ys.length + 1))) xs ys) (fun w hp _ => rows_share hlb g2 hp)
      have h2 := h1.shareA (xs := bs) (enc := one (rowSl (ys.length + 1))) (by repeat (first | assumption | exact Take.head _ | apply Take.tail))
      exact (h2.weaken List.mem_cons_self (fun w hp => SlE.mapOne hp)).thin (SubL.mem (by repeat (first | exact SubL.refl | refine SubL.cons (by repeat (first | assumption | exact List.mem_cons_self | refine List.mem_cons_of_mem _ ?_)) ?_ | refine SubL.skip ?_)))) ?_
      refine WC.ret (Ret.one Try.results42 rfl ?_)
      exact hk cv _ (by simp; omega)
end Go.Proofs.Ytpicbbkmcbhnpaa
