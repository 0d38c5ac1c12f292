/-
  Layer 19, ListdiffLong: lists that are too long; a long one and itself.
-/
import Derived.Test.YtpicbbkmcbhnpaaLd8
namespace Go.Proofs.Ytpicbbkmcbhnpaa
open Go Go.SL Go.Lcs

/-- What Match keeps of a step. -/
def mat (t : Nat × Nat × Nat) : Option Int := if t.1 = 0 then some (t.2.2 : Int) else if t.1 = 1 then some (-1) else none
theorem mat0 {op i j : Nat} (h : op = 0) : mat (op, i, j) = some (j : Int) := by subst h; rfl
theorem mat1 {op i j : Nat} (h : op = 1) : mat (op, i, j) = some (-1) := by subst h; rfl
theorem mat2 {op i j : Nat} (h : op = 2) : mat (op, i, j) = none := by subst h; rfl
theorem mat_snoc (es : List (Nat × Nat × Nat)) (t : Nat × Nat × Nat) : (es ++ [t]).filterMap mat = es.filterMap mat ++ (mat t).toList := by
  rw [List.filterMap_append]
  simp only [List.filterMap_cons, List.filterMap_nil]
  cases mat t <;> rfl
def matchE (xs ys : List (List UInt8)) : List Int := (trace 0 0 xs ys).filterMap mat

set_option maxHeartbeats 1000000 in
theorem match1_spec {R : List RO} {O : List Own} {POST : Value → List RO → List Own → Prop} {v : Value} {l : List Int} {b6 op i j n m : Nat} (hl : l.length ≤ 8192) (hv : OneV v)
    (hij : (op = 0 ∧ i < n ∧ j < m) ∨ (op = 1 ∧ i < n ∧ j ≤ m) ∨ (op = 2 ∧ i ≤ n ∧ j < m)) (hm : m ≤ 4096)
    (hk : ∀ v' l', OneV v' → l' = l ++ (mat (op, i, j)).toList → POST (.tuple #[]) R (rowC b6 56 [v'] :: accC 3 1 (one vi) v' l' :: O)) :
    Fun Try.prog 36 #[.int .i64 op, .int .i64 i, .int .i64 j, .pointer (some ⟨b6, 0, none⟩)] R (rowC b6 56 [v] :: accC 3 1 (one vi) v l :: O) POST := by
  refine Fun.enter (l := [_, _, _, _]) Try.func36 rfl Try.ntmps36 rfl (L0 := [(0, _), (1, _), (2, _), (3, _)]) rfl ?_
  refine WC.seq ?_
  refine WC.region ?_
  refine WL.rd rfl rfl rfl (Rd.move rfl rfl) ?_
  refine WL.nil ?_
  refine thenQ.normal ?_
  refine WC.block ?_
  refine WC.seq ?_
  refine WC.region ?_
  refine WL.rd rfl rfl rfl (Rd.eql rfl rfl rfl) ?_
  refine WL.rd rfl rfl rfl (Rd.assign rfl rfl) ?_
  refine WL.nil ?_
  refine thenQ.normal ?_
  first | refine WC.ite rfl (fun hc1 => ?_) (fun hc1 => ?_) | refine WC.cond rfl (fun hc1 => ?_) (fun hc1 => ?_)
  · skip
    refine WC.region ?_
    refine WL.rd rfl rfl rfl ((by first | exact Rd.get rfl C56 rfl (by repeat (first | assumption | exact List.mem_cons_self | refine List.mem_cons_of_mem _ ?_)) (by first | assumption | rfl | exact get!_of_lt (by omega)) | exact Rd.getA rfl C56 rfl (by repeat (first | assumption | exact List.mem_cons_self | refine List.mem_cons_of_mem _ ?_)) (by first | assumption | rfl | exact get!_of_lt (by omega)) | exact Rd.row1 rfl C56 rfl (by repeat (first | assumption | exact List.mem_cons_self | refine List.mem_cons_of_mem _ ?_)) (by rfl) | exact Rd.getF rfl C56 rfl (by repeat (first | assumption | exact List.mem_cons_self | refine List.mem_cons_of_mem _ ?_)) (by intro x; first | rfl | (cases x; rfl) | (rcases x with ⟨_, _, _⟩; rfl) | (rcases x with ⟨_, _, _, _⟩; rfl)) rfl (by first | assumption | rfl | exact get!_of_lt (by omega)) (by rfl) | exact Rd.getFA rfl C56 rfl (by repeat (first | assumption | exact List.mem_cons_self | refine List.mem_cons_of_mem _ ?_)) (by intro x; first | rfl | (cases x; rfl) | (rcases x with ⟨_, _, _⟩; rfl) | (rcases x with ⟨_, _, _, _⟩; rfl)) rfl (by first | assumption | rfl | exact get!_of_lt (by omega)) (by rfl))) ?_
    refine WL.rd rfl rfl rfl (Rd.move rfl rfl) ?_
    refine WL.op rfl ?_
    refine OpW.buildSl (ps := [(0, _)]) rfl S56 (by repeat (first | exact Evs.nil | apply Evs.cons rfl)) rfl rfl (by repeat (first | exact CellsOf.nil | apply CellsOf.cons rfl)) (by kernel_rfl) rfl rfl rfl ?_; intro b12
    refine WL.op rfl ?_
    refine OpW.appendRow rfl S56 rfl rfl (by repeat (first | assumption | exact Take.head _ | apply Take.tail)) (by repeat (first | assumption | exact Take.head _ | apply Take.tail)) [(j : Int)] rfl (by rfl) rfl (by intro x; first | rfl | (cases x; rfl) | (rcases x with ⟨_, _, _⟩; rfl) | (rcases x with ⟨_, _, _, _⟩; rfl)) (by intro x; first | rfl | (cases x; rfl) | (rcases x with ⟨_, _, _⟩; rfl) | (rcases x with ⟨_, _, _, _⟩; rfl)) ⟨by simp only [maxLen, List.length_append, List.length_nil, List.length_cons, List.length_drop, List.length_take, List.length_map]; omega, by first | omega | (simp only [List.length_append, List.length_nil, List.length_cons, List.length_drop, List.length_take, List.length_map]; omega)⟩ rfl rfl ?_; intro v13 hv13
    refine WL.op rfl ?_
    refine OpW.store1 rfl Z56 rfl rfl (by first | exact ⟨rfl, rfl⟩ | assumption) (by repeat (first | assumption | exact Take.head _ | apply Take.tail)) (by first | (simp; done) | omega | exact of_decide_eq_true rfl | (simp only [List.length_append, List.length_replicate, List.length_map, List.length_set]; omega)) rfl ?_
    refine WL.nil ?_
    refine blockQ.normal ?_
    -- ret_1
    refine Ret.normal (Ret.zero Try.results36 ?_)
    exact hk _ _ hv13 (by rw [mat0 (by omega)]; rfl)
  · skip
    refine WC.seq ?_
    refine WC.region ?_
    refine WL.rd rfl rfl rfl (Rd.eql rfl rfl rfl) ?_
    refine WL.rd rfl rfl rfl (Rd.assign rfl rfl) ?_
    refine WL.nil ?_
    refine thenQ.normal ?_
    first | refine WC.ite rfl (fun hc2 => ?_) (fun hc2 => ?_) | refine WC.cond rfl (fun hc2 => ?_) (fun hc2 => ?_)
    · skip
      refine WC.region ?_
      refine WL.rd rfl rfl rfl ((by first | exact Rd.get rfl C56 rfl (by repeat (first | assumption | exact List.mem_cons_self | refine List.mem_cons_of_mem _ ?_)) (by first | assumption | rfl | exact get!_of_lt (by omega)) | exact Rd.getA rfl C56 rfl (by repeat (first | assumption | exact List.mem_cons_self | refine List.mem_cons_of_mem _ ?_)) (by first | assumption | rfl | exact get!_of_lt (by omega)) | exact Rd.row1 rfl C56 rfl (by repeat (first | assumption | exact List.mem_cons_self | refine List.mem_cons_of_mem _ ?_)) (by rfl) | exact Rd.getF rfl C56 rfl (by repeat (first | assumption | exact List.mem_cons_self | refine List.mem_cons_of_mem _ ?_)) (by intro x; first | rfl | (cases x; rfl) | (rcases x with ⟨_, _, _⟩; rfl) | (rcases x with ⟨_, _, _, _⟩; rfl)) rfl (by first | assumption | rfl | exact get!_of_lt (by omega)) (by rfl) | exact Rd.getFA rfl C56 rfl (by repeat (first | assumption | exact List.mem_cons_self | refine List.mem_cons_of_mem _ ?_)) (by intro x; first | rfl | (cases x; rfl) | (rcases x with ⟨_, _, _⟩; rfl) | (rcases x with ⟨_, _, _, _⟩; rfl)) rfl (by first | assumption | rfl | exact get!_of_lt (by omega)) (by rfl))) ?_
      refine WL.op rfl ?_
      refine OpW.buildSl (ps := [(0, _)]) rfl S56 (by repeat (first | exact Evs.nil | apply Evs.cons rfl)) rfl rfl (by repeat (first | exact CellsOf.nil | apply CellsOf.cons rfl)) (by kernel_rfl) rfl rfl rfl ?_; intro b17
      refine WL.op rfl ?_
      refine OpW.appendRow rfl S56 rfl rfl (by repeat (first | assumption | exact Take.head _ | apply Take.tail)) (by repeat (first | assumption | exact Take.head _ | apply Take.tail)) [(-1 : Int)] rfl (by rfl) rfl (by intro x; first | rfl | (cases x; rfl) | (rcases x with ⟨_, _, _⟩; rfl) | (rcases x with ⟨_, _, _, _⟩; rfl)) (by intro x; first | rfl | (cases x; rfl) | (rcases x with ⟨_, _, _⟩; rfl) | (rcases x with ⟨_, _, _, _⟩; rfl)) ⟨by simp only [maxLen, List.length_append, List.length_nil, List.length_cons, List.length_drop, List.length_take, List.length_map]; omega, by first | omega | (simp only [List.length_append, List.length_nil, List.length_cons, List.length_drop, List.length_take, List.length_map]; omega)⟩ rfl rfl ?_; intro v18 hv18
      refine WL.op rfl ?_
      refine OpW.store1 rfl Z56 rfl rfl (by first | exact ⟨rfl, rfl⟩ | assumption) (by repeat (first | assumption | exact Take.head _ | apply Take.tail)) (by first | (simp; done) | omega | exact of_decide_eq_true rfl | (simp only [List.length_append, List.length_replicate, List.length_map, List.length_set]; omega)) rfl ?_
      refine WL.nil ?_
      refine blockQ.normal ?_
      -- ret_2
      refine Ret.normal (Ret.zero Try.results36 ?_)
      exact hk _ _ hv18 (by rw [mat1 (by omega)]; rfl)
    · skip
      refine WC.skip ?_
      refine blockQ.normal ?_
      -- ret_3
      refine Ret.normal (Ret.zero Try.results36 ?_)
      exact hk _ _ hv (by rw [mat2 (by omega)]; simp)

def MatSt (b6 : Nat) (O0 : List Own) (es : List (Nat × Nat × Nat)) (O : List Own) : Prop :=
  ∃ v, OneV v ∧ O = rowC b6 56 [v] :: accC 3 1 (one vi) v (es.filterMap mat) :: O0
theorem match_tell {R : List RO} {n m : Nat} {b6 : Nat} {O0 : List Own} (hm : m ≤ 4096) :
    Tell 36 [.pointer (some ⟨b6, 0, none⟩)] R n m (MatSt b6 O0) := by
  rintro R' hR es O op i j ⟨v, hv, rfl⟩ hl hij POST hk
  refine match1_spec (n := n) (m := m) (Nat.le_trans (List.length_filterMap_le _ _) hl) hv hij hm ?_
  intro v' l' hv' hl'
  subst hl'
  exact hk _ ⟨v', hv', by rw [mat_snoc]⟩

set_option maxHeartbeats 1000000 in
theorem match_spec {R : List RO} {O : List Own} {POST : Value → List RO → List Own → Prop} {xs ys : List (List UInt8)} {av bv : Value} (ha : Strs av xs ∈ R) (hb : Strs bv ys ∈ R) (hla : xs.length ≤ 4096) (hlb : ys.length ≤ 4096)
    (hk : ∀ v, POST (.tuple #[v, .int .i64 0]) (SlE (one vi) v (matchE xs ys) :: R) O) : Fun Try.prog 25 #[av, bv] R O POST := by
  refine Fun.enter (l := [_, _]) Try.func25 rfl Try.ntmps25 rfl (L0 := [(0, _), (1, _)]) rfl ?_
  refine WC.seq ?_
  refine WC.region ?_
  refine WL.rd rfl rfl rfl (Rd.assign rfl rfl) ?_
  refine WL.rd rfl rfl rfl (Rd.assign rfl rfl) ?_
  refine WL.nil ?_
  refine thenQ.normal ?_
  refine WC.seq ?_
  refine WC.heap (fun w h => h.accNil (α := Int) (e := 3) (size := 1) (enc := one vi)) ?_
  refine WC.region ?_
  refine WL.op rfl ?_
  refine OpW.alloc rfl I56 rfl (by repeat (first | exact NF.nil | apply NF.cons)) rfl rfl ?_; intro b6
  refine WL.nil ?_
  refine thenQ.normal ?_
  refine WC.seq ?_
  refine WC.region ?_
  refine WL.rd rfl rfl rfl (Rd.move rfl rfl) ?_
  refine WL.rd rfl rfl rfl (Rd.move rfl rfl) ?_
  refine WL.rd rfl rfl rfl (Rd.func rfl (by repeat (first | exact Evs.nil | apply Evs.cons rfl)) (by repeat (first | exact Evs.nil | apply Evs.cons rfl)) ⟨_, rfl⟩) ?_
  refine WL.op rfl ?_
  refine OpW.call rfl rfl (by repeat (first | exact Evs.nil | apply Evs.cons rfl)) (by kernel_rfl) rfl rfl rfl ?_
  refine walk_spec (St := MatSt b6 O) ha hb hla hlb (by kernel_rfl) (match_tell hlb) ⟨_, OneV.sl, rfl⟩ ?_
  rintro O1 ⟨v, hv, rfl⟩
  refine WL.rd rfl rfl rfl (Rd.assign rfl rfl) ?_
  refine WL.nil ?_
  refine thenQ.normal ?_
  refine WC.seq ?_
  refine WC.region ?_
  refine WL.rd rfl rfl rfl ((by first | exact Rd.get rfl C56 rfl (by repeat (first | assumption | exact List.mem_cons_self | refine List.mem_cons_of_mem _ ?_)) (by first | assumption | rfl | exact get!_of_lt (by omega)) | exact Rd.getA rfl C56 rfl (by repeat (first | assumption | exact List.mem_cons_self | refine List.mem_cons_of_mem _ ?_)) (by first | assumption | rfl | exact get!_of_lt (by omega)) | exact Rd.row1 rfl C56 rfl (by repeat (first | assumption | exact List.mem_cons_self | refine List.mem_cons_of_mem _ ?_)) (by rfl) | exact Rd.getF rfl C56 rfl (by repeat (first | assumption | exact List.mem_cons_self | refine List.mem_cons_of_mem _ ?_)) (by intro x; first | rfl | (cases x; rfl) | (rcases x with ⟨_, _, _⟩; rfl) | (rcases x with ⟨_, _, _, _⟩; rfl)) rfl (by first | assumption | rfl | exact get!_of_lt (by omega)) (by rfl) | exact Rd.getFA rfl C56 rfl (by repeat (first | assumption | exact List.mem_cons_self | refine List.mem_cons_of_mem _ ?_)) (by intro x; first | rfl | (cases x; rfl) | (rcases x with ⟨_, _, _⟩; rfl) | (rcases x with ⟨_, _, _, _⟩; rfl)) rfl (by first | assumption | rfl | exact get!_of_lt (by omega)) (by rfl))) ?_
  refine WL.rd rfl rfl rfl (Rd.move rfl rfl) ?_
  refine WL.rd rfl rfl rfl (Rd.assign rfl rfl) ?_
  refine WL.rd rfl rfl rfl (Rd.assign rfl rfl) ?_
  refine WL.nil ?_
  refine thenQ.normal ?_
  -- ret_1
  refine WC.heap (fun w h => h.shareA (e := 3) (size := 1) (enc := one vi) (v := v) (xs := (trace 0 0 xs ys).filterMap mat) (by repeat (first | assumption | exact Take.head _ | apply Take.tail))) ?_
  refine WC.heap (R' := SlE (one vi) v (matchE xs ys) :: R) (O' := O) (fun w h => OwnL.sat (by repeat (first | exact OwnL.refl | apply OwnL.take (by repeat (first | exact Take.head _ | apply Take.tail)) | apply OwnL.drop)) w (h.thin (SubL.mem (by repeat (first | exact SubL.refl | refine SubL.cons (by repeat (first | assumption | exact List.mem_cons_self | refine List.mem_cons_of_mem _ ?_)) ?_ | refine SubL.skip ?_))))) ?_
  refine WC.ret (Ret.two Try.results25 rfl rfl ?_)
  exact hk v

set_option maxHeartbeats 1000000 in
theorem match_long {R : List RO} {O : List Own} {POST : Value → List RO → List Own → Prop} {xs ys : List (List UInt8)} {av bv : Value} (ha : Strs av xs ∈ R) (hb : Strs bv ys ∈ R) (hl : 4096 < xs.length ∨ 4096 < ys.length)
    (hk : POST (.tuple #[.slice none 0 0, .int .i64 6]) R O) : Fun Try.prog 25 #[av, bv] R O POST := by
  refine Fun.enter (l := [_, _]) Try.func25 rfl Try.ntmps25 rfl (L0 := [(0, _), (1, _)]) rfl ?_
  refine WC.seq ?_
  refine WC.region ?_
  refine WL.rd rfl rfl rfl (Rd.assign rfl rfl) ?_
  refine WL.rd rfl rfl rfl (Rd.assign rfl rfl) ?_
  refine WL.nil ?_
  refine thenQ.normal ?_
  refine WC.seq ?_
  refine WC.region ?_
  refine WL.op rfl ?_
  refine OpW.alloc rfl I56 rfl (by repeat (first | exact NF.nil | apply NF.cons)) rfl rfl ?_; intro b6
  refine WL.nil ?_
  refine thenQ.normal ?_
  refine WC.seq ?_
  refine WC.region ?_
  refine WL.rd rfl rfl rfl (Rd.move rfl rfl) ?_
  refine WL.rd rfl rfl rfl (Rd.move rfl rfl) ?_
  refine WL.rd rfl rfl rfl (Rd.func rfl (by repeat (first | exact Evs.nil | apply Evs.cons rfl)) (by repeat (first | exact Evs.nil | apply Evs.cons rfl)) ⟨_, rfl⟩) ?_
  refine WL.op rfl ?_
  refine OpW.call rfl rfl (by repeat (first | exact Evs.nil | apply Evs.cons rfl)) (by kernel_rfl) rfl rfl rfl ?_
  refine walk_long ha hb hl ?_
  refine WL.rd rfl rfl rfl (Rd.assign rfl rfl) ?_
  refine WL.nil ?_
  refine thenQ.normal ?_
  refine WC.seq ?_
  refine WC.region ?_
  refine WL.rd rfl rfl rfl ((by first | exact Rd.get rfl C56 rfl (by repeat (first | assumption | exact List.mem_cons_self | refine List.mem_cons_of_mem _ ?_)) (by first | assumption | rfl | exact get!_of_lt (by omega)) | exact Rd.getA rfl C56 rfl (by repeat (first | assumption | exact List.mem_cons_self | refine List.mem_cons_of_mem _ ?_)) (by first | assumption | rfl | exact get!_of_lt (by omega)) | exact Rd.row1 rfl C56 rfl (by repeat (first | assumption | exact List.mem_cons_self | refine List.mem_cons_of_mem _ ?_)) (by rfl) | exact Rd.getF rfl C56 rfl (by repeat (first | assumption | exact List.mem_cons_self | refine List.mem_cons_of_mem _ ?_)) (by intro x; first | rfl | (cases x; rfl) | (rcases x with ⟨_, _, _⟩; rfl) | (rcases x with ⟨_, _, _, _⟩; rfl)) rfl (by first | assumption | rfl | exact get!_of_lt (by omega)) (by rfl) | exact Rd.getFA rfl C56 rfl (by repeat (first | assumption | exact List.mem_cons_self | refine List.mem_cons_of_mem _ ?_)) (by intro x; first | rfl | (cases x; rfl) | (rcases x with ⟨_, _, _⟩; rfl) | (rcases x with ⟨_, _, _, _⟩; rfl)) rfl (by first | assumption | rfl | exact get!_of_lt (by omega)) (by rfl))) ?_
  refine WL.rd rfl rfl rfl (Rd.move rfl rfl) ?_
  refine WL.rd rfl rfl rfl (Rd.assign rfl rfl) ?_
  refine WL.rd rfl rfl rfl (Rd.assign rfl rfl) ?_
  refine WL.nil ?_
  refine thenQ.normal ?_
  -- ret_1
  refine WC.heap (R' := R) (O' := O) (fun w h => OwnL.sat (by repeat (first | exact OwnL.refl | apply OwnL.take (by repeat (first | exact Take.head _ | apply Take.tail)) | apply OwnL.drop)) w (h.thin (SubL.mem (by repeat (first | exact SubL.refl | refine SubL.cons (by repeat (first | assumption | exact List.mem_cons_self | refine List.mem_cons_of_mem _ ?_)) ?_ | refine SubL.skip ?_))))) ?_
  refine WC.ret (Ret.two Try.results25 rfl rfl ?_)
  exact hk
end Go.Proofs.Ytpicbbkmcbhnpaa
