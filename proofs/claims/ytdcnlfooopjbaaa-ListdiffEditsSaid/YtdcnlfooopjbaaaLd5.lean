/-
  Walks of layer 19: Diff and Match, over walk.
-/
import Derived.Test.YtdcnlfooopjbaaaLd4
namespace Go.Proofs.Ytdcnlfooopjbaaa
open Go Go.SL Go.Lcs

/-- The edit of a step. -/
def edit (xs ys : List (List UInt8)) (t : Nat × Nat × Nat) : Ed := ((t.1 : Int), if t.1 = 2 then ys[t.2.2]! else xs[t.2.1]!)

set_option maxHeartbeats 1000000 in
theorem diff1_spec {R : List RO} {O : List Own} {POST : Value → List RO → List Own → Prop} {xs ys : List (List UInt8)} {av bv v : Value} {l : List Ed} {b6 b3 b2 op i j : Nat} (ha : Strs av xs ∈ R) (hb : Strs bv ys ∈ R) (hl : l.length ≤ 8192)
    (hij : (op = 0 ∧ i < xs.length ∧ j < ys.length) ∨ (op = 1 ∧ i < xs.length ∧ j ≤ ys.length) ∨ (op = 2 ∧ i ≤ xs.length ∧ j < ys.length))
    (hk : ∀ v', OneV v' → POST (.tuple #[]) R (rowC b6 26 [v'] :: accC 28 2 encE v' (l ++ [edit xs ys (op, i, j)]) :: rowC b3 22 [bv] :: rowC b2 22 [av] :: O)) :
    Fun Try.prog 20 #[.int .i64 op, .int .i64 i, .int .i64 j, .pointer (some ⟨b6, 0, none⟩), .pointer (some ⟨b3, 0, none⟩), .pointer (some ⟨b2, 0, none⟩)] R (rowC b6 26 [v] :: accC 28 2 encE v l :: rowC b3 22 [bv] :: rowC b2 22 [av] :: O) POST := by
  refine Fun.enter (l := [_, _, _, _, _, _]) Try.func20 rfl Try.ntmps20 rfl (L0 := [(0, _), (1, _), (2, _), (3, _), (4, _), (5, _)]) rfl ?_
  refine WC.seq ?_
  refine WC.region ?_
  refine WL.rd rfl rfl rfl (Rd.move rfl rfl) ?_
  refine WL.rd rfl rfl rfl (Rd.eql rfl rfl rfl) ?_
  refine WL.nil ?_
  refine thenQ.normal ?_
  first | refine WC.ite rfl (fun hc1 => ?_) (fun hc1 => ?_) | refine WC.cond rfl (fun hc1 => ?_) (fun hc1 => ?_)
  · skip
    have e : edit xs ys (op, i, j) = ((op : Int), ys[j]!) := by simp only [edit]; rw [if_pos (by omega)]
    refine WC.drawn (rowC b3 22 [bv] :: rowC b2 22 [av] :: O) 10 rfl mixed ?_
    refine WD.take 1 rfl (by kernel_rfl) (Held.mk' (by repeat (first | exact SubL.refl | refine SubL.cons (by repeat (first | assumption | exact List.mem_cons_self | refine List.mem_cons_of_mem _ ?_)) ?_ | refine SubL.skip ?_)) (by repeat (first | exact OwnL.refl | apply OwnL.take (by repeat (first | exact Take.head _ | apply Take.tail)) | apply OwnL.drop))) rfl rfl rfl (Rd.move rfl rfl) ?_
    refine WD.take 2 rfl (by kernel_rfl) (Held.mk' (by repeat (first | exact SubL.refl | refine SubL.cons (by repeat (first | assumption | exact List.mem_cons_self | refine List.mem_cons_of_mem _ ?_)) ?_ | refine SubL.skip ?_)) (by repeat (first | exact OwnL.refl | apply OwnL.take (by repeat (first | exact Take.head _ | apply Take.tail)) | apply OwnL.drop))) rfl rfl rfl ((by first | exact Rd.get rfl C22 rfl (by repeat (first | assumption | exact List.mem_cons_self | refine List.mem_cons_of_mem _ ?_)) (by first | assumption | rfl | exact get!_of_lt (by omega)) | exact Rd.getA rfl C22 rfl (by repeat (first | assumption | exact List.mem_cons_self | refine List.mem_cons_of_mem _ ?_)) (by first | assumption | rfl | exact get!_of_lt (by omega)) | exact Rd.row1 rfl C22 rfl (by repeat (first | assumption | exact List.mem_cons_self | refine List.mem_cons_of_mem _ ?_)) (by rfl) | exact Rd.getF rfl C22 rfl (by repeat (first | assumption | exact List.mem_cons_self | refine List.mem_cons_of_mem _ ?_)) (by intro x; first | rfl | (cases x; rfl) | (rcases x with ⟨_, _, _⟩; rfl) | (rcases x with ⟨_, _, _, _⟩; rfl)) rfl (by first | assumption | rfl | exact get!_of_lt (by omega)) (by rfl) | exact Rd.getFA rfl C22 rfl (by repeat (first | assumption | exact List.mem_cons_self | refine List.mem_cons_of_mem _ ?_)) (by intro x; first | rfl | (cases x; rfl) | (rcases x with ⟨_, _, _⟩; rfl) | (rcases x with ⟨_, _, _, _⟩; rfl)) rfl (by first | assumption | rfl | exact get!_of_lt (by omega)) (by rfl))) ?_
    refine WD.take 3 rfl (by kernel_rfl) (Held.mk' (by repeat (first | exact SubL.refl | refine SubL.cons (by repeat (first | assumption | exact List.mem_cons_self | refine List.mem_cons_of_mem _ ?_)) ?_ | refine SubL.skip ?_)) (by repeat (first | exact OwnL.refl | apply OwnL.take (by repeat (first | exact Take.head _ | apply Take.tail)) | apply OwnL.drop))) rfl rfl rfl (Rd.move rfl rfl) ?_
    refine WD.take 4 rfl (by kernel_rfl) (Held.mk' (by repeat (first | exact SubL.refl | refine SubL.cons (by repeat (first | assumption | exact List.mem_cons_self | refine List.mem_cons_of_mem _ ?_)) ?_ | refine SubL.skip ?_)) (by repeat (first | exact OwnL.refl | apply OwnL.take (by repeat (first | exact Take.head _ | apply Take.tail)) | apply OwnL.drop))) rfl rfl rfl ((by first | exact Rd.idx1 rfl S22 rfl rfl rfl (by repeat (first | assumption | exact List.mem_cons_self | refine List.mem_cons_of_mem _ ?_)) (by first | omega | (simp only [List.length_cons, List.length_nil, List.length_append, List.length_map]; omega)) | exact Rd.idxA1 rfl S22 rfl rfl rfl (by repeat (first | assumption | exact List.mem_cons_self | refine List.mem_cons_of_mem _ ?_)) (by first | omega | (simp only [List.length_cons, List.length_nil, List.length_append, List.length_map]; omega)) | exact Rd.idxR1 rfl S22 rfl rfl rfl (by omega))) ?_
    refine WD.take 5 rfl (by kernel_rfl) (Held.mk' (by repeat (first | exact SubL.refl | refine SubL.cons (by repeat (first | assumption | exact List.mem_cons_self | refine List.mem_cons_of_mem _ ?_)) ?_ | refine SubL.skip ?_)) (by repeat (first | exact OwnL.refl | apply OwnL.take (by repeat (first | exact Take.head _ | apply Take.tail)) | apply OwnL.drop))) rfl rfl rfl ((by first | exact Rd.get rfl C9 rfl (by repeat (first | assumption | exact List.mem_cons_self | refine List.mem_cons_of_mem _ ?_)) (by first | assumption | rfl | exact get!_of_lt (by omega)) | exact Rd.getA rfl C9 rfl (by repeat (first | assumption | exact List.mem_cons_self | refine List.mem_cons_of_mem _ ?_)) (by first | assumption | rfl | exact get!_of_lt (by omega)) | exact Rd.row1 rfl C9 rfl (by repeat (first | assumption | exact List.mem_cons_self | refine List.mem_cons_of_mem _ ?_)) (by rfl) | exact Rd.getF rfl C9 rfl (by repeat (first | assumption | exact List.mem_cons_self | refine List.mem_cons_of_mem _ ?_)) (by intro x; first | rfl | (cases x; rfl) | (rcases x with ⟨_, _, _⟩; rfl) | (rcases x with ⟨_, _, _, _⟩; rfl)) rfl (by first | assumption | rfl | exact get!_of_lt (by omega)) (by rfl) | exact Rd.getFA rfl C9 rfl (by repeat (first | assumption | exact List.mem_cons_self | refine List.mem_cons_of_mem _ ?_)) (by intro x; first | rfl | (cases x; rfl) | (rcases x with ⟨_, _, _⟩; rfl) | (rcases x with ⟨_, _, _, _⟩; rfl)) rfl (by first | assumption | rfl | exact get!_of_lt (by omega)) (by rfl))) ?_
    refine WD.take 6 rfl (by kernel_rfl) (Held.mk' (by repeat (first | exact SubL.refl | refine SubL.cons (by repeat (first | assumption | exact List.mem_cons_self | refine List.mem_cons_of_mem _ ?_)) ?_ | refine SubL.skip ?_)) (by repeat (first | exact OwnL.refl | apply OwnL.take (by repeat (first | exact Take.head _ | apply Take.tail)) | apply OwnL.drop))) rfl rfl rfl (Rd.buildN (ps := [(0, _), (1, _)]) rfl Bs28 I28 rfl (by repeat (first | exact Evs.nil | apply Evs.cons rfl)) (by repeat (first | exact CellsOf.nil | apply CellsOf.cons rfl)) (by apply NFo.mk; repeat (first | exact NF.nil | apply NF.cons))) ?_
    refine WD.two 0 7 rfl rfl (by kernel_rfl) rfl rfl ?_ ?_
    · skip
      refine OpW.rd rfl rfl ((by first | exact Rd.get rfl C26 rfl (by repeat (first | assumption | exact List.mem_cons_self | refine List.mem_cons_of_mem _ ?_)) (by first | assumption | rfl | exact get!_of_lt (by omega)) | exact Rd.getA rfl C26 rfl (by repeat (first | assumption | exact List.mem_cons_self | refine List.mem_cons_of_mem _ ?_)) (by first | assumption | rfl | exact get!_of_lt (by omega)) | exact Rd.row1 rfl C26 rfl (by repeat (first | assumption | exact List.mem_cons_self | refine List.mem_cons_of_mem _ ?_)) (by rfl) | exact Rd.getF rfl C26 rfl (by repeat (first | assumption | exact List.mem_cons_self | refine List.mem_cons_of_mem _ ?_)) (by intro x; first | rfl | (cases x; rfl) | (rcases x with ⟨_, _, _⟩; rfl) | (rcases x with ⟨_, _, _, _⟩; rfl)) rfl (by first | assumption | rfl | exact get!_of_lt (by omega)) (by rfl) | exact Rd.getFA rfl C26 rfl (by repeat (first | assumption | exact List.mem_cons_self | refine List.mem_cons_of_mem _ ?_)) (by intro x; first | rfl | (cases x; rfl) | (rcases x with ⟨_, _, _⟩; rfl) | (rcases x with ⟨_, _, _, _⟩; rfl)) rfl (by first | assumption | rfl | exact get!_of_lt (by omega)) (by rfl))) ?_
      refine ⟨(Held.mk' (by repeat (first | exact SubL.refl | refine SubL.cons (by repeat (first | assumption | exact List.mem_cons_self | refine List.mem_cons_of_mem _ ?_)) ?_ | refine SubL.skip ?_)) (by repeat (first | exact OwnL.refl | apply OwnL.take (by repeat (first | exact Take.head _ | apply Take.tail)) | apply OwnL.drop))), ?_⟩
      refine WD.one 7 rfl (by kernel_rfl) rfl ?_
      refine OpW.buildSl (ps := [(0, _)]) rfl S26 (by repeat (first | exact Evs.nil | apply Evs.cons rfl)) rfl rfl (by repeat (first | exact CellsOf.nil | apply CellsOf.cons rfl)) (by kernel_rfl) rfl rfl rfl ?_; intro b18
      refine ⟨(Held.mk' (by repeat (first | exact SubL.refl | refine SubL.cons (by repeat (first | assumption | exact List.mem_cons_self | refine List.mem_cons_of_mem _ ?_)) ?_ | refine SubL.skip ?_)) (by repeat (first | exact OwnL.refl | apply OwnL.take (by repeat (first | exact Take.head _ | apply Take.tail)) | apply OwnL.drop))), ?_⟩
      refine WD.one 8 rfl (by kernel_rfl) rfl ?_
      refine OpW.appendRow (enc := encE) rfl S26 rfl rfl (by repeat (first | assumption | exact Take.head _ | apply Take.tail)) (by repeat (first | assumption | exact Take.head _ | apply Take.tail)) [((op : Int), ys[j]!)] rfl (by rfl) rfl (by intro x; first | rfl | (cases x; rfl) | (rcases x with ⟨_, _, _⟩; rfl) | (rcases x with ⟨_, _, _, _⟩; rfl)) (by intro x; first | rfl | (cases x; rfl) | (rcases x with ⟨_, _, _⟩; rfl) | (rcases x with ⟨_, _, _, _⟩; rfl)) ⟨by simp only [maxLen, List.length_append, List.length_nil, List.length_cons, List.length_drop, List.length_take, List.length_map]; omega, by first | omega | (simp only [List.length_append, List.length_nil, List.length_cons, List.length_drop, List.length_take, List.length_map]; omega)⟩ rfl rfl ?_; intro v19 hv19
      refine ⟨(Held.mk' (by repeat (first | exact SubL.refl | refine SubL.cons (by repeat (first | assumption | exact List.mem_cons_self | refine List.mem_cons_of_mem _ ?_)) ?_ | refine SubL.skip ?_)) (by repeat (first | exact OwnL.refl | apply OwnL.take (by repeat (first | exact Take.head _ | apply Take.tail)) | apply OwnL.drop))), ?_⟩
      refine WD.one 9 rfl (by kernel_rfl) rfl ?_
      refine OpW.store1 rfl Z26 rfl rfl (by first | exact ⟨rfl, rfl⟩ | assumption) (by repeat (first | assumption | exact Take.head _ | apply Take.tail)) (by first | (simp; done) | omega | (simp only [List.length_append, List.length_replicate, List.length_map, List.length_set]; omega)) rfl ?_
      refine ⟨(Held.mk' (by repeat (first | exact SubL.refl | refine SubL.cons (by repeat (first | assumption | exact List.mem_cons_self | refine List.mem_cons_of_mem _ ?_)) ?_ | refine SubL.skip ?_)) (by repeat (first | exact OwnL.refl | apply OwnL.take (by repeat (first | exact Take.head _ | apply Take.tail)) | apply OwnL.drop))), ?_⟩
      refine WD.done (by kernel_rfl) ?_
      -- ret_1
      refine Ret.normal (Ret.zero Try.results20 ?_)
      rw [e] at hk; exact hk _ hv19
    · skip
      refine OpW.buildSl (ps := [(0, _)]) rfl S26 (by repeat (first | exact Evs.nil | apply Evs.cons rfl)) rfl rfl (by repeat (first | exact CellsOf.nil | apply CellsOf.cons rfl)) (by kernel_rfl) rfl rfl rfl ?_; intro b18
      refine ⟨(Held.mk' (by repeat (first | exact SubL.refl | refine SubL.cons (by repeat (first | assumption | exact List.mem_cons_self | refine List.mem_cons_of_mem _ ?_)) ?_ | refine SubL.skip ?_)) (by repeat (first | exact OwnL.refl | apply OwnL.take (by repeat (first | exact Take.head _ | apply Take.tail)) | apply OwnL.drop))), ?_⟩
      refine WD.one 0 rfl (by kernel_rfl) rfl ?_
      refine OpW.rd rfl rfl ((by first | exact Rd.get rfl C26 rfl (by repeat (first | assumption | exact List.mem_cons_self | refine List.mem_cons_of_mem _ ?_)) (by first | assumption | rfl | exact get!_of_lt (by omega)) | exact Rd.getA rfl C26 rfl (by repeat (first | assumption | exact List.mem_cons_self | refine List.mem_cons_of_mem _ ?_)) (by first | assumption | rfl | exact get!_of_lt (by omega)) | exact Rd.row1 rfl C26 rfl (by repeat (first | assumption | exact List.mem_cons_self | refine List.mem_cons_of_mem _ ?_)) (by rfl) | exact Rd.getF rfl C26 rfl (by repeat (first | assumption | exact List.mem_cons_self | refine List.mem_cons_of_mem _ ?_)) (by intro x; first | rfl | (cases x; rfl) | (rcases x with ⟨_, _, _⟩; rfl) | (rcases x with ⟨_, _, _, _⟩; rfl)) rfl (by first | assumption | rfl | exact get!_of_lt (by omega)) (by rfl) | exact Rd.getFA rfl C26 rfl (by repeat (first | assumption | exact List.mem_cons_self | refine List.mem_cons_of_mem _ ?_)) (by intro x; first | rfl | (cases x; rfl) | (rcases x with ⟨_, _, _⟩; rfl) | (rcases x with ⟨_, _, _, _⟩; rfl)) rfl (by first | assumption | rfl | exact get!_of_lt (by omega)) (by rfl))) ?_
      refine ⟨(Held.mk' (by repeat (first | exact SubL.refl | refine SubL.cons (by repeat (first | assumption | exact List.mem_cons_self | refine List.mem_cons_of_mem _ ?_)) ?_ | refine SubL.skip ?_)) (by repeat (first | exact OwnL.refl | apply OwnL.take (by repeat (first | exact Take.head _ | apply Take.tail)) | apply OwnL.drop))), ?_⟩
      refine WD.one 8 rfl (by kernel_rfl) rfl ?_
      refine OpW.appendRow (enc := encE) rfl S26 rfl rfl (by repeat (first | assumption | exact Take.head _ | apply Take.tail)) (by repeat (first | assumption | exact Take.head _ | apply Take.tail)) [((op : Int), ys[j]!)] rfl (by rfl) rfl (by intro x; first | rfl | (cases x; rfl) | (rcases x with ⟨_, _, _⟩; rfl) | (rcases x with ⟨_, _, _, _⟩; rfl)) (by intro x; first | rfl | (cases x; rfl) | (rcases x with ⟨_, _, _⟩; rfl) | (rcases x with ⟨_, _, _, _⟩; rfl)) ⟨by simp only [maxLen, List.length_append, List.length_nil, List.length_cons, List.length_drop, List.length_take, List.length_map]; omega, by first | omega | (simp only [List.length_append, List.length_nil, List.length_cons, List.length_drop, List.length_take, List.length_map]; omega)⟩ rfl rfl ?_; intro v19 hv19
      refine ⟨(Held.mk' (by repeat (first | exact SubL.refl | refine SubL.cons (by repeat (first | assumption | exact List.mem_cons_self | refine List.mem_cons_of_mem _ ?_)) ?_ | refine SubL.skip ?_)) (by repeat (first | exact OwnL.refl | apply OwnL.take (by repeat (first | exact Take.head _ | apply Take.tail)) | apply OwnL.drop))), ?_⟩
      refine WD.one 9 rfl (by kernel_rfl) rfl ?_
      refine OpW.store1 rfl Z26 rfl rfl (by first | exact ⟨rfl, rfl⟩ | assumption) (by repeat (first | assumption | exact Take.head _ | apply Take.tail)) (by first | (simp; done) | omega | (simp only [List.length_append, List.length_replicate, List.length_map, List.length_set]; omega)) rfl ?_
      refine ⟨(Held.mk' (by repeat (first | exact SubL.refl | refine SubL.cons (by repeat (first | assumption | exact List.mem_cons_self | refine List.mem_cons_of_mem _ ?_)) ?_ | refine SubL.skip ?_)) (by repeat (first | exact OwnL.refl | apply OwnL.take (by repeat (first | exact Take.head _ | apply Take.tail)) | apply OwnL.drop))), ?_⟩
      refine WD.done (by kernel_rfl) ?_
      -- ret_2
      refine Ret.normal (Ret.zero Try.results20 ?_)
      rw [e] at hk; exact hk _ hv19
  · skip
    have e : edit xs ys (op, i, j) = ((op : Int), xs[i]!) := by simp only [edit]; rw [if_neg (by omega)]
    refine WC.drawn (rowC b3 22 [bv] :: rowC b2 22 [av] :: O) 10 rfl mixed ?_
    refine WD.take 1 rfl (by kernel_rfl) (Held.mk' (by repeat (first | exact SubL.refl | refine SubL.cons (by repeat (first | assumption | exact List.mem_cons_self | refine List.mem_cons_of_mem _ ?_)) ?_ | refine SubL.skip ?_)) (by repeat (first | exact OwnL.refl | apply OwnL.take (by repeat (first | exact Take.head _ | apply Take.tail)) | apply OwnL.drop))) rfl rfl rfl (Rd.move rfl rfl) ?_
    refine WD.take 2 rfl (by kernel_rfl) (Held.mk' (by repeat (first | exact SubL.refl | refine SubL.cons (by repeat (first | assumption | exact List.mem_cons_self | refine List.mem_cons_of_mem _ ?_)) ?_ | refine SubL.skip ?_)) (by repeat (first | exact OwnL.refl | apply OwnL.take (by repeat (first | exact Take.head _ | apply Take.tail)) | apply OwnL.drop))) rfl rfl rfl ((by first | exact Rd.get rfl C22 rfl (by repeat (first | assumption | exact List.mem_cons_self | refine List.mem_cons_of_mem _ ?_)) (by first | assumption | rfl | exact get!_of_lt (by omega)) | exact Rd.getA rfl C22 rfl (by repeat (first | assumption | exact List.mem_cons_self | refine List.mem_cons_of_mem _ ?_)) (by first | assumption | rfl | exact get!_of_lt (by omega)) | exact Rd.row1 rfl C22 rfl (by repeat (first | assumption | exact List.mem_cons_self | refine List.mem_cons_of_mem _ ?_)) (by rfl) | exact Rd.getF rfl C22 rfl (by repeat (first | assumption | exact List.mem_cons_self | refine List.mem_cons_of_mem _ ?_)) (by intro x; first | rfl | (cases x; rfl) | (rcases x with ⟨_, _, _⟩; rfl) | (rcases x with ⟨_, _, _, _⟩; rfl)) rfl (by first | assumption | rfl | exact get!_of_lt (by omega)) (by rfl) | exact Rd.getFA rfl C22 rfl (by repeat (first | assumption | exact List.mem_cons_self | refine List.mem_cons_of_mem _ ?_)) (by intro x; first | rfl | (cases x; rfl) | (rcases x with ⟨_, _, _⟩; rfl) | (rcases x with ⟨_, _, _, _⟩; rfl)) rfl (by first | assumption | rfl | exact get!_of_lt (by omega)) (by rfl))) ?_
    refine WD.take 3 rfl (by kernel_rfl) (Held.mk' (by repeat (first | exact SubL.refl | refine SubL.cons (by repeat (first | assumption | exact List.mem_cons_self | refine List.mem_cons_of_mem _ ?_)) ?_ | refine SubL.skip ?_)) (by repeat (first | exact OwnL.refl | apply OwnL.take (by repeat (first | exact Take.head _ | apply Take.tail)) | apply OwnL.drop))) rfl rfl rfl (Rd.move rfl rfl) ?_
    refine WD.take 4 rfl (by kernel_rfl) (Held.mk' (by repeat (first | exact SubL.refl | refine SubL.cons (by repeat (first | assumption | exact List.mem_cons_self | refine List.mem_cons_of_mem _ ?_)) ?_ | refine SubL.skip ?_)) (by repeat (first | exact OwnL.refl | apply OwnL.take (by repeat (first | exact Take.head _ | apply Take.tail)) | apply OwnL.drop))) rfl rfl rfl ((by first | exact Rd.idx1 rfl S22 rfl rfl rfl (by repeat (first | assumption | exact List.mem_cons_self | refine List.mem_cons_of_mem _ ?_)) (by first | omega | (simp only [List.length_cons, List.length_nil, List.length_append, List.length_map]; omega)) | exact Rd.idxA1 rfl S22 rfl rfl rfl (by repeat (first | assumption | exact List.mem_cons_self | refine List.mem_cons_of_mem _ ?_)) (by first | omega | (simp only [List.length_cons, List.length_nil, List.length_append, List.length_map]; omega)) | exact Rd.idxR1 rfl S22 rfl rfl rfl (by omega))) ?_
    refine WD.take 5 rfl (by kernel_rfl) (Held.mk' (by repeat (first | exact SubL.refl | refine SubL.cons (by repeat (first | assumption | exact List.mem_cons_self | refine List.mem_cons_of_mem _ ?_)) ?_ | refine SubL.skip ?_)) (by repeat (first | exact OwnL.refl | apply OwnL.take (by repeat (first | exact Take.head _ | apply Take.tail)) | apply OwnL.drop))) rfl rfl rfl ((by first | exact Rd.get rfl C9 rfl (by repeat (first | assumption | exact List.mem_cons_self | refine List.mem_cons_of_mem _ ?_)) (by first | assumption | rfl | exact get!_of_lt (by omega)) | exact Rd.getA rfl C9 rfl (by repeat (first | assumption | exact List.mem_cons_self | refine List.mem_cons_of_mem _ ?_)) (by first | assumption | rfl | exact get!_of_lt (by omega)) | exact Rd.row1 rfl C9 rfl (by repeat (first | assumption | exact List.mem_cons_self | refine List.mem_cons_of_mem _ ?_)) (by rfl) | exact Rd.getF rfl C9 rfl (by repeat (first | assumption | exact List.mem_cons_self | refine List.mem_cons_of_mem _ ?_)) (by intro x; first | rfl | (cases x; rfl) | (rcases x with ⟨_, _, _⟩; rfl) | (rcases x with ⟨_, _, _, _⟩; rfl)) rfl (by first | assumption | rfl | exact get!_of_lt (by omega)) (by rfl) | exact Rd.getFA rfl C9 rfl (by repeat (first | assumption | exact List.mem_cons_self | refine List.mem_cons_of_mem _ ?_)) (by intro x; first | rfl | (cases x; rfl) | (rcases x with ⟨_, _, _⟩; rfl) | (rcases x with ⟨_, _, _, _⟩; rfl)) rfl (by first | assumption | rfl | exact get!_of_lt (by omega)) (by rfl))) ?_
    refine WD.take 6 rfl (by kernel_rfl) (Held.mk' (by repeat (first | exact SubL.refl | refine SubL.cons (by repeat (first | assumption | exact List.mem_cons_self | refine List.mem_cons_of_mem _ ?_)) ?_ | refine SubL.skip ?_)) (by repeat (first | exact OwnL.refl | apply OwnL.take (by repeat (first | exact Take.head _ | apply Take.tail)) | apply OwnL.drop))) rfl rfl rfl (Rd.buildN (ps := [(0, _), (1, _)]) rfl Bs28 I28 rfl (by repeat (first | exact Evs.nil | apply Evs.cons rfl)) (by repeat (first | exact CellsOf.nil | apply CellsOf.cons rfl)) (by apply NFo.mk; repeat (first | exact NF.nil | apply NF.cons))) ?_
    refine WD.two 0 7 rfl rfl (by kernel_rfl) rfl rfl ?_ ?_
    · skip
      refine OpW.rd rfl rfl ((by first | exact Rd.get rfl C26 rfl (by repeat (first | assumption | exact List.mem_cons_self | refine List.mem_cons_of_mem _ ?_)) (by first | assumption | rfl | exact get!_of_lt (by omega)) | exact Rd.getA rfl C26 rfl (by repeat (first | assumption | exact List.mem_cons_self | refine List.mem_cons_of_mem _ ?_)) (by first | assumption | rfl | exact get!_of_lt (by omega)) | exact Rd.row1 rfl C26 rfl (by repeat (first | assumption | exact List.mem_cons_self | refine List.mem_cons_of_mem _ ?_)) (by rfl) | exact Rd.getF rfl C26 rfl (by repeat (first | assumption | exact List.mem_cons_self | refine List.mem_cons_of_mem _ ?_)) (by intro x; first | rfl | (cases x; rfl) | (rcases x with ⟨_, _, _⟩; rfl) | (rcases x with ⟨_, _, _, _⟩; rfl)) rfl (by first | assumption | rfl | exact get!_of_lt (by omega)) (by rfl) | exact Rd.getFA rfl C26 rfl (by repeat (first | assumption | exact List.mem_cons_self | refine List.mem_cons_of_mem _ ?_)) (by intro x; first | rfl | (cases x; rfl) | (rcases x with ⟨_, _, _⟩; rfl) | (rcases x with ⟨_, _, _, _⟩; rfl)) rfl (by first | assumption | rfl | exact get!_of_lt (by omega)) (by rfl))) ?_
      refine ⟨(Held.mk' (by repeat (first | exact SubL.refl | refine SubL.cons (by repeat (first | assumption | exact List.mem_cons_self | refine List.mem_cons_of_mem _ ?_)) ?_ | refine SubL.skip ?_)) (by repeat (first | exact OwnL.refl | apply OwnL.take (by repeat (first | exact Take.head _ | apply Take.tail)) | apply OwnL.drop))), ?_⟩
      refine WD.one 7 rfl (by kernel_rfl) rfl ?_
      refine OpW.buildSl (ps := [(0, _)]) rfl S26 (by repeat (first | exact Evs.nil | apply Evs.cons rfl)) rfl rfl (by repeat (first | exact CellsOf.nil | apply CellsOf.cons rfl)) (by kernel_rfl) rfl rfl rfl ?_; intro b27
      refine ⟨(Held.mk' (by repeat (first | exact SubL.refl | refine SubL.cons (by repeat (first | assumption | exact List.mem_cons_self | refine List.mem_cons_of_mem _ ?_)) ?_ | refine SubL.skip ?_)) (by repeat (first | exact OwnL.refl | apply OwnL.take (by repeat (first | exact Take.head _ | apply Take.tail)) | apply OwnL.drop))), ?_⟩
      refine WD.one 8 rfl (by kernel_rfl) rfl ?_
      refine OpW.appendRow (enc := encE) rfl S26 rfl rfl (by repeat (first | assumption | exact Take.head _ | apply Take.tail)) (by repeat (first | assumption | exact Take.head _ | apply Take.tail)) [((op : Int), xs[i]!)] rfl (by rfl) rfl (by intro x; first | rfl | (cases x; rfl) | (rcases x with ⟨_, _, _⟩; rfl) | (rcases x with ⟨_, _, _, _⟩; rfl)) (by intro x; first | rfl | (cases x; rfl) | (rcases x with ⟨_, _, _⟩; rfl) | (rcases x with ⟨_, _, _, _⟩; rfl)) ⟨by simp only [maxLen, List.length_append, List.length_nil, List.length_cons, List.length_drop, List.length_take, List.length_map]; omega, by first | omega | (simp only [List.length_append, List.length_nil, List.length_cons, List.length_drop, List.length_take, List.length_map]; omega)⟩ rfl rfl ?_; intro v28 hv28
      refine ⟨(Held.mk' (by repeat (first | exact SubL.refl | refine SubL.cons (by repeat (first | assumption | exact List.mem_cons_self | refine List.mem_cons_of_mem _ ?_)) ?_ | refine SubL.skip ?_)) (by repeat (first | exact OwnL.refl | apply OwnL.take (by repeat (first | exact Take.head _ | apply Take.tail)) | apply OwnL.drop))), ?_⟩
      refine WD.one 9 rfl (by kernel_rfl) rfl ?_
      refine OpW.store1 rfl Z26 rfl rfl (by first | exact ⟨rfl, rfl⟩ | assumption) (by repeat (first | assumption | exact Take.head _ | apply Take.tail)) (by first | (simp; done) | omega | (simp only [List.length_append, List.length_replicate, List.length_map, List.length_set]; omega)) rfl ?_
      refine ⟨(Held.mk' (by repeat (first | exact SubL.refl | refine SubL.cons (by repeat (first | assumption | exact List.mem_cons_self | refine List.mem_cons_of_mem _ ?_)) ?_ | refine SubL.skip ?_)) (by repeat (first | exact OwnL.refl | apply OwnL.take (by repeat (first | exact Take.head _ | apply Take.tail)) | apply OwnL.drop))), ?_⟩
      refine WD.done (by kernel_rfl) ?_
      -- ret_3
      refine Ret.normal (Ret.zero Try.results20 ?_)
      rw [e] at hk; exact hk _ hv28
    · skip
      refine OpW.buildSl (ps := [(0, _)]) rfl S26 (by repeat (first | exact Evs.nil | apply Evs.cons rfl)) rfl rfl (by repeat (first | exact CellsOf.nil | apply CellsOf.cons rfl)) (by kernel_rfl) rfl rfl rfl ?_; intro b27
      refine ⟨(Held.mk' (by repeat (first | exact SubL.refl | refine SubL.cons (by repeat (first | assumption | exact List.mem_cons_self | refine List.mem_cons_of_mem _ ?_)) ?_ | refine SubL.skip ?_)) (by repeat (first | exact OwnL.refl | apply OwnL.take (by repeat (first | exact Take.head _ | apply Take.tail)) | apply OwnL.drop))), ?_⟩
      refine WD.one 0 rfl (by kernel_rfl) rfl ?_
      refine OpW.rd rfl rfl ((by first | exact Rd.get rfl C26 rfl (by repeat (first | assumption | exact List.mem_cons_self | refine List.mem_cons_of_mem _ ?_)) (by first | assumption | rfl | exact get!_of_lt (by omega)) | exact Rd.getA rfl C26 rfl (by repeat (first | assumption | exact List.mem_cons_self | refine List.mem_cons_of_mem _ ?_)) (by first | assumption | rfl | exact get!_of_lt (by omega)) | exact Rd.row1 rfl C26 rfl (by repeat (first | assumption | exact List.mem_cons_self | refine List.mem_cons_of_mem _ ?_)) (by rfl) | exact Rd.getF rfl C26 rfl (by repeat (first | assumption | exact List.mem_cons_self | refine List.mem_cons_of_mem _ ?_)) (by intro x; first | rfl | (cases x; rfl) | (rcases x with ⟨_, _, _⟩; rfl) | (rcases x with ⟨_, _, _, _⟩; rfl)) rfl (by first | assumption | rfl | exact get!_of_lt (by omega)) (by rfl) | exact Rd.getFA rfl C26 rfl (by repeat (first | assumption | exact List.mem_cons_self | refine List.mem_cons_of_mem _ ?_)) (by intro x; first | rfl | (cases x; rfl) | (rcases x with ⟨_, _, _⟩; rfl) | (rcases x with ⟨_, _, _, _⟩; rfl)) rfl (by first | assumption | rfl | exact get!_of_lt (by omega)) (by rfl))) ?_
      refine ⟨(Held.mk' (by repeat (first | exact SubL.refl | refine SubL.cons (by repeat (first | assumption | exact List.mem_cons_self | refine List.mem_cons_of_mem _ ?_)) ?_ | refine SubL.skip ?_)) (by repeat (first | exact OwnL.refl | apply OwnL.take (by repeat (first | exact Take.head _ | apply Take.tail)) | apply OwnL.drop))), ?_⟩
      refine WD.one 8 rfl (by kernel_rfl) rfl ?_
      refine OpW.appendRow (enc := encE) rfl S26 rfl rfl (by repeat (first | assumption | exact Take.head _ | apply Take.tail)) (by repeat (first | assumption | exact Take.head _ | apply Take.tail)) [((op : Int), xs[i]!)] rfl (by rfl) rfl (by intro x; first | rfl | (cases x; rfl) | (rcases x with ⟨_, _, _⟩; rfl) | (rcases x with ⟨_, _, _, _⟩; rfl)) (by intro x; first | rfl | (cases x; rfl) | (rcases x with ⟨_, _, _⟩; rfl) | (rcases x with ⟨_, _, _, _⟩; rfl)) ⟨by simp only [maxLen, List.length_append, List.length_nil, List.length_cons, List.length_drop, List.length_take, List.length_map]; omega, by first | omega | (simp only [List.length_append, List.length_nil, List.length_cons, List.length_drop, List.length_take, List.length_map]; omega)⟩ rfl rfl ?_; intro v28 hv28
      refine ⟨(Held.mk' (by repeat (first | exact SubL.refl | refine SubL.cons (by repeat (first | assumption | exact List.mem_cons_self | refine List.mem_cons_of_mem _ ?_)) ?_ | refine SubL.skip ?_)) (by repeat (first | exact OwnL.refl | apply OwnL.take (by repeat (first | exact Take.head _ | apply Take.tail)) | apply OwnL.drop))), ?_⟩
      refine WD.one 9 rfl (by kernel_rfl) rfl ?_
      refine OpW.store1 rfl Z26 rfl rfl (by first | exact ⟨rfl, rfl⟩ | assumption) (by repeat (first | assumption | exact Take.head _ | apply Take.tail)) (by first | (simp; done) | omega | (simp only [List.length_append, List.length_replicate, List.length_map, List.length_set]; omega)) rfl ?_
      refine ⟨(Held.mk' (by repeat (first | exact SubL.refl | refine SubL.cons (by repeat (first | assumption | exact List.mem_cons_self | refine List.mem_cons_of_mem _ ?_)) ?_ | refine SubL.skip ?_)) (by repeat (first | exact OwnL.refl | apply OwnL.take (by repeat (first | exact Take.head _ | apply Take.tail)) | apply OwnL.drop))), ?_⟩
      refine WD.done (by kernel_rfl) ?_
      -- ret_4
      refine Ret.normal (Ret.zero Try.results20 ?_)
      rw [e] at hk; exact hk _ hv28

/-- The edits from a list to another one. -/
def diffE (xs ys : List (List UInt8)) : List Ed := (trace 0 0 xs ys).map (edit xs ys)
def DiffSt (b6 b3 b2 : Nat) (av bv : Value) (xs ys : List (List UInt8)) (O0 : List Own) (es : List (Nat × Nat × Nat)) (O : List Own) : Prop :=
  ∃ v, OneV v ∧ O = rowC b6 26 [v] :: accC 28 2 encE v (es.map (edit xs ys)) :: rowC b3 22 [bv] :: rowC b2 22 [av] :: O0
theorem diff_tell {R : List RO} {xs ys : List (List UInt8)} {av bv : Value} {b6 b3 b2 : Nat} {O0 : List Own} (ha : Strs av xs ∈ R) (hb : Strs bv ys ∈ R) :
    Tell 20 [.pointer (some ⟨b6, 0, none⟩), .pointer (some ⟨b3, 0, none⟩), .pointer (some ⟨b2, 0, none⟩)] R xs.length ys.length (DiffSt b6 b3 b2 av bv xs ys O0) := by
  rintro R' hR es O op i j ⟨v, hv, rfl⟩ hl hij POST hk
  refine diff1_spec (hR _ ha) (hR _ hb) (by simpa using hl) hij ?_
  intro v' hv'
  exact hk _ ⟨v', hv', by simp⟩

set_option maxHeartbeats 1000000 in
theorem diff_spec {R : List RO} {O : List Own} {POST : Value → List RO → List Own → Prop} {xs ys : List (List UInt8)} {av bv : Value} (ha : Strs av xs ∈ R) (hb : Strs bv ys ∈ R) (hla : xs.length ≤ 4096) (hlb : ys.length ≤ 4096)
    (hk : ∀ v, POST (.tuple #[v, .int .i64 0]) (Eds v (diffE xs ys) :: R) O) : Fun Try.prog 12 #[av, bv] R O POST := by
  refine Fun.oneV ha fun hva => ?_
  refine Fun.oneV hb fun hvb => ?_
  refine Fun.enter (l := [_, _]) Try.func12 rfl Try.ntmps12 rfl (L0 := [(0, _), (1, _)]) rfl ?_
  refine WC.seq ?_
  refine WC.region ?_
  refine WL.op rfl ?_
  refine OpW.box1 rfl rfl (by first | exact ⟨rfl, rfl⟩ | assumption) rfl rfl ?_; intro b2
  refine WL.op rfl ?_
  refine OpW.box1 rfl rfl (by first | exact ⟨rfl, rfl⟩ | assumption) rfl rfl ?_; intro b3
  refine WL.rd rfl rfl rfl (Rd.assign rfl rfl) ?_
  refine WL.rd rfl rfl rfl (Rd.assign rfl rfl) ?_
  refine WL.nil ?_
  refine thenQ.normal ?_
  refine WC.seq ?_
  refine WC.region ?_
  refine WL.op rfl ?_
  refine OpW.alloc rfl I26 rfl (by repeat (first | exact NF.nil | apply NF.cons)) rfl rfl ?_; intro b6
  refine WL.nil ?_
  refine thenQ.normal ?_
  refine WC.seq ?_
  refine WC.heap (fun w h => (h.accNil (α := Ed) (e := 28) (size := 2) (enc := encE)).swap) ?_
  refine WC.region ?_
  refine WL.rd rfl rfl rfl ((by first | exact Rd.get rfl C22 rfl (by repeat (first | assumption | exact List.mem_cons_self | refine List.mem_cons_of_mem _ ?_)) (by first | assumption | rfl | exact get!_of_lt (by omega)) | exact Rd.getA rfl C22 rfl (by repeat (first | assumption | exact List.mem_cons_self | refine List.mem_cons_of_mem _ ?_)) (by first | assumption | rfl | exact get!_of_lt (by omega)) | exact Rd.row1 rfl C22 rfl (by repeat (first | assumption | exact List.mem_cons_self | refine List.mem_cons_of_mem _ ?_)) (by rfl) | exact Rd.getF rfl C22 rfl (by repeat (first | assumption | exact List.mem_cons_self | refine List.mem_cons_of_mem _ ?_)) (by intro x; first | rfl | (cases x; rfl) | (rcases x with ⟨_, _, _⟩; rfl) | (rcases x with ⟨_, _, _, _⟩; rfl)) rfl (by first | assumption | rfl | exact get!_of_lt (by omega)) (by rfl) | exact Rd.getFA rfl C22 rfl (by repeat (first | assumption | exact List.mem_cons_self | refine List.mem_cons_of_mem _ ?_)) (by intro x; first | rfl | (cases x; rfl) | (rcases x with ⟨_, _, _⟩; rfl) | (rcases x with ⟨_, _, _, _⟩; rfl)) rfl (by first | assumption | rfl | exact get!_of_lt (by omega)) (by rfl))) ?_
  refine WL.rd rfl rfl rfl ((by first | exact Rd.get rfl C22 rfl (by repeat (first | assumption | exact List.mem_cons_self | refine List.mem_cons_of_mem _ ?_)) (by first | assumption | rfl | exact get!_of_lt (by omega)) | exact Rd.getA rfl C22 rfl (by repeat (first | assumption | exact List.mem_cons_self | refine List.mem_cons_of_mem _ ?_)) (by first | assumption | rfl | exact get!_of_lt (by omega)) | exact Rd.row1 rfl C22 rfl (by repeat (first | assumption | exact List.mem_cons_self | refine List.mem_cons_of_mem _ ?_)) (by rfl) | exact Rd.getF rfl C22 rfl (by repeat (first | assumption | exact List.mem_cons_self | refine List.mem_cons_of_mem _ ?_)) (by intro x; first | rfl | (cases x; rfl) | (rcases x with ⟨_, _, _⟩; rfl) | (rcases x with ⟨_, _, _, _⟩; rfl)) rfl (by first | assumption | rfl | exact get!_of_lt (by omega)) (by rfl) | exact Rd.getFA rfl C22 rfl (by repeat (first | assumption | exact List.mem_cons_self | refine List.mem_cons_of_mem _ ?_)) (by intro x; first | rfl | (cases x; rfl) | (rcases x with ⟨_, _, _⟩; rfl) | (rcases x with ⟨_, _, _, _⟩; rfl)) rfl (by first | assumption | rfl | exact get!_of_lt (by omega)) (by rfl))) ?_
  refine WL.rd rfl rfl rfl (Rd.func rfl (by repeat (first | exact Evs.nil | apply Evs.cons rfl)) (by repeat (first | exact Evs.nil | apply Evs.cons rfl)) ⟨_, rfl⟩) ?_
  refine WL.op rfl ?_
  refine OpW.call rfl rfl (by repeat (first | exact Evs.nil | apply Evs.cons rfl)) (by kernel_rfl) rfl rfl rfl ?_
  refine walk_spec (St := DiffSt b6 b3 b2 av bv xs ys O) ha hb hla hlb (by kernel_rfl) (diff_tell ha hb) ⟨_, OneV.sl, rfl⟩ ?_
  rintro O1 ⟨v, hv, rfl⟩
  refine WL.rd rfl rfl rfl (Rd.assign rfl rfl) ?_
  refine WL.nil ?_
  refine thenQ.normal ?_
  refine WC.seq ?_
  refine WC.region ?_
  refine WL.rd rfl rfl rfl ((by first | exact Rd.get rfl C26 rfl (by repeat (first | assumption | exact List.mem_cons_self | refine List.mem_cons_of_mem _ ?_)) (by first | assumption | rfl | exact get!_of_lt (by omega)) | exact Rd.getA rfl C26 rfl (by repeat (first | assumption | exact List.mem_cons_self | refine List.mem_cons_of_mem _ ?_)) (by first | assumption | rfl | exact get!_of_lt (by omega)) | exact Rd.row1 rfl C26 rfl (by repeat (first | assumption | exact List.mem_cons_self | refine List.mem_cons_of_mem _ ?_)) (by rfl) | exact Rd.getF rfl C26 rfl (by repeat (first | assumption | exact List.mem_cons_self | refine List.mem_cons_of_mem _ ?_)) (by intro x; first | rfl | (cases x; rfl) | (rcases x with ⟨_, _, _⟩; rfl) | (rcases x with ⟨_, _, _, _⟩; rfl)) rfl (by first | assumption | rfl | exact get!_of_lt (by omega)) (by rfl) | exact Rd.getFA rfl C26 rfl (by repeat (first | assumption | exact List.mem_cons_self | refine List.mem_cons_of_mem _ ?_)) (by intro x; first | rfl | (cases x; rfl) | (rcases x with ⟨_, _, _⟩; rfl) | (rcases x with ⟨_, _, _, _⟩; rfl)) rfl (by first | assumption | rfl | exact get!_of_lt (by omega)) (by rfl))) ?_
  refine WL.rd rfl rfl rfl (Rd.move rfl rfl) ?_
  refine WL.rd rfl rfl rfl (Rd.assign rfl rfl) ?_
  refine WL.rd rfl rfl rfl (Rd.assign rfl rfl) ?_
  refine WL.nil ?_
  refine thenQ.normal ?_
  -- ret_1
  refine WC.heap (fun w h => h.shareA (e := 28) (size := 2) (enc := encE) (v := v) (xs := (trace 0 0 xs ys).map (edit xs ys)) (by repeat (first | assumption | exact Take.head _ | apply Take.tail))) ?_
  refine WC.heap (R' := Eds v (diffE xs ys) :: R) (O' := O) (fun w h => OwnL.sat (by repeat (first | exact OwnL.refl | apply OwnL.take (by repeat (first | exact Take.head _ | apply Take.tail)) | apply OwnL.drop)) w (h.thin (SubL.mem (by repeat (first | exact SubL.refl | refine SubL.cons (by repeat (first | assumption | exact List.mem_cons_self | refine List.mem_cons_of_mem _ ?_)) ?_ | refine SubL.skip ?_))))) ?_
  refine WC.ret (Ret.two Try.results12 rfl rfl ?_)
  exact hk v

set_option maxHeartbeats 1000000 in
theorem diff_long {R : List RO} {O : List Own} {POST : Value → List RO → List Own → Prop} {xs ys : List (List UInt8)} {av bv : Value} (ha : Strs av xs ∈ R) (hb : Strs bv ys ∈ R) (hl : 4096 < xs.length ∨ 4096 < ys.length)
    (hk : POST (.tuple #[.slice none 0 0, .int .i64 6]) R O) : Fun Try.prog 12 #[av, bv] R O POST := by
  refine Fun.oneV ha fun hva => ?_
  refine Fun.oneV hb fun hvb => ?_
  refine Fun.enter (l := [_, _]) Try.func12 rfl Try.ntmps12 rfl (L0 := [(0, _), (1, _)]) rfl ?_
  refine WC.seq ?_
  refine WC.region ?_
  refine WL.op rfl ?_
  refine OpW.box1 rfl rfl (by first | exact ⟨rfl, rfl⟩ | assumption) rfl rfl ?_; intro b2
  refine WL.op rfl ?_
  refine OpW.box1 rfl rfl (by first | exact ⟨rfl, rfl⟩ | assumption) rfl rfl ?_; intro b3
  refine WL.rd rfl rfl rfl (Rd.assign rfl rfl) ?_
  refine WL.rd rfl rfl rfl (Rd.assign rfl rfl) ?_
  refine WL.nil ?_
  refine thenQ.normal ?_
  refine WC.seq ?_
  refine WC.region ?_
  refine WL.op rfl ?_
  refine OpW.alloc rfl I26 rfl (by repeat (first | exact NF.nil | apply NF.cons)) rfl rfl ?_; intro b6
  refine WL.nil ?_
  refine thenQ.normal ?_
  refine WC.seq ?_
  refine WC.region ?_
  refine WL.rd rfl rfl rfl ((by first | exact Rd.get rfl C22 rfl (by repeat (first | assumption | exact List.mem_cons_self | refine List.mem_cons_of_mem _ ?_)) (by first | assumption | rfl | exact get!_of_lt (by omega)) | exact Rd.getA rfl C22 rfl (by repeat (first | assumption | exact List.mem_cons_self | refine List.mem_cons_of_mem _ ?_)) (by first | assumption | rfl | exact get!_of_lt (by omega)) | exact Rd.row1 rfl C22 rfl (by repeat (first | assumption | exact List.mem_cons_self | refine List.mem_cons_of_mem _ ?_)) (by rfl) | exact Rd.getF rfl C22 rfl (by repeat (first | assumption | exact List.mem_cons_self | refine List.mem_cons_of_mem _ ?_)) (by intro x; first | rfl | (cases x; rfl) | (rcases x with ⟨_, _, _⟩; rfl) | (rcases x with ⟨_, _, _, _⟩; rfl)) rfl (by first | assumption | rfl | exact get!_of_lt (by omega)) (by rfl) | exact Rd.getFA rfl C22 rfl (by repeat (first | assumption | exact List.mem_cons_self | refine List.mem_cons_of_mem _ ?_)) (by intro x; first | rfl | (cases x; rfl) | (rcases x with ⟨_, _, _⟩; rfl) | (rcases x with ⟨_, _, _, _⟩; rfl)) rfl (by first | assumption | rfl | exact get!_of_lt (by omega)) (by rfl))) ?_
  refine WL.rd rfl rfl rfl ((by first | exact Rd.get rfl C22 rfl (by repeat (first | assumption | exact List.mem_cons_self | refine List.mem_cons_of_mem _ ?_)) (by first | assumption | rfl | exact get!_of_lt (by omega)) | exact Rd.getA rfl C22 rfl (by repeat (first | assumption | exact List.mem_cons_self | refine List.mem_cons_of_mem _ ?_)) (by first | assumption | rfl | exact get!_of_lt (by omega)) | exact Rd.row1 rfl C22 rfl (by repeat (first | assumption | exact List.mem_cons_self | refine List.mem_cons_of_mem _ ?_)) (by rfl) | exact Rd.getF rfl C22 rfl (by repeat (first | assumption | exact List.mem_cons_self | refine List.mem_cons_of_mem _ ?_)) (by intro x; first | rfl | (cases x; rfl) | (rcases x with ⟨_, _, _⟩; rfl) | (rcases x with ⟨_, _, _, _⟩; rfl)) rfl (by first | assumption | rfl | exact get!_of_lt (by omega)) (by rfl) | exact Rd.getFA rfl C22 rfl (by repeat (first | assumption | exact List.mem_cons_self | refine List.mem_cons_of_mem _ ?_)) (by intro x; first | rfl | (cases x; rfl) | (rcases x with ⟨_, _, _⟩; rfl) | (rcases x with ⟨_, _, _, _⟩; rfl)) rfl (by first | assumption | rfl | exact get!_of_lt (by omega)) (by rfl))) ?_
  refine WL.rd rfl rfl rfl (Rd.func rfl (by repeat (first | exact Evs.nil | apply Evs.cons rfl)) (by repeat (first | exact Evs.nil | apply Evs.cons rfl)) ⟨_, rfl⟩) ?_
  refine WL.op rfl ?_
  refine OpW.call rfl rfl (by repeat (first | exact Evs.nil | apply Evs.cons rfl)) (by kernel_rfl) rfl rfl rfl ?_
  refine walk_long ha hb hl ?_
  refine WL.rd rfl rfl rfl (Rd.assign rfl rfl) ?_
  refine WL.nil ?_
  refine thenQ.normal ?_
  refine WC.seq ?_
  refine WC.region ?_
  refine WL.rd rfl rfl rfl ((by first | exact Rd.get rfl C26 rfl (by repeat (first | assumption | exact List.mem_cons_self | refine List.mem_cons_of_mem _ ?_)) (by first | assumption | rfl | exact get!_of_lt (by omega)) | exact Rd.getA rfl C26 rfl (by repeat (first | assumption | exact List.mem_cons_self | refine List.mem_cons_of_mem _ ?_)) (by first | assumption | rfl | exact get!_of_lt (by omega)) | exact Rd.row1 rfl C26 rfl (by repeat (first | assumption | exact List.mem_cons_self | refine List.mem_cons_of_mem _ ?_)) (by rfl) | exact Rd.getF rfl C26 rfl (by repeat (first | assumption | exact List.mem_cons_self | refine List.mem_cons_of_mem _ ?_)) (by intro x; first | rfl | (cases x; rfl) | (rcases x with ⟨_, _, _⟩; rfl) | (rcases x with ⟨_, _, _, _⟩; rfl)) rfl (by first | assumption | rfl | exact get!_of_lt (by omega)) (by rfl) | exact Rd.getFA rfl C26 rfl (by repeat (first | assumption | exact List.mem_cons_self | refine List.mem_cons_of_mem _ ?_)) (by intro x; first | rfl | (cases x; rfl) | (rcases x with ⟨_, _, _⟩; rfl) | (rcases x with ⟨_, _, _, _⟩; rfl)) rfl (by first | assumption | rfl | exact get!_of_lt (by omega)) (by rfl))) ?_
  refine WL.rd rfl rfl rfl (Rd.move rfl rfl) ?_
  refine WL.rd rfl rfl rfl (Rd.assign rfl rfl) ?_
  refine WL.rd rfl rfl rfl (Rd.assign rfl rfl) ?_
  refine WL.nil ?_
  refine thenQ.normal ?_
  -- ret_1
  refine WC.heap (R' := R) (O' := O) (fun w h => OwnL.sat (by repeat (first | exact OwnL.refl | apply OwnL.take (by repeat (first | exact Take.head _ | apply Take.tail)) | apply OwnL.drop)) w (h.thin (SubL.mem (by repeat (first | exact SubL.refl | refine SubL.cons (by repeat (first | assumption | exact List.mem_cons_self | refine List.mem_cons_of_mem _ ?_)) ?_ | refine SubL.skip ?_))))) ?_
  refine WC.ret (Ret.two Try.results12 rfl rfl ?_)
  exact hk
end Go.Proofs.Ytdcnlfooopjbaaa
