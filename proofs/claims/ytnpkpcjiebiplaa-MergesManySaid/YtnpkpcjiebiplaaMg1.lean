/-
  Layer 8: spots; the methods by which a heap of them is asked.
-/
import Derived.Test.YtnpkpcjiebiplaaTy
import Derived.Test.YtnpkpcjiebiplaaAto
import Derived.Test.YtnpkpcjiebiplaaInv
import Derived.Test.YtnpkpcjiebiplaaPk
import Derived.Test.YtnpkpcjiebiplaaHp1
import Derived.Test.YtnpkpcjiebiplaaOpa
import Derived.Test.YtnpkpcjiebiplaaWde
namespace Go.Proofs.Ytnpkpcjiebiplaa
open Go Go.SL
abbrev Pr := List UInt8 × List UInt8
def encP (x : Pr) : List Value := [vs x.1, vs x.2]
structure Sp where
  rank : Nat
  pl : Nat
  a : List UInt8
  b : List UInt8
deriving DecidableEq
instance : Inhabited Sp := ⟨⟨0, 0, [], []⟩⟩
def encS (s : Sp) : List Value := [vi s.rank, vi s.pl, vs s.a, vs s.b]
def spLt (x y : Sp) : Prop := x.rank < y.rank ∨ x.rank = y.rank ∧ x.pl < y.pl
instance (x y : Sp) : Decidable (spLt x y) := by unfold spLt; infer_instance
theorem spOrd : Ord spLt := ⟨fun a => by unfold spLt; omega, fun a b => by unfold spLt; omega, fun a b c => by unfold spLt; omega, fun a b c => by unfold spLt; omega⟩
theorem take_snoc' {α : Type} [Inhabited α] {l : List α} {i : Nat} (h : i < l.length) : l.take (i + 1) = l.take i ++ [l[i]!] := by
  rw [List.take_add_one, List.getElem?_eq_getElem h, getElem!_pos l i h]; rfl
theorem get!_mem {β : Type} [Inhabited β] {l : List β} {i : Nat} (hi : i < l.length) : l[i]! ∈ l := by rw [getElem!_pos l i hi]; exact List.getElem_mem _
abbrev accS (v : Value) (xs : List Sp) : Own := accC 83 4 encS v xs
/-- A row of parts: its slices, its map, its spots. -/
abbrev rowW (br : Nat) (pv nv qv : Value) (bm : Nat) (sv : Value) : Own := rowC br 61 [pv, nv, qv, .map (some bm), sv]
section
variable {R : List RO} {O O' : List Own} {POST : Value → List RO → List Own → Prop} {xs : List Sp} {sv : Value}
theorem Fun.knowO' {P : Program} {f : FuncId} {args : Array Value} {post : Value → List RO → List Own → Prop} {c : Own} {φ : Prop} (hp : c ∈ O) (hφ : ∀ w, c.pred w → φ) (h : φ → Fun P f args R O post) : Fun P f args R O post := fun w hs => h (hφ w (hs.see hp)) w hs
theorem acc_sub {α : Type} {e : TypeId} {size hi : Nat} {enc : α → List Value} {v : Value} {xs : List α} {w : World} (h : (accC e size enc v xs).pred w) : OneV (subSl v size 0 hi) := by
  rcases h.2 with ⟨rfl, _⟩ | ⟨b, c, cur, rfl, _⟩
  · exact ⟨rfl, rfl⟩
  · rw [subSl0]; exact ⟨rfl, rfl⟩
theorem acc_shape {α : Type} {e : TypeId} {size : Nat} {enc : α → List Value} {v : Value} {xs : List α} {w : World} (h : (accC e size enc v xs).pred w) (h0 : 0 < xs.length) : ∃ g cap, v = .slice (some ⟨g, 0, none⟩) xs.length cap := by
  rcases h.2 with ⟨_, h1⟩ | ⟨b, c, cur, rfl, _⟩
  · omega
  · exact ⟨b, c, rfl⟩
set_option maxRecDepth 20000 in
theorem len_spec (hO : accS sv xs ∈ O) (hk : POST (vi xs.length) R O) : Fun Try.prog 66 #[sv] R O POST := by
  refine Fun.enter (l := [_]) Try.func66 rfl Try.ntmps66 rfl (L0 := [(0, _)]) rfl ?_
  refine WC.seq ?_
  refine WC.region ?_
  refine WL.rd rfl rfl rfl (Rd.assign rfl rfl) ?_
  refine WL.nil ?_
  refine thenQ.normal ?_
  refine WC.seq ?_
  refine WC.region ?_
  refine WL.rd rfl rfl rfl (Rd.move rfl rfl) ?_
  refine WL.rd rfl rfl rfl (Rd.lenA (enc := encS) (xs := xs) rfl rfl Try.underlying59 hO) ?_
  refine WL.rd rfl rfl rfl (Rd.assign rfl rfl) ?_
  refine WL.nil ?_
  refine thenQ.normal ?_
  refine WC.ret (Ret.one Try.results66 rfl ?_)
  exact hk
set_option maxRecDepth 20000 in
theorem less_spec {i j : Nat} (hO : accS sv xs ∈ O) (hi : i < xs.length) (hj : j < xs.length) (hk : POST (.bool (decide (spLt xs[i]! xs[j]!))) R O) : Fun Try.prog 67 #[sv, vi i, vi j] R O POST := by
  refine Fun.enter (l := [_, _, _]) Try.func67 rfl Try.ntmps67 rfl (L0 := [(0, _), (1, _), (2, _)]) rfl ?_
  refine WC.seq ?_
  refine WC.region ?_
  refine WL.rd rfl rfl rfl (Rd.assign rfl rfl) ?_
  refine WL.nil ?_
  refine thenQ.normal ?_
  refine WC.seq ?_
  refine WC.seq ?_
  refine WC.still mixed (by kernel_rfl) ?_
  refine WA.rd rfl rfl rfl (Rd.move rfl rfl) ?_
  refine WA.rd rfl rfl rfl (Rd.move rfl rfl) ?_
  refine WA.rd rfl rfl rfl ((by first | exact Rd.idx (k := i) rfl S59 rfl rfl (by omega) (by repeat (first | assumption | exact mS | apply mT)) (by first | omega | (simp only [List.length_cons, List.length_nil, List.length_append, List.length_map]; omega)) | exact Rd.idxA (k := i) rfl S59 rfl rfl (by omega) (by repeat (first | assumption | exact mS | apply mT)) (by first | omega | (simp only [List.length_cons, List.length_nil, List.length_append, List.length_map]; omega)) | exact Rd.idxR (k := i) rfl S59 rfl rfl (by omega) (by omega))) ?_
  refine WA.rd rfl rfl rfl ((by first | exact Rd.field rfl F83_0 rfl rfl | exact Rd.fieldE rfl F83_0 rfl (by repeat (first | assumption | exact mS | apply mT)) (by omega) | exact Rd.fieldA rfl F83_0 rfl (by repeat (first | assumption | exact mS | apply mT)) (by omega))) ?_
  refine WA.rd rfl rfl rfl (Rd.getFA (enc := encS) (size := 4) (xs := xs) (k := i) (f := 0) (a := xs[i]!) (u := vi xs[i]!.rank) rfl C3 rfl (by repeat (first | assumption | exact mS | apply mT)) (fun x => rfl) (by omega) (get!_of_lt hi) rfl) ?_
  refine WA.rd rfl rfl rfl (Rd.move rfl rfl) ?_
  refine WA.rd rfl rfl rfl (Rd.move rfl rfl) ?_
  refine WA.rd rfl rfl rfl ((by first | exact Rd.idx (k := j) rfl S59 rfl rfl (by omega) (by repeat (first | assumption | exact mS | apply mT)) (by first | omega | (simp only [List.length_cons, List.length_nil, List.length_append, List.length_map]; omega)) | exact Rd.idxA (k := j) rfl S59 rfl rfl (by omega) (by repeat (first | assumption | exact mS | apply mT)) (by first | omega | (simp only [List.length_cons, List.length_nil, List.length_append, List.length_map]; omega)) | exact Rd.idxR (k := j) rfl S59 rfl rfl (by omega) (by omega))) ?_
  refine WA.rd rfl rfl rfl ((by first | exact Rd.field rfl F83_0 rfl rfl | exact Rd.fieldE rfl F83_0 rfl (by repeat (first | assumption | exact mS | apply mT)) (by omega) | exact Rd.fieldA rfl F83_0 rfl (by repeat (first | assumption | exact mS | apply mT)) (by omega))) ?_
  refine WA.rd rfl rfl rfl (Rd.getFA (enc := encS) (size := 4) (xs := xs) (k := j) (f := 0) (a := xs[j]!) (u := vi xs[j]!.rank) rfl C3 rfl (by repeat (first | assumption | exact mS | apply mT)) (fun x => rfl) (by omega) (get!_of_lt hj) rfl) ?_
  refine WA.rd rfl rfl rfl (Rd.neq rfl rfl rfl) ?_
  refine WA.nil ?_
  refine thenQ.normal ?_
  first | refine WC.ite rfl (fun hc1 => ?_) (fun hc1 => ?_) | refine WC.cond rfl (fun hc1 => ?_) (fun hc1 => ?_)
  · skip
    refine WC.seq ?_
    refine WC.still mixed (by kernel_rfl) ?_
    refine WA.rd rfl rfl rfl (Rd.move rfl rfl) ?_
    refine WA.rd rfl rfl rfl (Rd.move rfl rfl) ?_
    refine WA.rd rfl rfl rfl ((by first | exact Rd.idx (k := i) rfl S59 rfl rfl (by omega) (by repeat (first | assumption | exact mS | apply mT)) (by first | omega | (simp only [List.length_cons, List.length_nil, List.length_append, List.length_map]; omega)) | exact Rd.idxA (k := i) rfl S59 rfl rfl (by omega) (by repeat (first | assumption | exact mS | apply mT)) (by first | omega | (simp only [List.length_cons, List.length_nil, List.length_append, List.length_map]; omega)) | exact Rd.idxR (k := i) rfl S59 rfl rfl (by omega) (by omega))) ?_
    refine WA.rd rfl rfl rfl ((by first | exact Rd.field rfl F83_0 rfl rfl | exact Rd.fieldE rfl F83_0 rfl (by repeat (first | assumption | exact mS | apply mT)) (by omega) | exact Rd.fieldA rfl F83_0 rfl (by repeat (first | assumption | exact mS | apply mT)) (by omega))) ?_
    refine WA.rd rfl rfl rfl (Rd.getFA (enc := encS) (size := 4) (xs := xs) (k := i) (f := 0) (a := xs[i]!) (u := vi xs[i]!.rank) rfl C3 rfl (by repeat (first | assumption | exact mS | apply mT)) (fun x => rfl) (by omega) (get!_of_lt hi) rfl) ?_
    refine WA.rd rfl rfl rfl (Rd.move rfl rfl) ?_
    refine WA.rd rfl rfl rfl (Rd.move rfl rfl) ?_
    refine WA.rd rfl rfl rfl ((by first | exact Rd.idx (k := j) rfl S59 rfl rfl (by omega) (by repeat (first | assumption | exact mS | apply mT)) (by first | omega | (simp only [List.length_cons, List.length_nil, List.length_append, List.length_map]; omega)) | exact Rd.idxA (k := j) rfl S59 rfl rfl (by omega) (by repeat (first | assumption | exact mS | apply mT)) (by first | omega | (simp only [List.length_cons, List.length_nil, List.length_append, List.length_map]; omega)) | exact Rd.idxR (k := j) rfl S59 rfl rfl (by omega) (by omega))) ?_
    refine WA.rd rfl rfl rfl ((by first | exact Rd.field rfl F83_0 rfl rfl | exact Rd.fieldE rfl F83_0 rfl (by repeat (first | assumption | exact mS | apply mT)) (by omega) | exact Rd.fieldA rfl F83_0 rfl (by repeat (first | assumption | exact mS | apply mT)) (by omega))) ?_
    refine WA.rd rfl rfl rfl (Rd.getFA (enc := encS) (size := 4) (xs := xs) (k := j) (f := 0) (a := xs[j]!) (u := vi xs[j]!.rank) rfl C3 rfl (by repeat (first | assumption | exact mS | apply mT)) (fun x => rfl) (by omega) (get!_of_lt hj) rfl) ?_
    refine WA.rd rfl rfl rfl (Rd.lss rfl rfl rfl) ?_
    refine WA.rd rfl rfl rfl (Rd.assign rfl rfl) ?_
    refine WA.nil ?_
    refine thenQ.normal ?_
    refine WC.ret (Ret.one Try.results67 rfl ?_)
    rw [show decide (spLt xs[i]! xs[j]!) = decide ((xs[i]!.rank : Int) < xs[j]!.rank) from decide_eq_decide.2 (by unfold spLt; omega)] at hk
    exact hk
  · skip
    refine WC.skip ?_
    refine thenQ.normal ?_
    refine WC.seq ?_
    refine WC.still mixed (by kernel_rfl) ?_
    refine WA.rd rfl rfl rfl (Rd.move rfl rfl) ?_
    refine WA.rd rfl rfl rfl (Rd.move rfl rfl) ?_
    refine WA.rd rfl rfl rfl ((by first | exact Rd.idx (k := i) rfl S59 rfl rfl (by omega) (by repeat (first | assumption | exact mS | apply mT)) (by first | omega | (simp only [List.length_cons, List.length_nil, List.length_append, List.length_map]; omega)) | exact Rd.idxA (k := i) rfl S59 rfl rfl (by omega) (by repeat (first | assumption | exact mS | apply mT)) (by first | omega | (simp only [List.length_cons, List.length_nil, List.length_append, List.length_map]; omega)) | exact Rd.idxR (k := i) rfl S59 rfl rfl (by omega) (by omega))) ?_
    refine WA.rd rfl rfl rfl ((by first | exact Rd.field rfl F83_1 rfl rfl | exact Rd.fieldE rfl F83_1 rfl (by repeat (first | assumption | exact mS | apply mT)) (by omega) | exact Rd.fieldA rfl F83_1 rfl (by repeat (first | assumption | exact mS | apply mT)) (by omega))) ?_
    refine WA.rd rfl rfl rfl (Rd.getFA (enc := encS) (size := 4) (xs := xs) (k := i) (f := 1) (a := xs[i]!) (u := vi xs[i]!.pl) rfl C3 rfl (by repeat (first | assumption | exact mS | apply mT)) (fun x => rfl) (by omega) (get!_of_lt hi) rfl) ?_
    refine WA.rd rfl rfl rfl (Rd.move rfl rfl) ?_
    refine WA.rd rfl rfl rfl (Rd.move rfl rfl) ?_
    refine WA.rd rfl rfl rfl ((by first | exact Rd.idx (k := j) rfl S59 rfl rfl (by omega) (by repeat (first | assumption | exact mS | apply mT)) (by first | omega | (simp only [List.length_cons, List.length_nil, List.length_append, List.length_map]; omega)) | exact Rd.idxA (k := j) rfl S59 rfl rfl (by omega) (by repeat (first | assumption | exact mS | apply mT)) (by first | omega | (simp only [List.length_cons, List.length_nil, List.length_append, List.length_map]; omega)) | exact Rd.idxR (k := j) rfl S59 rfl rfl (by omega) (by omega))) ?_
    refine WA.rd rfl rfl rfl ((by first | exact Rd.field rfl F83_1 rfl rfl | exact Rd.fieldE rfl F83_1 rfl (by repeat (first | assumption | exact mS | apply mT)) (by omega) | exact Rd.fieldA rfl F83_1 rfl (by repeat (first | assumption | exact mS | apply mT)) (by omega))) ?_
    refine WA.rd rfl rfl rfl (Rd.getFA (enc := encS) (size := 4) (xs := xs) (k := j) (f := 1) (a := xs[j]!) (u := vi xs[j]!.pl) rfl C3 rfl (by repeat (first | assumption | exact mS | apply mT)) (fun x => rfl) (by omega) (get!_of_lt hj) rfl) ?_
    refine WA.rd rfl rfl rfl (Rd.lss rfl rfl rfl) ?_
    refine WA.rd rfl rfl rfl (Rd.assign rfl rfl) ?_
    refine WA.nil ?_
    refine thenQ.normal ?_
    refine WC.ret (Ret.one Try.results67 rfl ?_)
    rw [show decide (spLt xs[i]! xs[j]!) = decide ((xs[i]!.pl : Int) < xs[j]!.pl) from decide_eq_decide.2 (by unfold spLt; omega)] at hk
    exact hk
set_option maxRecDepth 20000 in
theorem swap0_spec {i j : Nat} (hi : i < xs.length) (hj : j < xs.length) (hk : POST (.tuple #[]) R (accS sv (swapL xs i j) :: O)) : Fun Try.prog 68 #[sv, vi i, vi j] R (accS sv xs :: O) POST := by
  refine Fun.knowO' (c := accS sv xs) List.mem_cons_self (fun w h => acc_shape h (by omega)) fun hone => ?_
  obtain ⟨g, cap, rfl⟩ := hone
  refine Fun.enter (l := [_, _, _]) Try.func68 rfl Try.ntmps68 rfl (L0 := [(0, _), (1, _), (2, _)]) rfl ?_
  refine WC.drawnU (O) ([(13, accS (.slice (some ⟨g, 0, none⟩) xs.length cap) xs)]) 16 rfl mixed ?_
  refine WE.take 0 [] rfl (by kernel_rfl) (by repeat (first | exact List.Sublist.refl _ | exact List.nil_sublist _ | apply List.Sublist.cons_cons | apply List.Sublist.cons)) (HeldL.mk2 [accS (.slice (some ⟨g, 0, none⟩) xs.length cap) xs] (by kernel_rfl) (by repeat (first | exact SubL.refl | refine SubL.cons (by repeat (first | assumption | exact mS | apply mT)) ?_ | refine SubL.skip ?_)) (by repeat (first | exact OwnL.refl | apply OwnL.take (by repeat (first | exact Take.head _ | apply Take.tail)) | apply OwnL.drop)) (by repeat (first | exact Mems.nil | refine Mems.cons (by repeat (first | assumption | exact mS | apply mT)) ?_))) rfl rfl rfl (Rd.move rfl rfl) ?_
  refine WE.take 1 [] rfl (by kernel_rfl) (by repeat (first | exact List.Sublist.refl _ | exact List.nil_sublist _ | apply List.Sublist.cons_cons | apply List.Sublist.cons)) (HeldL.mk2 [accS (.slice (some ⟨g, 0, none⟩) xs.length cap) xs] (by kernel_rfl) (by repeat (first | exact SubL.refl | refine SubL.cons (by repeat (first | assumption | exact mS | apply mT)) ?_ | refine SubL.skip ?_)) (by repeat (first | exact OwnL.refl | apply OwnL.take (by repeat (first | exact Take.head _ | apply Take.tail)) | apply OwnL.drop)) (by repeat (first | exact Mems.nil | refine Mems.cons (by repeat (first | assumption | exact mS | apply mT)) ?_))) rfl rfl rfl (Rd.move rfl rfl) ?_
  refine WE.take 2 [] rfl (by kernel_rfl) (by repeat (first | exact List.Sublist.refl _ | exact List.nil_sublist _ | apply List.Sublist.cons_cons | apply List.Sublist.cons)) (HeldL.mk2 [accS (.slice (some ⟨g, 0, none⟩) xs.length cap) xs] (by kernel_rfl) (by repeat (first | exact SubL.refl | refine SubL.cons (by repeat (first | assumption | exact mS | apply mT)) ?_ | refine SubL.skip ?_)) (by repeat (first | exact OwnL.refl | apply OwnL.take (by repeat (first | exact Take.head _ | apply Take.tail)) | apply OwnL.drop)) (by repeat (first | exact Mems.nil | refine Mems.cons (by repeat (first | assumption | exact mS | apply mT)) ?_))) rfl rfl rfl (Rd.move rfl rfl) ?_
  refine WE.take 3 [] rfl (by kernel_rfl) (by repeat (first | exact List.Sublist.refl _ | exact List.nil_sublist _ | apply List.Sublist.cons_cons | apply List.Sublist.cons)) (HeldL.mk2 [accS (.slice (some ⟨g, 0, none⟩) xs.length cap) xs] (by kernel_rfl) (by repeat (first | exact SubL.refl | refine SubL.cons (by repeat (first | assumption | exact mS | apply mT)) ?_ | refine SubL.skip ?_)) (by repeat (first | exact OwnL.refl | apply OwnL.take (by repeat (first | exact Take.head _ | apply Take.tail)) | apply OwnL.drop)) (by repeat (first | exact Mems.nil | refine Mems.cons (by repeat (first | assumption | exact mS | apply mT)) ?_))) rfl rfl rfl (Rd.move rfl rfl) ?_
  refine WE.take 4 [] rfl (by kernel_rfl) (by repeat (first | exact List.Sublist.refl _ | exact List.nil_sublist _ | apply List.Sublist.cons_cons | apply List.Sublist.cons)) (HeldL.mk2 [accS (.slice (some ⟨g, 0, none⟩) xs.length cap) xs] (by kernel_rfl) (by repeat (first | exact SubL.refl | refine SubL.cons (by repeat (first | assumption | exact mS | apply mT)) ?_ | refine SubL.skip ?_)) (by repeat (first | exact OwnL.refl | apply OwnL.take (by repeat (first | exact Take.head _ | apply Take.tail)) | apply OwnL.drop)) (by repeat (first | exact Mems.nil | refine Mems.cons (by repeat (first | assumption | exact mS | apply mT)) ?_))) rfl rfl rfl (Rd.move rfl rfl) ?_
  refine WE.take 5 [] rfl (by kernel_rfl) (by repeat (first | exact List.Sublist.refl _ | exact List.nil_sublist _ | apply List.Sublist.cons_cons | apply List.Sublist.cons)) (HeldL.mk2 [accS (.slice (some ⟨g, 0, none⟩) xs.length cap) xs] (by kernel_rfl) (by repeat (first | exact SubL.refl | refine SubL.cons (by repeat (first | assumption | exact mS | apply mT)) ?_ | refine SubL.skip ?_)) (by repeat (first | exact OwnL.refl | apply OwnL.take (by repeat (first | exact Take.head _ | apply Take.tail)) | apply OwnL.drop)) (by repeat (first | exact Mems.nil | refine Mems.cons (by repeat (first | assumption | exact mS | apply mT)) ?_))) rfl rfl rfl (Rd.move rfl rfl) ?_
  refine WE.take 6 [] rfl (by kernel_rfl) (by repeat (first | exact List.Sublist.refl _ | exact List.nil_sublist _ | apply List.Sublist.cons_cons | apply List.Sublist.cons)) (HeldL.mk2 [accS (.slice (some ⟨g, 0, none⟩) xs.length cap) xs] (by kernel_rfl) (by repeat (first | exact SubL.refl | refine SubL.cons (by repeat (first | assumption | exact mS | apply mT)) ?_ | refine SubL.skip ?_)) (by repeat (first | exact OwnL.refl | apply OwnL.take (by repeat (first | exact Take.head _ | apply Take.tail)) | apply OwnL.drop)) (by repeat (first | exact Mems.nil | refine Mems.cons (by repeat (first | assumption | exact mS | apply mT)) ?_))) rfl rfl rfl (Rd.idxR (k := j) rfl S59 rfl rfl rfl (by omega)) ?_
  refine WE.take 7 [(13, accS (.slice (some ⟨g, 0, none⟩) xs.length cap) xs)] rfl (by kernel_rfl) (by repeat (first | exact List.Sublist.refl _ | exact List.nil_sublist _ | apply List.Sublist.cons_cons | apply List.Sublist.cons)) (HeldL.mk2 [accS (.slice (some ⟨g, 0, none⟩) xs.length cap) xs] (by kernel_rfl) (by repeat (first | exact SubL.refl | refine SubL.cons (by repeat (first | assumption | exact mS | apply mT)) ?_ | refine SubL.skip ?_)) (by repeat (first | exact OwnL.refl | apply OwnL.take (by repeat (first | exact Take.head _ | apply Take.tail)) | apply OwnL.drop)) (by repeat (first | exact Mems.nil | refine Mems.cons (by repeat (first | assumption | exact mS | apply mT)) ?_))) rfl rfl rfl (Rd.getSA (enc := encS) (size := 4) (xs := xs) (k := j) (a := xs[j]!) (cs := encS xs[j]!) rfl G83 rfl (by repeat (first | assumption | exact mS | apply mT)) (fun x => rfl) (get!_of_lt hj) (NF.refl _)) ?_
  refine WE.take 8 [] rfl (by kernel_rfl) (by repeat (first | exact List.Sublist.refl _ | exact List.nil_sublist _ | apply List.Sublist.cons_cons | apply List.Sublist.cons)) (HeldL.mk2 [accS (.slice (some ⟨g, 0, none⟩) xs.length cap) xs] (by kernel_rfl) (by repeat (first | exact SubL.refl | refine SubL.cons (by repeat (first | assumption | exact mS | apply mT)) ?_ | refine SubL.skip ?_)) (by repeat (first | exact OwnL.refl | apply OwnL.take (by repeat (first | exact Take.head _ | apply Take.tail)) | apply OwnL.drop)) (by repeat (first | exact Mems.nil | refine Mems.cons (by repeat (first | assumption | exact mS | apply mT)) ?_))) rfl rfl rfl (Rd.move rfl rfl) ?_
  refine WE.take 9 [] rfl (by kernel_rfl) (by repeat (first | exact List.Sublist.refl _ | exact List.nil_sublist _ | apply List.Sublist.cons_cons | apply List.Sublist.cons)) (HeldL.mk2 [accS (.slice (some ⟨g, 0, none⟩) xs.length cap) xs] (by kernel_rfl) (by repeat (first | exact SubL.refl | refine SubL.cons (by repeat (first | assumption | exact mS | apply mT)) ?_ | refine SubL.skip ?_)) (by repeat (first | exact OwnL.refl | apply OwnL.take (by repeat (first | exact Take.head _ | apply Take.tail)) | apply OwnL.drop)) (by repeat (first | exact Mems.nil | refine Mems.cons (by repeat (first | assumption | exact mS | apply mT)) ?_))) rfl rfl rfl (Rd.move rfl rfl) ?_
  refine WE.take 10 [] rfl (by kernel_rfl) (by repeat (first | exact List.Sublist.refl _ | exact List.nil_sublist _ | apply List.Sublist.cons_cons | apply List.Sublist.cons)) (HeldL.mk2 [accS (.slice (some ⟨g, 0, none⟩) xs.length cap) xs] (by kernel_rfl) (by repeat (first | exact SubL.refl | refine SubL.cons (by repeat (first | assumption | exact mS | apply mT)) ?_ | refine SubL.skip ?_)) (by repeat (first | exact OwnL.refl | apply OwnL.take (by repeat (first | exact Take.head _ | apply Take.tail)) | apply OwnL.drop)) (by repeat (first | exact Mems.nil | refine Mems.cons (by repeat (first | assumption | exact mS | apply mT)) ?_))) rfl rfl rfl (Rd.idxR (k := i) rfl S59 rfl rfl rfl (by omega)) ?_
  refine WE.take 11 [(13, accS (.slice (some ⟨g, 0, none⟩) xs.length cap) xs)] rfl (by kernel_rfl) (by repeat (first | exact List.Sublist.refl _ | exact List.nil_sublist _ | apply List.Sublist.cons_cons | apply List.Sublist.cons)) (HeldL.mk2 [accS (.slice (some ⟨g, 0, none⟩) xs.length cap) xs] (by kernel_rfl) (by repeat (first | exact SubL.refl | refine SubL.cons (by repeat (first | assumption | exact mS | apply mT)) ?_ | refine SubL.skip ?_)) (by repeat (first | exact OwnL.refl | apply OwnL.take (by repeat (first | exact Take.head _ | apply Take.tail)) | apply OwnL.drop)) (by repeat (first | exact Mems.nil | refine Mems.cons (by repeat (first | assumption | exact mS | apply mT)) ?_))) rfl rfl rfl (Rd.getSA (enc := encS) (size := 4) (xs := xs) (k := i) (a := xs[i]!) (cs := encS xs[i]!) rfl G83 rfl (by repeat (first | assumption | exact mS | apply mT)) (fun x => rfl) (get!_of_lt hi) (NF.refl _)) ?_
  refine WE.take 12 [] rfl (by kernel_rfl) (by repeat (first | exact List.Sublist.refl _ | exact List.nil_sublist _ | apply List.Sublist.cons_cons | apply List.Sublist.cons)) (HeldL.mk2 [accS (.slice (some ⟨g, 0, none⟩) xs.length cap) xs] (by kernel_rfl) (by repeat (first | exact SubL.refl | refine SubL.cons (by repeat (first | assumption | exact mS | apply mT)) ?_ | refine SubL.skip ?_)) (by repeat (first | exact OwnL.refl | apply OwnL.take (by repeat (first | exact Take.head _ | apply Take.tail)) | apply OwnL.drop)) (by repeat (first | exact Mems.nil | refine Mems.cons (by repeat (first | assumption | exact mS | apply mT)) ?_))) rfl rfl rfl (Rd.idxR (k := i) rfl S59 rfl rfl rfl (by omega)) ?_
  refine WE.one 13 rfl (by kernel_rfl) rfl ?_
  refine OpW.storeAccS (enc := encS) (k := i) (a := xs[j]!) rfl G83 rfl rfl rfl (fun x => rfl) rfl (by repeat (first | assumption | exact Take.head _ | apply Take.tail)) (by omega) rfl ?_
  refine ⟨(HeldL.mk2 [] (by kernel_rfl) (by repeat (first | exact SubL.refl | refine SubL.cons (by repeat (first | assumption | exact mS | apply mT)) ?_ | refine SubL.skip ?_)) (by repeat (first | exact OwnL.refl | apply OwnL.take (by repeat (first | exact Take.head _ | apply Take.tail)) | apply OwnL.drop)) (by repeat (first | exact Mems.nil | refine Mems.cons (by repeat (first | assumption | exact mS | apply mT)) ?_))), ?_⟩
  refine WE.take 14 [] rfl (by kernel_rfl) (by repeat (first | exact List.Sublist.refl _ | exact List.nil_sublist _ | apply List.Sublist.cons_cons | apply List.Sublist.cons)) (HeldL.mk2 [] (by kernel_rfl) (by repeat (first | exact SubL.refl | refine SubL.cons (by repeat (first | assumption | exact mS | apply mT)) ?_ | refine SubL.skip ?_)) (by repeat (first | exact OwnL.refl | apply OwnL.take (by repeat (first | exact Take.head _ | apply Take.tail)) | apply OwnL.drop)) (by repeat (first | exact Mems.nil | refine Mems.cons (by repeat (first | assumption | exact mS | apply mT)) ?_))) rfl rfl rfl (Rd.idxR (k := j) rfl S59 rfl rfl rfl (by omega)) ?_
  refine WE.one 15 rfl (by kernel_rfl) rfl ?_
  refine OpW.storeAccS (enc := encS) (k := j) (a := xs[i]!) rfl G83 rfl rfl rfl (fun x => rfl) rfl (by repeat (first | assumption | exact Take.head _ | apply Take.tail)) (by rw [List.length_set]; omega) rfl ?_
  refine ⟨(HeldL.mk2 [] (by kernel_rfl) (by repeat (first | exact SubL.refl | refine SubL.cons (by repeat (first | assumption | exact mS | apply mT)) ?_ | refine SubL.skip ?_)) (by repeat (first | exact OwnL.refl | apply OwnL.take (by repeat (first | exact Take.head _ | apply Take.tail)) | apply OwnL.drop)) (by repeat (first | exact Mems.nil | refine Mems.cons (by repeat (first | assumption | exact mS | apply mT)) ?_))), ?_⟩
  refine WE.done (by kernel_rfl) ?_
  refine Ret.normal (Ret.zero Try.results68 ?_)
  exact hk
theorem swap_spec {i j : Nat} (hO : Take (accS sv xs) O O') (hi : i < xs.length) (hj : j < xs.length) (hk : POST (.tuple #[]) R (accS sv (swapL xs i j) :: O')) : Fun Try.prog 68 #[sv, vi i, vi j] R O POST :=
  Fun.heap (fun w h => h.perm hO.perm) (swap0_spec hi hj hk)
abbrev sptr (b : Nat) : Value := .pointer (some ⟨b, 4, none⟩)
abbrev ifv (b : Nat) : Value := .iface 81 (sptr b)
theorem mLen {br bm : Nat} {pv nv qv : Value} (hO : rowW br pv nv qv bm sv ∈ O) : Meth Try.prog R O 81 (sptr br) "Len" 66 sv := Meth.row (by kernel_rfl) Try.underlying81 C59 hO rfl
theorem mLess {br bm : Nat} {pv nv qv : Value} (hO : rowW br pv nv qv bm sv ∈ O) : Meth Try.prog R O 81 (sptr br) "Less" 67 sv := Meth.row (by kernel_rfl) Try.underlying81 C59 hO rfl
theorem mSwap {br bm : Nat} {pv nv qv : Value} (hO : rowW br pv nv qv bm sv ∈ O) : Meth Try.prog R O 81 (sptr br) "Swap" 68 sv := Meth.row (by kernel_rfl) Try.underlying81 C59 hO rfl
theorem mPush {br : Nat} : Meth Try.prog R O 81 (sptr br) "Push" 72 (sptr br) := Meth.ptr (by kernel_rfl) Try.underlying81
theorem mPop {br : Nat} : Meth Try.prog R O 81 (sptr br) "Pop" 71 (sptr br) := Meth.ptr (by kernel_rfl) Try.underlying81
abbrev spv (s : Sp) : Value := .iface 83 (.agg (encS s).toArray)
set_option maxRecDepth 20000 in
theorem push_spec {br bm : Nat} {pv nv qv : Value} {x : Sp} (hlen : xs.length ≤ 1000000) (hk : ∀ sv', POST (.tuple #[]) R (rowW br pv nv qv bm sv' :: accS sv' (xs ++ [x]) :: O)) :
    Fun Try.prog 72 #[sptr br, spv x] R (rowW br pv nv qv bm sv :: accS sv xs :: O) POST := by
  refine Fun.enter (l := [_, _]) Try.func72 rfl Try.ntmps72 rfl (L0 := [(0, _), (1, _)]) rfl ?_
  refine WC.drawnU (O) ([(9, rowW br pv nv qv bm sv)]) 10 rfl mixed ?_
  refine WE.take 0 [] rfl (by kernel_rfl) (by repeat (first | exact List.Sublist.refl _ | exact List.nil_sublist _ | apply List.Sublist.cons_cons | apply List.Sublist.cons)) (HeldL.mk2 [rowW br pv nv qv bm sv] (by kernel_rfl) (by repeat (first | exact SubL.refl | refine SubL.cons (by repeat (first | assumption | exact mS | apply mT)) ?_ | refine SubL.skip ?_)) (by repeat (first | exact OwnL.refl | apply OwnL.take (by repeat (first | exact Take.head _ | apply Take.tail)) | apply OwnL.drop)) (by repeat (first | exact Mems.nil | refine Mems.cons (by repeat (first | assumption | exact mS | apply mT)) ?_))) rfl rfl rfl (Rd.move rfl rfl) ?_
  refine WE.take 1 [] rfl (by kernel_rfl) (by repeat (first | exact List.Sublist.refl _ | exact List.nil_sublist _ | apply List.Sublist.cons_cons | apply List.Sublist.cons)) (HeldL.mk2 [rowW br pv nv qv bm sv] (by kernel_rfl) (by repeat (first | exact SubL.refl | refine SubL.cons (by repeat (first | assumption | exact mS | apply mT)) ?_ | refine SubL.skip ?_)) (by repeat (first | exact OwnL.refl | apply OwnL.take (by repeat (first | exact Take.head _ | apply Take.tail)) | apply OwnL.drop)) (by repeat (first | exact Mems.nil | refine Mems.cons (by repeat (first | assumption | exact mS | apply mT)) ?_))) rfl rfl rfl (Rd.move rfl rfl) ?_
  refine WE.take 2 [] rfl (by kernel_rfl) (by repeat (first | exact List.Sublist.refl _ | exact List.nil_sublist _ | apply List.Sublist.cons_cons | apply List.Sublist.cons)) (HeldL.mk2 [rowW br pv nv qv bm sv] (by kernel_rfl) (by repeat (first | exact SubL.refl | refine SubL.cons (by repeat (first | assumption | exact mS | apply mT)) ?_ | refine SubL.skip ?_)) (by repeat (first | exact OwnL.refl | apply OwnL.take (by repeat (first | exact Take.head _ | apply Take.tail)) | apply OwnL.drop)) (by repeat (first | exact Mems.nil | refine Mems.cons (by repeat (first | assumption | exact mS | apply mT)) ?_))) rfl rfl rfl (Rd.nilc rfl rfl) ?_
  refine WE.take 3 [(9, rowW br pv nv qv bm sv)] rfl (by kernel_rfl) (by repeat (first | exact List.Sublist.refl _ | exact List.nil_sublist _ | apply List.Sublist.cons_cons | apply List.Sublist.cons)) (HeldL.mk2 [rowW br pv nv qv bm sv] (by kernel_rfl) (by repeat (first | exact SubL.refl | refine SubL.cons (by repeat (first | assumption | exact mS | apply mT)) ?_ | refine SubL.skip ?_)) (by repeat (first | exact OwnL.refl | apply OwnL.take (by repeat (first | exact Take.head _ | apply Take.tail)) | apply OwnL.drop)) (by repeat (first | exact Mems.nil | refine Mems.cons (by repeat (first | assumption | exact mS | apply mT)) ?_))) rfl rfl rfl (Rd.row1 (b := br) (off := 4) (u := sv) rfl C59 rfl (by repeat (first | assumption | exact mS | apply mT)) rfl) ?_
  refine WE.take 4 [] rfl (by kernel_rfl) (by repeat (first | exact List.Sublist.refl _ | exact List.nil_sublist _ | apply List.Sublist.cons_cons | apply List.Sublist.cons)) (HeldL.mk2 [rowW br pv nv qv bm sv] (by kernel_rfl) (by repeat (first | exact SubL.refl | refine SubL.cons (by repeat (first | assumption | exact mS | apply mT)) ?_ | refine SubL.skip ?_)) (by repeat (first | exact OwnL.refl | apply OwnL.take (by repeat (first | exact Take.head _ | apply Take.tail)) | apply OwnL.drop)) (by repeat (first | exact Mems.nil | refine Mems.cons (by repeat (first | assumption | exact mS | apply mT)) ?_))) rfl rfl rfl (Rd.move rfl rfl) ?_
  refine WE.take 5 [] rfl (by kernel_rfl) (by repeat (first | exact List.Sublist.refl _ | exact List.nil_sublist _ | apply List.Sublist.cons_cons | apply List.Sublist.cons)) (HeldL.mk2 [rowW br pv nv qv bm sv] (by kernel_rfl) (by repeat (first | exact SubL.refl | refine SubL.cons (by repeat (first | assumption | exact mS | apply mT)) ?_ | refine SubL.skip ?_)) (by repeat (first | exact OwnL.refl | apply OwnL.take (by repeat (first | exact Take.head _ | apply Take.tail)) | apply OwnL.drop)) (by repeat (first | exact Mems.nil | refine Mems.cons (by repeat (first | assumption | exact mS | apply mT)) ?_))) rfl rfl rfl (Rd.assertT rfl Try.underlying83 rfl rfl) ?_
  refine WE.one 6 rfl (by kernel_rfl) rfl ?_
  refine OpW.buildSl (ps := [(0, _)]) rfl S59 (by repeat (first | exact Evs.nil | apply Evs.cons rfl)) rfl rfl (by repeat (first | exact CellsOf.nil | apply CellsOf.cons rfl)) (by kernel_rfl) rfl rfl rfl ?_; intro b10
  refine ⟨(HeldL.mk2 [rowW br pv nv qv bm sv] (by kernel_rfl) (by repeat (first | exact SubL.refl | refine SubL.cons (by repeat (first | assumption | exact mS | apply mT)) ?_ | refine SubL.skip ?_)) (by repeat (first | exact OwnL.refl | apply OwnL.take (by repeat (first | exact Take.head _ | apply Take.tail)) | apply OwnL.drop)) (by repeat (first | exact Mems.nil | refine Mems.cons (by repeat (first | assumption | exact mS | apply mT)) ?_))), ?_⟩
  refine WE.one 7 rfl (by kernel_rfl) rfl ?_
  refine OpW.appendRow (enc := encS) rfl S59 rfl rfl (by repeat (first | assumption | exact Take.head _ | apply Take.tail)) (by repeat (first | assumption | exact Take.head _ | apply Take.tail)) [x] rfl (by rfl) rfl (by intro x; first | rfl | (cases x; rfl) | (rcases x with ⟨_, _, _⟩; rfl) | (rcases x with ⟨_, _, _, _⟩; rfl)) (by intro x; first | rfl | (cases x; rfl) | (rcases x with ⟨_, _, _⟩; rfl) | (rcases x with ⟨_, _, _, _⟩; rfl)) ⟨by simp only [maxLen, List.length_append, List.length_nil, List.length_cons, List.length_drop, List.length_take, List.length_map]; omega, by first | omega | (simp only [List.length_append, List.length_nil, List.length_cons, List.length_drop, List.length_take, List.length_map]; omega)⟩ rfl rfl ?_; intro v11 hv11
  refine ⟨(HeldL.mk2 [rowW br pv nv qv bm sv] (by kernel_rfl) (by repeat (first | exact SubL.refl | refine SubL.cons (by repeat (first | assumption | exact mS | apply mT)) ?_ | refine SubL.skip ?_)) (by repeat (first | exact OwnL.refl | apply OwnL.take (by repeat (first | exact Take.head _ | apply Take.tail)) | apply OwnL.drop)) (by repeat (first | exact Mems.nil | refine Mems.cons (by repeat (first | assumption | exact mS | apply mT)) ?_))), ?_⟩
  refine WE.take 8 [] rfl (by kernel_rfl) (by repeat (first | exact List.Sublist.refl _ | exact List.nil_sublist _ | apply List.Sublist.cons_cons | apply List.Sublist.cons)) (HeldL.mk2 [rowW br pv nv qv bm sv] (by kernel_rfl) (by repeat (first | exact SubL.refl | refine SubL.cons (by repeat (first | assumption | exact mS | apply mT)) ?_ | refine SubL.skip ?_)) (by repeat (first | exact OwnL.refl | apply OwnL.take (by repeat (first | exact Take.head _ | apply Take.tail)) | apply OwnL.drop)) (by repeat (first | exact Mems.nil | refine Mems.cons (by repeat (first | assumption | exact mS | apply mT)) ?_))) rfl rfl rfl (Rd.nilc rfl rfl) ?_
  refine WE.one 9 rfl (by kernel_rfl) rfl ?_
  refine OpW.store1 rfl Z59 rfl rfl (by first | exact ⟨rfl, rfl⟩ | assumption) (by repeat (first | assumption | exact Take.head _ | apply Take.tail)) (by first | (simp; done) | omega | exact of_decide_eq_true rfl | (simp only [List.length_append, List.length_replicate, List.length_map, List.length_set]; omega)) rfl ?_
  refine ⟨(HeldL.mk2 [] (by kernel_rfl) (by repeat (first | exact SubL.refl | refine SubL.cons (by repeat (first | assumption | exact mS | apply mT)) ?_ | refine SubL.skip ?_)) (by repeat (first | exact OwnL.refl | apply OwnL.take (by repeat (first | exact Take.head _ | apply Take.tail)) | apply OwnL.drop)) (by repeat (first | exact Mems.nil | refine Mems.cons (by repeat (first | assumption | exact mS | apply mT)) ?_))), ?_⟩
  refine WE.done (by kernel_rfl) ?_
  refine Ret.normal (Ret.zero Try.results72 ?_)
  exact hk _
set_option maxRecDepth 20000 in
theorem pop_spec {br bm : Nat} {pv nv qv : Value} (hlen : xs.length ≤ 1000000) (h0 : 0 < xs.length) (hk : ∀ sv', POST (spv xs[xs.length - 1]!) R (rowW br pv nv qv bm sv' :: accS sv' (xs.take (xs.length - 1)) :: O)) :
    Fun Try.prog 71 #[sptr br] R (rowW br pv nv qv bm sv :: accS sv xs :: O) POST := by
  refine Fun.knowO' (c := accS sv xs) (List.mem_cons_of_mem _ List.mem_cons_self) (fun w h => acc_sub (hi := xs.length - 1) h) fun hone => ?_
  refine Fun.enter (l := [_]) Try.func71 rfl Try.ntmps71 rfl (L0 := [(0, _)]) rfl ?_
  refine WC.seq ?_
  refine WC.region ?_
  refine WL.rd rfl rfl rfl (Rd.assign rfl rfl) ?_
  refine WL.nil ?_
  refine thenQ.normal ?_
  refine WC.seq ?_
  refine WC.drawn (rowW br pv nv qv bm sv :: accS sv xs :: O) 12 rfl mixed ?_
  refine WD.take 0 rfl (by kernel_rfl) (Held.mk' (by repeat (first | exact SubL.refl | refine SubL.cons (by repeat (first | assumption | exact mS | apply mT)) ?_ | refine SubL.skip ?_)) (by repeat (first | exact OwnL.refl | apply OwnL.take (by repeat (first | exact Take.head _ | apply Take.tail)) | apply OwnL.drop))) rfl rfl rfl (Rd.move rfl rfl) ?_
  refine WD.take 1 rfl (by kernel_rfl) (Held.mk' (by repeat (first | exact SubL.refl | refine SubL.cons (by repeat (first | assumption | exact mS | apply mT)) ?_ | refine SubL.skip ?_)) (by repeat (first | exact OwnL.refl | apply OwnL.take (by repeat (first | exact Take.head _ | apply Take.tail)) | apply OwnL.drop))) rfl rfl rfl (Rd.nilc rfl rfl) ?_
  refine WD.take 2 rfl (by kernel_rfl) (Held.mk' (by repeat (first | exact SubL.refl | refine SubL.cons (by repeat (first | assumption | exact mS | apply mT)) ?_ | refine SubL.skip ?_)) (by repeat (first | exact OwnL.refl | apply OwnL.take (by repeat (first | exact Take.head _ | apply Take.tail)) | apply OwnL.drop))) rfl rfl rfl (Rd.row1 (b := br) (off := 4) (u := sv) rfl C59 rfl (by repeat (first | assumption | exact mS | apply mT)) rfl) ?_
  refine WD.take 3 rfl (by kernel_rfl) (Held.mk' (by repeat (first | exact SubL.refl | refine SubL.cons (by repeat (first | assumption | exact mS | apply mT)) ?_ | refine SubL.skip ?_)) (by repeat (first | exact OwnL.refl | apply OwnL.take (by repeat (first | exact Take.head _ | apply Take.tail)) | apply OwnL.drop))) rfl rfl rfl (Rd.move rfl rfl) ?_
  refine WD.take 4 rfl (by kernel_rfl) (Held.mk' (by repeat (first | exact SubL.refl | refine SubL.cons (by repeat (first | assumption | exact mS | apply mT)) ?_ | refine SubL.skip ?_)) (by repeat (first | exact OwnL.refl | apply OwnL.take (by repeat (first | exact Take.head _ | apply Take.tail)) | apply OwnL.drop))) rfl rfl rfl (Rd.nilc rfl rfl) ?_
  refine WD.take 5 rfl (by kernel_rfl) (Held.mk' (by repeat (first | exact SubL.refl | refine SubL.cons (by repeat (first | assumption | exact mS | apply mT)) ?_ | refine SubL.skip ?_)) (by repeat (first | exact OwnL.refl | apply OwnL.take (by repeat (first | exact Take.head _ | apply Take.tail)) | apply OwnL.drop))) rfl rfl rfl (Rd.row1 (b := br) (off := 4) (u := sv) rfl C59 rfl (by repeat (first | assumption | exact mS | apply mT)) rfl) ?_
  refine WD.take 6 rfl (by kernel_rfl) (Held.mk' (by repeat (first | exact SubL.refl | refine SubL.cons (by repeat (first | assumption | exact mS | apply mT)) ?_ | refine SubL.skip ?_)) (by repeat (first | exact OwnL.refl | apply OwnL.take (by repeat (first | exact Take.head _ | apply Take.tail)) | apply OwnL.drop))) rfl rfl rfl (Rd.lenA (enc := encS) (xs := xs) rfl rfl Try.underlying59 (by repeat (first | assumption | exact mS | apply mT))) ?_
  refine WD.take 7 rfl (by kernel_rfl) (Held.mk' (by repeat (first | exact SubL.refl | refine SubL.cons (by repeat (first | assumption | exact mS | apply mT)) ?_ | refine SubL.skip ?_)) (by repeat (first | exact OwnL.refl | apply OwnL.take (by repeat (first | exact Take.head _ | apply Take.tail)) | apply OwnL.drop))) rfl rfl rfl (Rd.sub rfl rfl rfl (by omega)) ?_
  refine WD.take 8 rfl (by kernel_rfl) (Held.mk' (by repeat (first | exact SubL.refl | refine SubL.cons (by repeat (first | assumption | exact mS | apply mT)) ?_ | refine SubL.skip ?_)) (by repeat (first | exact OwnL.refl | apply OwnL.take (by repeat (first | exact Take.head _ | apply Take.tail)) | apply OwnL.drop))) rfl rfl rfl ((by first | exact Rd.idx (k := xs.length - 1) rfl S59 rfl rfl (by omega) (by repeat (first | assumption | exact mS | apply mT)) (by first | omega | (simp only [List.length_cons, List.length_nil, List.length_append, List.length_map]; omega)) | exact Rd.idxA (k := xs.length - 1) rfl S59 rfl rfl (by omega) (by repeat (first | assumption | exact mS | apply mT)) (by first | omega | (simp only [List.length_cons, List.length_nil, List.length_append, List.length_map]; omega)) | exact Rd.idxR (k := xs.length - 1) rfl S59 rfl rfl (by omega) (by omega))) ?_
  refine WD.take 9 rfl (by kernel_rfl) (Held.mk' (by repeat (first | exact SubL.refl | refine SubL.cons (by repeat (first | assumption | exact mS | apply mT)) ?_ | refine SubL.skip ?_)) (by repeat (first | exact OwnL.refl | apply OwnL.take (by repeat (first | exact Take.head _ | apply Take.tail)) | apply OwnL.drop))) rfl rfl rfl (Rd.getSA (enc := encS) (size := 4) (xs := xs) (k := xs.length - 1) (a := xs[xs.length - 1]!) (cs := encS xs[xs.length - 1]!) rfl G83 rfl (by repeat (first | assumption | exact mS | apply mT)) (fun x => rfl) (get!_of_lt (by omega)) (NF.refl _)) ?_
  refine WD.one 10 rfl (by kernel_rfl) rfl ?_
  refine OpW.alloc rfl I83 rfl (by repeat (first | exact NF.nil | apply NF.cons)) rfl rfl ?_; intro b3
  refine ⟨(Held.mk' (by repeat (first | exact SubL.refl | refine SubL.cons (by repeat (first | assumption | exact mS | apply mT)) ?_ | refine SubL.skip ?_)) (by repeat (first | exact OwnL.refl | apply OwnL.take (by repeat (first | exact Take.head _ | apply Take.tail)) | apply OwnL.drop))), ?_⟩
  refine WD.one 11 rfl (by kernel_rfl) rfl ?_
  refine OpW.storeS rfl G83 rfl rfl (by repeat (first | exact NF.nil | apply NF.cons)) (by repeat (first | assumption | exact Take.head _ | apply Take.tail)) rfl rfl (by repeat (first | exact NF.nil | apply NF.cons)) rfl ?_
  refine ⟨(Held.mk' (by repeat (first | exact SubL.refl | refine SubL.cons (by repeat (first | assumption | exact mS | apply mT)) ?_ | refine SubL.skip ?_)) (by repeat (first | exact OwnL.refl | apply OwnL.take (by repeat (first | exact Take.head _ | apply Take.tail)) | apply OwnL.drop))), ?_⟩
  refine WD.done (by kernel_rfl) ?_
  refine thenQ.normal ?_
  refine WC.seq ?_
  refine WC.tail 11 mixed (by kernel_rfl) ?_
  refine WS.rd rfl rfl rfl (Rd.move rfl rfl) ?_
  refine WS.rd rfl rfl rfl (Rd.move rfl rfl) ?_
  refine WS.rd rfl rfl rfl (Rd.nilc rfl rfl) ?_
  refine WS.rd rfl rfl rfl (Rd.row1 (b := br) (off := 4) (u := sv) rfl C59 rfl (by repeat (first | assumption | exact mS | apply mT)) rfl) ?_
  refine WS.rd rfl rfl rfl (Rd.move rfl rfl) ?_
  refine WS.rd rfl rfl rfl (Rd.nilc rfl rfl) ?_
  refine WS.rd rfl rfl rfl (Rd.row1 (b := br) (off := 4) (u := sv) rfl C59 rfl (by repeat (first | assumption | exact mS | apply mT)) rfl) ?_
  refine WS.rd rfl rfl rfl (Rd.lenA (enc := encS) (xs := xs) rfl rfl Try.underlying59 (by repeat (first | assumption | exact mS | apply mT))) ?_
  refine WS.rd rfl rfl rfl (Rd.sub rfl rfl rfl (by omega)) ?_
  refine WS.rd rfl rfl rfl (Rd.cutA_h (enc := encS) (xs := xs) (hi := xs.length - 1) rfl S59 rfl rfl (by omega) (by repeat (first | assumption | exact mS | apply mT)) (by omega)) ?_
  refine WS.rd rfl rfl rfl (Rd.nilc rfl rfl) ?_
  refine WS.switch ?_
  refine WL.op rfl ?_
  refine OpW.store1 (b := br) (off := 4) rfl Z59 rfl rfl hone (by repeat (first | assumption | exact Take.head _ | apply Take.tail)) (by simp) rfl ?_
  refine WL.nil ?_
  refine thenQ.normal ?_
  refine WC.seq ?_
  refine WC.region ?_
  refine WL.rd rfl rfl rfl ((by first | exact Rd.rowS rfl G83 rfl (by repeat (first | assumption | exact mS | apply mT)) (by repeat (first | exact NF.nil | apply NF.cons)) rfl | exact Rd.getS rfl G83 rfl (by repeat (first | assumption | exact mS | apply mT)) (by intro x; first | rfl | (cases x; rfl) | (rcases x with ⟨_, _, _⟩; rfl) | (rcases x with ⟨_, _, _, _⟩; rfl)) (by first | assumption | rfl | exact get!_of_lt (by omega)) (by repeat (first | exact NF.nil | apply NF.cons)) | exact Rd.getSA rfl G83 rfl (by repeat (first | assumption | exact mS | apply mT)) (by intro x; first | rfl | (cases x; rfl) | (rcases x with ⟨_, _, _⟩; rfl) | (rcases x with ⟨_, _, _, _⟩; rfl)) (by first | assumption | rfl | exact get!_of_lt (by omega)) (by repeat (first | exact NF.nil | apply NF.cons)))) ?_
  refine WL.rd rfl rfl rfl (Rd.iface rfl Try.underlying83 rfl rfl) ?_
  refine WL.heap (fun w h => Sat.cutAcc (e := 83) (enc := encS) (v := sv) (xs := xs) (hi := xs.length - 1) (by repeat (first | assumption | exact Take.head _ | apply Take.tail)) (fun x => rfl) (by omega) h) ?_
  refine WL.heap (R' := R) (O' := rowW br pv nv qv bm (subSl sv 4 0 (xs.length - 1)) :: accS (subSl sv 4 0 (xs.length - 1)) (xs.take (xs.length - 1)) :: O) (fun w h => OwnL.sat (by repeat (first | exact OwnL.refl | apply OwnL.take (by repeat (first | exact Take.head _ | apply Take.tail)) | apply OwnL.drop)) w (h.thin (SubL.mem (by repeat (first | exact SubL.refl | refine SubL.cons (by repeat (first | assumption | exact mS | apply mT)) ?_ | refine SubL.skip ?_))))) ?_
  refine WL.rd rfl rfl rfl (Rd.assign rfl rfl) ?_
  refine WL.nil ?_
  refine thenQ.normal ?_
  refine WC.ret (Ret.one Try.results71 rfl ?_)
  exact hk _
end
end Go.Proofs.Ytnpkpcjiebiplaa
