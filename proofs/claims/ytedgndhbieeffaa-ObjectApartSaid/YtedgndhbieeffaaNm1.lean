/-
  Layer 1: the strings.Builder of a call's own.
-/
import Derived.Test.YtedgndhbieeffaaTy
import Derived.Test.YtedgndhbieeffaaByt
namespace Go.Proofs.Ytedgndhbieeffaa
open Go Go.SL

set_option maxRecDepth 20000 in
theorem copyCheck_new {R : List RO} {O : List Own} {POST : Value → List RO → List Own → Prop} {b : Nat} {v : Value}
    (hk : POST (.tuple #[]) R (rowC b 77 [.pointer (some ⟨b, 0, none⟩), v] :: O)) :
    Fun Try.prog 47 #[.pointer (some ⟨b, 0, none⟩)] R (rowC b 77 [.pointer none, v] :: O) POST := by
  refine Fun.enter (l := [_]) Try.func47 rfl Try.ntmps47 rfl (L0 := [(0, _)]) rfl ?_
  refine WC.seq ?_
  refine WC.region ?_
  refine WL.rd rfl rfl rfl (Rd.move rfl rfl) ?_
  refine WL.rd rfl rfl rfl (Rd.nilc rfl rfl) ?_
  refine WL.rd rfl rfl rfl ((by first | exact Rd.field rfl F77_0 rfl rfl | exact Rd.fieldE rfl F77_0 rfl (by repeat (first | assumption | exact mS | apply mT)) (by omega) | exact Rd.fieldA rfl F77_0 rfl (by repeat (first | assumption | exact mS | apply mT)) (by omega))) ?_
  refine WL.rd rfl rfl rfl ((by first | exact Rd.get rfl C75 rfl (by repeat (first | assumption | exact mS | apply mT)) (by first | assumption | rfl | exact get!_of_lt (by omega)) | exact Rd.getA rfl C75 rfl (by repeat (first | assumption | exact mS | apply mT)) (by first | assumption | rfl | exact get!_of_lt (by omega)) | exact Rd.row1 rfl C75 rfl (by repeat (first | assumption | exact mS | apply mT)) (by rfl) | exact Rd.getF rfl C75 rfl (by repeat (first | assumption | exact mS | apply mT)) (by intro x; first | rfl | (cases x; rfl) | (rcases x with ⟨_, _, _⟩; rfl) | (rcases x with ⟨_, _, _, _⟩; rfl)) rfl (by first | assumption | rfl | exact get!_of_lt (by omega)) (by rfl) | exact Rd.getFA rfl C75 rfl (by repeat (first | assumption | exact mS | apply mT)) (by intro x; first | rfl | (cases x; rfl) | (rcases x with ⟨_, _, _⟩; rfl) | (rcases x with ⟨_, _, _, _⟩; rfl)) rfl (by first | assumption | rfl | exact get!_of_lt (by omega)) (by rfl))) ?_
  refine WL.rd rfl rfl rfl ((by first | exact Rd.peq_nn rfl Try.underlying75 rfl rfl | exact Rd.peq_sn rfl Try.underlying75 rfl rfl)) ?_
  refine WL.nil ?_
  refine thenQ.normal ?_
  first | refine WC.ite rfl (fun hc1 => ?_) (fun hc1 => ?_) | refine WC.cond rfl (fun hc1 => ?_) (fun hc1 => ?_)
  · skip
    refine WC.region ?_
    refine WL.rd rfl rfl rfl (Rd.move rfl rfl) ?_
    refine WL.rd rfl rfl rfl (Rd.move rfl rfl) ?_
    refine WL.rd rfl rfl rfl (Rd.toUnsafe rfl Try.underlying75 Try.underlying96 I77 (by decide) rfl (by repeat (first | assumption | exact mS | apply mT)) (by simp)) ?_
    refine WL.op rfl ?_
    refine OpW.rd rfl rfl (Rd.extern (ef := Extern.AbiNoEscape.same) rfl rfl (by repeat (first | exact Evs.nil | apply Evs.cons rfl)) Try.func53 rfl rfl (by kernel_rfl) (by kernel_rfl) (fun w => Lib.run_noEscape w _)) ?_
    refine WL.rd rfl rfl rfl (Rd.ofUnsafe rfl Try.underlying96 Try.underlying75 I77 rfl (by repeat (first | assumption | exact mS | apply mT)) (by kernel_rfl)) ?_
    refine WL.rd rfl rfl rfl (Rd.nilc rfl rfl) ?_
    refine WL.rd rfl rfl rfl ((by first | exact Rd.field rfl F77_0 rfl rfl | exact Rd.fieldE rfl F77_0 rfl (by repeat (first | assumption | exact mS | apply mT)) (by omega) | exact Rd.fieldA rfl F77_0 rfl (by repeat (first | assumption | exact mS | apply mT)) (by omega))) ?_
    refine WL.op rfl ?_
    refine OpW.store1 rfl Z75 rfl rfl (by first | exact ⟨rfl, rfl⟩ | assumption) (by repeat (first | assumption | exact Take.head _ | apply Take.tail)) (by first | (simp; done) | omega | exact of_decide_eq_true rfl | (simp only [List.length_append, List.length_replicate, List.length_map, List.length_set]; omega)) rfl ?_
    refine WL.nil ?_
    refine Ret.normal (Ret.zero Try.results47 ?_)
    exact hk
  · skip
    simp at hc1
set_option maxRecDepth 20000 in
theorem copyCheck_used {R : List RO} {O : List Own} {POST : Value → List RO → List Own → Prop} {b : Nat} {v : Value}
    (hk : POST (.tuple #[]) R (rowC b 77 [.pointer (some ⟨b, 0, none⟩), v] :: O)) :
    Fun Try.prog 47 #[.pointer (some ⟨b, 0, none⟩)] R (rowC b 77 [.pointer (some ⟨b, 0, none⟩), v] :: O) POST := by
  refine Fun.enter (l := [_]) Try.func47 rfl Try.ntmps47 rfl (L0 := [(0, _)]) rfl ?_
  refine WC.seq ?_
  refine WC.region ?_
  refine WL.rd rfl rfl rfl (Rd.move rfl rfl) ?_
  refine WL.rd rfl rfl rfl (Rd.nilc rfl rfl) ?_
  refine WL.rd rfl rfl rfl ((by first | exact Rd.field rfl F77_0 rfl rfl | exact Rd.fieldE rfl F77_0 rfl (by repeat (first | assumption | exact mS | apply mT)) (by omega) | exact Rd.fieldA rfl F77_0 rfl (by repeat (first | assumption | exact mS | apply mT)) (by omega))) ?_
  refine WL.rd rfl rfl rfl ((by first | exact Rd.get rfl C75 rfl (by repeat (first | assumption | exact mS | apply mT)) (by first | assumption | rfl | exact get!_of_lt (by omega)) | exact Rd.getA rfl C75 rfl (by repeat (first | assumption | exact mS | apply mT)) (by first | assumption | rfl | exact get!_of_lt (by omega)) | exact Rd.row1 rfl C75 rfl (by repeat (first | assumption | exact mS | apply mT)) (by rfl) | exact Rd.getF rfl C75 rfl (by repeat (first | assumption | exact mS | apply mT)) (by intro x; first | rfl | (cases x; rfl) | (rcases x with ⟨_, _, _⟩; rfl) | (rcases x with ⟨_, _, _, _⟩; rfl)) rfl (by first | assumption | rfl | exact get!_of_lt (by omega)) (by rfl) | exact Rd.getFA rfl C75 rfl (by repeat (first | assumption | exact mS | apply mT)) (by intro x; first | rfl | (cases x; rfl) | (rcases x with ⟨_, _, _⟩; rfl) | (rcases x with ⟨_, _, _, _⟩; rfl)) rfl (by first | assumption | rfl | exact get!_of_lt (by omega)) (by rfl))) ?_
  refine WL.rd rfl rfl rfl ((by first | exact Rd.peq_nn rfl Try.underlying75 rfl rfl | exact Rd.peq_sn rfl Try.underlying75 rfl rfl)) ?_
  refine WL.nil ?_
  refine thenQ.normal ?_
  first | refine WC.ite rfl (fun hc1 => ?_) (fun hc1 => ?_) | refine WC.cond rfl (fun hc1 => ?_) (fun hc1 => ?_)
  · skip
    simp at hc1
  · skip
    refine WC.seq ?_
    refine WC.region ?_
    refine WL.rd rfl rfl rfl (Rd.move rfl rfl) ?_
    refine WL.rd rfl rfl rfl (Rd.nilc rfl rfl) ?_
    refine WL.rd rfl rfl rfl ((by first | exact Rd.field rfl F77_0 rfl rfl | exact Rd.fieldE rfl F77_0 rfl (by repeat (first | assumption | exact mS | apply mT)) (by omega) | exact Rd.fieldA rfl F77_0 rfl (by repeat (first | assumption | exact mS | apply mT)) (by omega))) ?_
    refine WL.rd rfl rfl rfl ((by first | exact Rd.get rfl C75 rfl (by repeat (first | assumption | exact mS | apply mT)) (by first | assumption | rfl | exact get!_of_lt (by omega)) | exact Rd.getA rfl C75 rfl (by repeat (first | assumption | exact mS | apply mT)) (by first | assumption | rfl | exact get!_of_lt (by omega)) | exact Rd.row1 rfl C75 rfl (by repeat (first | assumption | exact mS | apply mT)) (by rfl) | exact Rd.getF rfl C75 rfl (by repeat (first | assumption | exact mS | apply mT)) (by intro x; first | rfl | (cases x; rfl) | (rcases x with ⟨_, _, _⟩; rfl) | (rcases x with ⟨_, _, _, _⟩; rfl)) rfl (by first | assumption | rfl | exact get!_of_lt (by omega)) (by rfl) | exact Rd.getFA rfl C75 rfl (by repeat (first | assumption | exact mS | apply mT)) (by intro x; first | rfl | (cases x; rfl) | (rcases x with ⟨_, _, _⟩; rfl) | (rcases x with ⟨_, _, _, _⟩; rfl)) rfl (by first | assumption | rfl | exact get!_of_lt (by omega)) (by rfl))) ?_
    refine WL.rd rfl rfl rfl (Rd.move rfl rfl) ?_
    refine WL.rd rfl rfl rfl (Rd.pneq_self rfl Try.underlying75 I77 rfl rfl) ?_
    refine WL.nil ?_
    refine thenQ.normal ?_
    first | refine WC.ite rfl (fun hc2 => ?_) (fun hc2 => ?_) | refine WC.cond rfl (fun hc2 => ?_) (fun hc2 => ?_)
    · skip
      simp at hc2
    · skip
      refine WC.skip ?_
      refine Ret.normal (Ret.zero Try.results47 ?_)
      exact hk
theorem copyCheck_spec {R : List RO} {O : List Own} {POST : Value → List RO → List Own → Prop} {b : Nat} {p v : Value} (hp : p = .pointer none ∨ p = .pointer (some ⟨b, 0, none⟩))
    (hk : POST (.tuple #[]) R (rowC b 77 [.pointer (some ⟨b, 0, none⟩), v] :: O)) :
    Fun Try.prog 47 #[.pointer (some ⟨b, 0, none⟩)] R (rowC b 77 [p, v] :: O) POST := by
  rcases hp with rfl | rfl
  · exact copyCheck_new hk
  · exact copyCheck_used hk

set_option maxRecDepth 20000 in
theorem writeString_spec {R : List RO} {O : List Own} {POST : Value → List RO → List Own → Prop} {b : Nat} {p v : Value} {bs s : List UInt8} (hp : p = .pointer none ∨ p = .pointer (some ⟨b, 0, none⟩)) (hl : bs.length + s.length ≤ 140737488355328)
    (hk : ∀ v', OneV v' → POST (.tuple #[.int .i64 s.length, .nilIface]) R (rowC b 77 [.pointer (some ⟨b, 0, none⟩), v'] :: accC 5 1 (one vy) v' (bs ++ s) :: O)) :
    Fun Try.prog 38 #[.pointer (some ⟨b, 0, none⟩), vs s] R (rowC b 77 [p, v] :: accC 5 1 (one vy) v bs :: O) POST := by
  refine Fun.enter (l := [_, _]) Try.func38 rfl Try.ntmps38 rfl (L0 := [(0, _), (1, _)]) rfl ?_
  refine WC.seq ?_
  refine WC.region ?_
  refine WL.rd rfl rfl rfl (Rd.assign rfl rfl) ?_
  refine WL.rd rfl rfl rfl (Rd.assign rfl rfl) ?_
  refine WL.nil ?_
  refine thenQ.normal ?_
  refine WC.seq ?_
  refine WC.region ?_
  refine WL.rd rfl rfl rfl (Rd.move rfl rfl) ?_
  refine WL.op rfl ?_
  refine OpW.call rfl rfl (by repeat (first | exact Evs.nil | apply Evs.cons rfl)) (by kernel_rfl) rfl rfl rfl ?_
  refine copyCheck_spec hp ?_
  refine WL.nil ?_
  refine thenQ.normal ?_
  refine WC.seq ?_
  refine WC.region ?_
  refine WL.rd rfl rfl rfl (Rd.move rfl rfl) ?_
  refine WL.rd rfl rfl rfl (Rd.move rfl rfl) ?_
  refine WL.rd rfl rfl rfl (Rd.nilc rfl rfl) ?_
  refine WL.rd rfl rfl rfl ((by first | exact Rd.field rfl F77_1 rfl rfl | exact Rd.fieldE rfl F77_1 rfl (by repeat (first | assumption | exact mS | apply mT)) (by omega) | exact Rd.fieldA rfl F77_1 rfl (by repeat (first | assumption | exact mS | apply mT)) (by omega))) ?_
  refine WL.rd rfl rfl rfl ((by first | exact Rd.get rfl C61 rfl (by repeat (first | assumption | exact mS | apply mT)) (by first | assumption | rfl | exact get!_of_lt (by omega)) | exact Rd.getA rfl C61 rfl (by repeat (first | assumption | exact mS | apply mT)) (by first | assumption | rfl | exact get!_of_lt (by omega)) | exact Rd.row1 rfl C61 rfl (by repeat (first | assumption | exact mS | apply mT)) (by rfl) | exact Rd.getF rfl C61 rfl (by repeat (first | assumption | exact mS | apply mT)) (by intro x; first | rfl | (cases x; rfl) | (rcases x with ⟨_, _, _⟩; rfl) | (rcases x with ⟨_, _, _, _⟩; rfl)) rfl (by first | assumption | rfl | exact get!_of_lt (by omega)) (by rfl) | exact Rd.getFA rfl C61 rfl (by repeat (first | assumption | exact mS | apply mT)) (by intro x; first | rfl | (cases x; rfl) | (rcases x with ⟨_, _, _⟩; rfl) | (rcases x with ⟨_, _, _, _⟩; rfl)) rfl (by first | assumption | rfl | exact get!_of_lt (by omega)) (by rfl))) ?_
  refine WL.rd rfl rfl rfl (Rd.move rfl rfl) ?_
  refine WL.op rfl ?_
  refine OpW.appendStr rfl S61 Try.underlying9 rfl rfl (by repeat (first | assumption | exact Take.head _ | apply Take.tail)) ⟨by simp only [maxLen, List.length_append, List.length_nil, List.length_cons, List.length_drop, List.length_take, List.length_map]; omega, by first | omega | (simp only [List.length_append, List.length_nil, List.length_cons, List.length_drop, List.length_take, List.length_map]; omega)⟩ rfl rfl ?_; intro v14 hv14
  refine WL.rd rfl rfl rfl (Rd.nilc rfl rfl) ?_
  refine WL.rd rfl rfl rfl ((by first | exact Rd.field rfl F77_1 rfl rfl | exact Rd.fieldE rfl F77_1 rfl (by repeat (first | assumption | exact mS | apply mT)) (by omega) | exact Rd.fieldA rfl F77_1 rfl (by repeat (first | assumption | exact mS | apply mT)) (by omega))) ?_
  refine WL.op rfl ?_
  refine OpW.store1 rfl Z61 rfl rfl (by first | exact ⟨rfl, rfl⟩ | assumption) (by repeat (first | assumption | exact Take.head _ | apply Take.tail)) (by first | (simp; done) | omega | exact of_decide_eq_true rfl | (simp only [List.length_append, List.length_replicate, List.length_map, List.length_set]; omega)) rfl ?_
  refine WL.nil ?_
  refine thenQ.normal ?_
  refine WC.seq ?_
  refine WC.region ?_
  refine WL.rd rfl rfl rfl (Rd.move rfl rfl) ?_
  refine WL.rd rfl rfl rfl (Rd.slen (ts := #[]) (ty := 0) rfl rfl Try.underlying9) ?_
  refine WL.rd rfl rfl rfl (Rd.assign rfl rfl) ?_
  refine WL.rd rfl rfl rfl (Rd.assign rfl rfl) ?_
  refine WL.nil ?_
  refine thenQ.normal ?_
  refine WC.ret (Ret.two Try.results38 rfl rfl ?_)
  exact hk _ hv14

set_option maxRecDepth 20000 in
theorem builderString_spec {R : List RO} {O : List Own} {POST : Value → List RO → List Own → Prop} {b : Nat} {p v : Value} {bs : List UInt8} (hv : OneV v)
    (hk : POST (vs bs) R O) :
    Fun Try.prog 40 #[.pointer (some ⟨b, 0, none⟩)] R (rowC b 77 [p, v] :: accC 5 1 (one vy) v bs :: O) POST := by
  refine Fun.enter (l := [_]) Try.func40 rfl Try.ntmps40 rfl (L0 := [(0, _)]) rfl ?_
  refine WC.seq ?_
  refine WC.region ?_
  refine WL.rd rfl rfl rfl (Rd.assign rfl rfl) ?_
  refine WL.nil ?_
  refine thenQ.normal ?_
  refine WC.seq ?_
  refine WC.drawn (rowC b 77 [p, v] :: O) 12 rfl mixed ?_
  refine WD.take 0 rfl (by kernel_rfl) (Held.mk' (by repeat (first | exact SubL.refl | refine SubL.cons (by repeat (first | assumption | exact mS | apply mT)) ?_ | refine SubL.skip ?_)) (by repeat (first | exact OwnL.refl | apply OwnL.take (by repeat (first | exact Take.head _ | apply Take.tail)) | apply OwnL.drop))) rfl rfl rfl (Rd.move rfl rfl) ?_
  refine WD.take 1 rfl (by kernel_rfl) (Held.mk' (by repeat (first | exact SubL.refl | refine SubL.cons (by repeat (first | assumption | exact mS | apply mT)) ?_ | refine SubL.skip ?_)) (by repeat (first | exact OwnL.refl | apply OwnL.take (by repeat (first | exact Take.head _ | apply Take.tail)) | apply OwnL.drop))) rfl rfl rfl (Rd.nilc rfl rfl) ?_
  refine WD.take 2 rfl (by kernel_rfl) (Held.mk' (by repeat (first | exact SubL.refl | refine SubL.cons (by repeat (first | assumption | exact mS | apply mT)) ?_ | refine SubL.skip ?_)) (by repeat (first | exact OwnL.refl | apply OwnL.take (by repeat (first | exact Take.head _ | apply Take.tail)) | apply OwnL.drop))) rfl rfl rfl ((by first | exact Rd.field rfl F77_1 rfl rfl | exact Rd.fieldE rfl F77_1 rfl (by repeat (first | assumption | exact mS | apply mT)) (by omega) | exact Rd.fieldA rfl F77_1 rfl (by repeat (first | assumption | exact mS | apply mT)) (by omega))) ?_
  refine WD.take 3 rfl (by kernel_rfl) (Held.mk' (by repeat (first | exact SubL.refl | refine SubL.cons (by repeat (first | assumption | exact mS | apply mT)) ?_ | refine SubL.skip ?_)) (by repeat (first | exact OwnL.refl | apply OwnL.take (by repeat (first | exact Take.head _ | apply Take.tail)) | apply OwnL.drop))) rfl rfl rfl ((by first | exact Rd.get rfl C61 rfl (by repeat (first | assumption | exact mS | apply mT)) (by first | assumption | rfl | exact get!_of_lt (by omega)) | exact Rd.getA rfl C61 rfl (by repeat (first | assumption | exact mS | apply mT)) (by first | assumption | rfl | exact get!_of_lt (by omega)) | exact Rd.row1 rfl C61 rfl (by repeat (first | assumption | exact mS | apply mT)) (by rfl) | exact Rd.getF rfl C61 rfl (by repeat (first | assumption | exact mS | apply mT)) (by intro x; first | rfl | (cases x; rfl) | (rcases x with ⟨_, _, _⟩; rfl) | (rcases x with ⟨_, _, _, _⟩; rfl)) rfl (by first | assumption | rfl | exact get!_of_lt (by omega)) (by rfl) | exact Rd.getFA rfl C61 rfl (by repeat (first | assumption | exact mS | apply mT)) (by intro x; first | rfl | (cases x; rfl) | (rcases x with ⟨_, _, _⟩; rfl) | (rcases x with ⟨_, _, _, _⟩; rfl)) rfl (by first | assumption | rfl | exact get!_of_lt (by omega)) (by rfl))) ?_
  refine WD.take 5 rfl (by kernel_rfl) (Held.mk' (by repeat (first | exact SubL.refl | refine SubL.cons (by repeat (first | assumption | exact mS | apply mT)) ?_ | refine SubL.skip ?_)) (by repeat (first | exact OwnL.refl | apply OwnL.take (by repeat (first | exact Take.head _ | apply Take.tail)) | apply OwnL.drop))) rfl rfl rfl (Rd.move rfl rfl) ?_
  refine WD.take 6 rfl (by kernel_rfl) (Held.mk' (by repeat (first | exact SubL.refl | refine SubL.cons (by repeat (first | assumption | exact mS | apply mT)) ?_ | refine SubL.skip ?_)) (by repeat (first | exact OwnL.refl | apply OwnL.take (by repeat (first | exact Take.head _ | apply Take.tail)) | apply OwnL.drop))) rfl rfl rfl (Rd.nilc rfl rfl) ?_
  refine WD.take 7 rfl (by kernel_rfl) (Held.mk' (by repeat (first | exact SubL.refl | refine SubL.cons (by repeat (first | assumption | exact mS | apply mT)) ?_ | refine SubL.skip ?_)) (by repeat (first | exact OwnL.refl | apply OwnL.take (by repeat (first | exact Take.head _ | apply Take.tail)) | apply OwnL.drop))) rfl rfl rfl ((by first | exact Rd.field rfl F77_1 rfl rfl | exact Rd.fieldE rfl F77_1 rfl (by repeat (first | assumption | exact mS | apply mT)) (by omega) | exact Rd.fieldA rfl F77_1 rfl (by repeat (first | assumption | exact mS | apply mT)) (by omega))) ?_
  refine WD.take 8 rfl (by kernel_rfl) (Held.mk' (by repeat (first | exact SubL.refl | refine SubL.cons (by repeat (first | assumption | exact mS | apply mT)) ?_ | refine SubL.skip ?_)) (by repeat (first | exact OwnL.refl | apply OwnL.take (by repeat (first | exact Take.head _ | apply Take.tail)) | apply OwnL.drop))) rfl rfl rfl ((by first | exact Rd.get rfl C61 rfl (by repeat (first | assumption | exact mS | apply mT)) (by first | assumption | rfl | exact get!_of_lt (by omega)) | exact Rd.getA rfl C61 rfl (by repeat (first | assumption | exact mS | apply mT)) (by first | assumption | rfl | exact get!_of_lt (by omega)) | exact Rd.row1 rfl C61 rfl (by repeat (first | assumption | exact mS | apply mT)) (by rfl) | exact Rd.getF rfl C61 rfl (by repeat (first | assumption | exact mS | apply mT)) (by intro x; first | rfl | (cases x; rfl) | (rcases x with ⟨_, _, _⟩; rfl) | (rcases x with ⟨_, _, _, _⟩; rfl)) rfl (by first | assumption | rfl | exact get!_of_lt (by omega)) (by rfl) | exact Rd.getFA rfl C61 rfl (by repeat (first | assumption | exact mS | apply mT)) (by intro x; first | rfl | (cases x; rfl) | (rcases x with ⟨_, _, _⟩; rfl) | (rcases x with ⟨_, _, _, _⟩; rfl)) rfl (by first | assumption | rfl | exact get!_of_lt (by omega)) (by rfl))) ?_
  refine WD.two 4 9 rfl rfl (by kernel_rfl) rfl rfl ?_ ?_
  · skip
    refine OpW.sliceData rfl Try.underlying92 rfl (by repeat (first | assumption | exact mS | apply mT)) rfl rfl ?_; intro q7 hq7
    refine ⟨(Held.mk' (by repeat (first | exact SubL.refl | refine SubL.cons (by repeat (first | assumption | exact mS | apply mT)) ?_ | refine SubL.skip ?_)) (by repeat (first | exact OwnL.refl | apply OwnL.take (by repeat (first | exact Take.head _ | apply Take.tail)) | apply OwnL.drop))), ?_⟩
    refine WD.one 9 rfl (by kernel_rfl) rfl ?_
    refine OpW.rd rfl rfl ((by first | exact Rd.lenE rfl rfl Try.underlying61 (by repeat (first | assumption | exact mS | apply mT)) | exact Rd.lenA rfl rfl Try.underlying61 (by repeat (first | assumption | exact mS | apply mT)) | exact Rd.len rfl rfl Try.underlying61)) ?_
    refine ⟨(Held.mk' (by repeat (first | exact SubL.refl | refine SubL.cons (by repeat (first | assumption | exact mS | apply mT)) ?_ | refine SubL.skip ?_)) (by repeat (first | exact OwnL.refl | apply OwnL.take (by repeat (first | exact Take.head _ | apply Take.tail)) | apply OwnL.drop))), ?_⟩
    refine WD.one 10 rfl (by kernel_rfl) rfl ?_
    refine OpW.unsafeStr rfl Try.underlying92 (by kernel_rfl) rfl rfl rfl rfl (by repeat (first | assumption | exact Take.head _ | apply Take.tail)) hq7 rfl rfl ?_
    refine ⟨(Held.mk' (by repeat (first | exact SubL.refl | refine SubL.cons (by repeat (first | assumption | exact mS | apply mT)) ?_ | refine SubL.skip ?_)) (by repeat (first | exact OwnL.refl | apply OwnL.take (by repeat (first | exact Take.head _ | apply Take.tail)) | apply OwnL.drop))), ?_⟩
    refine WD.take 11 rfl (by kernel_rfl) (Held.mk' (by repeat (first | exact SubL.refl | refine SubL.cons (by repeat (first | assumption | exact mS | apply mT)) ?_ | refine SubL.skip ?_)) (by repeat (first | exact OwnL.refl | apply OwnL.take (by repeat (first | exact Take.head _ | apply Take.tail)) | apply OwnL.drop))) rfl rfl rfl (Rd.assign rfl rfl) ?_
    refine WD.done (by kernel_rfl) ?_
    refine thenQ.normal ?_
    refine WC.heap (R' := R) (O' := O) (fun w h => OwnL.sat (by repeat (first | exact OwnL.refl | apply OwnL.take (by repeat (first | exact Take.head _ | apply Take.tail)) | apply OwnL.drop)) w (h.thin (SubL.mem (by repeat (first | exact SubL.refl | refine SubL.cons (by repeat (first | assumption | exact mS | apply mT)) ?_ | refine SubL.skip ?_))))) ?_
    refine WC.ret (Ret.one Try.results40 rfl ?_)
    exact hk
  · skip
    refine OpW.rd rfl rfl ((by first | exact Rd.lenE rfl rfl Try.underlying61 (by repeat (first | assumption | exact mS | apply mT)) | exact Rd.lenA rfl rfl Try.underlying61 (by repeat (first | assumption | exact mS | apply mT)) | exact Rd.len rfl rfl Try.underlying61)) ?_
    refine ⟨(Held.mk' (by repeat (first | exact SubL.refl | refine SubL.cons (by repeat (first | assumption | exact mS | apply mT)) ?_ | refine SubL.skip ?_)) (by repeat (first | exact OwnL.refl | apply OwnL.take (by repeat (first | exact Take.head _ | apply Take.tail)) | apply OwnL.drop))), ?_⟩
    refine WD.one 4 rfl (by kernel_rfl) rfl ?_
    refine OpW.sliceData rfl Try.underlying92 rfl (by repeat (first | assumption | exact mS | apply mT)) rfl rfl ?_; intro q7 hq7
    refine ⟨(Held.mk' (by repeat (first | exact SubL.refl | refine SubL.cons (by repeat (first | assumption | exact mS | apply mT)) ?_ | refine SubL.skip ?_)) (by repeat (first | exact OwnL.refl | apply OwnL.take (by repeat (first | exact Take.head _ | apply Take.tail)) | apply OwnL.drop))), ?_⟩
    refine WD.one 10 rfl (by kernel_rfl) rfl ?_
    refine OpW.unsafeStr rfl Try.underlying92 (by kernel_rfl) rfl rfl rfl rfl (by repeat (first | assumption | exact Take.head _ | apply Take.tail)) hq7 rfl rfl ?_
    refine ⟨(Held.mk' (by repeat (first | exact SubL.refl | refine SubL.cons (by repeat (first | assumption | exact mS | apply mT)) ?_ | refine SubL.skip ?_)) (by repeat (first | exact OwnL.refl | apply OwnL.take (by repeat (first | exact Take.head _ | apply Take.tail)) | apply OwnL.drop))), ?_⟩
    refine WD.take 11 rfl (by kernel_rfl) (Held.mk' (by repeat (first | exact SubL.refl | refine SubL.cons (by repeat (first | assumption | exact mS | apply mT)) ?_ | refine SubL.skip ?_)) (by repeat (first | exact OwnL.refl | apply OwnL.take (by repeat (first | exact Take.head _ | apply Take.tail)) | apply OwnL.drop))) rfl rfl rfl (Rd.assign rfl rfl) ?_
    refine WD.done (by kernel_rfl) ?_
    refine thenQ.normal ?_
    refine WC.heap (R' := R) (O' := O) (fun w h => OwnL.sat (by repeat (first | exact OwnL.refl | apply OwnL.take (by repeat (first | exact Take.head _ | apply Take.tail)) | apply OwnL.drop)) w (h.thin (SubL.mem (by repeat (first | exact SubL.refl | refine SubL.cons (by repeat (first | assumption | exact mS | apply mT)) ?_ | refine SubL.skip ?_))))) ?_
    refine WC.ret (Ret.one Try.results40 rfl ?_)
    exact hk
end Go.Proofs.Ytedgndhbieeffaa
