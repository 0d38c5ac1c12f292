/-
  Short names for the steps that a walk prints most: what is held, what is normal, what is taken (arguments that are found by themselves).
-/
import Derived.Test.YtfenbhaehkkkeaaMem
namespace Go.Proofs.Ytfenbhaehkkkeaa
open Go Go.SL
namespace Z
theorem H {S R : List RO} {T O : List Own} (hS : SubL S R := by repeat (first | exact SubL.refl | refine SubL.cons (by repeat (first | assumption | exact mS | apply mT)) ?_ | refine SubL.skip ?_)) (hT : OwnL O T := by repeat (first | exact OwnL.refl | apply OwnL.take (by repeat (first | exact Take.head _ | apply Take.tail)) | apply OwnL.drop)) : Held S T R O := Held.mk' hS hT
theorem N {α : Type} {a b : List α} (h : NF a b := by repeat (first | exact NF.nil | apply NF.cons)) : NF a b := h
theorem T {c : Own} {O O' : List Own} (h : Take c O O' := by repeat (first | assumption | exact Take.head _ | apply Take.tail)) : Take c O O' := h
theorem M {α : Type} {a : α} {l : List α} (h : a ∈ l := by repeat (first | assumption | exact mS | apply mT)) : a ∈ l := h
end Z
end Go.Proofs.Ytfenbhaehkkkeaa
