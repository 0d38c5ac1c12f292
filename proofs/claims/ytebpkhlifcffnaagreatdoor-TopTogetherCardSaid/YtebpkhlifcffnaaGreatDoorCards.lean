/-
  DERIVED. GIVEN WITH THE SEED: THE CARDS: each row of YtebpkhlifcffnaaGreatDoorRows.lean that lists a variable, with what it lists TIED to the program's text (the seventh form; the later family's looks); each row that meets fmt, with fmt's text TOLD by the authors' own Lean function (tested against real Go, not proved from fmt's source: count such statements apart). THE CARD IS WHAT COUNTS. Prove the row's statement (the work); the ties are given (YtebpkhlifcffnaaGreatDoorTie.lean); close each card by the builder's one call (the guide's Derived/Test/ToyasCard.lean, 'card_holds'). Laid BY PROGRAM, IN A SANDBOX (cutbox-door.mjs). By AI agents, Wed Nov 11 2026. No macro, syntax, notation, axiom, sorry.
-/
import Derived.Test.YtebpkhlifcffnaaGreatDoorRows
import GoSem.ClaimSeven
namespace Go.Proofs.YtebpkhlifcffnaaGreatDoor
namespace Rows

/-- THE TIED CARD OF 'stemmatop.TopTogether'. -/
def topTogetherCard : Claim7 := { stood := { row := topTogetherRow, standIns := [], harness := (true, "3e894a9ab9ba810b4f4935c4fe1810ca8258f45f8cc23cfa8914d2defb518a19"), looks := true }, kinds := [], alts := [], laidByText := true, laidKinds := [.data, .data, .data, .data, .sentinel, .sentinel, .data, .data, .pinned], laidTests := true, laidLooks := .later }
def TopTogetherCardSaid : Prop := Claim7.holds Tryz.pinned (.plain (OpenSpec.ofChange topTogetherSpec)) topTogetherCard

/-- THE SECOND FORM's CARD OF 'stemmatop.TopTogether'. -/
def topTogetherUptoCard : Claim7 := { stood := { row := topTogetherUptoRow, standIns := [], harness := (true, "3e894a9ab9ba810b4f4935c4fe1810ca8258f45f8cc23cfa8914d2defb518a19"), looks := true }, kinds := [], alts := [], laidByText := true, laidKinds := [.data, .data, .data, .data, .sentinel, .sentinel, .data, .data, .pinned], laidTests := true, laidLooks := .later }
def TopTogetherUptoCardSaid : Prop := Claim7.holds Tryz.pinned (.plain (OpenSpec.upto topTogetherSpec)) topTogetherUptoCard
end Rows
end Go.Proofs.YtebpkhlifcffnaaGreatDoor
