/-
  DERIVED. GIVEN WITH THE SEED: THE CARDS: each row of YtckokhdjeifomaaGreatDoorRows.lean that lists a variable, with what it lists TIED to the program's text (the seventh form; the later family's looks); each row that meets fmt, with fmt's text TOLD by the authors' own Lean function (tested against real Go, not proved from fmt's source: count such statements apart). THE CARD IS WHAT COUNTS. Prove the row's statement (the work); the ties are given (YtckokhdjeifomaaGreatDoorTie.lean); close each card by the builder's one call (the guide's Derived/Test/ToyasCard.lean, 'card_holds'). Laid BY PROGRAM, IN A SANDBOX (cutbox-door.mjs). By AI agents, Wed Nov 11 2026. No macro, syntax, notation, axiom, sorry.
-/
import Derived.Test.YtckokhdjeifomaaGreatDoorRows
import GoSem.ClaimSeven
namespace Go.Proofs.YtckokhdjeifomaaGreatDoor
namespace Rows

/-- THE TIED CARD OF 'stemmatop.TopWhole'. -/
def topWholeCard : Claim7 := { stood := { row := topWholeRow, standIns := [], harness := (true, "81ffcd3fc8cbab8ac3fbb5da152f19d9aca4342488d4b68102ef94886ac243c5"), looks := false }, kinds := [], alts := [], laidByText := true, laidKinds := [.data, .data], laidTests := true, laidLooks := .later }
def TopWholeCardSaid : Prop := Claim7.holds Tryz.pinned (.plain (OpenSpec.ofChange topWholeSpec)) topWholeCard

/-- THE SECOND FORM's CARD OF 'stemmatop.TopWhole'. -/
def topWholeUptoCard : Claim7 := { stood := { row := topWholeUptoRow, standIns := [], harness := (true, "81ffcd3fc8cbab8ac3fbb5da152f19d9aca4342488d4b68102ef94886ac243c5"), looks := false }, kinds := [], alts := [], laidByText := true, laidKinds := [.data, .data], laidTests := true, laidLooks := .later }
def TopWholeUptoCardSaid : Prop := Claim7.holds Tryz.pinned (.plain (OpenSpec.upto topWholeSpec)) topWholeUptoCard
end Rows
end Go.Proofs.YtckokhdjeifomaaGreatDoor
