/-
  DERIVED. GIVEN WITH THE SEED: THE CARDS: each row of YtodedkoebcdejaaDoorRows.lean that lists a variable, with what it lists TIED to the program's text (the seventh form; the later family's looks); each row that meets fmt, with fmt's text TOLD by the authors' own Lean function (tested against real Go, not proved from fmt's source: count such statements apart). THE CARD IS WHAT COUNTS. Prove the row's statement (the work); the ties are given (YtodedkoebcdejaaDoorTie.lean); close each card by the builder's one call (the guide's Derived/Test/ToyasCard.lean, 'card_holds'). Laid BY PROGRAM, IN A SANDBOX (cutbox-door.mjs). By AI agents, Wed Nov 11 2026. No macro, syntax, notation, axiom, sorry.
-/
import Derived.Test.YtodedkoebcdejaaDoorRows
import GoSem.ClaimSeven
namespace Go.Proofs.YtodedkoebcdejaaDoor
namespace Rows

/-- THE TIED CARD OF 'stemmatop.TopFramed'. -/
def topFramedCard : Claim7 := { stood := { row := topFramedRow, standIns := [], harness := (true, "7bbbe0f419cf21a512c0a569427f67b3ef6f7472162d25eaf7c78b6bbc42ad4f"), looks := false }, kinds := [], alts := [], laidByText := true, laidKinds := [.data, .data], laidTests := true, laidLooks := .later }
def TopFramedCardSaid : Prop := Claim7.holds Tryd.pinned (.plain (OpenSpec.ofChange topFramedSpec)) topFramedCard

/-- THE SECOND FORM's CARD OF 'stemmatop.TopFramed'. -/
def topFramedUptoCard : Claim7 := { stood := { row := topFramedUptoRow, standIns := [], harness := (true, "7bbbe0f419cf21a512c0a569427f67b3ef6f7472162d25eaf7c78b6bbc42ad4f"), looks := false }, kinds := [], alts := [], laidByText := true, laidKinds := [.data, .data], laidTests := true, laidLooks := .later }
def TopFramedUptoCardSaid : Prop := Claim7.holds Tryd.pinned (.plain (OpenSpec.upto topFramedSpec)) topFramedUptoCard
end Rows
end Go.Proofs.YtodedkoebcdejaaDoor
