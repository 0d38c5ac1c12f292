/-
  DERIVED. GIVEN WITH THE SEED: THE CARDS: each row of YtedgndhbieeffaaDoorRows.lean that lists a variable, with what it lists TIED to the program's text (the seventh form; the later family's looks); each row that meets fmt, with fmt's text TOLD by the authors' own Lean function (tested against real Go, not proved from fmt's source: count such statements apart). THE CARD IS WHAT COUNTS. Prove the row's statement (the work); the ties are given (YtedgndhbieeffaaDoorTie.lean); close each card by the builder's one call (the guide's Derived/Test/ToyasCard.lean, 'card_holds'). Laid BY PROGRAM, IN A SANDBOX (cutbox-door.mjs). By AI agents, Wed Nov 11 2026. No macro, syntax, notation, axiom, sorry.
-/
import Derived.Test.YtedgndhbieeffaaDoorRows
import GoSem.ClaimSeven
namespace Go.Proofs.YtedgndhbieeffaaDoor
namespace Rows

/-- THE TIED CARD OF 'stemmalaw11.ObjectLong'. -/
def objectLongCard : Claim7 := { stood := { row := objectLongRow, standIns := [], harness := (true, "c2ee4bbc4a97c25add5493a2740fa06f617366f546c9cc2af2c73f35a7da51f6"), looks := false }, kinds := [], alts := [], laidByText := true, laidKinds := [.data], laidTests := true, laidLooks := .later }
def ObjectLongCardSaid : Prop := Claim7.holds Tryd.pinned (.plain (OpenSpec.ofChange objectLongSpec)) objectLongCard

/-- THE SECOND FORM's CARD OF 'stemmalaw11.ObjectLong'. -/
def objectLongUptoCard : Claim7 := { stood := { row := objectLongUptoRow, standIns := [], harness := (true, "c2ee4bbc4a97c25add5493a2740fa06f617366f546c9cc2af2c73f35a7da51f6"), looks := false }, kinds := [], alts := [], laidByText := true, laidKinds := [.data], laidTests := true, laidLooks := .later }
def ObjectLongUptoCardSaid : Prop := Claim7.holds Tryd.pinned (.plain (OpenSpec.upto objectLongSpec)) objectLongUptoCard
end Rows
end Go.Proofs.YtedgndhbieeffaaDoor
