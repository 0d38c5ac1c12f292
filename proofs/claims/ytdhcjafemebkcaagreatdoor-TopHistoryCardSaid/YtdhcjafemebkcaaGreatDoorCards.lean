/-
  DERIVED. GIVEN WITH THE SEED: THE CARDS: each row of YtdhcjafemebkcaaGreatDoorRows.lean that lists a variable, with what it lists TIED to the program's text (the seventh form; the later family's looks); each row that meets fmt, with fmt's text TOLD by the authors' own Lean function (tested against real Go, not proved from fmt's source: count such statements apart). THE CARD IS WHAT COUNTS. Prove the row's statement (the work); the ties are given (YtdhcjafemebkcaaGreatDoorTie.lean); close each card by the builder's one call (the guide's Derived/Test/ToyasCard.lean, 'card_holds'). Laid BY PROGRAM, IN A SANDBOX (cutbox-door.mjs). By AI agents, Wed Nov 11 2026. No macro, syntax, notation, axiom, sorry.
-/
import Derived.Test.YtdhcjafemebkcaaGreatDoorRows
import GoSem.ClaimSeven
namespace Go.Proofs.YtdhcjafemebkcaaGreatDoor
namespace Rows

/-- THE TIED CARD OF 'stemmatop.TopHistory'. -/
def topHistoryCard : Claim7 := { stood := { row := topHistoryRow, standIns := [], harness := (true, "0fd82f292bb4711b3dfe84b5b42dbeeb031f45f03e8efb41d6f59866cb1b6630"), looks := true }, kinds := [], alts := [], laidByText := true, laidKinds := [.data, .data, .data, .data, .sentinel, .sentinel, .data, .data, .pinned], laidTests := true, laidLooks := .later }
def TopHistoryCardSaid : Prop := Claim7.holds Tryz.pinned (.plain (OpenSpec.ofChange topHistorySpec)) topHistoryCard

/-- THE SECOND FORM's CARD OF 'stemmatop.TopHistory'. -/
def topHistoryUptoCard : Claim7 := { stood := { row := topHistoryUptoRow, standIns := [], harness := (true, "0fd82f292bb4711b3dfe84b5b42dbeeb031f45f03e8efb41d6f59866cb1b6630"), looks := true }, kinds := [], alts := [], laidByText := true, laidKinds := [.data, .data, .data, .data, .sentinel, .sentinel, .data, .data, .pinned], laidTests := true, laidLooks := .later }
def TopHistoryUptoCardSaid : Prop := Claim7.holds Tryz.pinned (.plain (OpenSpec.upto topHistorySpec)) topHistoryUptoCard
end Rows
end Go.Proofs.YtdhcjafemebkcaaGreatDoor
