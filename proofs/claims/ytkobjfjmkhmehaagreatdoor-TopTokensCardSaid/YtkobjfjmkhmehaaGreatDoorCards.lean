/-
  DERIVED. GIVEN WITH THE SEED: THE CARDS: each row of YtkobjfjmkhmehaaGreatDoorRows.lean that lists a variable, with what it lists TIED to the program's text (the seventh form; the later family's looks); each row that meets fmt, with fmt's text TOLD by the authors' own Lean function (tested against real Go, not proved from fmt's source: count such statements apart). THE CARD IS WHAT COUNTS. Prove the row's statement (the work); the ties are given (YtkobjfjmkhmehaaGreatDoorTie.lean); close each card by the builder's one call (the guide's Derived/Test/ToyasCard.lean, 'card_holds'). Laid BY PROGRAM, IN A SANDBOX (cutbox-door.mjs). By AI agents, Wed Nov 11 2026. No macro, syntax, notation, axiom, sorry.
-/
import Derived.Test.YtkobjfjmkhmehaaGreatDoorRows
import GoSem.ClaimSeven
namespace Go.Proofs.YtkobjfjmkhmehaaGreatDoor
namespace Rows

/-- THE TIED CARD OF 'stemmatop.TopTokens'. -/
def topTokensCard : Claim7 := { stood := { row := topTokensRow, standIns := [], harness := (true, "3a9ecfa044c66abae1a1a9155bb2706a289a4b1eebb4d54fc94de98da1f3d817"), looks := true }, kinds := [], alts := [], laidByText := true, laidKinds := [.data, .data, .data, .sentinel, .sentinel, .data, .data], laidTests := true, laidLooks := .later }
def TopTokensCardSaid : Prop := Claim7.holds Tryz.pinned (.plain (OpenSpec.ofChange topTokensSpec)) topTokensCard

/-- THE SECOND FORM's CARD OF 'stemmatop.TopTokens'. -/
def topTokensUptoCard : Claim7 := { stood := { row := topTokensUptoRow, standIns := [], harness := (true, "3a9ecfa044c66abae1a1a9155bb2706a289a4b1eebb4d54fc94de98da1f3d817"), looks := true }, kinds := [], alts := [], laidByText := true, laidKinds := [.data, .data, .data, .sentinel, .sentinel, .data, .data], laidTests := true, laidLooks := .later }
def TopTokensUptoCardSaid : Prop := Claim7.holds Tryz.pinned (.plain (OpenSpec.upto topTokensSpec)) topTokensUptoCard
end Rows
end Go.Proofs.YtkobjfjmkhmehaaGreatDoor
