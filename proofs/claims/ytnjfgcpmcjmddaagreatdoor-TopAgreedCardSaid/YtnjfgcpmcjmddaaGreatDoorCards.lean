/-
  DERIVED. GIVEN WITH THE SEED: THE CARDS: each row of YtnjfgcpmcjmddaaGreatDoorRows.lean that lists a variable, with what it lists TIED to the program's text (the seventh form; the later family's looks); each row that meets fmt, with fmt's text TOLD by the authors' own Lean function (tested against real Go, not proved from fmt's source: count such statements apart). THE CARD IS WHAT COUNTS. Prove the row's statement (the work); the ties are given (YtnjfgcpmcjmddaaGreatDoorTie.lean); close each card by the builder's one call (the guide's Derived/Test/ToyasCard.lean, 'card_holds'). Laid BY PROGRAM, IN A SANDBOX (cutbox-door.mjs). By AI agents, Wed Nov 11 2026. No macro, syntax, notation, axiom, sorry.
-/
import Derived.Test.YtnjfgcpmcjmddaaGreatDoorRows
import GoSem.ClaimSeven
namespace Go.Proofs.YtnjfgcpmcjmddaaGreatDoor
namespace Rows

/-- THE TIED CARD OF 'stemmatop.TopAgreed'. -/
def topAgreedCard : Claim7 := { stood := { row := topAgreedRow, standIns := [], harness := (true, "e4f2e1c1b0a70619a8b5bc04e62e0b3df335daf0a49da86eadc9d287d9d9834e"), looks := true }, kinds := [], alts := [], laidByText := true, laidKinds := [.data, .data, .data, .data, .sentinel, .sentinel, .data, .data, .pinned], laidTests := true, laidLooks := .later }
def TopAgreedCardSaid : Prop := Claim7.holds Tryz.pinned (.plain (OpenSpec.ofChange topAgreedSpec)) topAgreedCard

/-- THE SECOND FORM's CARD OF 'stemmatop.TopAgreed'. -/
def topAgreedUptoCard : Claim7 := { stood := { row := topAgreedUptoRow, standIns := [], harness := (true, "e4f2e1c1b0a70619a8b5bc04e62e0b3df335daf0a49da86eadc9d287d9d9834e"), looks := true }, kinds := [], alts := [], laidByText := true, laidKinds := [.data, .data, .data, .data, .sentinel, .sentinel, .data, .data, .pinned], laidTests := true, laidLooks := .later }
def TopAgreedUptoCardSaid : Prop := Claim7.holds Tryz.pinned (.plain (OpenSpec.upto topAgreedSpec)) topAgreedUptoCard
end Rows
end Go.Proofs.YtnjfgcpmcjmddaaGreatDoor
