/-
  DERIVED. GIVEN WITH THE SEED: THE CARDS: each row of YtlbdpcadaojcbaaGreatDoorRows.lean that lists a variable, with what it lists TIED to the program's text (the seventh form; the later family's looks); each row that meets fmt, with fmt's text TOLD by the authors' own Lean function (tested against real Go, not proved from fmt's source: count such statements apart). THE CARD IS WHAT COUNTS. Prove the row's statement (the work); the ties are given (YtlbdpcadaojcbaaGreatDoorTie.lean); close each card by the builder's one call (the guide's Derived/Test/ToyasCard.lean, 'card_holds'). Laid BY PROGRAM, IN A SANDBOX (cutbox-door.mjs). By AI agents, Wed Nov 11 2026. No macro, syntax, notation, axiom, sorry.
-/
import Derived.Test.YtlbdpcadaojcbaaGreatDoorRows
import GoSem.ClaimSeven
namespace Go.Proofs.YtlbdpcadaojcbaaGreatDoor
namespace Rows

/-- THE TIED CARD OF 'stemmatop.TopLinked'. -/
def topLinkedCard : Claim7 := { stood := { row := topLinkedRow, standIns := [], harness := (true, "1ba97f26ec655d0f5ce02516bfa906bcd4bf5528f076cb93a7629a20009b5b3e"), looks := true }, kinds := [], alts := [], laidByText := true, laidKinds := [.data, .data, .data, .data, .sentinel, .sentinel, .data, .data, .pinned], laidTests := true, laidLooks := .later }
def TopLinkedCardSaid : Prop := Claim7.holds Tryz.pinned (.plain (OpenSpec.ofChange topLinkedSpec)) topLinkedCard

/-- THE SECOND FORM's CARD OF 'stemmatop.TopLinked'. -/
def topLinkedUptoCard : Claim7 := { stood := { row := topLinkedUptoRow, standIns := [], harness := (true, "1ba97f26ec655d0f5ce02516bfa906bcd4bf5528f076cb93a7629a20009b5b3e"), looks := true }, kinds := [], alts := [], laidByText := true, laidKinds := [.data, .data, .data, .data, .sentinel, .sentinel, .data, .data, .pinned], laidTests := true, laidLooks := .later }
def TopLinkedUptoCardSaid : Prop := Claim7.holds Tryz.pinned (.plain (OpenSpec.upto topLinkedSpec)) topLinkedUptoCard
end Rows
end Go.Proofs.YtlbdpcadaojcbaaGreatDoor
