/-
  DERIVED. GIVEN WITH THE SEED: THE CARDS: each row of YtaalegffcjbglaaDoorRows.lean that lists a variable, with what it lists TIED to the program's text (the seventh form; the later family's looks); each row that meets fmt, with fmt's text TOLD by the authors' own Lean function (tested against real Go, not proved from fmt's source: count such statements apart). THE CARD IS WHAT COUNTS. Prove the row's statement (the work); the ties are given (YtaalegffcjbglaaDoorTie.lean); close each card by the builder's one call (the guide's Derived/Test/ToyasCard.lean, 'card_holds'). Laid BY PROGRAM, IN A SANDBOX (cutbox-door.mjs). By AI agents, Wed Nov 11 2026. No macro, syntax, notation, axiom, sorry.
-/
import Derived.Test.YtaalegffcjbglaaDoorRows
import GoSem.ClaimSeven
namespace Go.Proofs.YtaalegffcjbglaaDoor
namespace Rows

/-- THE TIED CARD OF 'stemmalaw06.WalScripts'. -/
def walScriptsCard : Claim7 := { stood := { row := walScriptsRow, standIns := [], harness := (true, "5478538d428fe24bdb578595e917fcfb197e8d7380dcfc26fdac44ffe6034a1d"), looks := false }, kinds := [], alts := [], laidByText := true, laidKinds := [.data], laidTests := true, laidLooks := .later }
def WalScriptsCardSaid : Prop := Claim7.holds Tryd.pinned (.plain (OpenSpec.ofChange walScriptsSpec)) walScriptsCard

/-- THE TIED CARD OF 'stemmalaw06.WalWhole'. -/
def walWholeCard : Claim7 := { stood := { row := walWholeRow, standIns := [], harness := (true, "5478538d428fe24bdb578595e917fcfb197e8d7380dcfc26fdac44ffe6034a1d"), looks := false }, kinds := [], alts := [], laidByText := true, laidKinds := [.data], laidTests := true, laidLooks := .later }
def WalWholeCardSaid : Prop := Claim7.holds Tryd.pinned (.plain (OpenSpec.ofChange walWholeSpec)) walWholeCard

/-- THE TIED CARD OF 'stemmalaw06.WalOnce'. -/
def walOnceCard : Claim7 := { stood := { row := walOnceRow, standIns := [], harness := (true, "5478538d428fe24bdb578595e917fcfb197e8d7380dcfc26fdac44ffe6034a1d"), looks := false }, kinds := [], alts := [], laidByText := true, laidKinds := [.data], laidTests := true, laidLooks := .later }
def WalOnceCardSaid : Prop := Claim7.holds Tryd.pinned (.plain (OpenSpec.ofChange walOnceSpec)) walOnceCard

/-- THE SECOND FORM's CARD OF 'stemmalaw06.WalScripts'. -/
def walScriptsUptoCard : Claim7 := { stood := { row := walScriptsUptoRow, standIns := [], harness := (true, "5478538d428fe24bdb578595e917fcfb197e8d7380dcfc26fdac44ffe6034a1d"), looks := false }, kinds := [], alts := [], laidByText := true, laidKinds := [.data], laidTests := true, laidLooks := .later }
def WalScriptsUptoCardSaid : Prop := Claim7.holds Tryd.pinned (.plain (OpenSpec.upto walScriptsSpec)) walScriptsUptoCard

/-- THE SECOND FORM's CARD OF 'stemmalaw06.WalWhole'. -/
def walWholeUptoCard : Claim7 := { stood := { row := walWholeUptoRow, standIns := [], harness := (true, "5478538d428fe24bdb578595e917fcfb197e8d7380dcfc26fdac44ffe6034a1d"), looks := false }, kinds := [], alts := [], laidByText := true, laidKinds := [.data], laidTests := true, laidLooks := .later }
def WalWholeUptoCardSaid : Prop := Claim7.holds Tryd.pinned (.plain (OpenSpec.upto walWholeSpec)) walWholeUptoCard

/-- THE SECOND FORM's CARD OF 'stemmalaw06.WalOnce'. -/
def walOnceUptoCard : Claim7 := { stood := { row := walOnceUptoRow, standIns := [], harness := (true, "5478538d428fe24bdb578595e917fcfb197e8d7380dcfc26fdac44ffe6034a1d"), looks := false }, kinds := [], alts := [], laidByText := true, laidKinds := [.data], laidTests := true, laidLooks := .later }
def WalOnceUptoCardSaid : Prop := Claim7.holds Tryd.pinned (.plain (OpenSpec.upto walOnceSpec)) walOnceUptoCard
end Rows
end Go.Proofs.YtaalegffcjbglaaDoor
