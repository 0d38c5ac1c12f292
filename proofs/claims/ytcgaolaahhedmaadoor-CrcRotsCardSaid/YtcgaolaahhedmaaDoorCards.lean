/-
  DERIVED. GIVEN WITH THE SEED: THE CARDS: each row of YtcgaolaahhedmaaDoorRows.lean that lists a variable, with what it lists TIED to the program's text (the seventh form; the later family's looks); each row that meets fmt, with fmt's text TOLD by the authors' own Lean function (tested against real Go, not proved from fmt's source: count such statements apart). THE CARD IS WHAT COUNTS. Prove the row's statement (the work); the ties are given (YtcgaolaahhedmaaDoorTie.lean); close each card by the builder's one call (the guide's Derived/Test/ToyasCard.lean, 'card_holds'). Laid BY PROGRAM, IN A SANDBOX (cutbox-door.mjs). By AI agents, Wed Nov 11 2026. No macro, syntax, notation, axiom, sorry.
-/
import Derived.Test.YtcgaolaahhedmaaDoorRows
import GoSem.ClaimSeven
namespace Go.Proofs.YtcgaolaahhedmaaDoor
namespace Rows

/-- THE TIED CARD OF 'stemmalaw03.CrcSums'. -/
def crcSumsCard : Claim7 := { stood := { row := crcSumsRow, standIns := [], harness := (true, "fba6a1ecdcef379edc6f4cbc136204dbfbbacaa501ab1a04771dc924e8426dd6"), looks := false }, kinds := [], alts := [], laidByText := true, laidKinds := [.data], laidTests := true, laidLooks := .later }
def CrcSumsCardSaid : Prop := Claim7.holds Tryd.pinned (.plain (OpenSpec.ofChange crcSumsSpec)) crcSumsCard

/-- THE TIED CARD OF 'stemmalaw03.CrcRots'. -/
def crcRotsCard : Claim7 := { stood := { row := crcRotsRow, standIns := [], harness := (true, "fba6a1ecdcef379edc6f4cbc136204dbfbbacaa501ab1a04771dc924e8426dd6"), looks := false }, kinds := [], alts := [], laidByText := true, laidKinds := [.data], laidTests := true, laidLooks := .later }
def CrcRotsCardSaid : Prop := Claim7.holds Tryd.pinned (.plain (OpenSpec.ofChange crcRotsSpec)) crcRotsCard

/-- THE TIED CARD OF 'stemmalaw03.CrcApart'. -/
def crcApartCard : Claim7 := { stood := { row := crcApartRow, standIns := [], harness := (true, "fba6a1ecdcef379edc6f4cbc136204dbfbbacaa501ab1a04771dc924e8426dd6"), looks := false }, kinds := [], alts := [], laidByText := true, laidKinds := [.data], laidTests := true, laidLooks := .later }
def CrcApartCardSaid : Prop := Claim7.holds Tryd.pinned (.plain (OpenSpec.ofChange crcApartSpec)) crcApartCard

/-- THE TIED CARD OF 'stemmalaw03.CrcNexts'. -/
def crcNextsCard : Claim7 := { stood := { row := crcNextsRow, standIns := [], harness := (true, "fba6a1ecdcef379edc6f4cbc136204dbfbbacaa501ab1a04771dc924e8426dd6"), looks := false }, kinds := [], alts := [], laidByText := true, laidKinds := [.data], laidTests := true, laidLooks := .later }
def CrcNextsCardSaid : Prop := Claim7.holds Tryd.pinned (.plain (OpenSpec.ofChange crcNextsSpec)) crcNextsCard

/-- THE TIED CARD OF 'stemmalaw03.CrcCuts'. -/
def crcCutsCard : Claim7 := { stood := { row := crcCutsRow, standIns := [], harness := (true, "fba6a1ecdcef379edc6f4cbc136204dbfbbacaa501ab1a04771dc924e8426dd6"), looks := false }, kinds := [], alts := [], laidByText := true, laidKinds := [.data], laidTests := true, laidLooks := .later }
def CrcCutsCardSaid : Prop := Claim7.holds Tryd.pinned (.plain (OpenSpec.ofChange crcCutsSpec)) crcCutsCard

/-- THE SECOND FORM's CARD OF 'stemmalaw03.CrcSums'. -/
def crcSumsUptoCard : Claim7 := { stood := { row := crcSumsUptoRow, standIns := [], harness := (true, "fba6a1ecdcef379edc6f4cbc136204dbfbbacaa501ab1a04771dc924e8426dd6"), looks := false }, kinds := [], alts := [], laidByText := true, laidKinds := [.data], laidTests := true, laidLooks := .later }
def CrcSumsUptoCardSaid : Prop := Claim7.holds Tryd.pinned (.plain (OpenSpec.upto crcSumsSpec)) crcSumsUptoCard

/-- THE SECOND FORM's CARD OF 'stemmalaw03.CrcRots'. -/
def crcRotsUptoCard : Claim7 := { stood := { row := crcRotsUptoRow, standIns := [], harness := (true, "fba6a1ecdcef379edc6f4cbc136204dbfbbacaa501ab1a04771dc924e8426dd6"), looks := false }, kinds := [], alts := [], laidByText := true, laidKinds := [.data], laidTests := true, laidLooks := .later }
def CrcRotsUptoCardSaid : Prop := Claim7.holds Tryd.pinned (.plain (OpenSpec.upto crcRotsSpec)) crcRotsUptoCard

/-- THE SECOND FORM's CARD OF 'stemmalaw03.CrcApart'. -/
def crcApartUptoCard : Claim7 := { stood := { row := crcApartUptoRow, standIns := [], harness := (true, "fba6a1ecdcef379edc6f4cbc136204dbfbbacaa501ab1a04771dc924e8426dd6"), looks := false }, kinds := [], alts := [], laidByText := true, laidKinds := [.data], laidTests := true, laidLooks := .later }
def CrcApartUptoCardSaid : Prop := Claim7.holds Tryd.pinned (.plain (OpenSpec.upto crcApartSpec)) crcApartUptoCard

/-- THE SECOND FORM's CARD OF 'stemmalaw03.CrcNexts'. -/
def crcNextsUptoCard : Claim7 := { stood := { row := crcNextsUptoRow, standIns := [], harness := (true, "fba6a1ecdcef379edc6f4cbc136204dbfbbacaa501ab1a04771dc924e8426dd6"), looks := false }, kinds := [], alts := [], laidByText := true, laidKinds := [.data], laidTests := true, laidLooks := .later }
def CrcNextsUptoCardSaid : Prop := Claim7.holds Tryd.pinned (.plain (OpenSpec.upto crcNextsSpec)) crcNextsUptoCard

/-- THE SECOND FORM's CARD OF 'stemmalaw03.CrcCuts'. -/
def crcCutsUptoCard : Claim7 := { stood := { row := crcCutsUptoRow, standIns := [], harness := (true, "fba6a1ecdcef379edc6f4cbc136204dbfbbacaa501ab1a04771dc924e8426dd6"), looks := false }, kinds := [], alts := [], laidByText := true, laidKinds := [.data], laidTests := true, laidLooks := .later }
def CrcCutsUptoCardSaid : Prop := Claim7.holds Tryd.pinned (.plain (OpenSpec.upto crcCutsSpec)) crcCutsUptoCard
end Rows
end Go.Proofs.YtcgaolaahhedmaaDoor
