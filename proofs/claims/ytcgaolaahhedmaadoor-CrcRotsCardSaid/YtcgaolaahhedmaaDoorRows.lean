/-
  NARROWER THAN 'FOR EVERY INPUT', by the rows' own cells (each row's printed sentence says how): CrcSums: laid · CrcRots: laid · CrcApart: laid · CrcNexts: laid · CrcCuts: laid.
  DERIVED. THE GIVEN ROWS OF THIS SEAT. 5 by the template 'for every input the law returns true; each argument reads behind the call as it read before'; 0 by the template 'total and deterministic' (their statements: YtcgaolaahhedmaaDoorTotals.lean).
  GIVEN WITH THE SEED: the statements are not yours to turn. If you find one false, say at which input.
  Laid BY PROGRAM, IN A SANDBOX (cutbox-rows.mjs): the forced cells as the released guide's own fill.sh prints them over the translation ea7ae295b5c9e822… (all of the seat's roots in one cut). By AI agents, Wed Nov 11 2026. No macro, syntax, notation, axiom, sorry.
-/
import Derived.Test.YtcgaolaahhedmaaDoorChecked
import GoSem.Claim
import GoSem.ClaimJoined
import GoSem.ClaimMapViews
import Derived.JoinedTies
import Derived.KernelRfl
namespace Go.Proofs.YtcgaolaahhedmaaDoor
/- THE CELL 'sum', in the pinned program and in every row, IS THE sha256 OF THE DUMP (.gsa) THAT YtcgaolaahhedmaaDoorProg.lean LOADS. Nothing in Lean hashes anything: it is a label: what it is worth is what the hold of that sum in a sandbox is worth. -/
noncomputable def Tryd.pinned : Pinned := { name := "ytcgaolaahhedmaadoor", sum := "ea7ae295b5c9e82220d65c2b6c01d7dfca5b0be0fac94dec1c31c8d5eb0da276", checked := Tryd.checked }
namespace Rows
def none {H : Type} : Left H := { results := [], args := [] }

/- WHAT THE LISTED PACKAGE-LEVEL VARIABLES READ AS WHEN THE CALL BEGINS. Each datum BY PROGRAM (the guide's laid-datum.mjs) off the statement by which the dump's own 'gosem.cut.vars' lays the variable. In a bare row this is a premise. The card (YtcgaolaahhedmaaDoorCards.lean) ties it to the program's text. -/
def laid_stemma_crc_table {H : Type} : DataW H := .agg [.lit (.int .u32 0), .lit (.int .u32 498536548), .lit (.int .u32 997073096), .lit (.int .u32 651767980), .lit (.int .u32 1994146192), .lit (.int .u32 1802195444), .lit (.int .u32 1303535960), .lit (.int .u32 1342533948), .lit (.int .u32 3988292384), .lit (.int .u32 4027552580), .lit (.int .u32 3604390888), .lit (.int .u32 3412177804), .lit (.int .u32 2607071920), .lit (.int .u32 2262029012), .lit (.int .u32 2685067896), .lit (.int .u32 3183342108)]

/-- 'stemmalaw03.CrcSums': WHATEVER THE INPUT: true; the input reads as it did. -/
def crcSumsSpec : ChangeSpec := { name := "crcSums", fn := fun _ => fun
  | [d1, d2] => { results := [.lit (.bool true)], args := [d1, d2] }
  | _ => none }
def crcSumsRow : OpenClaim := { program := "ytcgaolaahhedmaadoor", sum := "ea7ae295b5c9e82220d65c2b6c01d7dfca5b0be0fac94dec1c31c8d5eb0da276", func := "stemma/stemmalaw03.CrcSums", spec := "crcSums", inPlace := ["internal/abi.NoEscape"], named := ["stemma/crc.table"], apart := false, laid := [("stemma/crc.table", laid_stemma_crc_table)] }
def CrcSumsSaid : Prop := crcSumsRow.holds Tryd.pinned (OpenSpec.ofChange crcSumsSpec)

/-- ITS FALSE NEIGHBOUR: 'it returns false'. Refute it at one input. -/
def crcSumsWrong : ChangeSpec := { name := "crcSums", fn := fun _ => fun
  | [d1, d2] => { results := [.lit (.bool false)], args := [d1, d2] }
  | _ => none }
def CrcSumsWrongFalsely : Prop := crcSumsRow.holds Tryd.pinned (OpenSpec.ofChange crcSumsWrong)

/-- 'stemmalaw03.CrcRots': WHATEVER THE INPUT: true; the input reads as it did. -/
def crcRotsSpec : ChangeSpec := { name := "crcRots", fn := fun _ => fun
  | [d1, d2, d3] => { results := [.lit (.bool true)], args := [d1, d2, d3] }
  | _ => none }
def crcRotsRow : OpenClaim := { program := "ytcgaolaahhedmaadoor", sum := "ea7ae295b5c9e82220d65c2b6c01d7dfca5b0be0fac94dec1c31c8d5eb0da276", func := "stemma/stemmalaw03.CrcRots", spec := "crcRots", inPlace := ["internal/abi.NoEscape"], named := ["stemma/crc.table"], apart := false, laid := [("stemma/crc.table", laid_stemma_crc_table)] }
def CrcRotsSaid : Prop := crcRotsRow.holds Tryd.pinned (OpenSpec.ofChange crcRotsSpec)

/-- ITS FALSE NEIGHBOUR: 'it returns false'. Refute it at one input. -/
def crcRotsWrong : ChangeSpec := { name := "crcRots", fn := fun _ => fun
  | [d1, d2, d3] => { results := [.lit (.bool false)], args := [d1, d2, d3] }
  | _ => none }
def CrcRotsWrongFalsely : Prop := crcRotsRow.holds Tryd.pinned (OpenSpec.ofChange crcRotsWrong)

/-- 'stemmalaw03.CrcApart': WHATEVER THE INPUT: true; the input reads as it did. -/
def crcApartSpec : ChangeSpec := { name := "crcApart", fn := fun _ => fun
  | [d1, d2, d3] => { results := [.lit (.bool true)], args := [d1, d2, d3] }
  | _ => none }
def crcApartRow : OpenClaim := { program := "ytcgaolaahhedmaadoor", sum := "ea7ae295b5c9e82220d65c2b6c01d7dfca5b0be0fac94dec1c31c8d5eb0da276", func := "stemma/stemmalaw03.CrcApart", spec := "crcApart", inPlace := ["internal/abi.NoEscape"], named := ["stemma/crc.table"], apart := false, laid := [("stemma/crc.table", laid_stemma_crc_table)] }
def CrcApartSaid : Prop := crcApartRow.holds Tryd.pinned (OpenSpec.ofChange crcApartSpec)

/-- ITS FALSE NEIGHBOUR: 'it returns false'. Refute it at one input. -/
def crcApartWrong : ChangeSpec := { name := "crcApart", fn := fun _ => fun
  | [d1, d2, d3] => { results := [.lit (.bool false)], args := [d1, d2, d3] }
  | _ => none }
def CrcApartWrongFalsely : Prop := crcApartRow.holds Tryd.pinned (OpenSpec.ofChange crcApartWrong)

/-- 'stemmalaw03.CrcNexts': WHATEVER THE INPUT: true; the input reads as it did. -/
def crcNextsSpec : ChangeSpec := { name := "crcNexts", fn := fun _ => fun
  | [d] => { results := [.lit (.bool true)], args := [d] }
  | _ => none }
def crcNextsRow : OpenClaim := { program := "ytcgaolaahhedmaadoor", sum := "ea7ae295b5c9e82220d65c2b6c01d7dfca5b0be0fac94dec1c31c8d5eb0da276", func := "stemma/stemmalaw03.CrcNexts", spec := "crcNexts", inPlace := ["internal/abi.NoEscape"], named := ["stemma/crc.table"], apart := false, laid := [("stemma/crc.table", laid_stemma_crc_table)] }
def CrcNextsSaid : Prop := crcNextsRow.holds Tryd.pinned (OpenSpec.ofChange crcNextsSpec)

/-- ITS FALSE NEIGHBOUR: 'it returns false'. Refute it at one input. -/
def crcNextsWrong : ChangeSpec := { name := "crcNexts", fn := fun _ => fun
  | [d] => { results := [.lit (.bool false)], args := [d] }
  | _ => none }
def CrcNextsWrongFalsely : Prop := crcNextsRow.holds Tryd.pinned (OpenSpec.ofChange crcNextsWrong)

/-- 'stemmalaw03.CrcCuts': WHATEVER THE INPUT: true; the input reads as it did. -/
def crcCutsSpec : ChangeSpec := { name := "crcCuts", fn := fun _ => fun
  | [d1, d2] => { results := [.lit (.bool true)], args := [d1, d2] }
  | _ => none }
def crcCutsRow : OpenClaim := { program := "ytcgaolaahhedmaadoor", sum := "ea7ae295b5c9e82220d65c2b6c01d7dfca5b0be0fac94dec1c31c8d5eb0da276", func := "stemma/stemmalaw03.CrcCuts", spec := "crcCuts", inPlace := ["internal/abi.NoEscape"], named := ["stemma/crc.table"], apart := false, laid := [("stemma/crc.table", laid_stemma_crc_table)] }
def CrcCutsSaid : Prop := crcCutsRow.holds Tryd.pinned (OpenSpec.ofChange crcCutsSpec)

/-- ITS FALSE NEIGHBOUR: 'it returns false'. Refute it at one input. -/
def crcCutsWrong : ChangeSpec := { name := "crcCuts", fn := fun _ => fun
  | [d1, d2] => { results := [.lit (.bool false)], args := [d1, d2] }
  | _ => none }
def CrcCutsWrongFalsely : Prop := crcCutsRow.holds Tryd.pinned (OpenSpec.ofChange crcCutsWrong)

/- THE SECOND FORM. 'bulk': how many values and letters a reading holds, each counted each time it is reached (what is shared counts as often as it is met; a slice's spare places count too). A statement '..UptoSaid' is the law's where the arguments, and the package variables that the reading takes, are together of bulk at most 1048576: NARROWER than '..Said'. Prove '..Said' where nothing that the law and all that it calls make is longer than what came in: it says more and counts as full. Else prove '..UptoSaid'. A law counts once. -/
mutual
def uptoBulk {H : Type} : DataW H → Nat
  | .lit (.string bytes) => bytes.length + 1
  | .lit _ => 1
  | .nil => 1
  | .ptr d => uptoBulk d + 1
  | .slice elems spare => uptoBulkAll elems + uptoBulkAll spare + 1
  | .agg parts => uptoBulkAll parts + 1
  | .iface _ d => uptoBulk d + 1
  | .map entries => uptoBulkEntries entries + 1
  | .held _ => 1
def uptoBulkAll {H : Type} : List (DataW H) → Nat
  | [] => 0
  | d :: r => uptoBulk d + uptoBulkAll r
def uptoBulkEntries {H : Type} : List (Lit × DataW H) → Nat
  | [] => 0
  | x :: r => uptoBulkEntry x + uptoBulkEntries r
def uptoBulkEntry {H : Type} : Lit × DataW H → Nat
  | (.string bytes, d) => bytes.length + uptoBulk d + 1
  | (_, d) => uptoBulk d + 1
 end
def uptoSmall : (H : Type) → List (DataW H) → Bool := fun _ ds => decide (uptoBulkAll ds ≤ 1048576)
def OpenSpec.upto (s : _root_.Go.ChangeSpec) : _root_.Go.OpenSpec := { _root_.Go.OpenSpec.ofChange s with cond := some uptoSmall }

/-- 'stemmalaw03.CrcSums', WHERE WHAT IT READS IS OF BULK AT MOST 1048576: true; the input reads as it did. -/
def crcSumsUptoRow : OpenClaim := { program := "ytcgaolaahhedmaadoor", sum := "ea7ae295b5c9e82220d65c2b6c01d7dfca5b0be0fac94dec1c31c8d5eb0da276", func := "stemma/stemmalaw03.CrcSums", spec := "crcSums", inPlace := ["internal/abi.NoEscape"], named := ["stemma/crc.table"], apart := false, laid := [("stemma/crc.table", laid_stemma_crc_table)], narrowed := true }
def CrcSumsUptoSaid : Prop := crcSumsUptoRow.holds Tryd.pinned (OpenSpec.upto crcSumsSpec)

/-- 'stemmalaw03.CrcRots', WHERE WHAT IT READS IS OF BULK AT MOST 1048576: true; the input reads as it did. -/
def crcRotsUptoRow : OpenClaim := { program := "ytcgaolaahhedmaadoor", sum := "ea7ae295b5c9e82220d65c2b6c01d7dfca5b0be0fac94dec1c31c8d5eb0da276", func := "stemma/stemmalaw03.CrcRots", spec := "crcRots", inPlace := ["internal/abi.NoEscape"], named := ["stemma/crc.table"], apart := false, laid := [("stemma/crc.table", laid_stemma_crc_table)], narrowed := true }
def CrcRotsUptoSaid : Prop := crcRotsUptoRow.holds Tryd.pinned (OpenSpec.upto crcRotsSpec)

/-- 'stemmalaw03.CrcApart', WHERE WHAT IT READS IS OF BULK AT MOST 1048576: true; the input reads as it did. -/
def crcApartUptoRow : OpenClaim := { program := "ytcgaolaahhedmaadoor", sum := "ea7ae295b5c9e82220d65c2b6c01d7dfca5b0be0fac94dec1c31c8d5eb0da276", func := "stemma/stemmalaw03.CrcApart", spec := "crcApart", inPlace := ["internal/abi.NoEscape"], named := ["stemma/crc.table"], apart := false, laid := [("stemma/crc.table", laid_stemma_crc_table)], narrowed := true }
def CrcApartUptoSaid : Prop := crcApartUptoRow.holds Tryd.pinned (OpenSpec.upto crcApartSpec)

/-- 'stemmalaw03.CrcNexts', WHERE WHAT IT READS IS OF BULK AT MOST 1048576: true; the input reads as it did. -/
def crcNextsUptoRow : OpenClaim := { program := "ytcgaolaahhedmaadoor", sum := "ea7ae295b5c9e82220d65c2b6c01d7dfca5b0be0fac94dec1c31c8d5eb0da276", func := "stemma/stemmalaw03.CrcNexts", spec := "crcNexts", inPlace := ["internal/abi.NoEscape"], named := ["stemma/crc.table"], apart := false, laid := [("stemma/crc.table", laid_stemma_crc_table)], narrowed := true }
def CrcNextsUptoSaid : Prop := crcNextsUptoRow.holds Tryd.pinned (OpenSpec.upto crcNextsSpec)

/-- 'stemmalaw03.CrcCuts', WHERE WHAT IT READS IS OF BULK AT MOST 1048576: true; the input reads as it did. -/
def crcCutsUptoRow : OpenClaim := { program := "ytcgaolaahhedmaadoor", sum := "ea7ae295b5c9e82220d65c2b6c01d7dfca5b0be0fac94dec1c31c8d5eb0da276", func := "stemma/stemmalaw03.CrcCuts", spec := "crcCuts", inPlace := ["internal/abi.NoEscape"], named := ["stemma/crc.table"], apart := false, laid := [("stemma/crc.table", laid_stemma_crc_table)], narrowed := true }
def CrcCutsUptoSaid : Prop := crcCutsUptoRow.holds Tryd.pinned (OpenSpec.upto crcCutsSpec)

end Rows
end Go.Proofs.YtcgaolaahhedmaaDoor
