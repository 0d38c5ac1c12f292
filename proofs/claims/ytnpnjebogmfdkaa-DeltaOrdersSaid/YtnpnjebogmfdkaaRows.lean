/-
  No cell of these rows narrows 'for every input' (looked for: loops, veiled, ifaces, maps, wideKeys, modest, calm, conditions, laid).
  DERIVED. THE GIVEN ROWS OF THIS SEAT. 5 by the template 'for every input the law returns true; each argument reads behind the call as it read before'; 0 by the template 'total and deterministic' (their statements: YtnpnjebogmfdkaaTotals.lean).
  GIVEN WITH THE SEED: the statements are not yours to turn. If you find one false, say at which input.
  Laid BY PROGRAM, IN A SANDBOX (cutbox-rows.mjs): the forced cells as the released guide's own fill.sh prints them over the translation e101f0aafea2f4de… (all of the seat's roots in one cut). By AI agents, Wed Nov 11 2026. No macro, syntax, notation, axiom, sorry.
-/
import Derived.Test.YtnpnjebogmfdkaaChecked
import GoSem.Claim
import GoSem.ClaimJoined
import GoSem.ClaimMapViews
import Derived.JoinedTies
import Derived.KernelRfl
namespace Go.Proofs.Ytnpnjebogmfdkaa
/- THE CELL 'sum', in the pinned program and in every row, IS THE sha256 OF THE DUMP (.gsa) THAT YtnpnjebogmfdkaaProg.lean LOADS. Nothing in Lean hashes anything: it is a label: what it is worth is what the hold of that sum in a sandbox is worth. -/
noncomputable def Try.pinned : Pinned := { name := "ytnpnjebogmfdkaa", sum := "e101f0aafea2f4de7f2d9d516e0868366c9608460540dc9a1de71122334cf7eb", checked := Try.checked }
namespace Rows
def none {H : Type} : Left H := { results := [], args := [] }

/-- 'stemmalaw13.DeltaMakes': WHATEVER THE INPUT: true; the input reads as it did. -/
def deltaMakesSpec : ChangeSpec := { name := "deltaMakes", fn := fun _ => fun
  | [d1, d2] => { results := [.lit (.bool true)], args := [d1, d2] }
  | _ => none }
def deltaMakesRow : OpenClaim := { program := "ytnpnjebogmfdkaa", sum := "e101f0aafea2f4de7f2d9d516e0868366c9608460540dc9a1de71122334cf7eb", func := "stemma/stemmalaw13.DeltaMakes", spec := "deltaMakes", inPlace := ["internal/abi.NoEscape", "internal/bytealg.IndexByteString", "internal/bytealg.IndexString"], named := ["internal/bytealg.MaxLen"], apart := false }
def DeltaMakesSaid : Prop := deltaMakesRow.holds Try.pinned (OpenSpec.ofChange deltaMakesSpec)

/-- ITS FALSE NEIGHBOUR: 'it returns false'. Refute it at one input. -/
def deltaMakesWrong : ChangeSpec := { name := "deltaMakes", fn := fun _ => fun
  | [d1, d2] => { results := [.lit (.bool false)], args := [d1, d2] }
  | _ => none }
def DeltaMakesWrongFalsely : Prop := deltaMakesRow.holds Try.pinned (OpenSpec.ofChange deltaMakesWrong)

/-- 'stemmalaw13.DeltaParts': WHATEVER THE INPUT: true; the input reads as it did. -/
def deltaPartsSpec : ChangeSpec := { name := "deltaParts", fn := fun _ => fun
  | [d1, d2, d3] => { results := [.lit (.bool true)], args := [d1, d2, d3] }
  | _ => none }
def deltaPartsRow : OpenClaim := { program := "ytnpnjebogmfdkaa", sum := "e101f0aafea2f4de7f2d9d516e0868366c9608460540dc9a1de71122334cf7eb", func := "stemma/stemmalaw13.DeltaParts", spec := "deltaParts", inPlace := ["internal/abi.NoEscape", "internal/bytealg.IndexByteString", "internal/bytealg.IndexString"], named := ["internal/bytealg.MaxLen"], apart := false }
def DeltaPartsSaid : Prop := deltaPartsRow.holds Try.pinned (OpenSpec.ofChange deltaPartsSpec)

/-- ITS FALSE NEIGHBOUR: 'it returns false'. Refute it at one input. -/
def deltaPartsWrong : ChangeSpec := { name := "deltaParts", fn := fun _ => fun
  | [d1, d2, d3] => { results := [.lit (.bool false)], args := [d1, d2, d3] }
  | _ => none }
def DeltaPartsWrongFalsely : Prop := deltaPartsRow.holds Try.pinned (OpenSpec.ofChange deltaPartsWrong)

/-- 'stemmalaw13.DeltaLong': WHATEVER THE INPUT: true; the input reads as it did. -/
def deltaLongSpec : ChangeSpec := { name := "deltaLong", fn := fun _ => fun
  | [d] => { results := [.lit (.bool true)], args := [d] }
  | _ => none }
def deltaLongRow : OpenClaim := { program := "ytnpnjebogmfdkaa", sum := "e101f0aafea2f4de7f2d9d516e0868366c9608460540dc9a1de71122334cf7eb", func := "stemma/stemmalaw13.DeltaLong", spec := "deltaLong", inPlace := ["internal/abi.NoEscape", "internal/bytealg.IndexByteString", "internal/bytealg.IndexString"], named := ["internal/bytealg.MaxLen"], apart := false }
def DeltaLongSaid : Prop := deltaLongRow.holds Try.pinned (OpenSpec.ofChange deltaLongSpec)

/-- ITS FALSE NEIGHBOUR: 'it returns false'. Refute it at one input. -/
def deltaLongWrong : ChangeSpec := { name := "deltaLong", fn := fun _ => fun
  | [d] => { results := [.lit (.bool false)], args := [d] }
  | _ => none }
def DeltaLongWrongFalsely : Prop := deltaLongRow.holds Try.pinned (OpenSpec.ofChange deltaLongWrong)

/-- 'stemmalaw13.DeltaApplies': WHATEVER THE INPUT: true; the input reads as it did. -/
def deltaAppliesSpec : ChangeSpec := { name := "deltaApplies", fn := fun _ => fun
  | [d1, d2] => { results := [.lit (.bool true)], args := [d1, d2] }
  | _ => none }
def deltaAppliesRow : OpenClaim := { program := "ytnpnjebogmfdkaa", sum := "e101f0aafea2f4de7f2d9d516e0868366c9608460540dc9a1de71122334cf7eb", func := "stemma/stemmalaw13.DeltaApplies", spec := "deltaApplies", inPlace := ["internal/abi.NoEscape", "internal/bytealg.IndexByteString", "internal/bytealg.IndexString"], named := ["internal/bytealg.MaxLen"], apart := false }
def DeltaAppliesSaid : Prop := deltaAppliesRow.holds Try.pinned (OpenSpec.ofChange deltaAppliesSpec)

/-- ITS FALSE NEIGHBOUR: 'it returns false'. Refute it at one input. -/
def deltaAppliesWrong : ChangeSpec := { name := "deltaApplies", fn := fun _ => fun
  | [d1, d2] => { results := [.lit (.bool false)], args := [d1, d2] }
  | _ => none }
def DeltaAppliesWrongFalsely : Prop := deltaAppliesRow.holds Try.pinned (OpenSpec.ofChange deltaAppliesWrong)

/-- 'stemmalaw13.DeltaOrders': WHATEVER THE INPUT: true; the input reads as it did. -/
def deltaOrdersSpec : ChangeSpec := { name := "deltaOrders", fn := fun _ => fun
  | [d1, d2, d3] => { results := [.lit (.bool true)], args := [d1, d2, d3] }
  | _ => none }
def deltaOrdersRow : OpenClaim := { program := "ytnpnjebogmfdkaa", sum := "e101f0aafea2f4de7f2d9d516e0868366c9608460540dc9a1de71122334cf7eb", func := "stemma/stemmalaw13.DeltaOrders", spec := "deltaOrders", inPlace := ["internal/abi.NoEscape", "internal/bytealg.IndexByteString", "internal/bytealg.IndexString"], named := ["internal/bytealg.MaxLen"], apart := false }
def DeltaOrdersSaid : Prop := deltaOrdersRow.holds Try.pinned (OpenSpec.ofChange deltaOrdersSpec)

/-- ITS FALSE NEIGHBOUR: 'it returns false'. Refute it at one input. -/
def deltaOrdersWrong : ChangeSpec := { name := "deltaOrders", fn := fun _ => fun
  | [d1, d2, d3] => { results := [.lit (.bool false)], args := [d1, d2, d3] }
  | _ => none }
def DeltaOrdersWrongFalsely : Prop := deltaOrdersRow.holds Try.pinned (OpenSpec.ofChange deltaOrdersWrong)

/- THE SECOND FORM. 'bulk': how many values and letters a reading holds, each counted each time it is reached (what is shared counts as often as it is met; a slice's spare places count too). A statement '..UptoSaid' is the law's where the arguments, and the package variables that the reading takes, are together of bulk at most 1048576: NARROWER than '..Said'. Prove '..Said' where nothing that the law and all that it calls make is longer than what came in: it says more and counts as full. Else prove '..UptoSaid'. A law counts once. -/
mutual
def uptoBulk {H : Type} : DataW H → Nat
  | .lit (.string bytes) => bytes.length + 1
  | .lit _ => 1
  | .nil => 1
  | .ptr d => uptoBulk d + 1
  | .slice elems spare => uptoBulkAll elems + uptoBulkAll spare + 1
  | .agg parts => uptoBulkAll parts + 1
  | .iface _ d => uptoBulk d + 1
  | .map entries => uptoBulkEntries entries + 1
  | .held _ => 1
def uptoBulkAll {H : Type} : List (DataW H) → Nat
  | [] => 0
  | d :: r => uptoBulk d + uptoBulkAll r
def uptoBulkEntries {H : Type} : List (Lit × DataW H) → Nat
  | [] => 0
  | x :: r => uptoBulkEntry x + uptoBulkEntries r
def uptoBulkEntry {H : Type} : Lit × DataW H → Nat
  | (.string bytes, d) => bytes.length + uptoBulk d + 1
  | (_, d) => uptoBulk d + 1
 end
def uptoSmall : (H : Type) → List (DataW H) → Bool := fun _ ds => decide (uptoBulkAll ds ≤ 1048576)
def OpenSpec.upto (s : _root_.Go.ChangeSpec) : _root_.Go.OpenSpec := { _root_.Go.OpenSpec.ofChange s with cond := some uptoSmall }

/-- 'stemmalaw13.DeltaMakes', WHERE WHAT IT READS IS OF BULK AT MOST 1048576: true; the input reads as it did. -/
def deltaMakesUptoRow : OpenClaim := { program := "ytnpnjebogmfdkaa", sum := "e101f0aafea2f4de7f2d9d516e0868366c9608460540dc9a1de71122334cf7eb", func := "stemma/stemmalaw13.DeltaMakes", spec := "deltaMakes", inPlace := ["internal/abi.NoEscape", "internal/bytealg.IndexByteString", "internal/bytealg.IndexString"], named := ["internal/bytealg.MaxLen"], apart := false, narrowed := true }
def DeltaMakesUptoSaid : Prop := deltaMakesUptoRow.holds Try.pinned (OpenSpec.upto deltaMakesSpec)

/-- 'stemmalaw13.DeltaParts', WHERE WHAT IT READS IS OF BULK AT MOST 1048576: true; the input reads as it did. -/
def deltaPartsUptoRow : OpenClaim := { program := "ytnpnjebogmfdkaa", sum := "e101f0aafea2f4de7f2d9d516e0868366c9608460540dc9a1de71122334cf7eb", func := "stemma/stemmalaw13.DeltaParts", spec := "deltaParts", inPlace := ["internal/abi.NoEscape", "internal/bytealg.IndexByteString", "internal/bytealg.IndexString"], named := ["internal/bytealg.MaxLen"], apart := false, narrowed := true }
def DeltaPartsUptoSaid : Prop := deltaPartsUptoRow.holds Try.pinned (OpenSpec.upto deltaPartsSpec)

/-- 'stemmalaw13.DeltaLong', WHERE WHAT IT READS IS OF BULK AT MOST 1048576: true; the input reads as it did. -/
def deltaLongUptoRow : OpenClaim := { program := "ytnpnjebogmfdkaa", sum := "e101f0aafea2f4de7f2d9d516e0868366c9608460540dc9a1de71122334cf7eb", func := "stemma/stemmalaw13.DeltaLong", spec := "deltaLong", inPlace := ["internal/abi.NoEscape", "internal/bytealg.IndexByteString", "internal/bytealg.IndexString"], named := ["internal/bytealg.MaxLen"], apart := false, narrowed := true }
def DeltaLongUptoSaid : Prop := deltaLongUptoRow.holds Try.pinned (OpenSpec.upto deltaLongSpec)

/-- 'stemmalaw13.DeltaApplies', WHERE WHAT IT READS IS OF BULK AT MOST 1048576: true; the input reads as it did. -/
def deltaAppliesUptoRow : OpenClaim := { program := "ytnpnjebogmfdkaa", sum := "e101f0aafea2f4de7f2d9d516e0868366c9608460540dc9a1de71122334cf7eb", func := "stemma/stemmalaw13.DeltaApplies", spec := "deltaApplies", inPlace := ["internal/abi.NoEscape", "internal/bytealg.IndexByteString", "internal/bytealg.IndexString"], named := ["internal/bytealg.MaxLen"], apart := false, narrowed := true }
def DeltaAppliesUptoSaid : Prop := deltaAppliesUptoRow.holds Try.pinned (OpenSpec.upto deltaAppliesSpec)

/-- 'stemmalaw13.DeltaOrders', WHERE WHAT IT READS IS OF BULK AT MOST 1048576: true; the input reads as it did. -/
def deltaOrdersUptoRow : OpenClaim := { program := "ytnpnjebogmfdkaa", sum := "e101f0aafea2f4de7f2d9d516e0868366c9608460540dc9a1de71122334cf7eb", func := "stemma/stemmalaw13.DeltaOrders", spec := "deltaOrders", inPlace := ["internal/abi.NoEscape", "internal/bytealg.IndexByteString", "internal/bytealg.IndexString"], named := ["internal/bytealg.MaxLen"], apart := false, narrowed := true }
def DeltaOrdersUptoSaid : Prop := deltaOrdersUptoRow.holds Try.pinned (OpenSpec.upto deltaOrdersSpec)

end Rows
end Go.Proofs.Ytnpnjebogmfdkaa
