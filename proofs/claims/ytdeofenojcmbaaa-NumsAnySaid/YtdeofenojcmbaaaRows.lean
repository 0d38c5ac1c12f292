/-
  No cell of these rows narrows 'for every input' (looked for: loops, veiled, ifaces, maps, wideKeys, modest, calm, conditions, laid).
  DERIVED. THE GIVEN ROWS OF THIS SEAT. 5 by the template 'for every input the law returns true; each argument reads behind the call as it read before'; 0 by the template 'total and deterministic' (their statements: YtdeofenojcmbaaaTotals.lean).
  GIVEN WITH THE SEED: the statements are not yours to turn. If you find one false, say at which input.
  Laid BY PROGRAM, IN A SANDBOX (cutbox-rows.mjs): the forced cells as the released guide's own fill.sh prints them over the translation 7131bb81464ea302… (all of the seat's roots in one cut). By AI agents, Wed Nov 11 2026. No macro, syntax, notation, axiom, sorry.
-/
import Derived.Test.YtdeofenojcmbaaaChecked
import GoSem.Claim
import GoSem.ClaimJoined
import GoSem.ClaimMapViews
import Derived.JoinedTies
import Derived.KernelRfl
namespace Go.Proofs.Ytdeofenojcmbaaa
/- THE CELL 'sum', in the pinned program and in every row, IS THE sha256 OF THE DUMP (.gsa) THAT YtdeofenojcmbaaaProg.lean LOADS. Nothing in Lean hashes anything: it is a label: what it is worth is what the hold of that sum in a sandbox is worth. -/
noncomputable def Try.pinned : Pinned := { name := "ytdeofenojcmbaaa", sum := "7131bb81464ea302f5aeab45c83128aaadcb1f8a783340dd0f4f32999cae1e05", checked := Try.checked }
namespace Rows
def none {H : Type} : Left H := { results := [], args := [] }

/-- 'stemmalaw01.NumsPuts': WHATEVER THE INPUT: true; the input reads as it did. -/
def numsPutsSpec : ChangeSpec := { name := "numsPuts", fn := fun _ => fun
  | [d] => { results := [.lit (.bool true)], args := [d] }
  | _ => none }
def numsPutsRow : OpenClaim := { program := "ytdeofenojcmbaaa", sum := "7131bb81464ea302f5aeab45c83128aaadcb1f8a783340dd0f4f32999cae1e05", func := "stemma/stemmalaw01.NumsPuts", spec := "numsPuts", inPlace := ["internal/abi.NoEscape"], apart := false }
def NumsPutsSaid : Prop := numsPutsRow.holds Try.pinned (OpenSpec.ofChange numsPutsSpec)

/-- ITS FALSE NEIGHBOUR: 'it returns false'. Refute it at one input. -/
def numsPutsWrong : ChangeSpec := { name := "numsPuts", fn := fun _ => fun
  | [d] => { results := [.lit (.bool false)], args := [d] }
  | _ => none }
def NumsPutsWrongFalsely : Prop := numsPutsRow.holds Try.pinned (OpenSpec.ofChange numsPutsWrong)

/-- 'stemmalaw01.NumsOrder': WHATEVER THE INPUT: true; the input reads as it did. -/
def numsOrderSpec : ChangeSpec := { name := "numsOrder", fn := fun _ => fun
  | [d1, d2, d3] => { results := [.lit (.bool true)], args := [d1, d2, d3] }
  | _ => none }
def numsOrderRow : OpenClaim := { program := "ytdeofenojcmbaaa", sum := "7131bb81464ea302f5aeab45c83128aaadcb1f8a783340dd0f4f32999cae1e05", func := "stemma/stemmalaw01.NumsOrder", spec := "numsOrder", inPlace := ["internal/abi.NoEscape"], apart := false }
def NumsOrderSaid : Prop := numsOrderRow.holds Try.pinned (OpenSpec.ofChange numsOrderSpec)

/-- ITS FALSE NEIGHBOUR: 'it returns false'. Refute it at one input. -/
def numsOrderWrong : ChangeSpec := { name := "numsOrder", fn := fun _ => fun
  | [d1, d2, d3] => { results := [.lit (.bool false)], args := [d1, d2, d3] }
  | _ => none }
def NumsOrderWrongFalsely : Prop := numsOrderRow.holds Try.pinned (OpenSpec.ofChange numsOrderWrong)

/-- 'stemmalaw01.NumsGets': WHATEVER THE INPUT: true; the input reads as it did. -/
def numsGetsSpec : ChangeSpec := { name := "numsGets", fn := fun _ => fun
  | [d] => { results := [.lit (.bool true)], args := [d] }
  | _ => none }
def numsGetsRow : OpenClaim := { program := "ytdeofenojcmbaaa", sum := "7131bb81464ea302f5aeab45c83128aaadcb1f8a783340dd0f4f32999cae1e05", func := "stemma/stemmalaw01.NumsGets", spec := "numsGets", inPlace := ["internal/abi.NoEscape"], apart := false }
def NumsGetsSaid : Prop := numsGetsRow.holds Try.pinned (OpenSpec.ofChange numsGetsSpec)

/-- ITS FALSE NEIGHBOUR: 'it returns false'. Refute it at one input. -/
def numsGetsWrong : ChangeSpec := { name := "numsGets", fn := fun _ => fun
  | [d] => { results := [.lit (.bool false)], args := [d] }
  | _ => none }
def NumsGetsWrongFalsely : Prop := numsGetsRow.holds Try.pinned (OpenSpec.ofChange numsGetsWrong)

/-- 'stemmalaw01.NumsSplits': WHATEVER THE INPUT: true; the input reads as it did. -/
def numsSplitsSpec : ChangeSpec := { name := "numsSplits", fn := fun _ => fun
  | [d1, d2] => { results := [.lit (.bool true)], args := [d1, d2] }
  | _ => none }
def numsSplitsRow : OpenClaim := { program := "ytdeofenojcmbaaa", sum := "7131bb81464ea302f5aeab45c83128aaadcb1f8a783340dd0f4f32999cae1e05", func := "stemma/stemmalaw01.NumsSplits", spec := "numsSplits", inPlace := ["internal/abi.NoEscape"], apart := false }
def NumsSplitsSaid : Prop := numsSplitsRow.holds Try.pinned (OpenSpec.ofChange numsSplitsSpec)

/-- ITS FALSE NEIGHBOUR: 'it returns false'. Refute it at one input. -/
def numsSplitsWrong : ChangeSpec := { name := "numsSplits", fn := fun _ => fun
  | [d1, d2] => { results := [.lit (.bool false)], args := [d1, d2] }
  | _ => none }
def NumsSplitsWrongFalsely : Prop := numsSplitsRow.holds Try.pinned (OpenSpec.ofChange numsSplitsWrong)

/-- 'stemmalaw01.NumsAny': WHATEVER THE INPUT: true; the input reads as it did. -/
def numsAnySpec : ChangeSpec := { name := "numsAny", fn := fun _ => fun
  | [d] => { results := [.lit (.bool true)], args := [d] }
  | _ => none }
def numsAnyRow : OpenClaim := { program := "ytdeofenojcmbaaa", sum := "7131bb81464ea302f5aeab45c83128aaadcb1f8a783340dd0f4f32999cae1e05", func := "stemma/stemmalaw01.NumsAny", spec := "numsAny", inPlace := ["internal/abi.NoEscape"], apart := false }
def NumsAnySaid : Prop := numsAnyRow.holds Try.pinned (OpenSpec.ofChange numsAnySpec)

/-- ITS FALSE NEIGHBOUR: 'it returns false'. Refute it at one input. -/
def numsAnyWrong : ChangeSpec := { name := "numsAny", fn := fun _ => fun
  | [d] => { results := [.lit (.bool false)], args := [d] }
  | _ => none }
def NumsAnyWrongFalsely : Prop := numsAnyRow.holds Try.pinned (OpenSpec.ofChange numsAnyWrong)

/- THE SECOND FORM. 'bulk': how many values and letters a reading holds, each counted each time it is reached (what is shared counts as often as it is met; a slice's spare places count too). A statement '..UptoSaid' is the law's where the arguments, and the package variables that the reading takes, are together of bulk at most 1048576: NARROWER than '..Said'. Prove '..Said' where nothing that the law and all that it calls make is longer than what came in: it says more and counts as full. Else prove '..UptoSaid'. A law counts once. -/
mutual
def uptoBulk {H : Type} : DataW H → Nat
  | .lit (.string bytes) => bytes.length + 1
  | .lit _ => 1
  | .nil => 1
  | .ptr d => uptoBulk d + 1
  | .slice elems spare => uptoBulkAll elems + uptoBulkAll spare + 1
  | .agg parts => uptoBulkAll parts + 1
  | .iface _ d => uptoBulk d + 1
  | .map entries => uptoBulkEntries entries + 1
  | .held _ => 1
def uptoBulkAll {H : Type} : List (DataW H) → Nat
  | [] => 0
  | d :: r => uptoBulk d + uptoBulkAll r
def uptoBulkEntries {H : Type} : List (Lit × DataW H) → Nat
  | [] => 0
  | x :: r => uptoBulkEntry x + uptoBulkEntries r
def uptoBulkEntry {H : Type} : Lit × DataW H → Nat
  | (.string bytes, d) => bytes.length + uptoBulk d + 1
  | (_, d) => uptoBulk d + 1
 end
def uptoSmall : (H : Type) → List (DataW H) → Bool := fun _ ds => decide (uptoBulkAll ds ≤ 1048576)
def OpenSpec.upto (s : _root_.Go.ChangeSpec) : _root_.Go.OpenSpec := { _root_.Go.OpenSpec.ofChange s with cond := some uptoSmall }

/-- 'stemmalaw01.NumsPuts', WHERE WHAT IT READS IS OF BULK AT MOST 1048576: true; the input reads as it did. -/
def numsPutsUptoRow : OpenClaim := { program := "ytdeofenojcmbaaa", sum := "7131bb81464ea302f5aeab45c83128aaadcb1f8a783340dd0f4f32999cae1e05", func := "stemma/stemmalaw01.NumsPuts", spec := "numsPuts", inPlace := ["internal/abi.NoEscape"], apart := false, narrowed := true }
def NumsPutsUptoSaid : Prop := numsPutsUptoRow.holds Try.pinned (OpenSpec.upto numsPutsSpec)

/-- 'stemmalaw01.NumsOrder', WHERE WHAT IT READS IS OF BULK AT MOST 1048576: true; the input reads as it did. -/
def numsOrderUptoRow : OpenClaim := { program := "ytdeofenojcmbaaa", sum := "7131bb81464ea302f5aeab45c83128aaadcb1f8a783340dd0f4f32999cae1e05", func := "stemma/stemmalaw01.NumsOrder", spec := "numsOrder", inPlace := ["internal/abi.NoEscape"], apart := false, narrowed := true }
def NumsOrderUptoSaid : Prop := numsOrderUptoRow.holds Try.pinned (OpenSpec.upto numsOrderSpec)

/-- 'stemmalaw01.NumsGets', WHERE WHAT IT READS IS OF BULK AT MOST 1048576: true; the input reads as it did. -/
def numsGetsUptoRow : OpenClaim := { program := "ytdeofenojcmbaaa", sum := "7131bb81464ea302f5aeab45c83128aaadcb1f8a783340dd0f4f32999cae1e05", func := "stemma/stemmalaw01.NumsGets", spec := "numsGets", inPlace := ["internal/abi.NoEscape"], apart := false, narrowed := true }
def NumsGetsUptoSaid : Prop := numsGetsUptoRow.holds Try.pinned (OpenSpec.upto numsGetsSpec)

/-- 'stemmalaw01.NumsSplits', WHERE WHAT IT READS IS OF BULK AT MOST 1048576: true; the input reads as it did. -/
def numsSplitsUptoRow : OpenClaim := { program := "ytdeofenojcmbaaa", sum := "7131bb81464ea302f5aeab45c83128aaadcb1f8a783340dd0f4f32999cae1e05", func := "stemma/stemmalaw01.NumsSplits", spec := "numsSplits", inPlace := ["internal/abi.NoEscape"], apart := false, narrowed := true }
def NumsSplitsUptoSaid : Prop := numsSplitsUptoRow.holds Try.pinned (OpenSpec.upto numsSplitsSpec)

/-- 'stemmalaw01.NumsAny', WHERE WHAT IT READS IS OF BULK AT MOST 1048576: true; the input reads as it did. -/
def numsAnyUptoRow : OpenClaim := { program := "ytdeofenojcmbaaa", sum := "7131bb81464ea302f5aeab45c83128aaadcb1f8a783340dd0f4f32999cae1e05", func := "stemma/stemmalaw01.NumsAny", spec := "numsAny", inPlace := ["internal/abi.NoEscape"], apart := false, narrowed := true }
def NumsAnyUptoSaid : Prop := numsAnyUptoRow.holds Try.pinned (OpenSpec.upto numsAnySpec)

end Rows
end Go.Proofs.Ytdeofenojcmbaaa
