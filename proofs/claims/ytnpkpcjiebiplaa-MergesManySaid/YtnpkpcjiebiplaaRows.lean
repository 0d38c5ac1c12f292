/-
  No cell of these rows narrows 'for every input' (looked for: loops, veiled, ifaces, maps, wideKeys, modest, calm, conditions, laid).
  DERIVED. THE GIVEN ROWS OF THIS SEAT. 7 by the template 'for every input the law returns true; each argument reads behind the call as it read before'; 0 by the template 'total and deterministic' (their statements: YtnpkpcjiebiplaaTotals.lean).
  GIVEN WITH THE SEED: the statements are not yours to turn. If you find one false, say at which input.
  Laid BY PROGRAM, IN A SANDBOX (cutbox-rows.mjs): the forced cells as the released guide's own fill.sh prints them over the translation 1bcd781affe14b4a… (all of the seat's roots in one cut). By AI agents, Wed Nov 11 2026. No macro, syntax, notation, axiom, sorry.
-/
import Derived.Test.YtnpkpcjiebiplaaChecked
import GoSem.Claim
import GoSem.ClaimJoined
import GoSem.ClaimMapViews
import Derived.JoinedTies
import Derived.KernelRfl
namespace Go.Proofs.Ytnpkpcjiebiplaa
/- THE CELL 'sum', in the pinned program and in every row, IS THE sha256 OF THE DUMP (.gsa) THAT YtnpkpcjiebiplaaProg.lean LOADS. Nothing in Lean hashes anything: it is a label: what it is worth is what the hold of that sum in a sandbox is worth. -/
noncomputable def Try.pinned : Pinned := { name := "ytnpkpcjiebiplaa", sum := "1bcd781affe14b4a6daf788615f0d6586fa2aab663d52a5227c37f18db5d851c", checked := Try.checked }
namespace Rows
def none {H : Type} : Left H := { results := [], args := [] }

/-- 'stemmalaw08.MergesMany': WHATEVER THE INPUT: true; the input reads as it did. -/
def mergesManySpec : ChangeSpec := { name := "mergesMany", fn := fun _ => fun
  | [d1, d2] => { results := [.lit (.bool true)], args := [d1, d2] }
  | _ => none }
def mergesManyRow : OpenClaim := { program := "ytnpkpcjiebiplaa", sum := "1bcd781affe14b4a6daf788615f0d6586fa2aab663d52a5227c37f18db5d851c", func := "stemma/stemmalaw08.MergesMany", spec := "mergesMany", inPlace := ["internal/bytealg.IndexByteString", "internal/bytealg.IndexString"], unfollowed := true, recurses := true, named := ["internal/bytealg.MaxLen"], plainKeys := false, apart := false }
def MergesManySaid : Prop := mergesManyRow.holds Try.pinned (OpenSpec.ofChange mergesManySpec)

/-- ITS FALSE NEIGHBOUR: 'it returns false'. Refute it at one input. -/
def mergesManyWrong : ChangeSpec := { name := "mergesMany", fn := fun _ => fun
  | [d1, d2] => { results := [.lit (.bool false)], args := [d1, d2] }
  | _ => none }
def MergesManyWrongFalsely : Prop := mergesManyRow.holds Try.pinned (OpenSpec.ofChange mergesManyWrong)

/-- 'stemmalaw08.MergesInvalid': WHATEVER THE INPUT: true; the input reads as it did. -/
def mergesInvalidSpec : ChangeSpec := { name := "mergesInvalid", fn := fun _ => fun
  | [d1, d2] => { results := [.lit (.bool true)], args := [d1, d2] }
  | _ => none }
def mergesInvalidRow : OpenClaim := { program := "ytnpkpcjiebiplaa", sum := "1bcd781affe14b4a6daf788615f0d6586fa2aab663d52a5227c37f18db5d851c", func := "stemma/stemmalaw08.MergesInvalid", spec := "mergesInvalid", inPlace := ["internal/bytealg.IndexByteString", "internal/bytealg.IndexString"], unfollowed := true, recurses := true, named := ["internal/bytealg.MaxLen"], plainKeys := false, apart := false }
def MergesInvalidSaid : Prop := mergesInvalidRow.holds Try.pinned (OpenSpec.ofChange mergesInvalidSpec)

/-- ITS FALSE NEIGHBOUR: 'it returns false'. Refute it at one input. -/
def mergesInvalidWrong : ChangeSpec := { name := "mergesInvalid", fn := fun _ => fun
  | [d1, d2] => { results := [.lit (.bool false)], args := [d1, d2] }
  | _ => none }
def MergesInvalidWrongFalsely : Prop := mergesInvalidRow.holds Try.pinned (OpenSpec.ofChange mergesInvalidWrong)

/-- 'stemmalaw08.MergesSplit': WHATEVER THE INPUT: true; the input reads as it did. -/
def mergesSplitSpec : ChangeSpec := { name := "mergesSplit", fn := fun _ => fun
  | [d1, d2] => { results := [.lit (.bool true)], args := [d1, d2] }
  | _ => none }
def mergesSplitRow : OpenClaim := { program := "ytnpkpcjiebiplaa", sum := "1bcd781affe14b4a6daf788615f0d6586fa2aab663d52a5227c37f18db5d851c", func := "stemma/stemmalaw08.MergesSplit", spec := "mergesSplit", inPlace := ["internal/bytealg.IndexByteString", "internal/bytealg.IndexString"], unfollowed := true, recurses := true, named := ["internal/bytealg.MaxLen"], plainKeys := false, apart := false }
def MergesSplitSaid : Prop := mergesSplitRow.holds Try.pinned (OpenSpec.ofChange mergesSplitSpec)

/-- ITS FALSE NEIGHBOUR: 'it returns false'. Refute it at one input. -/
def mergesSplitWrong : ChangeSpec := { name := "mergesSplit", fn := fun _ => fun
  | [d1, d2] => { results := [.lit (.bool false)], args := [d1, d2] }
  | _ => none }
def MergesSplitWrongFalsely : Prop := mergesSplitRow.holds Try.pinned (OpenSpec.ofChange mergesSplitWrong)

/-- 'stemmalaw08.MergesWhole': WHATEVER THE INPUT: true; the input reads as it did. -/
def mergesWholeSpec : ChangeSpec := { name := "mergesWhole", fn := fun _ => fun
  | [d1, d2] => { results := [.lit (.bool true)], args := [d1, d2] }
  | _ => none }
def mergesWholeRow : OpenClaim := { program := "ytnpkpcjiebiplaa", sum := "1bcd781affe14b4a6daf788615f0d6586fa2aab663d52a5227c37f18db5d851c", func := "stemma/stemmalaw08.MergesWhole", spec := "mergesWhole", inPlace := ["internal/bytealg.IndexByteString", "internal/bytealg.IndexString"], unfollowed := true, recurses := true, named := ["internal/bytealg.MaxLen"], plainKeys := false, apart := false }
def MergesWholeSaid : Prop := mergesWholeRow.holds Try.pinned (OpenSpec.ofChange mergesWholeSpec)

/-- ITS FALSE NEIGHBOUR: 'it returns false'. Refute it at one input. -/
def mergesWholeWrong : ChangeSpec := { name := "mergesWhole", fn := fun _ => fun
  | [d1, d2] => { results := [.lit (.bool false)], args := [d1, d2] }
  | _ => none }
def MergesWholeWrongFalsely : Prop := mergesWholeRow.holds Try.pinned (OpenSpec.ofChange mergesWholeWrong)

/-- 'stemmalaw08.MergesLonger': WHATEVER THE INPUT: true; the input reads as it did. -/
def mergesLongerSpec : ChangeSpec := { name := "mergesLonger", fn := fun _ => fun
  | [d1, d2, d3] => { results := [.lit (.bool true)], args := [d1, d2, d3] }
  | _ => none }
def mergesLongerRow : OpenClaim := { program := "ytnpkpcjiebiplaa", sum := "1bcd781affe14b4a6daf788615f0d6586fa2aab663d52a5227c37f18db5d851c", func := "stemma/stemmalaw08.MergesLonger", spec := "mergesLonger", inPlace := ["internal/bytealg.IndexByteString", "internal/bytealg.IndexString"], unfollowed := true, recurses := true, named := ["internal/bytealg.MaxLen"], plainKeys := false, apart := false }
def MergesLongerSaid : Prop := mergesLongerRow.holds Try.pinned (OpenSpec.ofChange mergesLongerSpec)

/-- ITS FALSE NEIGHBOUR: 'it returns false'. Refute it at one input. -/
def mergesLongerWrong : ChangeSpec := { name := "mergesLonger", fn := fun _ => fun
  | [d1, d2, d3] => { results := [.lit (.bool false)], args := [d1, d2, d3] }
  | _ => none }
def MergesLongerWrongFalsely : Prop := mergesLongerRow.holds Try.pinned (OpenSpec.ofChange mergesLongerWrong)

/-- 'stemmalaw08.MergesOne': WHATEVER THE INPUT: true; the input reads as it did. -/
def mergesOneSpec : ChangeSpec := { name := "mergesOne", fn := fun _ => fun
  | [d1, d2, d3] => { results := [.lit (.bool true)], args := [d1, d2, d3] }
  | _ => none }
def mergesOneRow : OpenClaim := { program := "ytnpkpcjiebiplaa", sum := "1bcd781affe14b4a6daf788615f0d6586fa2aab663d52a5227c37f18db5d851c", func := "stemma/stemmalaw08.MergesOne", spec := "mergesOne", inPlace := ["internal/bytealg.IndexByteString", "internal/bytealg.IndexString"], unfollowed := true, recurses := true, named := ["internal/bytealg.MaxLen"], plainKeys := false, apart := false }
def MergesOneSaid : Prop := mergesOneRow.holds Try.pinned (OpenSpec.ofChange mergesOneSpec)

/-- ITS FALSE NEIGHBOUR: 'it returns false'. Refute it at one input. -/
def mergesOneWrong : ChangeSpec := { name := "mergesOne", fn := fun _ => fun
  | [d1, d2, d3] => { results := [.lit (.bool false)], args := [d1, d2, d3] }
  | _ => none }
def MergesOneWrongFalsely : Prop := mergesOneRow.holds Try.pinned (OpenSpec.ofChange mergesOneWrong)

/-- 'stemmalaw08.MergesParse': WHATEVER THE INPUT: true; the input reads as it did. -/
def mergesParseSpec : ChangeSpec := { name := "mergesParse", fn := fun _ => fun
  | [d] => { results := [.lit (.bool true)], args := [d] }
  | _ => none }
def mergesParseRow : OpenClaim := { program := "ytnpkpcjiebiplaa", sum := "1bcd781affe14b4a6daf788615f0d6586fa2aab663d52a5227c37f18db5d851c", func := "stemma/stemmalaw08.MergesParse", spec := "mergesParse", inPlace := ["internal/bytealg.IndexByteString", "internal/bytealg.IndexString", "internal/abi.NoEscape"], unfollowed := true, recurses := true, named := ["internal/bytealg.MaxLen"], plainKeys := false, apart := false }
def MergesParseSaid : Prop := mergesParseRow.holds Try.pinned (OpenSpec.ofChange mergesParseSpec)

/-- ITS FALSE NEIGHBOUR: 'it returns false'. Refute it at one input. -/
def mergesParseWrong : ChangeSpec := { name := "mergesParse", fn := fun _ => fun
  | [d] => { results := [.lit (.bool false)], args := [d] }
  | _ => none }
def MergesParseWrongFalsely : Prop := mergesParseRow.holds Try.pinned (OpenSpec.ofChange mergesParseWrong)

/- THE SECOND FORM. 'bulk': how many values and letters a reading holds, each counted each time it is reached (what is shared counts as often as it is met; a slice's spare places count too). A statement '..UptoSaid' is the law's where the arguments, and the package variables that the reading takes, are together of bulk at most 1048576: NARROWER than '..Said'. Prove '..Said' where nothing that the law and all that it calls make is longer than what came in: it says more and counts as full. Else prove '..UptoSaid'. A law counts once. -/
mutual
def uptoBulk {H : Type} : DataW H → Nat
  | .lit (.string bytes) => bytes.length + 1
  | .lit _ => 1
  | .nil => 1
  | .ptr d => uptoBulk d + 1
  | .slice elems spare => uptoBulkAll elems + uptoBulkAll spare + 1
  | .agg parts => uptoBulkAll parts + 1
  | .iface _ d => uptoBulk d + 1
  | .map entries => uptoBulkEntries entries + 1
  | .held _ => 1
def uptoBulkAll {H : Type} : List (DataW H) → Nat
  | [] => 0
  | d :: r => uptoBulk d + uptoBulkAll r
def uptoBulkEntries {H : Type} : List (Lit × DataW H) → Nat
  | [] => 0
  | x :: r => uptoBulkEntry x + uptoBulkEntries r
def uptoBulkEntry {H : Type} : Lit × DataW H → Nat
  | (.string bytes, d) => bytes.length + uptoBulk d + 1
  | (_, d) => uptoBulk d + 1
 end
def uptoSmall : (H : Type) → List (DataW H) → Bool := fun _ ds => decide (uptoBulkAll ds ≤ 1048576)
def OpenSpec.upto (s : _root_.Go.ChangeSpec) : _root_.Go.OpenSpec := { _root_.Go.OpenSpec.ofChange s with cond := some uptoSmall }

/-- 'stemmalaw08.MergesMany', WHERE WHAT IT READS IS OF BULK AT MOST 1048576: true; the input reads as it did. -/
def mergesManyUptoRow : OpenClaim := { program := "ytnpkpcjiebiplaa", sum := "1bcd781affe14b4a6daf788615f0d6586fa2aab663d52a5227c37f18db5d851c", func := "stemma/stemmalaw08.MergesMany", spec := "mergesMany", inPlace := ["internal/bytealg.IndexByteString", "internal/bytealg.IndexString"], unfollowed := true, recurses := true, named := ["internal/bytealg.MaxLen"], plainKeys := false, apart := false, narrowed := true }
def MergesManyUptoSaid : Prop := mergesManyUptoRow.holds Try.pinned (OpenSpec.upto mergesManySpec)

/-- 'stemmalaw08.MergesInvalid', WHERE WHAT IT READS IS OF BULK AT MOST 1048576: true; the input reads as it did. -/
def mergesInvalidUptoRow : OpenClaim := { program := "ytnpkpcjiebiplaa", sum := "1bcd781affe14b4a6daf788615f0d6586fa2aab663d52a5227c37f18db5d851c", func := "stemma/stemmalaw08.MergesInvalid", spec := "mergesInvalid", inPlace := ["internal/bytealg.IndexByteString", "internal/bytealg.IndexString"], unfollowed := true, recurses := true, named := ["internal/bytealg.MaxLen"], plainKeys := false, apart := false, narrowed := true }
def MergesInvalidUptoSaid : Prop := mergesInvalidUptoRow.holds Try.pinned (OpenSpec.upto mergesInvalidSpec)

/-- 'stemmalaw08.MergesSplit', WHERE WHAT IT READS IS OF BULK AT MOST 1048576: true; the input reads as it did. -/
def mergesSplitUptoRow : OpenClaim := { program := "ytnpkpcjiebiplaa", sum := "1bcd781affe14b4a6daf788615f0d6586fa2aab663d52a5227c37f18db5d851c", func := "stemma/stemmalaw08.MergesSplit", spec := "mergesSplit", inPlace := ["internal/bytealg.IndexByteString", "internal/bytealg.IndexString"], unfollowed := true, recurses := true, named := ["internal/bytealg.MaxLen"], plainKeys := false, apart := false, narrowed := true }
def MergesSplitUptoSaid : Prop := mergesSplitUptoRow.holds Try.pinned (OpenSpec.upto mergesSplitSpec)

/-- 'stemmalaw08.MergesWhole', WHERE WHAT IT READS IS OF BULK AT MOST 1048576: true; the input reads as it did. -/
def mergesWholeUptoRow : OpenClaim := { program := "ytnpkpcjiebiplaa", sum := "1bcd781affe14b4a6daf788615f0d6586fa2aab663d52a5227c37f18db5d851c", func := "stemma/stemmalaw08.MergesWhole", spec := "mergesWhole", inPlace := ["internal/bytealg.IndexByteString", "internal/bytealg.IndexString"], unfollowed := true, recurses := true, named := ["internal/bytealg.MaxLen"], plainKeys := false, apart := false, narrowed := true }
def MergesWholeUptoSaid : Prop := mergesWholeUptoRow.holds Try.pinned (OpenSpec.upto mergesWholeSpec)

/-- 'stemmalaw08.MergesLonger', WHERE WHAT IT READS IS OF BULK AT MOST 1048576: true; the input reads as it did. -/
def mergesLongerUptoRow : OpenClaim := { program := "ytnpkpcjiebiplaa", sum := "1bcd781affe14b4a6daf788615f0d6586fa2aab663d52a5227c37f18db5d851c", func := "stemma/stemmalaw08.MergesLonger", spec := "mergesLonger", inPlace := ["internal/bytealg.IndexByteString", "internal/bytealg.IndexString"], unfollowed := true, recurses := true, named := ["internal/bytealg.MaxLen"], plainKeys := false, apart := false, narrowed := true }
def MergesLongerUptoSaid : Prop := mergesLongerUptoRow.holds Try.pinned (OpenSpec.upto mergesLongerSpec)

/-- 'stemmalaw08.MergesOne', WHERE WHAT IT READS IS OF BULK AT MOST 1048576: true; the input reads as it did. -/
def mergesOneUptoRow : OpenClaim := { program := "ytnpkpcjiebiplaa", sum := "1bcd781affe14b4a6daf788615f0d6586fa2aab663d52a5227c37f18db5d851c", func := "stemma/stemmalaw08.MergesOne", spec := "mergesOne", inPlace := ["internal/bytealg.IndexByteString", "internal/bytealg.IndexString"], unfollowed := true, recurses := true, named := ["internal/bytealg.MaxLen"], plainKeys := false, apart := false, narrowed := true }
def MergesOneUptoSaid : Prop := mergesOneUptoRow.holds Try.pinned (OpenSpec.upto mergesOneSpec)

/-- 'stemmalaw08.MergesParse', WHERE WHAT IT READS IS OF BULK AT MOST 1048576: true; the input reads as it did. -/
def mergesParseUptoRow : OpenClaim := { program := "ytnpkpcjiebiplaa", sum := "1bcd781affe14b4a6daf788615f0d6586fa2aab663d52a5227c37f18db5d851c", func := "stemma/stemmalaw08.MergesParse", spec := "mergesParse", inPlace := ["internal/bytealg.IndexByteString", "internal/bytealg.IndexString", "internal/abi.NoEscape"], unfollowed := true, recurses := true, named := ["internal/bytealg.MaxLen"], plainKeys := false, apart := false, narrowed := true }
def MergesParseUptoSaid : Prop := mergesParseUptoRow.holds Try.pinned (OpenSpec.upto mergesParseSpec)

end Rows
end Go.Proofs.Ytnpkpcjiebiplaa
