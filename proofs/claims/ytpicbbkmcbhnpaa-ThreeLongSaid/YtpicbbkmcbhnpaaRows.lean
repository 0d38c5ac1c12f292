/-
  No cell of these rows narrows 'for every input' (looked for: loops, veiled, ifaces, maps, wideKeys, modest, calm, conditions, laid).
  DERIVED. THE GIVEN ROWS OF THIS SEAT. 5 by the template 'for every input the law returns true; each argument reads behind the call as it read before'; 0 by the template 'total and deterministic' (their statements: YtpicbbkmcbhnpaaTotals.lean).
  GIVEN WITH THE SEED: the statements are not yours to turn. If you find one false, say at which input.
  Laid BY PROGRAM, IN A SANDBOX (cutbox-rows.mjs): the forced cells as the released guide's own fill.sh prints them over the translation 73e9e39ab6ad6d7a… (all of the seat's roots in one cut). By AI agents, Wed Nov 11 2026. No macro, syntax, notation, axiom, sorry.
-/
import Derived.Test.YtpicbbkmcbhnpaaChecked
import GoSem.Claim
import GoSem.ClaimJoined
import GoSem.ClaimMapViews
import Derived.JoinedTies
import Derived.KernelRfl
namespace Go.Proofs.Ytpicbbkmcbhnpaa
/- THE CELL 'sum', in the pinned program and in every row, IS THE sha256 OF THE DUMP (.gsa) THAT YtpicbbkmcbhnpaaProg.lean LOADS. Nothing in Lean hashes anything: it is a label: what it is worth is what the hold of that sum in a sandbox is worth. -/
noncomputable def Try.pinned : Pinned := { name := "ytpicbbkmcbhnpaa", sum := "73e9e39ab6ad6d7a7efb56a7ec60a9e6572fc5baf788154f4b8b5d6bccbefe64", checked := Try.checked }
namespace Rows
def none {H : Type} : Left H := { results := [], args := [] }

/-- 'stemmalaw21.ThreeLists': WHATEVER THE INPUT: true; the input reads as it did. -/
def threeListsSpec : ChangeSpec := { name := "threeLists", fn := fun _ => fun
  | [d1, d2, d3] => { results := [.lit (.bool true)], args := [d1, d2, d3] }
  | _ => none }
def threeListsRow : OpenClaim := { program := "ytpicbbkmcbhnpaa", sum := "73e9e39ab6ad6d7a7efb56a7ec60a9e6572fc5baf788154f4b8b5d6bccbefe64", func := "stemma/stemmalaw21.ThreeLists", spec := "threeLists", unfollowed := true, recurses := true, apart := false }
def ThreeListsSaid : Prop := threeListsRow.holds Try.pinned (OpenSpec.ofChange threeListsSpec)

/-- ITS FALSE NEIGHBOUR: 'it returns false'. Refute it at one input. -/
def threeListsWrong : ChangeSpec := { name := "threeLists", fn := fun _ => fun
  | [d1, d2, d3] => { results := [.lit (.bool false)], args := [d1, d2, d3] }
  | _ => none }
def ThreeListsWrongFalsely : Prop := threeListsRow.holds Try.pinned (OpenSpec.ofChange threeListsWrong)

/-- 'stemmalaw21.ThreeLines': WHATEVER THE INPUT: true; the input reads as it did. -/
def threeLinesSpec : ChangeSpec := { name := "threeLines", fn := fun _ => fun
  | [d1, d2, d3] => { results := [.lit (.bool true)], args := [d1, d2, d3] }
  | _ => none }
def threeLinesRow : OpenClaim := { program := "ytpicbbkmcbhnpaa", sum := "73e9e39ab6ad6d7a7efb56a7ec60a9e6572fc5baf788154f4b8b5d6bccbefe64", func := "stemma/stemmalaw21.ThreeLines", spec := "threeLines", unfollowed := true, recurses := true, apart := false }
def ThreeLinesSaid : Prop := threeLinesRow.holds Try.pinned (OpenSpec.ofChange threeLinesSpec)

/-- ITS FALSE NEIGHBOUR: 'it returns false'. Refute it at one input. -/
def threeLinesWrong : ChangeSpec := { name := "threeLines", fn := fun _ => fun
  | [d1, d2, d3] => { results := [.lit (.bool false)], args := [d1, d2, d3] }
  | _ => none }
def ThreeLinesWrongFalsely : Prop := threeLinesRow.holds Try.pinned (OpenSpec.ofChange threeLinesWrong)

/-- 'stemmalaw21.ThreeSides': WHATEVER THE INPUT: true; the input reads as it did. -/
def threeSidesSpec : ChangeSpec := { name := "threeSides", fn := fun _ => fun
  | [d1, d2, d3] => { results := [.lit (.bool true)], args := [d1, d2, d3] }
  | _ => none }
def threeSidesRow : OpenClaim := { program := "ytpicbbkmcbhnpaa", sum := "73e9e39ab6ad6d7a7efb56a7ec60a9e6572fc5baf788154f4b8b5d6bccbefe64", func := "stemma/stemmalaw21.ThreeSides", spec := "threeSides", unfollowed := true, recurses := true, apart := false }
def ThreeSidesSaid : Prop := threeSidesRow.holds Try.pinned (OpenSpec.ofChange threeSidesSpec)

/-- ITS FALSE NEIGHBOUR: 'it returns false'. Refute it at one input. -/
def threeSidesWrong : ChangeSpec := { name := "threeSides", fn := fun _ => fun
  | [d1, d2, d3] => { results := [.lit (.bool false)], args := [d1, d2, d3] }
  | _ => none }
def ThreeSidesWrongFalsely : Prop := threeSidesRow.holds Try.pinned (OpenSpec.ofChange threeSidesWrong)

/-- 'stemmalaw21.ThreeLong': WHATEVER THE INPUT: true; the input reads as it did. -/
def threeLongSpec : ChangeSpec := { name := "threeLong", fn := fun _ => fun
  | [d1, d2] => { results := [.lit (.bool true)], args := [d1, d2] }
  | _ => none }
def threeLongRow : OpenClaim := { program := "ytpicbbkmcbhnpaa", sum := "73e9e39ab6ad6d7a7efb56a7ec60a9e6572fc5baf788154f4b8b5d6bccbefe64", func := "stemma/stemmalaw21.ThreeLong", spec := "threeLong", unfollowed := true, recurses := true, apart := false }
def ThreeLongSaid : Prop := threeLongRow.holds Try.pinned (OpenSpec.ofChange threeLongSpec)

/-- ITS FALSE NEIGHBOUR: 'it returns false'. Refute it at one input. -/
def threeLongWrong : ChangeSpec := { name := "threeLong", fn := fun _ => fun
  | [d1, d2] => { results := [.lit (.bool false)], args := [d1, d2] }
  | _ => none }
def ThreeLongWrongFalsely : Prop := threeLongRow.holds Try.pinned (OpenSpec.ofChange threeLongWrong)

/-- 'stemmalaw21.ThreeTurned': WHATEVER THE INPUT: true; the input reads as it did. -/
def threeTurnedSpec : ChangeSpec := { name := "threeTurned", fn := fun _ => fun
  | [d1, d2, d3] => { results := [.lit (.bool true)], args := [d1, d2, d3] }
  | _ => none }
def threeTurnedRow : OpenClaim := { program := "ytpicbbkmcbhnpaa", sum := "73e9e39ab6ad6d7a7efb56a7ec60a9e6572fc5baf788154f4b8b5d6bccbefe64", func := "stemma/stemmalaw21.ThreeTurned", spec := "threeTurned", unfollowed := true, recurses := true, apart := false }
def ThreeTurnedSaid : Prop := threeTurnedRow.holds Try.pinned (OpenSpec.ofChange threeTurnedSpec)

/-- ITS FALSE NEIGHBOUR: 'it returns false'. Refute it at one input. -/
def threeTurnedWrong : ChangeSpec := { name := "threeTurned", fn := fun _ => fun
  | [d1, d2, d3] => { results := [.lit (.bool false)], args := [d1, d2, d3] }
  | _ => none }
def ThreeTurnedWrongFalsely : Prop := threeTurnedRow.holds Try.pinned (OpenSpec.ofChange threeTurnedWrong)

/- THE SECOND FORM. 'bulk': how many values and letters a reading holds, each counted each time it is reached (what is shared counts as often as it is met; a slice's spare places count too). A statement '..UptoSaid' is the law's where the arguments, and the package variables that the reading takes, are together of bulk at most 1048576: NARROWER than '..Said'. Prove '..Said' where nothing that the law and all that it calls make is longer than what came in: it says more and counts as full. Else prove '..UptoSaid'. A law counts once. -/
mutual
def uptoBulk {H : Type} : DataW H → Nat
  | .lit (.string bytes) => bytes.length + 1
  | .lit _ => 1
  | .nil => 1
  | .ptr d => uptoBulk d + 1
  | .slice elems spare => uptoBulkAll elems + uptoBulkAll spare + 1
  | .agg parts => uptoBulkAll parts + 1
  | .iface _ d => uptoBulk d + 1
  | .map entries => uptoBulkEntries entries + 1
  | .held _ => 1
def uptoBulkAll {H : Type} : List (DataW H) → Nat
  | [] => 0
  | d :: r => uptoBulk d + uptoBulkAll r
def uptoBulkEntries {H : Type} : List (Lit × DataW H) → Nat
  | [] => 0
  | x :: r => uptoBulkEntry x + uptoBulkEntries r
def uptoBulkEntry {H : Type} : Lit × DataW H → Nat
  | (.string bytes, d) => bytes.length + uptoBulk d + 1
  | (_, d) => uptoBulk d + 1
 end
def uptoSmall : (H : Type) → List (DataW H) → Bool := fun _ ds => decide (uptoBulkAll ds ≤ 1048576)
def OpenSpec.upto (s : _root_.Go.ChangeSpec) : _root_.Go.OpenSpec := { _root_.Go.OpenSpec.ofChange s with cond := some uptoSmall }

/-- 'stemmalaw21.ThreeLists', WHERE WHAT IT READS IS OF BULK AT MOST 1048576: true; the input reads as it did. -/
def threeListsUptoRow : OpenClaim := { program := "ytpicbbkmcbhnpaa", sum := "73e9e39ab6ad6d7a7efb56a7ec60a9e6572fc5baf788154f4b8b5d6bccbefe64", func := "stemma/stemmalaw21.ThreeLists", spec := "threeLists", unfollowed := true, recurses := true, apart := false, narrowed := true }
def ThreeListsUptoSaid : Prop := threeListsUptoRow.holds Try.pinned (OpenSpec.upto threeListsSpec)

/-- 'stemmalaw21.ThreeLines', WHERE WHAT IT READS IS OF BULK AT MOST 1048576: true; the input reads as it did. -/
def threeLinesUptoRow : OpenClaim := { program := "ytpicbbkmcbhnpaa", sum := "73e9e39ab6ad6d7a7efb56a7ec60a9e6572fc5baf788154f4b8b5d6bccbefe64", func := "stemma/stemmalaw21.ThreeLines", spec := "threeLines", unfollowed := true, recurses := true, apart := false, narrowed := true }
def ThreeLinesUptoSaid : Prop := threeLinesUptoRow.holds Try.pinned (OpenSpec.upto threeLinesSpec)

/-- 'stemmalaw21.ThreeSides', WHERE WHAT IT READS IS OF BULK AT MOST 1048576: true; the input reads as it did. -/
def threeSidesUptoRow : OpenClaim := { program := "ytpicbbkmcbhnpaa", sum := "73e9e39ab6ad6d7a7efb56a7ec60a9e6572fc5baf788154f4b8b5d6bccbefe64", func := "stemma/stemmalaw21.ThreeSides", spec := "threeSides", unfollowed := true, recurses := true, apart := false, narrowed := true }
def ThreeSidesUptoSaid : Prop := threeSidesUptoRow.holds Try.pinned (OpenSpec.upto threeSidesSpec)

/-- 'stemmalaw21.ThreeLong', WHERE WHAT IT READS IS OF BULK AT MOST 1048576: true; the input reads as it did. -/
def threeLongUptoRow : OpenClaim := { program := "ytpicbbkmcbhnpaa", sum := "73e9e39ab6ad6d7a7efb56a7ec60a9e6572fc5baf788154f4b8b5d6bccbefe64", func := "stemma/stemmalaw21.ThreeLong", spec := "threeLong", unfollowed := true, recurses := true, apart := false, narrowed := true }
def ThreeLongUptoSaid : Prop := threeLongUptoRow.holds Try.pinned (OpenSpec.upto threeLongSpec)

/-- 'stemmalaw21.ThreeTurned', WHERE WHAT IT READS IS OF BULK AT MOST 1048576: true; the input reads as it did. -/
def threeTurnedUptoRow : OpenClaim := { program := "ytpicbbkmcbhnpaa", sum := "73e9e39ab6ad6d7a7efb56a7ec60a9e6572fc5baf788154f4b8b5d6bccbefe64", func := "stemma/stemmalaw21.ThreeTurned", spec := "threeTurned", unfollowed := true, recurses := true, apart := false, narrowed := true }
def ThreeTurnedUptoSaid : Prop := threeTurnedUptoRow.holds Try.pinned (OpenSpec.upto threeTurnedSpec)

end Rows
end Go.Proofs.Ytpicbbkmcbhnpaa
