/-
  No cell of these rows narrows 'for every input' (looked for: loops, veiled, ifaces, maps, wideKeys, modest, calm, conditions, laid).
  DERIVED. THE GIVEN ROWS OF THIS SEAT. 5 by the template 'for every input the law returns true; each argument reads behind the call as it read before'; 0 by the template 'total and deterministic' (their statements: YtbbeifdmgmadiaaTotals.lean).
  GIVEN WITH THE SEED: the statements are not yours to turn. If you find one false, say at which input.
  Laid BY PROGRAM, IN A SANDBOX (cutbox-rows.mjs): the forced cells as the released guide's own fill.sh prints them over the translation 1c77f36c07f2afd6… (all of the seat's roots in one cut). By AI agents, Wed Nov 11 2026. No macro, syntax, notation, axiom, sorry.
-/
import Derived.Test.YtbbeifdmgmadiaaChecked
import GoSem.Claim
import GoSem.ClaimJoined
import GoSem.ClaimMapViews
import Derived.JoinedTies
import Derived.KernelRfl
namespace Go.Proofs.Ytbbeifdmgmadiaa
/- THE CELL 'sum', in the pinned program and in every row, IS THE sha256 OF THE DUMP (.gsa) THAT YtbbeifdmgmadiaaProg.lean LOADS. Nothing in Lean hashes anything: it is a label: what it is worth is what the hold of that sum in a sandbox is worth. -/
noncomputable def Try.pinned : Pinned := { name := "ytbbeifdmgmadiaa", sum := "1c77f36c07f2afd60821ea2f4a498287e5bba35e154aa9bac5488c6e5f01df95", checked := Try.checked }
namespace Rows
def none {H : Type} : Left H := { results := [], args := [] }

/-- 'stemmalaw20.KeydiffMerges': WHATEVER THE INPUT: true; the input reads as it did. -/
def keydiffMergesSpec : ChangeSpec := { name := "keydiffMerges", fn := fun _ => fun
  | [d1, d2, d3] => { results := [.lit (.bool true)], args := [d1, d2, d3] }
  | _ => none }
def keydiffMergesRow : OpenClaim := { program := "ytbbeifdmgmadiaa", sum := "1c77f36c07f2afd60821ea2f4a498287e5bba35e154aa9bac5488c6e5f01df95", func := "stemma/stemmalaw20.KeydiffMerges", spec := "keydiffMerges", unfollowed := true, recurses := true, apart := false }
def KeydiffMergesSaid : Prop := keydiffMergesRow.holds Try.pinned (OpenSpec.ofChange keydiffMergesSpec)

/-- ITS FALSE NEIGHBOUR: 'it returns false'. Refute it at one input. -/
def keydiffMergesWrong : ChangeSpec := { name := "keydiffMerges", fn := fun _ => fun
  | [d1, d2, d3] => { results := [.lit (.bool false)], args := [d1, d2, d3] }
  | _ => none }
def KeydiffMergesWrongFalsely : Prop := keydiffMergesRow.holds Try.pinned (OpenSpec.ofChange keydiffMergesWrong)

/-- 'stemmalaw20.KeydiffSides': WHATEVER THE INPUT: true; the input reads as it did. -/
def keydiffSidesSpec : ChangeSpec := { name := "keydiffSides", fn := fun _ => fun
  | [d1, d2, d3] => { results := [.lit (.bool true)], args := [d1, d2, d3] }
  | _ => none }
def keydiffSidesRow : OpenClaim := { program := "ytbbeifdmgmadiaa", sum := "1c77f36c07f2afd60821ea2f4a498287e5bba35e154aa9bac5488c6e5f01df95", func := "stemma/stemmalaw20.KeydiffSides", spec := "keydiffSides", unfollowed := true, recurses := true, apart := false }
def KeydiffSidesSaid : Prop := keydiffSidesRow.holds Try.pinned (OpenSpec.ofChange keydiffSidesSpec)

/-- ITS FALSE NEIGHBOUR: 'it returns false'. Refute it at one input. -/
def keydiffSidesWrong : ChangeSpec := { name := "keydiffSides", fn := fun _ => fun
  | [d1, d2, d3] => { results := [.lit (.bool false)], args := [d1, d2, d3] }
  | _ => none }
def KeydiffSidesWrongFalsely : Prop := keydiffSidesRow.holds Try.pinned (OpenSpec.ofChange keydiffSidesWrong)

/-- 'stemmalaw20.KeydiffApplies': WHATEVER THE INPUT: true; the input reads as it did. -/
def keydiffAppliesSpec : ChangeSpec := { name := "keydiffApplies", fn := fun _ => fun
  | [d1, d2] => { results := [.lit (.bool true)], args := [d1, d2] }
  | _ => none }
def keydiffAppliesRow : OpenClaim := { program := "ytbbeifdmgmadiaa", sum := "1c77f36c07f2afd60821ea2f4a498287e5bba35e154aa9bac5488c6e5f01df95", func := "stemma/stemmalaw20.KeydiffApplies", spec := "keydiffApplies", unfollowed := true, recurses := true, apart := false }
def KeydiffAppliesSaid : Prop := keydiffAppliesRow.holds Try.pinned (OpenSpec.ofChange keydiffAppliesSpec)

/-- ITS FALSE NEIGHBOUR: 'it returns false'. Refute it at one input. -/
def keydiffAppliesWrong : ChangeSpec := { name := "keydiffApplies", fn := fun _ => fun
  | [d1, d2] => { results := [.lit (.bool false)], args := [d1, d2] }
  | _ => none }
def KeydiffAppliesWrongFalsely : Prop := keydiffAppliesRow.holds Try.pinned (OpenSpec.ofChange keydiffAppliesWrong)

/-- 'stemmalaw20.KeydiffChanges': WHATEVER THE INPUT: true; the input reads as it did. -/
def keydiffChangesSpec : ChangeSpec := { name := "keydiffChanges", fn := fun _ => fun
  | [d1, d2] => { results := [.lit (.bool true)], args := [d1, d2] }
  | _ => none }
def keydiffChangesRow : OpenClaim := { program := "ytbbeifdmgmadiaa", sum := "1c77f36c07f2afd60821ea2f4a498287e5bba35e154aa9bac5488c6e5f01df95", func := "stemma/stemmalaw20.KeydiffChanges", spec := "keydiffChanges", unfollowed := true, recurses := true, apart := false }
def KeydiffChangesSaid : Prop := keydiffChangesRow.holds Try.pinned (OpenSpec.ofChange keydiffChangesSpec)

/-- ITS FALSE NEIGHBOUR: 'it returns false'. Refute it at one input. -/
def keydiffChangesWrong : ChangeSpec := { name := "keydiffChanges", fn := fun _ => fun
  | [d1, d2] => { results := [.lit (.bool false)], args := [d1, d2] }
  | _ => none }
def KeydiffChangesWrongFalsely : Prop := keydiffChangesRow.holds Try.pinned (OpenSpec.ofChange keydiffChangesWrong)

/-- 'stemmalaw20.KeydiffChain': WHATEVER THE INPUT: true; the input reads as it did. -/
def keydiffChainSpec : ChangeSpec := { name := "keydiffChain", fn := fun _ => fun
  | [d1, d2, d3] => { results := [.lit (.bool true)], args := [d1, d2, d3] }
  | _ => none }
def keydiffChainRow : OpenClaim := { program := "ytbbeifdmgmadiaa", sum := "1c77f36c07f2afd60821ea2f4a498287e5bba35e154aa9bac5488c6e5f01df95", func := "stemma/stemmalaw20.KeydiffChain", spec := "keydiffChain", unfollowed := true, recurses := true, apart := false }
def KeydiffChainSaid : Prop := keydiffChainRow.holds Try.pinned (OpenSpec.ofChange keydiffChainSpec)

/-- ITS FALSE NEIGHBOUR: 'it returns false'. Refute it at one input. -/
def keydiffChainWrong : ChangeSpec := { name := "keydiffChain", fn := fun _ => fun
  | [d1, d2, d3] => { results := [.lit (.bool false)], args := [d1, d2, d3] }
  | _ => none }
def KeydiffChainWrongFalsely : Prop := keydiffChainRow.holds Try.pinned (OpenSpec.ofChange keydiffChainWrong)

/- THE SECOND FORM. 'bulk': how many values and letters a reading holds, each counted each time it is reached (what is shared counts as often as it is met; a slice's spare places count too). A statement '..UptoSaid' is the law's where the arguments, and the package variables that the reading takes, are together of bulk at most 1048576: NARROWER than '..Said'. Prove '..Said' where nothing that the law and all that it calls make is longer than what came in: it says more and counts as full. Else prove '..UptoSaid'. A law counts once. -/
mutual
def uptoBulk {H : Type} : DataW H → Nat
  | .lit (.string bytes) => bytes.length + 1
  | .lit _ => 1
  | .nil => 1
  | .ptr d => uptoBulk d + 1
  | .slice elems spare => uptoBulkAll elems + uptoBulkAll spare + 1
  | .agg parts => uptoBulkAll parts + 1
  | .iface _ d => uptoBulk d + 1
  | .map entries => uptoBulkEntries entries + 1
  | .held _ => 1
def uptoBulkAll {H : Type} : List (DataW H) → Nat
  | [] => 0
  | d :: r => uptoBulk d + uptoBulkAll r
def uptoBulkEntries {H : Type} : List (Lit × DataW H) → Nat
  | [] => 0
  | x :: r => uptoBulkEntry x + uptoBulkEntries r
def uptoBulkEntry {H : Type} : Lit × DataW H → Nat
  | (.string bytes, d) => bytes.length + uptoBulk d + 1
  | (_, d) => uptoBulk d + 1
 end
def uptoSmall : (H : Type) → List (DataW H) → Bool := fun _ ds => decide (uptoBulkAll ds ≤ 1048576)
def OpenSpec.upto (s : _root_.Go.ChangeSpec) : _root_.Go.OpenSpec := { _root_.Go.OpenSpec.ofChange s with cond := some uptoSmall }

/-- 'stemmalaw20.KeydiffMerges', WHERE WHAT IT READS IS OF BULK AT MOST 1048576: true; the input reads as it did. -/
def keydiffMergesUptoRow : OpenClaim := { program := "ytbbeifdmgmadiaa", sum := "1c77f36c07f2afd60821ea2f4a498287e5bba35e154aa9bac5488c6e5f01df95", func := "stemma/stemmalaw20.KeydiffMerges", spec := "keydiffMerges", unfollowed := true, recurses := true, apart := false, narrowed := true }
def KeydiffMergesUptoSaid : Prop := keydiffMergesUptoRow.holds Try.pinned (OpenSpec.upto keydiffMergesSpec)

/-- 'stemmalaw20.KeydiffSides', WHERE WHAT IT READS IS OF BULK AT MOST 1048576: true; the input reads as it did. -/
def keydiffSidesUptoRow : OpenClaim := { program := "ytbbeifdmgmadiaa", sum := "1c77f36c07f2afd60821ea2f4a498287e5bba35e154aa9bac5488c6e5f01df95", func := "stemma/stemmalaw20.KeydiffSides", spec := "keydiffSides", unfollowed := true, recurses := true, apart := false, narrowed := true }
def KeydiffSidesUptoSaid : Prop := keydiffSidesUptoRow.holds Try.pinned (OpenSpec.upto keydiffSidesSpec)

/-- 'stemmalaw20.KeydiffApplies', WHERE WHAT IT READS IS OF BULK AT MOST 1048576: true; the input reads as it did. -/
def keydiffAppliesUptoRow : OpenClaim := { program := "ytbbeifdmgmadiaa", sum := "1c77f36c07f2afd60821ea2f4a498287e5bba35e154aa9bac5488c6e5f01df95", func := "stemma/stemmalaw20.KeydiffApplies", spec := "keydiffApplies", unfollowed := true, recurses := true, apart := false, narrowed := true }
def KeydiffAppliesUptoSaid : Prop := keydiffAppliesUptoRow.holds Try.pinned (OpenSpec.upto keydiffAppliesSpec)

/-- 'stemmalaw20.KeydiffChanges', WHERE WHAT IT READS IS OF BULK AT MOST 1048576: true; the input reads as it did. -/
def keydiffChangesUptoRow : OpenClaim := { program := "ytbbeifdmgmadiaa", sum := "1c77f36c07f2afd60821ea2f4a498287e5bba35e154aa9bac5488c6e5f01df95", func := "stemma/stemmalaw20.KeydiffChanges", spec := "keydiffChanges", unfollowed := true, recurses := true, apart := false, narrowed := true }
def KeydiffChangesUptoSaid : Prop := keydiffChangesUptoRow.holds Try.pinned (OpenSpec.upto keydiffChangesSpec)

/-- 'stemmalaw20.KeydiffChain', WHERE WHAT IT READS IS OF BULK AT MOST 1048576: true; the input reads as it did. -/
def keydiffChainUptoRow : OpenClaim := { program := "ytbbeifdmgmadiaa", sum := "1c77f36c07f2afd60821ea2f4a498287e5bba35e154aa9bac5488c6e5f01df95", func := "stemma/stemmalaw20.KeydiffChain", spec := "keydiffChain", unfollowed := true, recurses := true, apart := false, narrowed := true }
def KeydiffChainUptoSaid : Prop := keydiffChainUptoRow.holds Try.pinned (OpenSpec.upto keydiffChainSpec)

end Rows
end Go.Proofs.Ytbbeifdmgmadiaa
