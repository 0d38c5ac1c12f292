/-
  No cell of these rows narrows 'for every input' (looked for: loops, veiled, ifaces, maps, wideKeys, modest, calm, conditions, laid).
  DERIVED. THE GIVEN ROWS OF THIS SEAT. 6 by the template 'for every input the law returns true; each argument reads behind the call as it read before'; 0 by the template 'total and deterministic' (their statements: YtfenbhaehkkkeaaTotals.lean).
  GIVEN WITH THE SEED: the statements are not yours to turn. If you find one false, say at which input.
  Laid BY PROGRAM, IN A SANDBOX (cutbox-rows.mjs): the forced cells as the released guide's own fill.sh prints them over the translation 6b4948d95364f4d8… (all of the seat's roots in one cut). By AI agents, Wed Nov 11 2026. No macro, syntax, notation, axiom, sorry.
-/
import Derived.Test.YtfenbhaehkkkeaaChecked
import GoSem.Claim
import GoSem.ClaimJoined
import GoSem.ClaimMapViews
import Derived.JoinedTies
import Derived.KernelRfl
namespace Go.Proofs.Ytfenbhaehkkkeaa
/- THE CELL 'sum', in the pinned program and in every row, IS THE sha256 OF THE DUMP (.gsa) THAT YtfenbhaehkkkeaaProg.lean LOADS. Nothing in Lean hashes anything: it is a label: what it is worth is what the hold of that sum in a sandbox is worth. -/
noncomputable def Try.pinned : Pinned := { name := "ytfenbhaehkkkeaa", sum := "6b4948d95364f4d8e837d9da54ab8edba7f0ec395938dcd1ecdc71c29ec37cff", checked := Try.checked }
namespace Rows
def none {H : Type} : Left H := { results := [], args := [] }

/-- 'stemmalaw18.GraphMakes': WHATEVER THE INPUT: true; the input reads as it did. -/
def graphMakesSpec : ChangeSpec := { name := "graphMakes", fn := fun _ => fun
  | [d1, d2] => { results := [.lit (.bool true)], args := [d1, d2] }
  | _ => none }
def graphMakesRow : OpenClaim := { program := "ytfenbhaehkkkeaa", sum := "6b4948d95364f4d8e837d9da54ab8edba7f0ec395938dcd1ecdc71c29ec37cff", func := "stemma/stemmalaw18.GraphMakes", spec := "graphMakes", unfollowed := true, recurses := true, apart := false }
def GraphMakesSaid : Prop := graphMakesRow.holds Try.pinned (OpenSpec.ofChange graphMakesSpec)

/-- ITS FALSE NEIGHBOUR: 'it returns false'. Refute it at one input. -/
def graphMakesWrong : ChangeSpec := { name := "graphMakes", fn := fun _ => fun
  | [d1, d2] => { results := [.lit (.bool false)], args := [d1, d2] }
  | _ => none }
def GraphMakesWrongFalsely : Prop := graphMakesRow.holds Try.pinned (OpenSpec.ofChange graphMakesWrong)

/-- 'stemmalaw18.GraphBases': WHATEVER THE INPUT: true; the input reads as it did. -/
def graphBasesSpec : ChangeSpec := { name := "graphBases", fn := fun _ => fun
  | [d1, d2] => { results := [.lit (.bool true)], args := [d1, d2] }
  | _ => none }
def graphBasesRow : OpenClaim := { program := "ytfenbhaehkkkeaa", sum := "6b4948d95364f4d8e837d9da54ab8edba7f0ec395938dcd1ecdc71c29ec37cff", func := "stemma/stemmalaw18.GraphBases", spec := "graphBases", unfollowed := true, recurses := true, apart := false }
def GraphBasesSaid : Prop := graphBasesRow.holds Try.pinned (OpenSpec.ofChange graphBasesSpec)

/-- ITS FALSE NEIGHBOUR: 'it returns false'. Refute it at one input. -/
def graphBasesWrong : ChangeSpec := { name := "graphBases", fn := fun _ => fun
  | [d1, d2] => { results := [.lit (.bool false)], args := [d1, d2] }
  | _ => none }
def GraphBasesWrongFalsely : Prop := graphBasesRow.holds Try.pinned (OpenSpec.ofChange graphBasesWrong)

/-- 'stemmalaw18.GraphWays': WHATEVER THE INPUT: true; the input reads as it did. -/
def graphWaysSpec : ChangeSpec := { name := "graphWays", fn := fun _ => fun
  | [d1, d2, d3] => { results := [.lit (.bool true)], args := [d1, d2, d3] }
  | _ => none }
def graphWaysRow : OpenClaim := { program := "ytfenbhaehkkkeaa", sum := "6b4948d95364f4d8e837d9da54ab8edba7f0ec395938dcd1ecdc71c29ec37cff", func := "stemma/stemmalaw18.GraphWays", spec := "graphWays", unfollowed := true, recurses := true, apart := false }
def GraphWaysSaid : Prop := graphWaysRow.holds Try.pinned (OpenSpec.ofChange graphWaysSpec)

/-- ITS FALSE NEIGHBOUR: 'it returns false'. Refute it at one input. -/
def graphWaysWrong : ChangeSpec := { name := "graphWays", fn := fun _ => fun
  | [d1, d2, d3] => { results := [.lit (.bool false)], args := [d1, d2, d3] }
  | _ => none }
def GraphWaysWrongFalsely : Prop := graphWaysRow.holds Try.pinned (OpenSpec.ofChange graphWaysWrong)

/-- 'stemmalaw18.GraphOrder': WHATEVER THE INPUT: true; the input reads as it did. -/
def graphOrderSpec : ChangeSpec := { name := "graphOrder", fn := fun _ => fun
  | [d1, d2] => { results := [.lit (.bool true)], args := [d1, d2] }
  | _ => none }
def graphOrderRow : OpenClaim := { program := "ytfenbhaehkkkeaa", sum := "6b4948d95364f4d8e837d9da54ab8edba7f0ec395938dcd1ecdc71c29ec37cff", func := "stemma/stemmalaw18.GraphOrder", spec := "graphOrder", unfollowed := true, recurses := true, apart := false }
def GraphOrderSaid : Prop := graphOrderRow.holds Try.pinned (OpenSpec.ofChange graphOrderSpec)

/-- ITS FALSE NEIGHBOUR: 'it returns false'. Refute it at one input. -/
def graphOrderWrong : ChangeSpec := { name := "graphOrder", fn := fun _ => fun
  | [d1, d2] => { results := [.lit (.bool false)], args := [d1, d2] }
  | _ => none }
def GraphOrderWrongFalsely : Prop := graphOrderRow.holds Try.pinned (OpenSpec.ofChange graphOrderWrong)

/-- 'stemmalaw18.GraphNil': WHATEVER THE INPUT: true; the input reads as it did. -/
def graphNilSpec : ChangeSpec := { name := "graphNil", fn := fun _ => fun
  | [d] => { results := [.lit (.bool true)], args := [d] }
  | _ => none }
def graphNilRow : OpenClaim := { program := "ytfenbhaehkkkeaa", sum := "6b4948d95364f4d8e837d9da54ab8edba7f0ec395938dcd1ecdc71c29ec37cff", func := "stemma/stemmalaw18.GraphNil", spec := "graphNil", unfollowed := true, recurses := true, apart := false }
def GraphNilSaid : Prop := graphNilRow.holds Try.pinned (OpenSpec.ofChange graphNilSpec)

/-- ITS FALSE NEIGHBOUR: 'it returns false'. Refute it at one input. -/
def graphNilWrong : ChangeSpec := { name := "graphNil", fn := fun _ => fun
  | [d] => { results := [.lit (.bool false)], args := [d] }
  | _ => none }
def GraphNilWrongFalsely : Prop := graphNilRow.holds Try.pinned (OpenSpec.ofChange graphNilWrong)

/-- 'stemmalaw18.GraphMore': WHATEVER THE INPUT: true; the input reads as it did. -/
def graphMoreSpec : ChangeSpec := { name := "graphMore", fn := fun _ => fun
  | [d1, d2] => { results := [.lit (.bool true)], args := [d1, d2] }
  | _ => none }
def graphMoreRow : OpenClaim := { program := "ytfenbhaehkkkeaa", sum := "6b4948d95364f4d8e837d9da54ab8edba7f0ec395938dcd1ecdc71c29ec37cff", func := "stemma/stemmalaw18.GraphMore", spec := "graphMore", unfollowed := true, recurses := true, apart := false }
def GraphMoreSaid : Prop := graphMoreRow.holds Try.pinned (OpenSpec.ofChange graphMoreSpec)

/-- ITS FALSE NEIGHBOUR: 'it returns false'. Refute it at one input. -/
def graphMoreWrong : ChangeSpec := { name := "graphMore", fn := fun _ => fun
  | [d1, d2] => { results := [.lit (.bool false)], args := [d1, d2] }
  | _ => none }
def GraphMoreWrongFalsely : Prop := graphMoreRow.holds Try.pinned (OpenSpec.ofChange graphMoreWrong)

/- THE SECOND FORM. 'bulk': how many values and letters a reading holds, each counted each time it is reached (what is shared counts as often as it is met; a slice's spare places count too). A statement '..UptoSaid' is the law's where the arguments, and the package variables that the reading takes, are together of bulk at most 1048576: NARROWER than '..Said'. Prove '..Said' where nothing that the law and all that it calls make is longer than what came in: it says more and counts as full. Else prove '..UptoSaid'. A law counts once. -/
mutual
def uptoBulk {H : Type} : DataW H → Nat
  | .lit (.string bytes) => bytes.length + 1
  | .lit _ => 1
  | .nil => 1
  | .ptr d => uptoBulk d + 1
  | .slice elems spare => uptoBulkAll elems + uptoBulkAll spare + 1
  | .agg parts => uptoBulkAll parts + 1
  | .iface _ d => uptoBulk d + 1
  | .map entries => uptoBulkEntries entries + 1
  | .held _ => 1
def uptoBulkAll {H : Type} : List (DataW H) → Nat
  | [] => 0
  | d :: r => uptoBulk d + uptoBulkAll r
def uptoBulkEntries {H : Type} : List (Lit × DataW H) → Nat
  | [] => 0
  | x :: r => uptoBulkEntry x + uptoBulkEntries r
def uptoBulkEntry {H : Type} : Lit × DataW H → Nat
  | (.string bytes, d) => bytes.length + uptoBulk d + 1
  | (_, d) => uptoBulk d + 1
 end
def uptoSmall : (H : Type) → List (DataW H) → Bool := fun _ ds => decide (uptoBulkAll ds ≤ 1048576)
def OpenSpec.upto (s : _root_.Go.ChangeSpec) : _root_.Go.OpenSpec := { _root_.Go.OpenSpec.ofChange s with cond := some uptoSmall }

/-- 'stemmalaw18.GraphMakes', WHERE WHAT IT READS IS OF BULK AT MOST 1048576: true; the input reads as it did. -/
def graphMakesUptoRow : OpenClaim := { program := "ytfenbhaehkkkeaa", sum := "6b4948d95364f4d8e837d9da54ab8edba7f0ec395938dcd1ecdc71c29ec37cff", func := "stemma/stemmalaw18.GraphMakes", spec := "graphMakes", unfollowed := true, recurses := true, apart := false, narrowed := true }
def GraphMakesUptoSaid : Prop := graphMakesUptoRow.holds Try.pinned (OpenSpec.upto graphMakesSpec)

/-- 'stemmalaw18.GraphBases', WHERE WHAT IT READS IS OF BULK AT MOST 1048576: true; the input reads as it did. -/
def graphBasesUptoRow : OpenClaim := { program := "ytfenbhaehkkkeaa", sum := "6b4948d95364f4d8e837d9da54ab8edba7f0ec395938dcd1ecdc71c29ec37cff", func := "stemma/stemmalaw18.GraphBases", spec := "graphBases", unfollowed := true, recurses := true, apart := false, narrowed := true }
def GraphBasesUptoSaid : Prop := graphBasesUptoRow.holds Try.pinned (OpenSpec.upto graphBasesSpec)

/-- 'stemmalaw18.GraphWays', WHERE WHAT IT READS IS OF BULK AT MOST 1048576: true; the input reads as it did. -/
def graphWaysUptoRow : OpenClaim := { program := "ytfenbhaehkkkeaa", sum := "6b4948d95364f4d8e837d9da54ab8edba7f0ec395938dcd1ecdc71c29ec37cff", func := "stemma/stemmalaw18.GraphWays", spec := "graphWays", unfollowed := true, recurses := true, apart := false, narrowed := true }
def GraphWaysUptoSaid : Prop := graphWaysUptoRow.holds Try.pinned (OpenSpec.upto graphWaysSpec)

/-- 'stemmalaw18.GraphOrder', WHERE WHAT IT READS IS OF BULK AT MOST 1048576: true; the input reads as it did. -/
def graphOrderUptoRow : OpenClaim := { program := "ytfenbhaehkkkeaa", sum := "6b4948d95364f4d8e837d9da54ab8edba7f0ec395938dcd1ecdc71c29ec37cff", func := "stemma/stemmalaw18.GraphOrder", spec := "graphOrder", unfollowed := true, recurses := true, apart := false, narrowed := true }
def GraphOrderUptoSaid : Prop := graphOrderUptoRow.holds Try.pinned (OpenSpec.upto graphOrderSpec)

/-- 'stemmalaw18.GraphNil', WHERE WHAT IT READS IS OF BULK AT MOST 1048576: true; the input reads as it did. -/
def graphNilUptoRow : OpenClaim := { program := "ytfenbhaehkkkeaa", sum := "6b4948d95364f4d8e837d9da54ab8edba7f0ec395938dcd1ecdc71c29ec37cff", func := "stemma/stemmalaw18.GraphNil", spec := "graphNil", unfollowed := true, recurses := true, apart := false, narrowed := true }
def GraphNilUptoSaid : Prop := graphNilUptoRow.holds Try.pinned (OpenSpec.upto graphNilSpec)

/-- 'stemmalaw18.GraphMore', WHERE WHAT IT READS IS OF BULK AT MOST 1048576: true; the input reads as it did. -/
def graphMoreUptoRow : OpenClaim := { program := "ytfenbhaehkkkeaa", sum := "6b4948d95364f4d8e837d9da54ab8edba7f0ec395938dcd1ecdc71c29ec37cff", func := "stemma/stemmalaw18.GraphMore", spec := "graphMore", unfollowed := true, recurses := true, apart := false, narrowed := true }
def GraphMoreUptoSaid : Prop := graphMoreUptoRow.holds Try.pinned (OpenSpec.upto graphMoreSpec)

end Rows
end Go.Proofs.Ytfenbhaehkkkeaa
