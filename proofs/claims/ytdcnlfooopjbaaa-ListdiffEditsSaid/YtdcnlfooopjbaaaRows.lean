/-
  No cell of these rows narrows 'for every input' (looked for: loops, veiled, ifaces, maps, wideKeys, modest, calm, conditions, laid).
  DERIVED. THE GIVEN ROWS OF THIS SEAT. 5 by the template 'for every input the law returns true; each argument reads behind the call as it read before'; 0 by the template 'total and deterministic' (their statements: YtdcnlfooopjbaaaTotals.lean).
  GIVEN WITH THE SEED: the statements are not yours to turn. If you find one false, say at which input.
  Laid BY PROGRAM, IN A SANDBOX (cutbox-rows.mjs): the forced cells as the released guide's own fill.sh prints them over the translation fe8f759a98517a32… (all of the seat's roots in one cut). By AI agents, Wed Nov 11 2026. No macro, syntax, notation, axiom, sorry.
-/
import Derived.Test.YtdcnlfooopjbaaaChecked
import GoSem.Claim
import GoSem.ClaimJoined
import GoSem.ClaimMapViews
import Derived.JoinedTies
import Derived.KernelRfl
namespace Go.Proofs.Ytdcnlfooopjbaaa
/- THE CELL 'sum', in the pinned program and in every row, IS THE sha256 OF THE DUMP (.gsa) THAT YtdcnlfooopjbaaaProg.lean LOADS. Nothing in Lean hashes anything: it is a label: what it is worth is what the hold of that sum in a sandbox is worth. -/
noncomputable def Try.pinned : Pinned := { name := "ytdcnlfooopjbaaa", sum := "fe8f759a98517a32428095d6b72cfd3499c0b7bce0870a77e09f1539195fec14", checked := Try.checked }
namespace Rows
def none {H : Type} : Left H := { results := [], args := [] }

/-- 'stemmalaw19.ListdiffApplies': WHATEVER THE INPUT: true; the input reads as it did. -/
def listdiffAppliesSpec : ChangeSpec := { name := "listdiffApplies", fn := fun _ => fun
  | [d1, d2] => { results := [.lit (.bool true)], args := [d1, d2] }
  | _ => none }
def listdiffAppliesRow : OpenClaim := { program := "ytdcnlfooopjbaaa", sum := "fe8f759a98517a32428095d6b72cfd3499c0b7bce0870a77e09f1539195fec14", func := "stemma/stemmalaw19.ListdiffApplies", spec := "listdiffApplies", unfollowed := true, recurses := true, apart := false }
def ListdiffAppliesSaid : Prop := listdiffAppliesRow.holds Try.pinned (OpenSpec.ofChange listdiffAppliesSpec)

/-- ITS FALSE NEIGHBOUR: 'it returns false'. Refute it at one input. -/
def listdiffAppliesWrong : ChangeSpec := { name := "listdiffApplies", fn := fun _ => fun
  | [d1, d2] => { results := [.lit (.bool false)], args := [d1, d2] }
  | _ => none }
def ListdiffAppliesWrongFalsely : Prop := listdiffAppliesRow.holds Try.pinned (OpenSpec.ofChange listdiffAppliesWrong)

/-- 'stemmalaw19.ListdiffBack': WHATEVER THE INPUT: true; the input reads as it did. -/
def listdiffBackSpec : ChangeSpec := { name := "listdiffBack", fn := fun _ => fun
  | [d1, d2] => { results := [.lit (.bool true)], args := [d1, d2] }
  | _ => none }
def listdiffBackRow : OpenClaim := { program := "ytdcnlfooopjbaaa", sum := "fe8f759a98517a32428095d6b72cfd3499c0b7bce0870a77e09f1539195fec14", func := "stemma/stemmalaw19.ListdiffBack", spec := "listdiffBack", unfollowed := true, recurses := true, apart := false }
def ListdiffBackSaid : Prop := listdiffBackRow.holds Try.pinned (OpenSpec.ofChange listdiffBackSpec)

/-- ITS FALSE NEIGHBOUR: 'it returns false'. Refute it at one input. -/
def listdiffBackWrong : ChangeSpec := { name := "listdiffBack", fn := fun _ => fun
  | [d1, d2] => { results := [.lit (.bool false)], args := [d1, d2] }
  | _ => none }
def ListdiffBackWrongFalsely : Prop := listdiffBackRow.holds Try.pinned (OpenSpec.ofChange listdiffBackWrong)

/-- 'stemmalaw19.ListdiffLong': WHATEVER THE INPUT: true; the input reads as it did. -/
def listdiffLongSpec : ChangeSpec := { name := "listdiffLong", fn := fun _ => fun
  | [d1, d2] => { results := [.lit (.bool true)], args := [d1, d2] }
  | _ => none }
def listdiffLongRow : OpenClaim := { program := "ytdcnlfooopjbaaa", sum := "fe8f759a98517a32428095d6b72cfd3499c0b7bce0870a77e09f1539195fec14", func := "stemma/stemmalaw19.ListdiffLong", spec := "listdiffLong", unfollowed := true, recurses := true, apart := false }
def ListdiffLongSaid : Prop := listdiffLongRow.holds Try.pinned (OpenSpec.ofChange listdiffLongSpec)

/-- ITS FALSE NEIGHBOUR: 'it returns false'. Refute it at one input. -/
def listdiffLongWrong : ChangeSpec := { name := "listdiffLong", fn := fun _ => fun
  | [d1, d2] => { results := [.lit (.bool false)], args := [d1, d2] }
  | _ => none }
def ListdiffLongWrongFalsely : Prop := listdiffLongRow.holds Try.pinned (OpenSpec.ofChange listdiffLongWrong)

/-- 'stemmalaw19.ListdiffEnds': WHATEVER THE INPUT: true; the input reads as it did. -/
def listdiffEndsSpec : ChangeSpec := { name := "listdiffEnds", fn := fun _ => fun
  | [d1, d2, d3] => { results := [.lit (.bool true)], args := [d1, d2, d3] }
  | _ => none }
def listdiffEndsRow : OpenClaim := { program := "ytdcnlfooopjbaaa", sum := "fe8f759a98517a32428095d6b72cfd3499c0b7bce0870a77e09f1539195fec14", func := "stemma/stemmalaw19.ListdiffEnds", spec := "listdiffEnds", unfollowed := true, recurses := true, apart := false }
def ListdiffEndsSaid : Prop := listdiffEndsRow.holds Try.pinned (OpenSpec.ofChange listdiffEndsSpec)

/-- ITS FALSE NEIGHBOUR: 'it returns false'. Refute it at one input. -/
def listdiffEndsWrong : ChangeSpec := { name := "listdiffEnds", fn := fun _ => fun
  | [d1, d2, d3] => { results := [.lit (.bool false)], args := [d1, d2, d3] }
  | _ => none }
def ListdiffEndsWrongFalsely : Prop := listdiffEndsRow.holds Try.pinned (OpenSpec.ofChange listdiffEndsWrong)

/-- 'stemmalaw19.ListdiffEdits': WHATEVER THE INPUT: true; the input reads as it did. -/
def listdiffEditsSpec : ChangeSpec := { name := "listdiffEdits", fn := fun _ => fun
  | [d1, d2] => { results := [.lit (.bool true)], args := [d1, d2] }
  | _ => none }
def listdiffEditsRow : OpenClaim := { program := "ytdcnlfooopjbaaa", sum := "fe8f759a98517a32428095d6b72cfd3499c0b7bce0870a77e09f1539195fec14", func := "stemma/stemmalaw19.ListdiffEdits", spec := "listdiffEdits", unfollowed := true, recurses := true, apart := false }
def ListdiffEditsSaid : Prop := listdiffEditsRow.holds Try.pinned (OpenSpec.ofChange listdiffEditsSpec)

/-- ITS FALSE NEIGHBOUR: 'it returns false'. Refute it at one input. -/
def listdiffEditsWrong : ChangeSpec := { name := "listdiffEdits", fn := fun _ => fun
  | [d1, d2] => { results := [.lit (.bool false)], args := [d1, d2] }
  | _ => none }
def ListdiffEditsWrongFalsely : Prop := listdiffEditsRow.holds Try.pinned (OpenSpec.ofChange listdiffEditsWrong)

/- THE SECOND FORM. 'bulk': how many values and letters a reading holds, each counted each time it is reached (what is shared counts as often as it is met; a slice's spare places count too). A statement '..UptoSaid' is the law's where the arguments, and the package variables that the reading takes, are together of bulk at most 1048576: NARROWER than '..Said'. Prove '..Said' where nothing that the law and all that it calls make is longer than what came in: it says more and counts as full. Else prove '..UptoSaid'. A law counts once. -/
mutual
def uptoBulk {H : Type} : DataW H → Nat
  | .lit (.string bytes) => bytes.length + 1
  | .lit _ => 1
  | .nil => 1
  | .ptr d => uptoBulk d + 1
  | .slice elems spare => uptoBulkAll elems + uptoBulkAll spare + 1
  | .agg parts => uptoBulkAll parts + 1
  | .iface _ d => uptoBulk d + 1
  | .map entries => uptoBulkEntries entries + 1
  | .held _ => 1
def uptoBulkAll {H : Type} : List (DataW H) → Nat
  | [] => 0
  | d :: r => uptoBulk d + uptoBulkAll r
def uptoBulkEntries {H : Type} : List (Lit × DataW H) → Nat
  | [] => 0
  | x :: r => uptoBulkEntry x + uptoBulkEntries r
def uptoBulkEntry {H : Type} : Lit × DataW H → Nat
  | (.string bytes, d) => bytes.length + uptoBulk d + 1
  | (_, d) => uptoBulk d + 1
 end
def uptoSmall : (H : Type) → List (DataW H) → Bool := fun _ ds => decide (uptoBulkAll ds ≤ 1048576)
def OpenSpec.upto (s : _root_.Go.ChangeSpec) : _root_.Go.OpenSpec := { _root_.Go.OpenSpec.ofChange s with cond := some uptoSmall }

/-- 'stemmalaw19.ListdiffApplies', WHERE WHAT IT READS IS OF BULK AT MOST 1048576: true; the input reads as it did. -/
def listdiffAppliesUptoRow : OpenClaim := { program := "ytdcnlfooopjbaaa", sum := "fe8f759a98517a32428095d6b72cfd3499c0b7bce0870a77e09f1539195fec14", func := "stemma/stemmalaw19.ListdiffApplies", spec := "listdiffApplies", unfollowed := true, recurses := true, apart := false, narrowed := true }
def ListdiffAppliesUptoSaid : Prop := listdiffAppliesUptoRow.holds Try.pinned (OpenSpec.upto listdiffAppliesSpec)

/-- 'stemmalaw19.ListdiffBack', WHERE WHAT IT READS IS OF BULK AT MOST 1048576: true; the input reads as it did. -/
def listdiffBackUptoRow : OpenClaim := { program := "ytdcnlfooopjbaaa", sum := "fe8f759a98517a32428095d6b72cfd3499c0b7bce0870a77e09f1539195fec14", func := "stemma/stemmalaw19.ListdiffBack", spec := "listdiffBack", unfollowed := true, recurses := true, apart := false, narrowed := true }
def ListdiffBackUptoSaid : Prop := listdiffBackUptoRow.holds Try.pinned (OpenSpec.upto listdiffBackSpec)

/-- 'stemmalaw19.ListdiffLong', WHERE WHAT IT READS IS OF BULK AT MOST 1048576: true; the input reads as it did. -/
def listdiffLongUptoRow : OpenClaim := { program := "ytdcnlfooopjbaaa", sum := "fe8f759a98517a32428095d6b72cfd3499c0b7bce0870a77e09f1539195fec14", func := "stemma/stemmalaw19.ListdiffLong", spec := "listdiffLong", unfollowed := true, recurses := true, apart := false, narrowed := true }
def ListdiffLongUptoSaid : Prop := listdiffLongUptoRow.holds Try.pinned (OpenSpec.upto listdiffLongSpec)

/-- 'stemmalaw19.ListdiffEnds', WHERE WHAT IT READS IS OF BULK AT MOST 1048576: true; the input reads as it did. -/
def listdiffEndsUptoRow : OpenClaim := { program := "ytdcnlfooopjbaaa", sum := "fe8f759a98517a32428095d6b72cfd3499c0b7bce0870a77e09f1539195fec14", func := "stemma/stemmalaw19.ListdiffEnds", spec := "listdiffEnds", unfollowed := true, recurses := true, apart := false, narrowed := true }
def ListdiffEndsUptoSaid : Prop := listdiffEndsUptoRow.holds Try.pinned (OpenSpec.upto listdiffEndsSpec)

/-- 'stemmalaw19.ListdiffEdits', WHERE WHAT IT READS IS OF BULK AT MOST 1048576: true; the input reads as it did. -/
def listdiffEditsUptoRow : OpenClaim := { program := "ytdcnlfooopjbaaa", sum := "fe8f759a98517a32428095d6b72cfd3499c0b7bce0870a77e09f1539195fec14", func := "stemma/stemmalaw19.ListdiffEdits", spec := "listdiffEdits", unfollowed := true, recurses := true, apart := false, narrowed := true }
def ListdiffEditsUptoSaid : Prop := listdiffEditsUptoRow.holds Try.pinned (OpenSpec.upto listdiffEditsSpec)

end Rows
end Go.Proofs.Ytdcnlfooopjbaaa
