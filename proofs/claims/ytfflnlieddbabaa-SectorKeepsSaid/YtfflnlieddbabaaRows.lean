/-
  No cell of these rows narrows 'for every input' (looked for: loops, veiled, ifaces, maps, wideKeys, modest, calm, conditions, laid).
  DERIVED. THE GIVEN ROWS OF THIS SEAT. 4 by the template 'for every input the law returns true; each argument reads behind the call as it read before'; 0 by the template 'total and deterministic' (their statements: YtfflnlieddbabaaTotals.lean).
  GIVEN WITH THE SEED: the statements are not yours to turn. If you find one false, say at which input.
  Laid BY PROGRAM, IN A SANDBOX (cutbox-rows.mjs): the forced cells as the released guide's own fill.sh prints them over the translation 21c9f430b4289852… (all of the seat's roots in one cut). By AI agents, Wed Nov 11 2026. No macro, syntax, notation, axiom, sorry.
-/
import Derived.Test.YtfflnlieddbabaaChecked
import GoSem.Claim
import GoSem.ClaimJoined
import GoSem.ClaimMapViews
import Derived.JoinedTies
import Derived.KernelRfl
namespace Go.Proofs.Ytfflnlieddbabaa
/- THE CELL 'sum', in the pinned program and in every row, IS THE sha256 OF THE DUMP (.gsa) THAT YtfflnlieddbabaaProg.lean LOADS. Nothing in Lean hashes anything: it is a label: what it is worth is what the hold of that sum in a sandbox is worth. -/
noncomputable def Try.pinned : Pinned := { name := "ytfflnlieddbabaa", sum := "21c9f430b428985247b25070f83dacf42e0d38f5dca60f22586161bd067eb661", checked := Try.checked }
namespace Rows
def none {H : Type} : Left H := { results := [], args := [] }

/-- 'stemmalaw04.SectorKeeps': WHATEVER THE INPUT: true; the input reads as it did. -/
def sectorKeepsSpec : ChangeSpec := { name := "sectorKeeps", fn := fun _ => fun
  | [d1, d2, d3] => { results := [.lit (.bool true)], args := [d1, d2, d3] }
  | _ => none }
def sectorKeepsRow : OpenClaim := { program := "ytfflnlieddbabaa", sum := "21c9f430b428985247b25070f83dacf42e0d38f5dca60f22586161bd067eb661", func := "stemma/stemmalaw04.SectorKeeps", spec := "sectorKeeps", inPlace := ["internal/abi.NoEscape", "internal/bytealg.MakeNoZero", "sync/atomic.AddInt64"], apart := false }
def SectorKeepsSaid : Prop := sectorKeepsRow.holds Try.pinned (OpenSpec.ofChange sectorKeepsSpec)

/-- ITS FALSE NEIGHBOUR: 'it returns false'. Refute it at one input. -/
def sectorKeepsWrong : ChangeSpec := { name := "sectorKeeps", fn := fun _ => fun
  | [d1, d2, d3] => { results := [.lit (.bool false)], args := [d1, d2, d3] }
  | _ => none }
def SectorKeepsWrongFalsely : Prop := sectorKeepsRow.holds Try.pinned (OpenSpec.ofChange sectorKeepsWrong)

/-- 'stemmalaw04.SectorLasts': WHATEVER THE INPUT: true; the input reads as it did. -/
def sectorLastsSpec : ChangeSpec := { name := "sectorLasts", fn := fun _ => fun
  | [d1, d2] => { results := [.lit (.bool true)], args := [d1, d2] }
  | _ => none }
def sectorLastsRow : OpenClaim := { program := "ytfflnlieddbabaa", sum := "21c9f430b428985247b25070f83dacf42e0d38f5dca60f22586161bd067eb661", func := "stemma/stemmalaw04.SectorLasts", spec := "sectorLasts", inPlace := ["internal/abi.NoEscape", "internal/bytealg.MakeNoZero", "sync/atomic.AddInt64", "sync/atomic.LoadInt64"], apart := false }
def SectorLastsSaid : Prop := sectorLastsRow.holds Try.pinned (OpenSpec.ofChange sectorLastsSpec)

/-- ITS FALSE NEIGHBOUR: 'it returns false'. Refute it at one input. -/
def sectorLastsWrong : ChangeSpec := { name := "sectorLasts", fn := fun _ => fun
  | [d1, d2] => { results := [.lit (.bool false)], args := [d1, d2] }
  | _ => none }
def SectorLastsWrongFalsely : Prop := sectorLastsRow.holds Try.pinned (OpenSpec.ofChange sectorLastsWrong)

/-- 'stemmalaw04.SectorScripts': WHATEVER THE INPUT: true; the input reads as it did. -/
def sectorScriptsSpec : ChangeSpec := { name := "sectorScripts", fn := fun _ => fun
  | [d1, d2] => { results := [.lit (.bool true)], args := [d1, d2] }
  | _ => none }
def sectorScriptsRow : OpenClaim := { program := "ytfflnlieddbabaa", sum := "21c9f430b428985247b25070f83dacf42e0d38f5dca60f22586161bd067eb661", func := "stemma/stemmalaw04.SectorScripts", spec := "sectorScripts", inPlace := ["internal/abi.NoEscape", "internal/bytealg.MakeNoZero", "sync/atomic.AddInt64", "sync/atomic.LoadInt64"], unfollowed := true, recurses := true, apart := false }
def SectorScriptsSaid : Prop := sectorScriptsRow.holds Try.pinned (OpenSpec.ofChange sectorScriptsSpec)

/-- ITS FALSE NEIGHBOUR: 'it returns false'. Refute it at one input. -/
def sectorScriptsWrong : ChangeSpec := { name := "sectorScripts", fn := fun _ => fun
  | [d1, d2] => { results := [.lit (.bool false)], args := [d1, d2] }
  | _ => none }
def SectorScriptsWrongFalsely : Prop := sectorScriptsRow.holds Try.pinned (OpenSpec.ofChange sectorScriptsWrong)

/-- 'stemmalaw04.SectorNil': WHATEVER THE INPUT: true; the input reads as it did. -/
def sectorNilSpec : ChangeSpec := { name := "sectorNil", fn := fun _ => fun
  | [d1, d2] => { results := [.lit (.bool true)], args := [d1, d2] }
  | _ => none }
def sectorNilRow : OpenClaim := { program := "ytfflnlieddbabaa", sum := "21c9f430b428985247b25070f83dacf42e0d38f5dca60f22586161bd067eb661", func := "stemma/stemmalaw04.SectorNil", spec := "sectorNil", inPlace := ["internal/abi.NoEscape", "internal/bytealg.MakeNoZero", "sync/atomic.AddInt64", "sync/atomic.LoadInt64"], unfollowed := true, recurses := true, apart := false }
def SectorNilSaid : Prop := sectorNilRow.holds Try.pinned (OpenSpec.ofChange sectorNilSpec)

/-- ITS FALSE NEIGHBOUR: 'it returns false'. Refute it at one input. -/
def sectorNilWrong : ChangeSpec := { name := "sectorNil", fn := fun _ => fun
  | [d1, d2] => { results := [.lit (.bool false)], args := [d1, d2] }
  | _ => none }
def SectorNilWrongFalsely : Prop := sectorNilRow.holds Try.pinned (OpenSpec.ofChange sectorNilWrong)

/- THE SECOND FORM. 'bulk': how many values and letters a reading holds, each counted each time it is reached (what is shared counts as often as it is met; a slice's spare places count too). A statement '..UptoSaid' is the law's where the arguments, and the package variables that the reading takes, are together of bulk at most 1048576: NARROWER than '..Said'. Prove '..Said' where nothing that the law and all that it calls make is longer than what came in: it says more and counts as full. Else prove '..UptoSaid'. A law counts once. -/
mutual
def uptoBulk {H : Type} : DataW H → Nat
  | .lit (.string bytes) => bytes.length + 1
  | .lit _ => 1
  | .nil => 1
  | .ptr d => uptoBulk d + 1
  | .slice elems spare => uptoBulkAll elems + uptoBulkAll spare + 1
  | .agg parts => uptoBulkAll parts + 1
  | .iface _ d => uptoBulk d + 1
  | .map entries => uptoBulkEntries entries + 1
  | .held _ => 1
def uptoBulkAll {H : Type} : List (DataW H) → Nat
  | [] => 0
  | d :: r => uptoBulk d + uptoBulkAll r
def uptoBulkEntries {H : Type} : List (Lit × DataW H) → Nat
  | [] => 0
  | x :: r => uptoBulkEntry x + uptoBulkEntries r
def uptoBulkEntry {H : Type} : Lit × DataW H → Nat
  | (.string bytes, d) => bytes.length + uptoBulk d + 1
  | (_, d) => uptoBulk d + 1
 end
def uptoSmall : (H : Type) → List (DataW H) → Bool := fun _ ds => decide (uptoBulkAll ds ≤ 1048576)
def OpenSpec.upto (s : _root_.Go.ChangeSpec) : _root_.Go.OpenSpec := { _root_.Go.OpenSpec.ofChange s with cond := some uptoSmall }

/-- 'stemmalaw04.SectorKeeps', WHERE WHAT IT READS IS OF BULK AT MOST 1048576: true; the input reads as it did. -/
def sectorKeepsUptoRow : OpenClaim := { program := "ytfflnlieddbabaa", sum := "21c9f430b428985247b25070f83dacf42e0d38f5dca60f22586161bd067eb661", func := "stemma/stemmalaw04.SectorKeeps", spec := "sectorKeeps", inPlace := ["internal/abi.NoEscape", "internal/bytealg.MakeNoZero", "sync/atomic.AddInt64"], apart := false, narrowed := true }
def SectorKeepsUptoSaid : Prop := sectorKeepsUptoRow.holds Try.pinned (OpenSpec.upto sectorKeepsSpec)

/-- 'stemmalaw04.SectorLasts', WHERE WHAT IT READS IS OF BULK AT MOST 1048576: true; the input reads as it did. -/
def sectorLastsUptoRow : OpenClaim := { program := "ytfflnlieddbabaa", sum := "21c9f430b428985247b25070f83dacf42e0d38f5dca60f22586161bd067eb661", func := "stemma/stemmalaw04.SectorLasts", spec := "sectorLasts", inPlace := ["internal/abi.NoEscape", "internal/bytealg.MakeNoZero", "sync/atomic.AddInt64", "sync/atomic.LoadInt64"], apart := false, narrowed := true }
def SectorLastsUptoSaid : Prop := sectorLastsUptoRow.holds Try.pinned (OpenSpec.upto sectorLastsSpec)

/-- 'stemmalaw04.SectorScripts', WHERE WHAT IT READS IS OF BULK AT MOST 1048576: true; the input reads as it did. -/
def sectorScriptsUptoRow : OpenClaim := { program := "ytfflnlieddbabaa", sum := "21c9f430b428985247b25070f83dacf42e0d38f5dca60f22586161bd067eb661", func := "stemma/stemmalaw04.SectorScripts", spec := "sectorScripts", inPlace := ["internal/abi.NoEscape", "internal/bytealg.MakeNoZero", "sync/atomic.AddInt64", "sync/atomic.LoadInt64"], unfollowed := true, recurses := true, apart := false, narrowed := true }
def SectorScriptsUptoSaid : Prop := sectorScriptsUptoRow.holds Try.pinned (OpenSpec.upto sectorScriptsSpec)

/-- 'stemmalaw04.SectorNil', WHERE WHAT IT READS IS OF BULK AT MOST 1048576: true; the input reads as it did. -/
def sectorNilUptoRow : OpenClaim := { program := "ytfflnlieddbabaa", sum := "21c9f430b428985247b25070f83dacf42e0d38f5dca60f22586161bd067eb661", func := "stemma/stemmalaw04.SectorNil", spec := "sectorNil", inPlace := ["internal/abi.NoEscape", "internal/bytealg.MakeNoZero", "sync/atomic.AddInt64", "sync/atomic.LoadInt64"], unfollowed := true, recurses := true, apart := false, narrowed := true }
def SectorNilUptoSaid : Prop := sectorNilUptoRow.holds Try.pinned (OpenSpec.upto sectorNilSpec)

end Rows
end Go.Proofs.Ytfflnlieddbabaa
