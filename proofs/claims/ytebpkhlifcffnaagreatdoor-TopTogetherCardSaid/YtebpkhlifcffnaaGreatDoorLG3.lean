/-
  A closed fact on the program: no function of it starts a goroutine; no condition.
-/
import Derived.Test.YtebpkhlifcffnaaGreatDoorCards
import Derived.KernelRfl
namespace Go.Proofs.YtebpkhlifcffnaaGreatDoor.lawTopTogether
open Go
theorem FN {P : Program} (h : P.funcs.any Func.goes = false) (f : FuncId) : P.goes f = false := by
  unfold Program.goes
  rw [h, Bool.and_false, Bool.or_false, List.any_eq_false]
  intro g _
  cases hg : P.funcs[g]? with
  | none => simp
  | some fn =>
    obtain ⟨hl, he⟩ := Array.getElem?_eq_some_iff.1 hg
    have h1 := Array.any_eq_false.1 h g hl
    rw [he] at h1
    simpa using h1
theorem AQ {P : Program} (h : P.funcs.any Func.goes = false) {c : OpenClaim} (hs : c.start = .entering) : false = c.goesBy P := by
  unfold OpenClaim.goesBy Program.goesAt Program.goesFrom
  rw [hs]
  cases P.funcNamed c.func with
  | none => rfl
  | some f =>
    show false = (P.goes f || false)
    rw [FN h f]; rfl
theorem G5 : Tryz.prog.funcs.any Func.goes = false := by kernel_rfl
theorem Rq : false = Rows.topTogetherRow.goesBy Tryz.pinned.checked.prog := AQ (P := Tryz.pinned.checked.prog) G5 rfl
end Go.Proofs.YtebpkhlifcffnaaGreatDoor.lawTopTogether
