/-
  Walks of layer 19: speaks, and the law of Apply.
-/
import Derived.Test.YtpicbbkmcbhnpaaLd5
namespace Go.Proofs.Ytpicbbkmcbhnpaa
open Go Go.SL Go.Lcs

theorem say_diff : diffE [[97], [98], [99]] [[98], [99], [100]] = [(1, [97]), (0, [98]), (0, [99]), (2, [100])] := by
  simp [diffE, trace, lcs, row, edit]
theorem say_apply : applyE [[97], [98], [99]] [(1, [97]), (0, [98]), (0, [99]), (2, [100])] [] = ([[98], [99], [100]], 0) := by
  simp [applyE]

theorem take_snoc' {α : Type} [Inhabited α] {l : List α} {k : Nat} {x : α} (h : l[k]? = some x) : l.take (k + 1) = l.take k ++ [x] := by
  obtain ⟨hk, he⟩ := List.getElem?_eq_some_iff.1 h
  rw [List.take_succ_eq_append_getElem hk, he]

end Go.Proofs.Ytpicbbkmcbhnpaa
