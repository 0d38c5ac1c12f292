/-
  The law GraphMore: whatever the input, it returns true, and the input reads behind the call as it did. No condition.
-/
import Derived.Test.YtfenbhaehkkkeaaOpw
import Derived.SizedLaws
import Derived.Deep.DeepHandedRow
import Derived.JoinedCond
import Derived.Test.YtfenbhaehkkkeaaGr22
namespace Go.Proofs.Ytfenbhaehkkkeaa.lawGraphMore
open Go Go.SL Go.ChangeShapes Go.WideShapes Go.ChangeAt Go.RowKit
open Go.ChangeMaps (open_string shut_string)

theorem own : ownKnob Try.prog.godebug = none := by kernel_rfl
theorem laidOut : laidOutB Try.prog = true := by kernel_rfl

set_option maxRecDepth 100000 in
theorem contract (H : Type) (enc : TypeId × Value → H) (W : World) (base : Nat) (args : Array Value) (ds gs : List (DataW H)) (before : List MemPlace)
    (hval : ∀ (j : Nat) t v, Try.f8.params[j]? = some t → args[j]? = some v → Value.okWide Try.prog W .any base t v)
    (hW : DataW.Whole enc Try.prog Try.f8.params.toList Rows.graphMoreSpec.vars false W args.toList ds gs before)
    (hsz0 : (DataW.weightsEach Try.prog (Try.f8.params.toList ++ Rows.graphMoreSpec.plain.varTypes Try.prog) (ds ++ gs)).all (· ≤ reachBytes) = true) :
    Calls Try.prog 8 args W fun e W' => ∃ v, e = .returned v ∧ Rows.graphMoreSpec.post enc Try.prog Try.f8 false true false false W args v W' := by
  have hW' := hW
  obtain ⟨p, q, hA0, hV, rfl, hfz, hnd⟩ := hW
  have hA : DataW.TrodAll enc Try.prog W 0 (fun _ => true) true Try.f8.params.toList args.toList ds p := hA0
  rw [Try.params8] at hA hval
  obtain ⟨v0, vs0, d0, ds0, p0, q0, hargs, rfl, rfl, h0, r0⟩ := trodAll_cons hA
  obtain ⟨v1, vs1, d1, ds1, p1, q1, rfl, rfl, rfl, h1, r1⟩ := trodAll_cons r0
  obtain ⟨rfl, rfl, rfl⟩ := trodAll_nil r1
  obtain rfl : args = #[v0, v1] := by cases args; simp_all
  obtain ⟨rfl, rfl⟩ := trodVars_none hV
  have k0 := h0
  have lt0 : ∀ x ∈ p0, x.block < W.heap.size := by obtain ⟨m, hm⟩ := k0; exact DataW.trod_lt m _ _ _ hm
  obtain ⟨o0, n0, c0, rfl⟩ := okWide_slice Try.underlying22 (hval 0 22 v0 rfl rfl)
  obtain ⟨x0, e0, z0, q0⟩ : ∃ xs, SlE (encQ) (.slice o0 n0 c0) xs W ∧ xs.length * 40 ≤ 140737488351232 ∧ ∀ a ∈ xs, (QQ) W a := by
    obtain ⟨fuel, hf⟩ := h0
    obtain ⟨v, xs, hcs, hx, hz, hq⟩ := open_SlEW (enc := encQ) (size := 3) Try.underlying22 (by kernel_rfl) (by decide) elsQ (by intro x; first | rfl | (cases x; rfl) | (rcases x with ⟨_, _, _⟩; rfl)) hf (small_of hsz0 (j := 0) (t := 22) rfl rfl)
    rw [show Try.prog.bytesOf 56 = 40 from by kernel_rfl] at hz
    simp only [Value.cells, List.cons.injEq, and_true] at hcs
    subst hcs
    exact ⟨xs, hx, hz, hq⟩
  have k1 := h1
  have lt1 : ∀ x ∈ p1, x.block < W.heap.size := by obtain ⟨m, hm⟩ := k1; exact DataW.trod_lt m _ _ _ hm
  obtain ⟨o1, n1, c1, rfl⟩ := okWide_slice Try.underlying44 (hval 1 44 v1 rfl rfl)
  obtain ⟨x1, e1, z1, q1⟩ : ∃ xs, SlE (SL.one (fun n : Int => .int .i64 n)) (.slice o1 n1 c1) xs W ∧ xs.length * 8 ≤ 140737488351232 ∧ ∀ a ∈ xs, (fun _ _ => True) W a := by
    obtain ⟨fuel, hf⟩ := h1
    obtain ⟨v, xs, hcs, hx, hz, hq⟩ := open_SlEW (enc := SL.one (fun n : Int => .int .i64 n)) (size := 1) Try.underlying44 (by kernel_rfl) (by decide) (elsW_of (els_int Try.underlying3)) (by intro x; first | rfl | (cases x; rfl) | (rcases x with ⟨_, _, _⟩; rfl)) hf (small_of hsz0 (j := 1) (t := 44) rfl rfl)
    rw [show Try.prog.bytesOf 3 = 8 from by kernel_rfl] at hz
    simp only [Value.cells, List.cons.injEq, and_true] at hcs
    subst hcs
    exact ⟨xs, hx, hz, hq⟩
  clear hA0 hsz0
  refine (law_calls (Lasts.cons e0.stable (Lasts.cons (p := AllQ QQ x0) (AllQ.stable (Q := QQ) (W := W) (fun a w' h ha => QQ.stable w' h ha) q0) (Lasts.cons e1.stable Lasts.nil))) (more_spec (by repeat (first | assumption | exact List.mem_cons_self | refine List.mem_cons_of_mem _ ?_)) (by repeat (first | assumption | exact List.mem_cons_self | refine List.mem_cons_of_mem _ ?_)) (by repeat (first | assumption | exact List.mem_cons_self | refine List.mem_cons_of_mem _ ?_)) ⟨rfl, rfl⟩)).mono fun e W' ⟨he, bel⟩ => ?_
  subst he
  exact ⟨_, rfl, _, _, _, [], _, [], hW', trodAll_mk1 (shut_bool Try.underlying4 _), (trodAll_cons_mk (Below.trod laidOut (by kernel_rfl) (of_decide_eq_true (by kernel_rfl)) k0 bel lt0) (trodAll_cons_mk (Below.trod laidOut (by kernel_rfl) (of_decide_eq_true (by kernel_rfl)) k1 bel lt1) trodAll_mk0)), rfl, bel.frame _, fun h => by cases h⟩

set_option maxRecDepth 100000 in
theorem lifted (os : Os) (started : os.Started) (H : Type) (enc : TypeId × Value → H) :
    ReturnsInHanded {} Try.checked os 8 .any (Rows.graphMoreSpec.pre6 enc Try.prog Try.f8 Rows.graphMoreRow.domain false) (Rows.graphMoreSpec.post enc Try.prog Try.f8 false true false false) := by
  refine returnsInHanded_of_change_sized (C := Try.checked) own started (by kernel_rfl) Try.func8
    (ChangeSpec.witness6 (enc := enc) (C := Try.checked) false ⟨#[], #[.slice none 0 0, .slice none 0 0], []⟩ 8 (by kernel_rfl) (by kernel_rfl) (by kernel_rfl) (by kernel_rfl)) ?_
  intro W base args ds gs before hval hW _ hsz _
  exact contract H enc W base args ds gs before hval hW hsz

theorem said : Rows.GraphMoreSaid :=
  OpenClaim.holds_of_wide 8 Try.f8 rfl rfl rfl rfl rfl rfl rfl ⟨rfl, rfl, rfl, rfl, rfl⟩ rfl rfl rfl rfl rfl (by kernel_rfl) Try.func8 (by kernel_rfl)
    (of_decide_eq_true (by kernel_rfl)) (by unfold Func.isWrapper; first | (rw [if_pos (by decide +kernel)]; kernel_rfl) | (rw [if_neg (by decide +kernel)]; exact ⟨rfl, rfl⟩))
    (fun os started H enc _ => lifted os started H enc)
theorem proved : Rows.GraphMoreSaid := said
#print axioms proved
end Go.Proofs.Ytfenbhaehkkkeaa.lawGraphMore
