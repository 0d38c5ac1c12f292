/-
  The law WalWhole: whatever the input, it returns true, and the input reads behind the call as it did. The listed package-level tables hold what the program's text lays.
-/
import Derived.Test.YtaalegffcjbglaaDoorOpw
import Derived.SizedLaws
import Derived.Test.YtaalegffcjbglaaDoorOpa
import Derived.Test.YtaalegffcjbglaaDoorCards
import Derived.Test.YtaalegffcjbglaaDoorTie
import Derived.Lib.LaidTab
import Derived.Deep.DeepHandedRow
import Derived.JoinedCond
import Derived.Test.YtaalegffcjbglaaDoorWa9
namespace Go.Proofs.YtaalegffcjbglaaDoor.lawWalWhole
open Go Go.SL Go.ChangeShapes Go.WideShapes Go.ChangeAt Go.RowKit
open Go.ChangeMaps (open_string shut_string)

theorem own : ownKnob Tryd.prog.godebug = none := by kernel_rfl
theorem laidOut : laidOutB Tryd.prog = true := by kernel_rfl

theorem gTab0 : Tryd.prog.globalNamed "stemma/crc.table" = some 0 := by kernel_rfl
theorem gType0 : (Tryd.prog.globals[0]?).map (·.type) = some 133 := by kernel_rfl
theorem cells0 : Tryd.prog.cellsOf 133 = 16 := by kernel_rfl
theorem cell0 : Tryd.prog.cellsOf 113 = 1 := by kernel_rfl
theorem table0 {W : World} (h : laidMetH Tryd.prog Rows.walWholeRow.laid W) : Lib.TabIs Tryd.prog W "stemma/crc.table" .u32 tabZ :=
  Lib.tabIs_of_head (rest := []) gTab0 gType0 Tryd.underlying133 Tryd.underlying113 cell0 cells0 (h)

set_option maxRecDepth 100000 in
theorem contract (H : Type) (enc : TypeId × Value → H) (W : World) (base : Nat) (args : Array Value) (ds gs : List (DataW H)) (before : List MemPlace)
    (hval : ∀ (j : Nat) t v, Tryd.f4.params[j]? = some t → args[j]? = some v → Value.okWide Tryd.prog W .any base t v)
    (hW : DataW.Whole enc Tryd.prog Tryd.f4.params.toList Rows.walWholeSpec.vars false W args.toList ds gs before)
    (hsz0 : (DataW.weightsEach Tryd.prog (Tryd.f4.params.toList ++ Rows.walWholeSpec.plain.varTypes Tryd.prog) (ds ++ gs)).all (· ≤ reachBytes) = true)
    (hL : laidMetH Tryd.prog Rows.walWholeRow.laid W) :
    Calls Tryd.prog 4 args W fun e W' => ∃ v, e = .returned v ∧ Rows.walWholeSpec.post enc Tryd.prog Tryd.f4 false true false false W args v W' := by
  have hW' := hW
  obtain ⟨p, q, hA0, hV, rfl, hfz, hnd⟩ := hW
  have hA : DataW.TrodAll enc Tryd.prog W 0 (fun _ => true) true Tryd.f4.params.toList args.toList ds p := hA0
  rw [Tryd.params4] at hA hval
  obtain ⟨v0, vs0, d0, ds0, p0, q0, hargs, rfl, rfl, h0, r0⟩ := trodAll_cons hA
  obtain ⟨v1, vs1, d1, ds1, p1, q1, rfl, rfl, rfl, h1, r1⟩ := trodAll_cons r0
  obtain ⟨v2, vs2, d2, ds2, p2, q2, rfl, rfl, rfl, h2, r2⟩ := trodAll_cons r1
  obtain ⟨rfl, rfl, rfl⟩ := trodAll_nil r2
  obtain rfl : args = #[v0, v1, v2] := by cases args; simp_all
  obtain ⟨rfl, rfl⟩ := trodVars_none hV
  have k0 := h0
  have lt0 : ∀ x ∈ p0, x.block < W.heap.size := by obtain ⟨m, hm⟩ := k0; exact DataW.trod_lt m _ _ _ hm
  obtain ⟨o0, n0, c0, rfl⟩ := okWide_slice Tryd.underlying62 (hval 0 62 v0 rfl rfl)
  obtain ⟨x0, e0, z0, q0⟩ : ∃ xs, SlE (encL) (.slice o0 n0 c0) xs W ∧ xs.length * 24 ≤ 140737488351232 ∧ ∀ a ∈ xs, (QL) W a := by
    obtain ⟨fuel, hf⟩ := h0
    obtain ⟨v, xs, hcs, hx, hz, hq⟩ := open_SlEW (enc := encL) (size := 1) Tryd.underlying62 (by kernel_rfl) (by decide) elsL (by intro x; first | rfl | (cases x; rfl) | (rcases x with ⟨_, _, _⟩; rfl)) hf (small_of hsz0 (j := 0) (t := 62) rfl rfl)
    rw [show Tryd.prog.bytesOf 38 = 24 from by kernel_rfl] at hz
    simp only [Value.cells, List.cons.injEq, and_true] at hcs
    subst hcs
    exact ⟨xs, hx, hz, hq⟩
  have k1 := h1
  have lt1 : ∀ x ∈ p1, x.block < W.heap.size := by obtain ⟨m, hm⟩ := k1; exact DataW.trod_lt m _ _ _ hm
  obtain ⟨o1, n1, c1, rfl⟩ := okWide_slice Tryd.underlying38 (hval 1 38 v1 rfl rfl)
  obtain ⟨x1, e1, z1, q1⟩ : ∃ xs, SlE (encC) (.slice o1 n1 c1) xs W ∧ xs.length * 24 ≤ 140737488351232 ∧ ∀ a ∈ xs, (fun _ _ => True) W a := by
    obtain ⟨fuel, hf⟩ := h1
    obtain ⟨v, xs, hcs, hx, hz, hq⟩ := open_SlEW (enc := encC) (size := 2) Tryd.underlying38 (by kernel_rfl) (by decide) elsC (by intro x; first | rfl | (cases x; rfl) | (rcases x with ⟨_, _, _⟩; rfl)) hf (small_of hsz0 (j := 1) (t := 38) rfl rfl)
    rw [show Tryd.prog.bytesOf 96 = 24 from by kernel_rfl] at hz
    simp only [Value.cells, List.cons.injEq, and_true] at hcs
    subst hcs
    exact ⟨xs, hx, hz, hq⟩
  have k2 := h2
  have lt2 : ∀ x ∈ p2, x.block < W.heap.size := by obtain ⟨m, hm⟩ := k2; exact DataW.trod_lt m _ _ _ hm
  obtain ⟨x2, xl2, rfl, q2⟩ := open_arrW (enc := encK) (Q := QK) (size := 1) Tryd.underlying63 (by kernel_rfl) (by kernel_rfl) elsK (hval 2 63 v2 rfl rfl) h2 (small_of hsz0 (j := 2) (t := 63) rfl rfl)
  obtain ⟨a2, b2, rfl⟩ := two xl2
  clear hA0 hsz0
  refine (law_calls (Lasts.cons e0.stable (Lasts.cons (p := AllQ QL x0) (AllQ.stable (Q := QL) (W := W) (fun a w' h ha => QL.stable w' h ha) q0) (Lasts.cons e1.stable (Lasts.cons (p := AllQ QK [a2, b2]) (AllQ.stable (Q := QK) (W := W) (fun a w' h ha => QK.stable w' h ha) q2) (Lasts.cons (garr_stable (garr_tab (table0 hL) gTab0)) Lasts.nil))))) (whole2_spec (by repeat (first | assumption | exact List.mem_cons_self | refine List.mem_cons_of_mem _ ?_)) (by repeat (first | assumption | exact List.mem_cons_self | refine List.mem_cons_of_mem _ ?_)) (by repeat (first | assumption | exact List.mem_cons_self | refine List.mem_cons_of_mem _ ?_)) (by repeat (first | assumption | exact List.mem_cons_self | refine List.mem_cons_of_mem _ ?_)) (by repeat (first | assumption | exact List.mem_cons_self | refine List.mem_cons_of_mem _ ?_)) ⟨rfl, rfl⟩)).mono fun e W' ⟨he, bel⟩ => ?_
  subst he
  exact ⟨_, rfl, _, _, _, [], _, [], hW', trodAll_mk1 (shut_bool Tryd.underlying4 _), (trodAll_cons_mk (Below.trod laidOut (by kernel_rfl) (of_decide_eq_true (by kernel_rfl)) k0 bel lt0) (trodAll_cons_mk (Below.trod laidOut (by kernel_rfl) (of_decide_eq_true (by kernel_rfl)) k1 bel lt1) (trodAll_cons_mk (Below.trod laidOut (by kernel_rfl) (of_decide_eq_true (by kernel_rfl)) k2 bel lt2) trodAll_mk0))), rfl, bel.frame _, fun h => by cases h⟩

noncomputable def laidWorld (os : Os) : World :=
  { World.holding Tryd.prog os ⟨#[], #[], []⟩ with heap := ((World.holding Tryd.prog os ⟨#[], #[], []⟩).heap.modify 0 fun
      | .cells _ t frozen => .cells #[.int .u32 0, .int .u32 498536548, .int .u32 997073096, .int .u32 651767980, .int .u32 1994146192, .int .u32 1802195444, .int .u32 1303535960, .int .u32 1342533948, .int .u32 3988292384, .int .u32 4027552580, .int .u32 3604390888, .int .u32 3412177804, .int .u32 2607071920, .int .u32 2262029012, .int .u32 2685067896, .int .u32 3183342108] t frozen
      | o => o) }
theorem laid_met (os : Os) : laidMet Tryd.prog Rows.walWholeRow.laid ((laidWorld os).forCall (fun _ _ => 0) ⟨#[], #[.slice none 0 0, .slice none 0 0, .agg #[.slice none 0 0, .slice none 0 0]], []⟩).memory :=
  laidMet_of_run' 8 (by kernel_rfl) (by kernel_rfl)
theorem reads (os : Os) {H : Type} (enc : TypeId × Value → H) : ∃ places, DataW.whole enc Tryd.prog ((laidWorld os).forCall (fun _ _ => 0) ⟨#[], #[.slice none 0 0, .slice none 0 0, .agg #[.slice none 0 0, .slice none 0 0]], []⟩).memory Tryd.f4.params.toList Rows.walWholeSpec.vars false #[(.slice none 0 0 : Value), (.slice none 0 0 : Value), (.agg #[.slice none 0 0, .slice none 0 0] : Value)].toList 8 = some ([.nil, .nil, .agg [.nil, .nil]], [], places) :=
  ⟨[], by kernel_rfl⟩

set_option maxRecDepth 100000 in
theorem lifted (os : Os) (started : os.Started) (H : Type) (enc : TypeId × Value → H) (F : Stop.Interp) :
    ReturnsInHanded {} Tryd.checked os 4 .any ((OpenSpec.ofChange Rows.walWholeSpec).preRow enc Tryd.prog Tryd.f4 Rows.walWholeRow.domain false Rows.walWholeRow.laid) (((OpenSpec.ofChange Rows.walWholeSpec).at F).post enc Tryd.prog Tryd.f4 false true false false) := by
  obtain ⟨places, hx⟩ := reads os enc
  refine returnsInHanded_of_row (C := Tryd.checked) (s := (OpenSpec.ofChange Rows.walWholeSpec)) own started (by kernel_rfl) Tryd.func4
    (witness_row_at (enc := enc) (C := Tryd.checked) false (laidWorld os) #[.slice none 0 0, .slice none 0 0, .agg #[.slice none 0 0, .slice none 0 0]] rfl (by kernel_rfl) (by kernel_rfl) (by kernel_rfl)
      (OpenSpec.preRow_of_cond 8 hx (by kernel_rfl) (fun k hk => by cases hk) (by kernel_rfl) (laid_met os))) ?_
  intro W base args ds gs before hval hW _ hcond hsz hL _ _
  exact contract H enc W base args ds gs before hval hW hsz hL

theorem said : Rows.WalWholeSaid :=
  OpenClaim.holds_of_cond 4 Tryd.f4 rfl rfl rfl rfl rfl rfl rfl ⟨rfl, rfl, rfl, rfl, rfl⟩ rfl rfl rfl rfl rfl (by kernel_rfl) Tryd.func4 (by kernel_rfl)
    (of_decide_eq_true (by kernel_rfl)) (by unfold Func.isWrapper; first | (rw [if_pos (by decide +kernel)]; kernel_rfl) | (rw [if_neg (by decide +kernel)]; exact ⟨rfl, rfl⟩))
    (fun os started H enc _ F => by rw [OpenClaim.pre_eq_preRow]; exact lifted os started H enc F)
theorem plain (f : FuncId) (fn : Func) (hf : Tryd.pinned.checked.prog.funcNamed "stemma/stemmalaw06.WalWhole" = some f) (hfn : Tryd.pinned.checked.prog.funcs[f]? = some fn) :
    false = Tryd.pinned.checked.prog.looks [] ∧ ∀ (j : Nat) t, fn.params[j]? = some t → Tryd.pinned.checked.prog.wantsStandIn t = false := by
  obtain rfl : f = 4 := Option.some.inj ((show Tryd.prog.funcNamed "stemma/stemmalaw06.WalWhole" = some 4 by kernel_rfl).symm.trans hf) |>.symm
  obtain rfl : fn = Tryd.f4 := (Option.some.inj (Tryd.func4.symm.trans hfn)).symm
  refine ⟨by kernel_rfl, fun j t ht => ?_⟩
  rw [Tryd.params4] at ht
  have hm := Array.mem_of_getElem? ht
  simp only [List.mem_toArray, List.mem_cons, List.not_mem_nil, or_false] at hm
  rcases hm with rfl | rfl | rfl
  · exact (show Tryd.prog.wantsStandIn 62 = false by kernel_rfl)
  · exact (show Tryd.prog.wantsStandIn 38 = false by kernel_rfl)
  · exact (show Tryd.prog.wantsStandIn 63 = false by kernel_rfl)
theorem proved : Rows.WalWholeCardSaid :=
  Claim7.holds_tied_plain_at .later [] _ _ _ _ said (fun _ h => by cases h) (by kernel_rfl) (fun _ h => by cases h) walWhole_row_tie rfl ⟨rfl, rfl⟩ (by kernel_rfl) rfl plain (by kernel_rfl)
#print axioms proved
end Go.Proofs.YtaalegffcjbglaaDoor.lawWalWhole
