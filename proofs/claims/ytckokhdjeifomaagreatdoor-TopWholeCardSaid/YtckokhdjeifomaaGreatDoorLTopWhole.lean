/-
  The law TopWhole: whatever the input, it returns true, and the input reads behind the call as it did. The listed package-level tables hold what the program's text lays.
-/
import Derived.SizedLaws
import Derived.Test.YtckokhdjeifomaaGreatDoorCards
import Derived.Test.YtckokhdjeifomaaGreatDoorTie
import Derived.Lib.LaidTab
import Derived.Deep.DeepHandedRow
import Derived.JoinedCond
import Derived.Test.YtckokhdjeifomaaGreatDoorZ7
namespace Go.Proofs.YtckokhdjeifomaaGreatDoor.lawTopWhole
open Go Go.SL Go.ChangeShapes Go.WideShapes Go.ChangeAt Go.RowKit
open Go.ChangeMaps (open_string shut_string)

theorem own : ownKnob Tryz.prog.godebug = none := by kernel_rfl
theorem laidOut : laidOutB Tryz.prog = true := by kernel_rfl

theorem laidTail {P : Program} {x : String × DataW Unit} {rest : List (String × DataW Unit)} {W : World} (h : laidMet P (x :: rest) W) : laidMet P rest W := by
  obtain ⟨ps, ⟨_, _, _, _, _, q, _, _, _, _, hr, hp⟩, hn, ha⟩ := h
  subst hp
  exact ⟨q, hr, (List.nodup_append.1 hn).2.1, fun b off hm => ha b off (List.mem_append_right _ hm)⟩

theorem gTab0 : Tryz.prog.globalNamed "stemma/crc.table" = some 0 := by kernel_rfl
theorem gType0 : (Tryz.prog.globals[0]?).map (·.type) = some 180 := by kernel_rfl
theorem cells0 : Tryz.prog.cellsOf 180 = 16 := by kernel_rfl
theorem cell0 : Tryz.prog.cellsOf 134 = 1 := by kernel_rfl
theorem table0 {W : World} (h : laidMetH Tryz.prog Rows.topWholeRow.laid W) : Lib.TabIs Tryz.prog W "stemma/crc.table" .u32 tabZ :=
  Lib.tabIs_of_head (rest := [("stemma/sha.roots", Rows.laid_stemma_sha_roots)]) gTab0 gType0 Tryz.underlying180 Tryz.underlying134 cell0 cells0 (show laidMet Tryz.prog [("stemma/crc.table", Rows.laid_stemma_crc_table), ("stemma/sha.roots", Rows.laid_stemma_sha_roots)] W from h)

theorem gTab1 : Tryz.prog.globalNamed "stemma/sha.roots" = some 1 := by kernel_rfl
theorem gType1 : (Tryz.prog.globals[1]?).map (·.type) = some 197 := by kernel_rfl
theorem cells1 : Tryz.prog.cellsOf 197 = 64 := by kernel_rfl
theorem cell1 : Tryz.prog.cellsOf 134 = 1 := by kernel_rfl
theorem table1 {W : World} (h : laidMetH Tryz.prog Rows.topWholeRow.laid W) : Lib.TabIs Tryz.prog W "stemma/sha.roots" .u32 rootsZ :=
  Lib.tabIs_of_head (rest := []) gTab1 gType1 Tryz.underlying197 Tryz.underlying134 cell1 cells1 (laidTail (show laidMet Tryz.prog [("stemma/crc.table", Rows.laid_stemma_crc_table), ("stemma/sha.roots", Rows.laid_stemma_sha_roots)] W from h))

set_option maxRecDepth 100000 in
theorem contract (H : Type) (enc : TypeId × Value → H) (W : World) (base : Nat) (args : Array Value) (ds gs : List (DataW H)) (before : List MemPlace)
    (hval : ∀ (j : Nat) t v, Tryz.f3.params[j]? = some t → args[j]? = some v → Value.okWide Tryz.prog W .any base t v)
    (hW : DataW.Whole enc Tryz.prog Tryz.f3.params.toList Rows.topWholeSpec.vars false W args.toList ds gs before)
    (hsz0 : (DataW.weightsEach Tryz.prog (Tryz.f3.params.toList ++ Rows.topWholeSpec.plain.varTypes Tryz.prog) (ds ++ gs)).all (· ≤ reachBytes) = true)
    (hL : laidMetH Tryz.prog Rows.topWholeRow.laid W) :
    Calls Tryz.prog 3 args W fun e W' => ∃ v, e = .returned v ∧ Rows.topWholeSpec.post enc Tryz.prog Tryz.f3 false true false false W args v W' := by
  have hW' := hW
  obtain ⟨p, q, hA0, hV, rfl, hfz, hnd⟩ := hW
  have hA : DataW.TrodAll enc Tryz.prog W 0 (fun _ => true) true Tryz.f3.params.toList args.toList ds p := hA0
  rw [Tryz.params3] at hA hval
  obtain ⟨v0, vs0, d0, ds0, p0, q0, hargs, rfl, rfl, h0, r0⟩ := trodAll_cons hA
  obtain ⟨v1, vs1, d1, ds1, p1, q1, rfl, rfl, rfl, h1, r1⟩ := trodAll_cons r0
  obtain ⟨v2, vs2, d2, ds2, p2, q2, rfl, rfl, rfl, h2, r2⟩ := trodAll_cons r1
  obtain ⟨rfl, rfl, rfl⟩ := trodAll_nil r2
  obtain rfl : args = #[v0, v1, v2] := by cases args; simp_all
  obtain ⟨rfl, rfl⟩ := trodVars_none hV
  have k0 := h0
  have lt0 : ∀ x ∈ p0, x.block < W.heap.size := by obtain ⟨m, hm⟩ := k0; exact DataW.trod_lt m _ _ _ hm
  obtain ⟨o0, n0, c0, rfl⟩ := okWide_slice Tryz.underlying22 (hval 0 22 v0 rfl rfl)
  obtain ⟨x0, e0, z0, q0⟩ : ∃ xs, SlE (encD) (.slice o0 n0 c0) xs W ∧ xs.length * 32 ≤ 140737488351232 ∧ ∀ a ∈ xs, (fun _ _ => True) W a := by
    obtain ⟨fuel, hf⟩ := h0
    obtain ⟨v, xs, hcs, hx, hz, hq⟩ := open_SlEW (enc := encD) (size := 4) Tryz.underlying22 (by kernel_rfl) (by decide) elsD (by intro x; rfl) hf (small_of hsz0 (j := 0) (t := 22) rfl rfl)
    rw [show Tryz.prog.bytesOf 36 = 32 from by kernel_rfl] at hz
    simp only [Value.cells, List.cons.injEq, and_true] at hcs
    subst hcs
    exact ⟨xs, hx, hz, hq⟩
  have k1 := h1
  have lt1 : ∀ x ∈ p1, x.block < W.heap.size := by obtain ⟨m, hm⟩ := k1; exact DataW.trod_lt m _ _ _ hm
  obtain ⟨o1, n1, c1, rfl⟩ := okWide_slice Tryz.underlying23 (hval 1 23 v1 rfl rfl)
  obtain ⟨x1, e1, z1, q1⟩ : ∃ xs, SlE (SL.one (fun n : Int => .int .i64 n)) (.slice o1 n1 c1) xs W ∧ xs.length * 8 ≤ 140737488351232 ∧ ∀ a ∈ xs, (fun _ _ => True) W a := by
    obtain ⟨fuel, hf⟩ := h1
    obtain ⟨v, xs, hcs, hx, hz, hq⟩ := open_SlEW (enc := SL.one (fun n : Int => .int .i64 n)) (size := 1) Tryz.underlying23 (by kernel_rfl) (by decide) (elsW_of (els_int Tryz.underlying3)) (by intro x; rfl) hf (small_of hsz0 (j := 1) (t := 23) rfl rfl)
    rw [show Tryz.prog.bytesOf 3 = 8 from by kernel_rfl] at hz
    simp only [Value.cells, List.cons.injEq, and_true] at hcs
    subst hcs
    exact ⟨xs, hx, hz, hq⟩
  have k2 := h2
  have lt2 : ∀ x ∈ p2, x.block < W.heap.size := by obtain ⟨m, hm⟩ := k2; exact DataW.trod_lt m _ _ _ hm
  obtain ⟨o2, n2, c2, rfl⟩ := okWide_slice Tryz.underlying23 (hval 2 23 v2 rfl rfl)
  obtain ⟨x2, e2, z2, q2⟩ : ∃ xs, SlE (SL.one (fun n : Int => .int .i64 n)) (.slice o2 n2 c2) xs W ∧ xs.length * 8 ≤ 140737488351232 ∧ ∀ a ∈ xs, (fun _ _ => True) W a := by
    obtain ⟨fuel, hf⟩ := h2
    obtain ⟨v, xs, hcs, hx, hz, hq⟩ := open_SlEW (enc := SL.one (fun n : Int => .int .i64 n)) (size := 1) Tryz.underlying23 (by kernel_rfl) (by decide) (elsW_of (els_int Tryz.underlying3)) (by intro x; rfl) hf (small_of hsz0 (j := 2) (t := 23) rfl rfl)
    rw [show Tryz.prog.bytesOf 3 = 8 from by kernel_rfl] at hz
    simp only [Value.cells, List.cons.injEq, and_true] at hcs
    subst hcs
    exact ⟨xs, hx, hz, hq⟩
  clear hA0 hsz0
  refine (law_calls (Lasts.cons e0.stable (Lasts.cons e1.stable (Lasts.cons e2.stable (Lasts.cons (garr_stable (garr_tab (table0 hL) gTab0)) (Lasts.cons (garr_stable (garr_tab (table1 hL) gTab1)) Lasts.nil))))) (whole_spec (by repeat (first | assumption | exact List.mem_cons_self | refine List.mem_cons_of_mem _ ?_)) (by repeat (first | assumption | exact List.mem_cons_self | refine List.mem_cons_of_mem _ ?_)) (by repeat (first | assumption | exact List.mem_cons_self | refine List.mem_cons_of_mem _ ?_)) (by repeat (first | assumption | exact List.mem_cons_self | refine List.mem_cons_of_mem _ ?_)) (by repeat (first | assumption | exact List.mem_cons_self | refine List.mem_cons_of_mem _ ?_)) (by omega) ⟨rfl, rfl⟩)).mono fun e W' ⟨he, bel⟩ => ?_
  subst he
  exact ⟨_, rfl, _, _, _, [], _, [], hW', trodAll_mk1 (shut_bool Tryz.underlying4 _), (trodAll_cons_mk (Below.trod laidOut (by kernel_rfl) (of_decide_eq_true (by kernel_rfl)) k0 bel lt0) (trodAll_cons_mk (Below.trod laidOut (by kernel_rfl) (of_decide_eq_true (by kernel_rfl)) k1 bel lt1) (trodAll_cons_mk (Below.trod laidOut (by kernel_rfl) (of_decide_eq_true (by kernel_rfl)) k2 bel lt2) trodAll_mk0))), rfl, bel.frame _, fun h => by cases h⟩

noncomputable def laidWorld (os : Os) : World :=
  { World.holding Tryz.prog os ⟨#[], #[], []⟩ with heap := (((World.holding Tryz.prog os ⟨#[], #[], []⟩).heap.modify 0 fun
      | .cells _ t frozen => .cells #[.int .u32 0, .int .u32 498536548, .int .u32 997073096, .int .u32 651767980, .int .u32 1994146192, .int .u32 1802195444, .int .u32 1303535960, .int .u32 1342533948, .int .u32 3988292384, .int .u32 4027552580, .int .u32 3604390888, .int .u32 3412177804, .int .u32 2607071920, .int .u32 2262029012, .int .u32 2685067896, .int .u32 3183342108] t frozen
      | o => o).modify 1 fun
      | .cells _ t frozen => .cells #[.int .u32 1116352408, .int .u32 1899447441, .int .u32 3049323471, .int .u32 3921009573, .int .u32 961987163, .int .u32 1508970993, .int .u32 2453635748, .int .u32 2870763221, .int .u32 3624381080, .int .u32 310598401, .int .u32 607225278, .int .u32 1426881987, .int .u32 1925078388, .int .u32 2162078206, .int .u32 2614888103, .int .u32 3248222580, .int .u32 3835390401, .int .u32 4022224774, .int .u32 264347078, .int .u32 604807628, .int .u32 770255983, .int .u32 1249150122, .int .u32 1555081692, .int .u32 1996064986, .int .u32 2554220882, .int .u32 2821834349, .int .u32 2952996808, .int .u32 3210313671, .int .u32 3336571891, .int .u32 3584528711, .int .u32 113926993, .int .u32 338241895, .int .u32 666307205, .int .u32 773529912, .int .u32 1294757372, .int .u32 1396182291, .int .u32 1695183700, .int .u32 1986661051, .int .u32 2177026350, .int .u32 2456956037, .int .u32 2730485921, .int .u32 2820302411, .int .u32 3259730800, .int .u32 3345764771, .int .u32 3516065817, .int .u32 3600352804, .int .u32 4094571909, .int .u32 275423344, .int .u32 430227734, .int .u32 506948616, .int .u32 659060556, .int .u32 883997877, .int .u32 958139571, .int .u32 1322822218, .int .u32 1537002063, .int .u32 1747873779, .int .u32 1955562222, .int .u32 2024104815, .int .u32 2227730452, .int .u32 2361852424, .int .u32 2428436474, .int .u32 2756734187, .int .u32 3204031479, .int .u32 3329325298] t frozen
      | o => o) }
theorem laid_met (os : Os) : laidMet Tryz.prog Rows.topWholeRow.laid ((laidWorld os).forCall (fun _ _ => 0) ⟨#[], #[.slice none 0 0, .slice none 0 0, .slice none 0 0], []⟩).memory :=
  laidMet_of_run' 8 (by kernel_rfl) (by kernel_rfl)
theorem reads (os : Os) {H : Type} (enc : TypeId × Value → H) : ∃ places, DataW.whole enc Tryz.prog ((laidWorld os).forCall (fun _ _ => 0) ⟨#[], #[.slice none 0 0, .slice none 0 0, .slice none 0 0], []⟩).memory Tryz.f3.params.toList Rows.topWholeSpec.vars false #[(.slice none 0 0 : Value), (.slice none 0 0 : Value), (.slice none 0 0 : Value)].toList 8 = some ([.nil, .nil, .nil], [], places) :=
  ⟨[], by kernel_rfl⟩

set_option maxRecDepth 100000 in
theorem lifted (os : Os) (started : os.Started) (H : Type) (enc : TypeId × Value → H) (F : Stop.Interp) :
    ReturnsInHanded {} Tryz.checked os 3 .any ((OpenSpec.ofChange Rows.topWholeSpec).preRow enc Tryz.prog Tryz.f3 Rows.topWholeRow.domain false Rows.topWholeRow.laid) (((OpenSpec.ofChange Rows.topWholeSpec).at F).post enc Tryz.prog Tryz.f3 false true false false) := by
  obtain ⟨places, hx⟩ := reads os enc
  refine returnsInHanded_of_row (C := Tryz.checked) (s := (OpenSpec.ofChange Rows.topWholeSpec)) own started (by kernel_rfl) Tryz.func3
    (witness_row_at (enc := enc) (C := Tryz.checked) false (laidWorld os) #[.slice none 0 0, .slice none 0 0, .slice none 0 0] rfl (by kernel_rfl) (by kernel_rfl) (by kernel_rfl)
      (OpenSpec.preRow_of_cond 8 hx (by kernel_rfl) (fun k hk => by cases hk) (by kernel_rfl) (laid_met os))) ?_
  intro W base args ds gs before hval hW _ hcond hsz hL _ _
  exact contract H enc W base args ds gs before hval hW hsz hL

theorem said : Rows.TopWholeSaid :=
  OpenClaim.holds_of_cond 3 Tryz.f3 rfl rfl rfl rfl rfl rfl rfl ⟨rfl, rfl, rfl, rfl, rfl⟩ rfl rfl rfl rfl rfl (by kernel_rfl) Tryz.func3 (by kernel_rfl)
    (of_decide_eq_true (by kernel_rfl)) (by unfold Func.isWrapper; (rw [if_neg (by decide +kernel)]; exact ⟨rfl, rfl⟩))
    (fun os started H enc _ F => by rw [OpenClaim.pre_eq_preRow]; exact lifted os started H enc F)
theorem plain (f : FuncId) (fn : Func) (hf : Tryz.pinned.checked.prog.funcNamed "stemma/stemmatop.TopWhole" = some f) (hfn : Tryz.pinned.checked.prog.funcs[f]? = some fn) :
    false = Tryz.pinned.checked.prog.looks [] ∧ ∀ (j : Nat) t, fn.params[j]? = some t → Tryz.pinned.checked.prog.wantsStandIn t = false := by
  obtain rfl : f = 3 := Option.some.inj ((show Tryz.prog.funcNamed "stemma/stemmatop.TopWhole" = some 3 by kernel_rfl).symm.trans hf) |>.symm
  obtain rfl : fn = Tryz.f3 := (Option.some.inj (Tryz.func3.symm.trans hfn)).symm
  refine ⟨by kernel_rfl, fun j t ht => ?_⟩
  rw [Tryz.params3] at ht
  have hm := Array.mem_of_getElem? ht
  simp only [List.mem_toArray, List.mem_cons, List.not_mem_nil, or_false] at hm
  rcases hm with rfl | rfl | rfl
  · exact (show Tryz.prog.wantsStandIn 22 = false by kernel_rfl)
  · exact (show Tryz.prog.wantsStandIn 23 = false by kernel_rfl)
  · exact (show Tryz.prog.wantsStandIn 23 = false by kernel_rfl)
theorem proved : Rows.TopWholeCardSaid :=
  Claim7.holds_tied_plain_at .later [] _ _ _ _ said (fun _ h => by cases h) (by kernel_rfl) (fun _ h => by cases h) topWhole_row_tie rfl ⟨rfl, rfl⟩ (by kernel_rfl) rfl plain (by kernel_rfl)
#print axioms proved
end Go.Proofs.YtckokhdjeifomaaGreatDoor.lawTopWhole
