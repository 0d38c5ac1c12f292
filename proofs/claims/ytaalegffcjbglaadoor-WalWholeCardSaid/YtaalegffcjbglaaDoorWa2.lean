/-
  Layer 6: the program's log.
-/
import Derived.Test.YtaalegffcjbglaaDoorWa1
namespace Go.Proofs.YtaalegffcjbglaaDoor
open Go Go.SL

theorem byte_wrap (n : Nat) : IntKind.u8.wrap (n : Int) = ((byteOf n).toNat : Int) := wrap_byte n
theorem u8_sum {a b : UInt8} : (a.toNat * 2 ^ 8 ||| b.toNat) = a.toNat * 256 + b.toNat := by
  rw [num_or]; omega
/-- A row that is only read from now on. -/
theorem Sat.shareG {R : List RO} {O O' : List Own} {b : Nat} {e : TypeId} {cs : List Value} {w : World} (hT : Take (rowC b e cs) O O') (h : Sat R O w) : Sat (garr b cs :: R) O' w := (h.perm hT.perm).share _ (fun w hp _ j u hj => row_cell hp hj)
def Chgs (x : List Chg) : Prop := ∀ c ∈ x, 0 ≤ c.1 ∧ c.1 < 65536 ∧ c.2.length ≤ 512
section
variable {R : List RO} {O : List Own} {POST : Value → List RO → List Own → Prop} {d l m : Nat} {V : DV} {s : DSt} {f z : Int}
abbrev logR (l d : Nat) (f z : Int) : RO := garr l [dp d, .int .i64 f, .int .i64 z]
set_option maxRecDepth 20000 in
theorem own_spec {i : Int} (hl : logR l d f z ∈ R) (hz : 0 ≤ f ∧ f ≤ 5000 ∧ 0 ≤ z ∧ z ≤ 5000) (hk : POST (.bool (decide (f ≤ i ∧ i < f + z))) R O) : Fun Tryd.prog 53 #[dp l, .int .i64 i] R O POST := by
  refine Fun.enter (l := [_, _]) Tryd.func53 rfl Tryd.ntmps53 rfl (L0 := [(0, _), (1, _)]) rfl ?_
  refine WC.seq ?_
  refine WC.region ?_
  refine WL.rd rfl rfl rfl (Rd.assign rfl rfl) ?_
  refine WL.nil ?_
  refine thenQ.normal ?_
  refine WC.seq ?_
  refine WC.still mixed (by kernel_rfl) ?_
  refine WA.rd rfl rfl rfl (Rd.move rfl rfl) ?_
  refine WA.rd rfl rfl rfl (Rd.move rfl rfl) ?_
  refine WA.rd rfl rfl rfl (Rd.nilc rfl rfl) ?_
  refine WA.rd rfl rfl rfl ((by first | exact Rd.field rfl F84_1 rfl rfl | exact Rd.fieldE rfl F84_1 rfl (by repeat (first | assumption | exact List.mem_cons_self | refine List.mem_cons_of_mem _ ?_)) (by omega) | exact Rd.fieldA rfl F84_1 rfl (by repeat (first | assumption | exact List.mem_cons_self | refine List.mem_cons_of_mem _ ?_)) (by omega))) ?_
  refine WA.rd rfl rfl rfl (Rd.getGl (off := 1) rfl C3 rfl hl rfl) ?_
  refine WA.rd rfl rfl rfl (Rd.geq rfl rfl rfl) ?_
  refine WA.rd rfl rfl rfl (Rd.move rfl rfl) ?_
  refine WA.case 11 rfl (fun hg11 => ?_) (fun hg11 => ?_)
  · skip
    refine WA.rd_yes rfl rfl rfl rfl rfl rfl (Rd.move rfl rfl) ?_
    refine WA.rd_yes rfl rfl rfl rfl rfl rfl (Rd.move rfl rfl) ?_
    refine WA.rd_yes rfl rfl rfl rfl rfl rfl (Rd.nilc rfl rfl) ?_
    refine WA.rd_yes rfl rfl rfl rfl rfl rfl ((by first | exact Rd.field rfl F84_1 rfl rfl | exact Rd.fieldE rfl F84_1 rfl (by repeat (first | assumption | exact List.mem_cons_self | refine List.mem_cons_of_mem _ ?_)) (by omega) | exact Rd.fieldA rfl F84_1 rfl (by repeat (first | assumption | exact List.mem_cons_self | refine List.mem_cons_of_mem _ ?_)) (by omega))) ?_
    refine WA.rd_yes rfl rfl rfl rfl rfl rfl (Rd.getGl (off := 1) rfl C3 rfl hl rfl) ?_
    refine WA.rd_yes rfl rfl rfl rfl rfl rfl (Rd.move rfl rfl) ?_
    refine WA.rd_yes rfl rfl rfl rfl rfl rfl (Rd.nilc rfl rfl) ?_
    refine WA.rd_yes rfl rfl rfl rfl rfl rfl ((by first | exact Rd.field rfl F84_2 rfl rfl | exact Rd.fieldE rfl F84_2 rfl (by repeat (first | assumption | exact List.mem_cons_self | refine List.mem_cons_of_mem _ ?_)) (by omega) | exact Rd.fieldA rfl F84_2 rfl (by repeat (first | assumption | exact List.mem_cons_self | refine List.mem_cons_of_mem _ ?_)) (by omega))) ?_
    refine WA.rd_yes rfl rfl rfl rfl rfl rfl (Rd.getGl (off := 2) rfl C3 rfl hl rfl) ?_
    refine WA.rd_yes rfl rfl rfl rfl rfl rfl (Rd.add rfl rfl rfl (by omega)) ?_
    refine WA.rd_yes rfl rfl rfl rfl rfl rfl (Rd.lss rfl rfl rfl) ?_
    refine WA.rd rfl rfl rfl (Rd.pick_t rfl rfl rfl) ?_
    refine WA.rd rfl rfl rfl (Rd.assign rfl rfl) ?_
    refine WA.nil ?_
    refine thenQ.normal ?_
    -- ret_1
    refine WC.ret (Ret.one Tryd.results53 rfl ?_)
    rw [show decide (f ≤ i ∧ i < f + z) = decide (i < f + z) from by rw [decide_eq_decide]; exact ⟨fun h => h.2, fun h => ⟨by omega, h⟩⟩] at hk
    exact hk
  · skip
    refine WA.no rfl rfl rfl rfl rfl rfl ?_
    refine WA.no rfl rfl rfl rfl rfl rfl ?_
    refine WA.no rfl rfl rfl rfl rfl rfl ?_
    refine WA.no rfl rfl rfl rfl rfl rfl ?_
    refine WA.no rfl rfl rfl rfl rfl rfl ?_
    refine WA.no rfl rfl rfl rfl rfl rfl ?_
    refine WA.no rfl rfl rfl rfl rfl rfl ?_
    refine WA.no rfl rfl rfl rfl rfl rfl ?_
    refine WA.no rfl rfl rfl rfl rfl rfl ?_
    refine WA.no rfl rfl rfl rfl rfl rfl ?_
    refine WA.no rfl rfl rfl rfl rfl rfl ?_
    refine WA.rd rfl rfl rfl (Rd.pick_f rfl rfl rfl) ?_
    refine WA.rd rfl rfl rfl (Rd.assign rfl rfl) ?_
    refine WA.nil ?_
    refine thenQ.normal ?_
    -- ret_2
    refine WC.ret (Ret.one Tryd.results53 rfl ?_)
    rw [decide_eq_false (by omega)] at hk
    exact hk
set_option maxRecDepth 20000 in
theorem may_spec {i : Int} (hl : logR l d f z ∈ R) (hz : 0 ≤ f ∧ f ≤ 5000 ∧ 0 ≤ z ∧ z ≤ 5000) (hk : POST (.bool (mayB s f z i)) R (dO d V s O)) : Fun Tryd.prog 44 #[dp l, .int .i64 i] R (dO d V s O) POST := by
  refine Fun.enter (l := [_, _]) Tryd.func44 rfl Tryd.ntmps44 rfl (L0 := [(0, _), (1, _)]) rfl ?_
  refine WC.seq ?_
  refine WC.region ?_
  refine WL.rd rfl rfl rfl (Rd.assign rfl rfl) ?_
  refine WL.nil ?_
  refine thenQ.normal ?_
  refine WC.seq ?_
  refine WC.region ?_
  refine WL.rd rfl rfl rfl (Rd.move rfl rfl) ?_
  refine WL.rd rfl rfl rfl (Rd.geq rfl rfl rfl) ?_
  refine WL.rd rfl rfl rfl (Rd.move rfl rfl) ?_
  refine WL.case 7 rfl (fun hg7 => ?_) (fun hg7 => ?_)
  · skip
    refine WL.rd_yes rfl rfl rfl rfl rfl rfl (Rd.move rfl rfl) ?_
    refine WL.rd_yes rfl rfl rfl rfl rfl rfl (Rd.move rfl rfl) ?_
    refine WL.rd_yes rfl rfl rfl rfl rfl rfl (Rd.nilc rfl rfl) ?_
    refine WL.rd_yes rfl rfl rfl rfl rfl rfl ((by first | exact Rd.field rfl F84_0 rfl rfl | exact Rd.fieldE rfl F84_0 rfl (by repeat (first | assumption | exact List.mem_cons_self | refine List.mem_cons_of_mem _ ?_)) (by omega) | exact Rd.fieldA rfl F84_0 rfl (by repeat (first | assumption | exact List.mem_cons_self | refine List.mem_cons_of_mem _ ?_)) (by omega))) ?_
    refine WL.rd_yes rfl rfl rfl rfl rfl rfl (Rd.getGl (off := 0) (u := dp d) rfl C25 rfl hl rfl) ?_
    refine WL.op_yes rfl rfl rfl rfl ?_
    refine OpW.call rfl rfl (by repeat (first | exact Evs.nil | apply Evs.cons rfl)) (by kernel_rfl) rfl rfl rfl ?_
    refine size_spec ?_
    refine WL.rd_yes rfl rfl rfl rfl rfl rfl (Rd.lss rfl rfl rfl) ?_
    refine WL.rd rfl rfl rfl (Rd.pick_t rfl rfl rfl) ?_
    refine WL.rd rfl rfl rfl (Rd.move rfl rfl) ?_
    refine WL.case 16 rfl (fun hg16 => ?_) (fun hg16 => ?_)
    · skip
      refine WL.rd_yes rfl rfl rfl rfl rfl rfl (Rd.move rfl rfl) ?_
      refine WL.rd_yes rfl rfl rfl rfl rfl rfl (Rd.move rfl rfl) ?_
      refine WL.op_yes rfl rfl rfl rfl ?_
      refine OpW.call rfl rfl (by repeat (first | exact Evs.nil | apply Evs.cons rfl)) (by kernel_rfl) rfl rfl rfl ?_
      refine own_spec hl hz ?_
      refine WL.rd_yes rfl rfl rfl rfl rfl rfl ((by first | exact Rd.notd rfl rfl | exact Rd.not rfl rfl)) ?_
      refine WL.rd rfl rfl rfl (Rd.pick_t rfl rfl rfl) ?_
      refine WL.rd rfl rfl rfl (Rd.assign rfl rfl) ?_
      refine WL.nil ?_
      refine thenQ.normal ?_
      -- ret_1
      refine WC.ret (Ret.one Tryd.results44 rfl ?_)
      first
        | (have e : mayB s f z i = false := decide_eq_false (by omega)
           rw [e] at hk
           exact hk)
        | (have e : mayB s f z i = !decide (f ≤ i ∧ i < f + z) := by
             unfold mayB
             rw [Bool.eq_iff_iff]
             simp only [decide_eq_true_eq, Bool.not_eq_true', decide_eq_false_iff_not]
             omega
           rw [e] at hk
           exact hk)
        | (have e : mayB s f z i = decide (¬ (f ≤ i ∧ i < f + z)) := by
             unfold mayB
             rw [decide_eq_decide]
             omega
           rw [e] at hk
           exact hk)
    · skip
      refine WL.no rfl rfl rfl rfl rfl rfl ?_
      refine WL.no rfl rfl rfl rfl rfl rfl ?_
      refine WL.no rfl rfl rfl rfl rfl rfl ?_
      refine WL.no rfl rfl rfl rfl rfl rfl ?_
      refine WL.rd rfl rfl rfl (Rd.pick_f rfl rfl rfl) ?_
      refine WL.rd rfl rfl rfl (Rd.assign rfl rfl) ?_
      refine WL.nil ?_
      refine thenQ.normal ?_
      -- ret_2
      refine WC.ret (Ret.one Tryd.results44 rfl ?_)
      first
        | (have e : mayB s f z i = false := decide_eq_false (by omega)
           rw [e] at hk
           exact hk)
        | (have e : mayB s f z i = !decide (f ≤ i ∧ i < f + z) := by
             unfold mayB
             rw [Bool.eq_iff_iff]
             simp only [decide_eq_true_eq, Bool.not_eq_true', decide_eq_false_iff_not]
             omega
           rw [e] at hk
           exact hk)
        | (have e : mayB s f z i = decide (¬ (f ≤ i ∧ i < f + z)) := by
             unfold mayB
             rw [decide_eq_decide]
             omega
           rw [e] at hk
           exact hk)
  · skip
    refine WL.no rfl rfl rfl rfl rfl rfl ?_
    refine WL.no rfl rfl rfl rfl rfl rfl ?_
    refine WL.no rfl rfl rfl rfl rfl rfl ?_
    refine WL.no rfl rfl rfl rfl rfl rfl ?_
    refine WL.no rfl rfl rfl rfl rfl rfl ?_
    refine WL.no rfl rfl rfl rfl rfl rfl ?_
    refine WL.no rfl rfl rfl rfl rfl rfl ?_
    refine WL.rd rfl rfl rfl (Rd.pick_f rfl rfl rfl) ?_
    refine WL.rd rfl rfl rfl (Rd.move rfl rfl) ?_
    refine WL.no rfl rfl rfl rfl rfl rfl ?_
    refine WL.no rfl rfl rfl rfl rfl rfl ?_
    refine WL.no rfl rfl rfl rfl rfl rfl ?_
    refine WL.no rfl rfl rfl rfl rfl rfl ?_
    refine WL.rd rfl rfl rfl (Rd.pick_f rfl rfl rfl) ?_
    refine WL.rd rfl rfl rfl (Rd.assign rfl rfl) ?_
    refine WL.nil ?_
    refine thenQ.normal ?_
    -- ret_3
    refine WC.ret (Ret.one Tryd.results44 rfl ?_)
    first
      | (have e : mayB s f z i = false := decide_eq_false (by omega)
         rw [e] at hk
         exact hk)
      | (have e : mayB s f z i = !decide (f ≤ i ∧ i < f + z) := by
           unfold mayB
           rw [Bool.eq_iff_iff]
           simp only [decide_eq_true_eq, Bool.not_eq_true', decide_eq_false_iff_not]
           omega
         rw [e] at hk
         exact hk)
      | (have e : mayB s f z i = decide (¬ (f ≤ i ∧ i < f + z)) := by
           unfold mayB
           rw [decide_eq_decide]
           omega
         rw [e] at hk
         exact hk)
set_option maxRecDepth 20000 in
theorem most_spec (hl : logR l d f z ∈ R) (hz : 0 ≤ z ∧ z ≤ 5000) (hk : POST (.int .i64 (z - 1)) R O) : Fun Tryd.prog 24 #[dp l] R O POST := by
  refine Fun.enter (l := [_]) Tryd.func24 rfl Tryd.ntmps24 rfl (L0 := [(0, _)]) rfl ?_
  refine WC.seq ?_
  refine WC.region ?_
  refine WL.rd rfl rfl rfl (Rd.assign rfl rfl) ?_
  refine WL.nil ?_
  refine thenQ.normal ?_
  refine WC.seq ?_
  refine WC.seq ?_
  refine WC.region ?_
  refine WL.rd rfl rfl rfl (Rd.move rfl rfl) ?_
  refine WL.rd rfl rfl rfl (Rd.peqN rfl Tryd.underlying33 rfl rfl) ?_
  refine WL.nil ?_
  refine thenQ.normal ?_
  first | refine WC.ite rfl (fun hc1 => ?_) (fun hc1 => ?_) | refine WC.cond rfl (fun hc1 => ?_) (fun hc1 => ?_)
  · skip
    simp at hc1
  · skip
    refine WC.skip ?_
    refine thenQ.normal ?_
    refine WC.seq ?_
    refine WC.region ?_
    refine WL.rd rfl rfl rfl (Rd.move rfl rfl) ?_
    refine WL.rd rfl rfl rfl (Rd.nilc rfl rfl) ?_
    refine WL.rd rfl rfl rfl ((by first | exact Rd.field rfl F84_2 rfl rfl | exact Rd.fieldE rfl F84_2 rfl (by repeat (first | assumption | exact List.mem_cons_self | refine List.mem_cons_of_mem _ ?_)) (by omega) | exact Rd.fieldA rfl F84_2 rfl (by repeat (first | assumption | exact List.mem_cons_self | refine List.mem_cons_of_mem _ ?_)) (by omega))) ?_
    refine WL.rd rfl rfl rfl (Rd.getGl (off := 2) rfl C3 rfl hl rfl) ?_
    refine WL.rd rfl rfl rfl (Rd.sub rfl rfl rfl (by omega)) ?_
    refine WL.rd rfl rfl rfl (Rd.assign rfl rfl) ?_
    refine WL.nil ?_
    refine thenQ.normal ?_
    -- ret_1
    refine WC.ret (Ret.one Tryd.results24 rfl ?_)
    exact hk
set_option maxRecDepth 20000 in
set_option maxHeartbeats 2000000 in
theorem walHead_spec {x : List Chg} {xv : Value} (ht : tabR ∈ R) (hx : SlE encC xv x ∈ R) (hc : Chgs x) (hn : x.length ≤ 64) (hk : POST (vs (headB x)) R O) : Fun Tryd.prog 46 #[xv] R O POST := by
  have hhl := hdB_len x
  have hal : (allB x).length ≤ 200000 := by
    unfold allB
    rw [List.length_append, flat_full_len (fun c hc' => (hc c hc').2.2)]; omega
  have hsum := sumE_lt (allB x)
  refine Fun.enter (l := [_]) Tryd.func46 rfl Tryd.ntmps46 rfl (L0 := [(0, _)]) rfl ?_
  refine WC.seq ?_
  refine WC.region ?_
  refine WL.rd rfl rfl rfl (Rd.assign rfl rfl) ?_
  refine WL.nil ?_
  refine thenQ.normal ?_
  refine WC.seq ?_
  refine WC.region ?_
  refine WL.rd rfl rfl rfl (Rd.move rfl rfl) ?_
  refine WL.rd rfl rfl rfl ((by first | exact Rd.lenE rfl rfl Tryd.underlying42 (by repeat (first | assumption | exact List.mem_cons_self | refine List.mem_cons_of_mem _ ?_)) | exact Rd.lenA rfl rfl Tryd.underlying42 (by repeat (first | assumption | exact List.mem_cons_self | refine List.mem_cons_of_mem _ ?_)) | exact Rd.len rfl rfl Tryd.underlying42)) ?_
  refine WL.rd rfl rfl rfl (Rd.convw (kd' := .u8) rfl rfl Tryd.underlying5 (hS := Tryd.underlying3)) ?_
  refine WL.say 13 (u := vy (byteOf x.length)) rfl (by rw [byte_wrap]) ?_
  refine WL.op rfl ?_
  refine OpW.buildSl (ps := [(0, _)]) rfl S112 (by repeat (first | exact Evs.nil | apply Evs.cons rfl)) rfl rfl (by repeat (first | exact CellsOf.nil | apply CellsOf.cons rfl)) (by kernel_rfl) rfl rfl rfl ?_; intro b14
  refine WL.rd rfl rfl rfl (Rd.strOfR (bs := [byteOf x.length]) rfl Tryd.underlying112 Tryd.underlying9 Tryd.underlying5 rfl (by repeat (first | assumption | exact List.mem_cons_self | refine List.mem_cons_of_mem _ ?_)) rfl rfl (by omega)) ?_
  refine WL.rd rfl rfl rfl (Rd.scat rfl rfl rfl (by show 2 + 1 ≤ _; omega)) ?_
  refine WL.rd rfl rfl rfl (Rd.assign rfl rfl) ?_
  refine WL.nil ?_
  refine thenQ.normal ?_
  refine WC.seq ?_
  refine WC.seq ?_
  refine WC.region ?_
  refine WL.rd rfl rfl rfl (Rd.move rfl rfl) ?_
  refine WL.rd rfl rfl rfl ((by first | exact Rd.lenE rfl rfl Tryd.underlying42 (by repeat (first | assumption | exact List.mem_cons_self | refine List.mem_cons_of_mem _ ?_)) | exact Rd.lenA rfl rfl Tryd.underlying42 (by repeat (first | assumption | exact List.mem_cons_self | refine List.mem_cons_of_mem _ ?_)) | exact Rd.len rfl rfl Tryd.underlying42)) ?_
  refine WL.rd rfl rfl rfl (Rd.move rfl rfl) ?_
  refine WL.nil ?_
  refine thenQ.normal ?_
  refine WC.block ?_
  refine WC.pick [3, 19, 0, 17, 18] (by repeat (first | exact Pick.nil | apply Pick.cons rfl)) ?_
  refine WC.loop1 2 (fun (j : Nat) => [(3, vs ([87, 76, byteOf x.length] ++ (x.take j).flatMap fun c => [byteOf (c.1.toNat / 256), byteOf c.1.toNat])), (19, .int .i64 (j : Int))]) (fun (j : Nat) => O) (fun (j : Nat) => j ≤ x.length) (fun (j : Nat) => x.length - j) (0) (by repeat (first | exact Split.zero | apply Split.succ)) ?hinv1 (by repeat (first | exact Sub.nil | refine Sub.cons rfl (by first | rfl | (congr 1; omega) | assumption) ?_)) (fun w h => OwnL.sat (by repeat (first | exact OwnL.refl | apply OwnL.take (by repeat (first | exact Take.head _ | apply Take.tail)) | apply OwnL.drop)) w (h.thin (SubL.mem (by repeat (first | exact SubL.refl | refine SubL.cons (by repeat (first | assumption | exact List.mem_cons_self | refine List.mem_cons_of_mem _ ?_)) ?_ | refine SubL.skip ?_))))) ?_
  case hinv1 =>
    exact Nat.zero_le _
  intro j
  rintro j1
  refine WC.seq ?_
  refine WC.region ?_
  refine WL.rd rfl rfl rfl (Rd.lss rfl rfl rfl) ?_
  refine WL.nil ?_
  refine thenQ.normal ?_
  refine WC.seq ?_
  first | refine WC.ite rfl (fun hc1 => ?_) (fun hc1 => ?_) | refine WC.cond rfl (fun hc1 => ?_) (fun hc1 => ?_)
  · skip
    obtain ⟨hc1', hc2', hc3'⟩ := hc _ (chg_mem (x := x) (j := j) (by omega))
    have hpl : ([87, 76, byteOf x.length] ++ (x.take j).flatMap fun c => [byteOf (c.1.toNat / 256), byteOf c.1.toNat]).length = 3 + 2 * j := by
      have := hdB_len (x.take j)
      unfold hdB at this
      rw [List.length_append] at this ⊢
      rw [List.length_take, Nat.min_eq_left (by omega)] at this
      exact this
    have hnx := flat_next (g := fun c : Chg => [byteOf (c.1.toNat / 256), byteOf c.1.toNat]) (x := x) (j := j) (by omega)
    obtain ⟨c, hcc⟩ : ∃ c, c = x[j]! := ⟨_, rfl⟩
    rw [← hcc] at hc1' hc2' hc3' hnx
    refine WC.skip ?_
    refine thenQ.normal ?_
    refine WC.seq ?_
    refine WC.block ?_
    refine WC.seq ?_
    refine WC.region ?_
    refine WL.rd rfl rfl rfl ((by first | exact Rd.idx rfl S42 rfl rfl rfl (by repeat (first | assumption | exact List.mem_cons_self | refine List.mem_cons_of_mem _ ?_)) (by first | omega | (simp only [List.length_cons, List.length_nil, List.length_append, List.length_map]; omega)) | exact Rd.idxA rfl S42 rfl rfl rfl (by repeat (first | assumption | exact List.mem_cons_self | refine List.mem_cons_of_mem _ ?_)) (by first | omega | (simp only [List.length_cons, List.length_nil, List.length_append, List.length_map]; omega)) | exact Rd.idxR rfl S42 rfl rfl rfl (by omega))) ?_
    refine WL.rd rfl rfl rfl (Rd.getS (k := j) (a := c) (cs := [.int .i64 c.1, vs c.2]) (enc := encC) (xs := x) rfl G55 rfl (by repeat (first | assumption | exact List.mem_cons_self | refine List.mem_cons_of_mem _ ?_)) (fun _ => rfl) (by rw [hcc]; exact get!_of_lt (by omega)) (by repeat (first | exact NF.nil | apply NF.cons))) ?_
    refine WL.op rfl ?_
    refine OpW.alloc rfl I55 rfl (by repeat (first | exact NF.nil | apply NF.cons)) rfl rfl ?_; intro b5
    refine WL.op rfl ?_
    refine OpW.storeS rfl G55 rfl rfl (by repeat (first | exact NF.nil | apply NF.cons)) (by repeat (first | assumption | exact Take.head _ | apply Take.tail)) rfl rfl (by repeat (first | exact NF.nil | apply NF.cons)) rfl ?_
    refine WL.nil ?_
    refine thenQ.normal ?_
    refine WC.region ?_
    refine WL.rd rfl rfl rfl (Rd.move rfl rfl) ?_
    refine WL.rd rfl rfl rfl ((by first | exact Rd.field rfl F55_0 rfl rfl | exact Rd.fieldE rfl F55_0 rfl (by repeat (first | assumption | exact List.mem_cons_self | refine List.mem_cons_of_mem _ ?_)) (by omega) | exact Rd.fieldA rfl F55_0 rfl (by repeat (first | assumption | exact List.mem_cons_self | refine List.mem_cons_of_mem _ ?_)) (by omega))) ?_
    refine WL.rd rfl rfl rfl (Rd.row1 (off := 0) (u := .int .i64 c.1) rfl C3 rfl (by repeat (first | assumption | exact List.mem_cons_self | refine List.mem_cons_of_mem _ ?_)) rfl) ?_
    refine WL.rd rfl rfl rfl (Rd.shrN (a := c.1.toNat) (n := 8) rfl rfl rfl (by omega) rfl (by decide)) ?_
    refine WL.rd rfl rfl rfl (Rd.convw (kd' := .u8) rfl rfl Tryd.underlying5 (hS := Tryd.underlying3)) ?_
    refine WL.say 27 (u := vy (byteOf (c.1.toNat / 256))) rfl (by rw [byte_wrap]) ?_
    refine WL.rd rfl rfl rfl ((by first | exact Rd.field rfl F55_0 rfl rfl | exact Rd.fieldE rfl F55_0 rfl (by repeat (first | assumption | exact List.mem_cons_self | refine List.mem_cons_of_mem _ ?_)) (by omega) | exact Rd.fieldA rfl F55_0 rfl (by repeat (first | assumption | exact List.mem_cons_self | refine List.mem_cons_of_mem _ ?_)) (by omega))) ?_
    refine WL.rd rfl rfl rfl (Rd.row1 (off := 0) (u := .int .i64 c.1) rfl C3 rfl (by repeat (first | assumption | exact List.mem_cons_self | refine List.mem_cons_of_mem _ ?_)) rfl) ?_
    refine WL.rd rfl rfl rfl (Rd.convw (kd' := .u8) rfl rfl Tryd.underlying5 (hS := Tryd.underlying3)) ?_
    refine WL.say 30 (u := vy (byteOf c.1.toNat)) rfl (by show Value.int .u8 (IntKind.u8.wrap c.1) = Value.int .u8 ((byteOf c.1.toNat).toNat : Int); rw [← byte_wrap, Int.toNat_of_nonneg hc1']) ?_
    refine WL.op rfl ?_
    refine OpW.buildSl (ps := [(0, _), (1, _)]) rfl S112 (by repeat (first | exact Evs.nil | apply Evs.cons rfl)) rfl rfl (by repeat (first | exact CellsOf.nil | apply CellsOf.cons rfl)) (by kernel_rfl) rfl rfl rfl ?_; intro b31
    refine WL.rd rfl rfl rfl (Rd.strOfR (bs := [byteOf (c.1.toNat / 256), byteOf c.1.toNat]) rfl Tryd.underlying112 Tryd.underlying9 Tryd.underlying5 rfl (by repeat (first | assumption | exact List.mem_cons_self | refine List.mem_cons_of_mem _ ?_)) rfl rfl (by omega)) ?_
    refine WL.rd rfl rfl rfl (Rd.scat rfl rfl rfl (by rw [hpl]; show _ + 2 ≤ _; omega)) ?_
    refine WL.rd rfl rfl rfl (Rd.assign rfl rfl) ?_
    refine WL.nil ?_
    refine blockQ.normal ?_
    refine thenQ.normal ?_
    refine WC.region ?_
    refine WL.rd rfl rfl rfl (Rd.add rfl rfl rfl (by omega)) ?_
    refine WL.rd rfl rfl rfl (Rd.move rfl rfl) ?_
    refine WL.nil ?_
    -- next1_1
    exact loopQ1.mk (j + 1) (by omega) (by omega) (by refine Sub.cons rfl (by rw [hnx, List.append_assoc]) ?_; exact (by repeat (first | exact Sub.nil | refine Sub.cons rfl (by first | rfl | (congr 1; omega) | assumption) ?_))) (fun w h => OwnL.sat (by repeat (first | exact OwnL.refl | apply OwnL.take (by repeat (first | exact Take.head _ | apply Take.tail)) | apply OwnL.drop)) w (h.thin (SubL.mem (by repeat (first | exact SubL.refl | refine SubL.cons (by repeat (first | assumption | exact List.mem_cons_self | refine List.mem_cons_of_mem _ ?_)) ?_ | refine SubL.skip ?_)))))
  · skip
    obtain rfl : j = x.length := by omega
    have hhd : ([87, 76, byteOf x.length] ++ (x.take x.length).flatMap fun c => [byteOf (c.1.toNat / 256), byteOf c.1.toNat]) = hdB x := by rw [List.take_length]; rfl
    rw [hhd]
    refine WC.exit ?_
    refine thenQ.exit ?_
    refine loopQ1.exit ?_
    refine blockQ.exit ?_
    refine thenQ.normal ?_
    refine WC.seq ?_
    refine WC.region ?_
    refine WL.op rfl ?_
    refine OpW.alloc rfl I118 rfl (by repeat (first | exact NF.nil | apply NF.cons)) rfl rfl ?_; intro b6
    refine WL.nil ?_
    refine thenQ.normal ?_
    refine WC.seq ?_
    refine WC.heap (fun w h => (h.accNil (α := UInt8) (e := 5) (size := 1) (enc := one vy)).swap) ?_
    refine WC.region ?_
    refine WL.rd rfl rfl rfl (Rd.move rfl rfl) ?_
    refine WL.op rfl ?_
    refine OpW.call rfl rfl (by repeat (first | exact Evs.nil | apply Evs.cons rfl)) (by kernel_rfl) rfl rfl rfl ?_
    refine bws_spec (off := 0) (bs := []) (.inl rfl) rfl rfl (by kernel_rfl) (by rw [hhl]; simp; omega) ?_; intro v36 hv36
    refine WL.nil ?_
    refine thenQ.normal ?_
    refine WC.seq ?_
    refine WC.seq ?_
    refine WC.region ?_
    refine WL.rd rfl rfl rfl (Rd.move rfl rfl) ?_
    refine WL.rd rfl rfl rfl ((by first | exact Rd.lenE rfl rfl Tryd.underlying42 (by repeat (first | assumption | exact List.mem_cons_self | refine List.mem_cons_of_mem _ ?_)) | exact Rd.lenA rfl rfl Tryd.underlying42 (by repeat (first | assumption | exact List.mem_cons_self | refine List.mem_cons_of_mem _ ?_)) | exact Rd.len rfl rfl Tryd.underlying42)) ?_
    refine WL.rd rfl rfl rfl (Rd.move rfl rfl) ?_
    refine WL.nil ?_
    refine thenQ.normal ?_
    refine WC.block ?_
    refine WC.pick [39, 3, 6, 37, 38] (by repeat (first | exact Pick.nil | apply Pick.cons rfl)) ?_
    refine WC.loop2 1 (fun (j : Nat) (v : Value) => [(39, .int .i64 (j : Int))]) (fun (j : Nat) (v : Value) => rowC b6 118 [pself b6 0, v] :: accC 5 1 (one vy) v (hdB x ++ (x.take j).flatMap fun c => fullE c.2) :: O) (fun (j : Nat) (v : Value) => j ≤ x.length ∧ OneV v) (fun (j : Nat) (v : Value) => x.length - j) (0) (v36) (by repeat (first | exact Split.zero | apply Split.succ)) ?hinv2 (by repeat (first | exact Sub.nil | refine Sub.cons rfl (by first | rfl | (congr 1; omega) | assumption) ?_)) (fun w h => by rw [List.take_zero, List.flatMap_nil, List.append_nil]; exact (fun w h => OwnL.sat (by repeat (first | exact OwnL.refl | apply OwnL.take (by repeat (first | exact Take.head _ | apply Take.tail)) | apply OwnL.drop)) w (h.thin (SubL.mem (by repeat (first | exact SubL.refl | refine SubL.cons (by repeat (first | assumption | exact List.mem_cons_self | refine List.mem_cons_of_mem _ ?_)) ?_ | refine SubL.skip ?_))))) w h) ?_
    case hinv2 =>
      exact ⟨Nat.zero_le _, hv36⟩
    intro j v
    rintro ⟨j1, j2⟩
    refine WC.seq ?_
    refine WC.region ?_
    refine WL.rd rfl rfl rfl (Rd.lss rfl rfl rfl) ?_
    refine WL.nil ?_
    refine thenQ.normal ?_
    refine WC.seq ?_
    first | refine WC.ite rfl (fun hc2 => ?_) (fun hc2 => ?_) | refine WC.cond rfl (fun hc2 => ?_) (fun hc2 => ?_)
    · skip
      obtain ⟨hc1', hc2', hc3'⟩ := hc _ (chg_mem (x := x) (j := j) (by omega))
      have hnx := flat_next (g := fun c : Chg => fullE c.2) (x := x) (j := j) (by omega)
      have hpl : ((x.take j).flatMap fun c : Chg => fullE c.2).length = 512 * j := by
        rw [flat_full_len (fun c hc' => (hc c (List.mem_of_mem_take hc')).2.2), List.length_take, Nat.min_eq_left (by omega)]
      obtain ⟨c, hcc⟩ : ∃ c, c = x[j]! := ⟨_, rfl⟩
      rw [← hcc] at hc1' hc2' hc3' hnx
      have hfl := full_len hc3'
      refine WC.skip ?_
      refine thenQ.normal ?_
      refine WC.seq ?_
      refine WC.block ?_
      refine WC.seq ?_
      refine WC.region ?_
      refine WL.rd rfl rfl rfl ((by first | exact Rd.idx rfl S42 rfl rfl rfl (by repeat (first | assumption | exact List.mem_cons_self | refine List.mem_cons_of_mem _ ?_)) (by first | omega | (simp only [List.length_cons, List.length_nil, List.length_append, List.length_map]; omega)) | exact Rd.idxA rfl S42 rfl rfl rfl (by repeat (first | assumption | exact List.mem_cons_self | refine List.mem_cons_of_mem _ ?_)) (by first | omega | (simp only [List.length_cons, List.length_nil, List.length_append, List.length_map]; omega)) | exact Rd.idxR rfl S42 rfl rfl rfl (by omega))) ?_
      refine WL.rd rfl rfl rfl (Rd.getS (k := j) (a := c) (cs := [.int .i64 c.1, vs c.2]) (enc := encC) (xs := x) rfl G55 rfl (by repeat (first | assumption | exact List.mem_cons_self | refine List.mem_cons_of_mem _ ?_)) (fun _ => rfl) (by rw [hcc]; exact get!_of_lt (by omega)) (by repeat (first | exact NF.nil | apply NF.cons))) ?_
      refine WL.op rfl ?_
      refine OpW.alloc rfl I55 rfl (by repeat (first | exact NF.nil | apply NF.cons)) rfl rfl ?_; intro b8
      refine WL.op rfl ?_
      refine OpW.storeS rfl G55 rfl rfl (by repeat (first | exact NF.nil | apply NF.cons)) (by repeat (first | assumption | exact Take.head _ | apply Take.tail)) rfl rfl (by repeat (first | exact NF.nil | apply NF.cons)) rfl ?_
      refine WL.nil ?_
      refine thenQ.normal ?_
      refine WC.drawn (rowC b8 55 [.int .i64 c.1, vs c.2] :: O) 9 rfl mixed ?_
      refine WD.take 0 rfl (by kernel_rfl) (Held.mk' (by repeat (first | exact SubL.refl | refine SubL.cons (by repeat (first | assumption | exact List.mem_cons_self | refine List.mem_cons_of_mem _ ?_)) ?_ | refine SubL.skip ?_)) (by repeat (first | exact OwnL.refl | apply OwnL.take (by repeat (first | exact Take.head _ | apply Take.tail)) | apply OwnL.drop))) rfl rfl rfl ((by first | exact Rd.field rfl F55_1 rfl rfl | exact Rd.fieldE rfl F55_1 rfl (by repeat (first | assumption | exact List.mem_cons_self | refine List.mem_cons_of_mem _ ?_)) (by omega) | exact Rd.fieldA rfl F55_1 rfl (by repeat (first | assumption | exact List.mem_cons_self | refine List.mem_cons_of_mem _ ?_)) (by omega))) ?_
      refine WD.take 1 rfl (by kernel_rfl) (Held.mk' (by repeat (first | exact SubL.refl | refine SubL.cons (by repeat (first | assumption | exact List.mem_cons_self | refine List.mem_cons_of_mem _ ?_)) ?_ | refine SubL.skip ?_)) (by repeat (first | exact OwnL.refl | apply OwnL.take (by repeat (first | exact Take.head _ | apply Take.tail)) | apply OwnL.drop))) rfl rfl rfl (Rd.row1 (off := 1) (u := vs c.2) rfl C9 rfl (by repeat (first | assumption | exact List.mem_cons_self | refine List.mem_cons_of_mem _ ?_)) rfl) ?_
      refine WD.take 2 rfl (by kernel_rfl) (Held.mk' (by repeat (first | exact SubL.refl | refine SubL.cons (by repeat (first | assumption | exact List.mem_cons_self | refine List.mem_cons_of_mem _ ?_)) ?_ | refine SubL.skip ?_)) (by repeat (first | exact OwnL.refl | apply OwnL.take (by repeat (first | exact Take.head _ | apply Take.tail)) | apply OwnL.drop))) rfl rfl rfl ((by first | exact Rd.field rfl F55_1 rfl rfl | exact Rd.fieldE rfl F55_1 rfl (by repeat (first | assumption | exact List.mem_cons_self | refine List.mem_cons_of_mem _ ?_)) (by omega) | exact Rd.fieldA rfl F55_1 rfl (by repeat (first | assumption | exact List.mem_cons_self | refine List.mem_cons_of_mem _ ?_)) (by omega))) ?_
      refine WD.take 3 rfl (by kernel_rfl) (Held.mk' (by repeat (first | exact SubL.refl | refine SubL.cons (by repeat (first | assumption | exact List.mem_cons_self | refine List.mem_cons_of_mem _ ?_)) ?_ | refine SubL.skip ?_)) (by repeat (first | exact OwnL.refl | apply OwnL.take (by repeat (first | exact Take.head _ | apply Take.tail)) | apply OwnL.drop))) rfl rfl rfl (Rd.row1 (off := 1) (u := vs c.2) rfl C9 rfl (by repeat (first | assumption | exact List.mem_cons_self | refine List.mem_cons_of_mem _ ?_)) rfl) ?_
      refine WD.take 4 rfl (by kernel_rfl) (Held.mk' (by repeat (first | exact SubL.refl | refine SubL.cons (by repeat (first | assumption | exact List.mem_cons_self | refine List.mem_cons_of_mem _ ?_)) ?_ | refine SubL.skip ?_)) (by repeat (first | exact OwnL.refl | apply OwnL.take (by repeat (first | exact Take.head _ | apply Take.tail)) | apply OwnL.drop))) rfl rfl rfl (Rd.slen (ts := #[]) (ty := 0) rfl rfl Tryd.underlying9) ?_
      refine WD.take 5 rfl (by kernel_rfl) (Held.mk' (by repeat (first | exact SubL.refl | refine SubL.cons (by repeat (first | assumption | exact List.mem_cons_self | refine List.mem_cons_of_mem _ ?_)) ?_ | refine SubL.skip ?_)) (by repeat (first | exact OwnL.refl | apply OwnL.take (by repeat (first | exact Take.head _ | apply Take.tail)) | apply OwnL.drop))) rfl rfl rfl (Rd.sub rfl rfl rfl (by omega)) ?_
      refine WD.one 6 rfl (by kernel_rfl) rfl ?_
      refine OpW.call rfl rfl (by repeat (first | exact Evs.nil | apply Evs.cons rfl)) (by kernel_rfl) rfl rfl rfl ?_
      refine Fun.below (v := vs (Lib.repeatL [0] (512 - c.2.length))) (fun w => by
        have := Tryd.strings_Repeat ⟨#[0]⟩ (512 - c.2.length) w (by omega) (by show 1 * _ ≤ _; omega)
        rw [show ((512 - c.2.length : Nat) : Int) = 512 - (c.2.length : Int) from by omega] at this
        exact this) ?_
      rw [se_repeat_zero]
      refine ⟨(Held.mk' (by repeat (first | exact SubL.refl | refine SubL.cons (by repeat (first | assumption | exact List.mem_cons_self | refine List.mem_cons_of_mem _ ?_)) ?_ | refine SubL.skip ?_)) (by repeat (first | exact OwnL.refl | apply OwnL.take (by repeat (first | exact Take.head _ | apply Take.tail)) | apply OwnL.drop))), ?_⟩
      refine WD.take 7 rfl (by kernel_rfl) (Held.mk' (by repeat (first | exact SubL.refl | refine SubL.cons (by repeat (first | assumption | exact List.mem_cons_self | refine List.mem_cons_of_mem _ ?_)) ?_ | refine SubL.skip ?_)) (by repeat (first | exact OwnL.refl | apply OwnL.take (by repeat (first | exact Take.head _ | apply Take.tail)) | apply OwnL.drop))) rfl rfl rfl (Rd.scat rfl rfl rfl (by rw [List.length_replicate]; omega)) ?_
      refine WD.say 50 (u := vs (fullE c.2)) rfl rfl ?_
      refine WD.one 8 rfl (by kernel_rfl) rfl ?_
      refine OpW.call rfl rfl (by repeat (first | exact Evs.nil | apply Evs.cons rfl)) (by kernel_rfl) rfl rfl rfl ?_
      refine Fun.heap (R' := R) (O' := rowC b6 118 [pself b6 0, v] :: accC 5 1 (one vy) v (hdB x ++ (x.take j).flatMap fun c => fullE c.2) :: rowC b8 55 [.int .i64 c.1, vs c.2] :: O) (fun w h => OwnL.sat (by repeat (first | exact OwnL.refl | apply OwnL.take (by repeat (first | exact Take.head _ | apply Take.tail)) | apply OwnL.drop)) w (h.thin (SubL.mem (by repeat (first | exact SubL.refl | refine SubL.cons (by repeat (first | assumption | exact List.mem_cons_self | refine List.mem_cons_of_mem _ ?_)) ?_ | refine SubL.skip ?_))))) ?_
      refine bws_spec (off := 0) (.inr rfl) rfl rfl (by kernel_rfl) (by rw [List.length_append, hhl, hpl, hfl]; omega) ?_; intro v51 hv51
      refine ⟨(Held.mk' (by repeat (first | exact SubL.refl | refine SubL.cons (by repeat (first | assumption | exact List.mem_cons_self | refine List.mem_cons_of_mem _ ?_)) ?_ | refine SubL.skip ?_)) (by repeat (first | exact OwnL.refl | apply OwnL.take (by repeat (first | exact Take.head _ | apply Take.tail)) | apply OwnL.drop))), ?_⟩
      refine WD.done (by kernel_rfl) ?_
      refine blockQ.normal ?_
      refine thenQ.normal ?_
      refine WC.region ?_
      refine WL.rd rfl rfl rfl (Rd.add rfl rfl rfl (by omega)) ?_
      refine WL.rd rfl rfl rfl (Rd.move rfl rfl) ?_
      refine WL.nil ?_
      -- next2_1
      exact loopQ2.mk (j + 1) v51 ⟨by omega, hv51⟩ (by omega) (by repeat (first | exact Sub.nil | refine Sub.cons rfl (by first | rfl | (congr 1; omega) | assumption) ?_)) (fun w h => by rw [hnx, ← List.append_assoc]; exact (fun w h => OwnL.sat (by repeat (first | exact OwnL.refl | apply OwnL.take (by repeat (first | exact Take.head _ | apply Take.tail)) | apply OwnL.drop)) w (h.thin (SubL.mem (by repeat (first | exact SubL.refl | refine SubL.cons (by repeat (first | assumption | exact List.mem_cons_self | refine List.mem_cons_of_mem _ ?_)) ?_ | refine SubL.skip ?_))))) w h)
    · skip
      obtain rfl : j = x.length := by omega
      have hall : (hdB x ++ (x.take x.length).flatMap fun c => fullE c.2) = allB x := by rw [List.take_length]; rfl
      rw [hall]
      refine WC.exit ?_
      refine thenQ.exit ?_
      refine loopQ2.exit ?_
      refine blockQ.exit ?_
      refine thenQ.normal ?_
      refine WC.seq ?_
      refine WC.region ?_
      refine WL.op rfl ?_
      refine OpW.call rfl rfl (by repeat (first | exact Evs.nil | apply Evs.cons rfl)) (by kernel_rfl) rfl rfl rfl ?_
      refine bstr_spec (off := 0) rfl ?_
      refine WL.op rfl ?_
      refine OpW.call rfl rfl (by repeat (first | exact Evs.nil | apply Evs.cons rfl)) (by kernel_rfl) rfl rfl rfl ?_
      refine crcSum_spec ht (by omega) ?_
      refine WL.rd rfl rfl rfl (Rd.assign rfl rfl) ?_
      refine WL.say 3 (u := vs (hdB x ++ (le4 (sumE (allB x))).take 0)) rfl (by rw [List.take_zero, List.append_nil]) ?_
      refine WL.nil ?_
      refine thenQ.normal ?_
      refine WC.seq ?_
      refine WC.seq ?_
      refine WC.region ?_
      refine WL.rd rfl rfl rfl (Rd.move rfl rfl) ?_
      refine WL.nil ?_
      refine thenQ.normal ?_
      refine WC.block ?_
      refine WC.pick [3, 55, 9] (by repeat (first | exact Pick.nil | apply Pick.cons rfl)) ?_
      refine WC.loop1 2 (fun (i : Nat) => [(3, vs (hdB x ++ (le4 (sumE (allB x))).take i)), (55, .int .i64 (i : Int))]) (fun (i : Nat) => O) (fun (i : Nat) => i ≤ 4) (fun (i : Nat) => 4 - i) (0) (by repeat (first | exact Split.zero | apply Split.succ)) ?hinv3 (by repeat (first | exact Sub.nil | refine Sub.cons rfl (by first | rfl | (congr 1; omega) | assumption) ?_)) (fun w h => OwnL.sat (by repeat (first | exact OwnL.refl | apply OwnL.take (by repeat (first | exact Take.head _ | apply Take.tail)) | apply OwnL.drop)) w (h.thin (SubL.mem (by repeat (first | exact SubL.refl | refine SubL.cons (by repeat (first | assumption | exact List.mem_cons_self | refine List.mem_cons_of_mem _ ?_)) ?_ | refine SubL.skip ?_))))) ?_
      case hinv3 =>
        exact Nat.zero_le _
      intro i
      rintro i1
      refine WC.seq ?_
      refine WC.region ?_
      refine WL.rd rfl rfl rfl (Rd.lss rfl rfl rfl) ?_
      refine WL.nil ?_
      refine thenQ.normal ?_
      refine WC.seq ?_
      first | refine WC.ite rfl (fun hc3 => ?_) (fun hc3 => ?_) | refine WC.cond rfl (fun hc3 => ?_) (fun hc3 => ?_)
      · skip
        have hls := le4_sn (sumE (allB x)) i
        rw [if_pos (by omega)] at hls
        have hlt : ((le4 (sumE (allB x))).take i).length ≤ 4 := by rw [List.length_take]; simp [le4]; omega
        refine WC.skip ?_
        refine thenQ.normal ?_
        refine WC.seq ?_
        refine WC.block ?_
        refine WC.seq ?_
        refine WC.region ?_
        refine WL.rd rfl rfl rfl (Rd.move rfl rfl) ?_
        refine WL.rd rfl rfl rfl (Rd.assign rfl rfl) ?_
        refine WL.nil ?_
        refine thenQ.normal ?_
        refine WC.region ?_
        refine WL.rd rfl rfl rfl (Rd.move rfl rfl) ?_
        refine WL.rd rfl rfl rfl (Rd.move rfl rfl) ?_
        refine WL.rd rfl rfl rfl (Rd.move rfl rfl) ?_
        refine WL.rd rfl rfl rfl (Rd.mul rfl rfl rfl (by omega)) ?_
        refine WL.rd rfl rfl rfl (Rd.shrN (a := sumE (allB x)) (n := 8 * i) rfl rfl rfl rfl (by omega) (by show 8 * i ≤ 32; omega)) ?_
        refine WL.rd rfl rfl rfl (Rd.convw (kd' := .u8) rfl rfl Tryd.underlying5 (hS := Tryd.underlying113)) ?_
        refine WL.say 63 (u := vy (UInt8.ofNat (sumE (allB x) / 256 ^ i % 256))) rfl (by rw [wrap_byte, show (2 : Nat) ^ (8 * i) = 256 ^ i from by rw [Nat.pow_mul]]) ?_
        refine WL.op rfl ?_
        refine OpW.buildSl (ps := [(0, _)]) rfl S112 (by repeat (first | exact Evs.nil | apply Evs.cons rfl)) rfl rfl (by repeat (first | exact CellsOf.nil | apply CellsOf.cons rfl)) (by kernel_rfl) rfl rfl rfl ?_; intro b64
        refine WL.rd rfl rfl rfl (Rd.strOfR (bs := [UInt8.ofNat (sumE (allB x) / 256 ^ i % 256)]) rfl Tryd.underlying112 Tryd.underlying9 Tryd.underlying5 rfl (by repeat (first | assumption | exact List.mem_cons_self | refine List.mem_cons_of_mem _ ?_)) rfl rfl (by omega)) ?_
        refine WL.rd rfl rfl rfl (Rd.scat rfl rfl rfl (by rw [List.length_append, hhl]; show _ + 1 ≤ _; omega)) ?_
        refine WL.rd rfl rfl rfl (Rd.assign rfl rfl) ?_
        refine WL.nil ?_
        refine blockQ.normal ?_
        refine thenQ.normal ?_
        refine WC.region ?_
        refine WL.rd rfl rfl rfl (Rd.add rfl rfl rfl (by omega)) ?_
        refine WL.rd rfl rfl rfl (Rd.move rfl rfl) ?_
        refine WL.nil ?_
        -- next3_1
        exact loopQ1.mk (i + 1) (by omega) (by omega) (by refine Sub.cons rfl (by rw [hls, List.append_assoc]) ?_; exact (by repeat (first | exact Sub.nil | refine Sub.cons rfl (by first | rfl | (congr 1; omega) | assumption) ?_))) (fun w h => OwnL.sat (by repeat (first | exact OwnL.refl | apply OwnL.take (by repeat (first | exact Take.head _ | apply Take.tail)) | apply OwnL.drop)) w (h.thin (SubL.mem (by repeat (first | exact SubL.refl | refine SubL.cons (by repeat (first | assumption | exact List.mem_cons_self | refine List.mem_cons_of_mem _ ?_)) ?_ | refine SubL.skip ?_)))))
      · skip
        refine WC.exit ?_
        refine thenQ.exit ?_
        refine loopQ1.exit ?_
        refine blockQ.exit ?_
        refine thenQ.normal ?_
        refine WC.seq ?_
        refine WC.region ?_
        refine WL.rd rfl rfl rfl (Rd.move rfl rfl) ?_
        refine WL.rd rfl rfl rfl (Rd.assign rfl rfl) ?_
        refine WL.nil ?_
        refine thenQ.normal ?_
        -- ret_1
        obtain rfl : i = 4 := by omega
        have e4 : (le4 (sumE (allB x))).take 4 = le4 (sumE (allB x)) := rfl
        rw [e4]
        refine WC.heap (R' := R) (O' := O) (fun w h => OwnL.sat (by repeat (first | exact OwnL.refl | apply OwnL.take (by repeat (first | exact Take.head _ | apply Take.tail)) | apply OwnL.drop)) w (h.thin (SubL.mem (by repeat (first | exact SubL.refl | refine SubL.cons (by repeat (first | assumption | exact List.mem_cons_self | refine List.mem_cons_of_mem _ ?_)) ?_ | refine SubL.skip ?_))))) ?_
        refine WC.ret (Ret.one Tryd.results46 rfl ?_)
        exact hk
set_option maxRecDepth 20000 in
set_option maxHeartbeats 2000000 in
theorem walMake_spec {x : List Chg} {xv : Value} (hl : logR l d f z ∈ R) (hx : SlE encC xv x ∈ R) (dk : Dk s m) (hm : m + x.length ≤ 4294967290) (hv : VOk V s) (hkeep : SlE (one vi) V.kv s.keep ∈ R)
    (hk : ∀ V', VOk V' (makeS s x).1 → V'.kv = V.kv → POST (.int .i64 ((makeS s x).2 : Nat)) R (dO d V' (makeS s x).1 O)) : Fun Tryd.prog 30 #[dp l, xv] R (dO d V s O) POST := by
  refine Fun.len hx fun hxl => ?_
  obtain ⟨dk1, _, hkp1⟩ := run_dk (x := x) dk
  refine Fun.enter (l := [_, _]) Tryd.func30 rfl Tryd.ntmps30 rfl (L0 := [(0, _), (1, _)]) rfl ?_
  refine WC.seq ?_
  refine WC.region ?_
  refine WL.rd rfl rfl rfl (Rd.assign rfl rfl) ?_
  refine WL.nil ?_
  refine thenQ.normal ?_
  refine WC.seq ?_
  refine WC.seq ?_
  refine WC.region ?_
  refine WL.rd rfl rfl rfl (Rd.move rfl rfl) ?_
  refine WL.rd rfl rfl rfl ((by first | exact Rd.lenE rfl rfl Tryd.underlying42 (by repeat (first | assumption | exact List.mem_cons_self | refine List.mem_cons_of_mem _ ?_)) | exact Rd.lenA rfl rfl Tryd.underlying42 (by repeat (first | assumption | exact List.mem_cons_self | refine List.mem_cons_of_mem _ ?_)) | exact Rd.len rfl rfl Tryd.underlying42)) ?_
  refine WL.rd rfl rfl rfl (Rd.move rfl rfl) ?_
  refine WL.nil ?_
  refine thenQ.normal ?_
  refine WC.block ?_
  refine WC.pick [10, 0, 8, 9] (by repeat (first | exact Pick.nil | apply Pick.cons rfl)) ?_
  refine WC.loop3 1 (fun (j : Nat) (t : DSt) (U : DV) => [(10, .int .i64 (j : Int))]) (fun (j : Nat) (t : DSt) (U : DV) => dO d U t O) (fun (j : Nat) (t : DSt) (U : DV) => j ≤ x.length ∧ Dk t (m + j) ∧ VOk U t ∧ U.kv = V.kv ∧ t.keep = s.keep ∧ runP s x = runP t (x.drop j)) (fun (j : Nat) (t : DSt) (U : DV) => x.length - j) (0) (s) (V) (by repeat (first | exact Split.zero | apply Split.succ)) ?hinv1 (by repeat (first | exact Sub.nil | refine Sub.cons rfl (by first | rfl | (congr 1; omega) | assumption) ?_)) (fun _ h => h) ?_
  case hinv1 =>
    exact ⟨Nat.zero_le _, dk, hv, rfl, rfl, rfl⟩
  intro j t U
  rintro ⟨j1, dkt, hu, hkv, hkp, hrun⟩
  refine WC.seq ?_
  refine WC.region ?_
  refine WL.rd rfl rfl rfl (Rd.lss rfl rfl rfl) ?_
  refine WL.nil ?_
  refine thenQ.normal ?_
  refine WC.seq ?_
  first | refine WC.ite rfl (fun hc1 => ?_) (fun hc1 => ?_) | refine WC.cond rfl (fun hc1 => ?_) (fun hc1 => ?_)
  · skip
    have hat := run_at (j := j) (by omega) hrun
    obtain ⟨c, hcc⟩ : ∃ c, c = x[j]! := ⟨_, rfl⟩
    rw [← hcc] at hat
    refine WC.skip ?_
    refine thenQ.normal ?_
    refine WC.seq ?_
    refine WC.block ?_
    refine WC.seq ?_
    refine WC.region ?_
    refine WL.rd rfl rfl rfl ((by first | exact Rd.idx rfl S42 rfl rfl rfl (by repeat (first | assumption | exact List.mem_cons_self | refine List.mem_cons_of_mem _ ?_)) (by first | omega | (simp only [List.length_cons, List.length_nil, List.length_append, List.length_map]; omega)) | exact Rd.idxA rfl S42 rfl rfl rfl (by repeat (first | assumption | exact List.mem_cons_self | refine List.mem_cons_of_mem _ ?_)) (by first | omega | (simp only [List.length_cons, List.length_nil, List.length_append, List.length_map]; omega)) | exact Rd.idxR rfl S42 rfl rfl rfl (by omega))) ?_
    refine WL.rd rfl rfl rfl (Rd.getS (k := j) (a := c) (cs := [.int .i64 c.1, vs c.2]) (enc := encC) (xs := x) rfl G55 rfl (by repeat (first | assumption | exact List.mem_cons_self | refine List.mem_cons_of_mem _ ?_)) (fun _ => rfl) (by rw [hcc]; exact get!_of_lt (by omega)) (by repeat (first | exact NF.nil | apply NF.cons))) ?_
    refine WL.op rfl ?_
    refine OpW.alloc rfl I55 rfl (by repeat (first | exact NF.nil | apply NF.cons)) rfl rfl ?_; intro b6
    refine WL.op rfl ?_
    refine OpW.storeS rfl G55 rfl rfl (by repeat (first | exact NF.nil | apply NF.cons)) (by repeat (first | assumption | exact Take.head _ | apply Take.tail)) rfl rfl (by repeat (first | exact NF.nil | apply NF.cons)) rfl ?_
    refine WL.nil ?_
    refine thenQ.normal ?_
    refine WC.seq ?_
    refine WC.tail 8 mixed (by kernel_rfl) ?_
    refine WS.rd rfl rfl rfl (Rd.move rfl rfl) ?_
    refine WS.rd rfl rfl rfl (Rd.nilc rfl rfl) ?_
    refine WS.rd rfl rfl rfl ((by first | exact Rd.field rfl F84_0 rfl rfl | exact Rd.fieldE rfl F84_0 rfl (by repeat (first | assumption | exact List.mem_cons_self | refine List.mem_cons_of_mem _ ?_)) (by omega) | exact Rd.fieldA rfl F84_0 rfl (by repeat (first | assumption | exact List.mem_cons_self | refine List.mem_cons_of_mem _ ?_)) (by omega))) ?_
    refine WS.rd rfl rfl rfl (Rd.getGl (off := 0) (u := dp d) rfl C25 rfl hl rfl) ?_
    refine WS.rd rfl rfl rfl ((by first | exact Rd.field rfl F55_0 rfl rfl | exact Rd.fieldE rfl F55_0 rfl (by repeat (first | assumption | exact List.mem_cons_self | refine List.mem_cons_of_mem _ ?_)) (by omega) | exact Rd.fieldA rfl F55_0 rfl (by repeat (first | assumption | exact List.mem_cons_self | refine List.mem_cons_of_mem _ ?_)) (by omega))) ?_
    refine WS.rd rfl rfl rfl (Rd.row1 (off := 0) (u := .int .i64 c.1) rfl C3 rfl (by repeat (first | assumption | exact List.mem_cons_self | refine List.mem_cons_of_mem _ ?_)) rfl) ?_
    refine WS.rd rfl rfl rfl ((by first | exact Rd.field rfl F55_1 rfl rfl | exact Rd.fieldE rfl F55_1 rfl (by repeat (first | assumption | exact List.mem_cons_self | refine List.mem_cons_of_mem _ ?_)) (by omega) | exact Rd.fieldA rfl F55_1 rfl (by repeat (first | assumption | exact List.mem_cons_self | refine List.mem_cons_of_mem _ ?_)) (by omega))) ?_
    refine WS.rd rfl rfl rfl (Rd.row1 (off := 1) (u := vs c.2) rfl C9 rfl (by repeat (first | assumption | exact List.mem_cons_self | refine List.mem_cons_of_mem _ ?_)) rfl) ?_
    refine WS.switch ?_
    refine WL.op rfl ?_
    refine OpW.call rfl rfl (by repeat (first | exact Evs.nil | apply Evs.cons rfl)) (by kernel_rfl) rfl rfl rfl ?_
    refine Fun.heap (R' := R) (O' := dO d U t (rowC b6 55 [.int .i64 c.1, vs c.2] :: O)) (fun w h => OwnL.sat (by repeat (first | exact OwnL.refl | apply OwnL.take (by repeat (first | exact Take.head _ | apply Take.tail)) | apply OwnL.drop)) w (h.thin (SubL.mem (by repeat (first | exact SubL.refl | refine SubL.cons (by repeat (first | assumption | exact List.mem_cons_self | refine List.mem_cons_of_mem _ ?_)) ?_ | refine SubL.skip ?_))))) ?_
    refine write_spec dkt.ok (by omega) hu (by rw [hkv, hkp]; exact hkeep) ?_; intro U1 hu1 hku1
    refine WL.rd rfl rfl rfl (Rd.assign rfl rfl) ?_
    refine WL.nil ?_
    refine thenQ.normal ?_
    refine WC.seq ?_
    refine WC.region ?_
    refine WL.rd rfl rfl rfl (Rd.move rfl rfl) ?_
    refine WL.rd rfl rfl rfl (Rd.neq rfl rfl rfl) ?_
    refine WL.nil ?_
    refine thenQ.normal ?_
    first | refine WC.ite rfl (fun hc2 => ?_) (fun hc2 => ?_) | refine WC.cond rfl (fun hc2 => ?_) (fun hc2 => ?_)
    · skip
      rw [if_pos (by omega)] at hat
      have hfin : makeS s x = (putS t c.1 c.2, dputE t c.1 c.2) := by unfold makeS thenE; rw [hat, if_pos (by show dputE t c.1 c.2 ≠ 0; omega)]
      rw [hfin] at hk
      refine WC.seq ?_
      refine WC.region ?_
      refine WL.rd rfl rfl rfl (Rd.move rfl rfl) ?_
      refine WL.rd rfl rfl rfl (Rd.assign rfl rfl) ?_
      refine WL.nil ?_
      refine thenQ.normal ?_
      -- ret_1
      refine WC.heap (R' := R) (O' := dO d U1 (putS t c.1 c.2) O) (fun w h => OwnL.sat (by repeat (first | exact OwnL.refl | apply OwnL.take (by repeat (first | exact Take.head _ | apply Take.tail)) | apply OwnL.drop)) w (h.thin (SubL.mem (by repeat (first | exact SubL.refl | refine SubL.cons (by repeat (first | assumption | exact List.mem_cons_self | refine List.mem_cons_of_mem _ ?_)) ?_ | refine SubL.skip ?_))))) ?_
      refine WC.ret (Ret.one Tryd.results30 rfl ?_)
      exact hk U1 hu1 (hku1.trans hkv)
    · skip
      rw [if_neg (by omega)] at hat
      refine WC.skip ?_
      refine blockQ.normal ?_
      refine thenQ.normal ?_
      refine WC.region ?_
      refine WL.rd rfl rfl rfl (Rd.add rfl rfl rfl (by omega)) ?_
      refine WL.rd rfl rfl rfl (Rd.move rfl rfl) ?_
      refine WL.nil ?_
      -- next1_1
      exact loopQ3.mk (j + 1) (putS t c.1 c.2) U1 ⟨by omega, (dkt.put _ _).mono (by omega), hu1, hku1.trans hkv, (put_keepW _ _ _).trans hkp, hat⟩ (by omega) (by repeat (first | exact Sub.nil | refine Sub.cons rfl (by first | rfl | (congr 1; omega) | assumption) ?_)) (fun w h => OwnL.sat (by repeat (first | exact OwnL.refl | apply OwnL.take (by repeat (first | exact Take.head _ | apply Take.tail)) | apply OwnL.drop)) w (h.thin (SubL.mem (by repeat (first | exact SubL.refl | refine SubL.cons (by repeat (first | assumption | exact List.mem_cons_self | refine List.mem_cons_of_mem _ ?_)) ?_ | refine SubL.skip ?_)))))
  · skip
    obtain rfl : j = x.length := by omega
    have hr0 : runP s x = (t, 0) := by rw [hrun, List.drop_length]; rfl
    have hfin : makeS s x = (syncS t, stepE t) := by unfold makeS thenE; rw [hr0, if_neg (fun h => h rfl)]
    rw [hfin] at hk
    refine WC.exit ?_
    refine thenQ.exit ?_
    refine loopQ3.exit ?_
    refine blockQ.exit ?_
    refine thenQ.normal ?_
    refine WC.seq ?_
    refine WC.region ?_
    refine WL.rd rfl rfl rfl (Rd.move rfl rfl) ?_
    refine WL.rd rfl rfl rfl (Rd.nilc rfl rfl) ?_
    refine WL.rd rfl rfl rfl ((by first | exact Rd.field rfl F84_0 rfl rfl | exact Rd.fieldE rfl F84_0 rfl (by repeat (first | assumption | exact List.mem_cons_self | refine List.mem_cons_of_mem _ ?_)) (by omega) | exact Rd.fieldA rfl F84_0 rfl (by repeat (first | assumption | exact List.mem_cons_self | refine List.mem_cons_of_mem _ ?_)) (by omega))) ?_
    refine WL.rd rfl rfl rfl (Rd.getGl (off := 0) (u := dp d) rfl C25 rfl hl rfl) ?_
    refine WL.op rfl ?_
    refine OpW.call rfl rfl (by repeat (first | exact Evs.nil | apply Evs.cons rfl)) (by kernel_rfl) rfl rfl rfl ?_
    refine sync_spec dkt.ok (by omega) hu (by rw [hkv, hkp]; exact hkeep) ?_; intro U1 hu1 hku1
    refine WL.rd rfl rfl rfl (Rd.assign rfl rfl) ?_
    refine WL.nil ?_
    refine thenQ.normal ?_
    -- ret_2
    refine WC.ret (Ret.one Tryd.results30 rfl ?_)
    exact hk U1 hu1 (hku1.trans hkv)
set_option maxRecDepth 20000 in
theorem walSay_spec {h : List UInt8} (hl : logR l d f z ∈ R) (dk : Dk s m) (hm : m ≤ 4294967280) (hv : VOk V s) (hkeep : SlE (one vi) V.kv s.keep ∈ R)
    (hk : ∀ V', VOk V' (sayS s f h).1 → V'.kv = V.kv → POST (.int .i64 ((sayS s f h).2 : Nat)) R (dO d V' (sayS s f h).1 O)) : Fun Tryd.prog 31 #[dp l, vs h] R (dO d V s O) POST := by
  refine Fun.enter (l := [_, _]) Tryd.func31 rfl Tryd.ntmps31 rfl (L0 := [(0, _), (1, _)]) rfl ?_
  refine WC.seq ?_
  refine WC.region ?_
  refine WL.rd rfl rfl rfl (Rd.assign rfl rfl) ?_
  refine WL.nil ?_
  refine thenQ.normal ?_
  refine WC.seq ?_
  refine WC.seq ?_
  refine WC.tail 9 mixed (by kernel_rfl) ?_
  refine WS.rd rfl rfl rfl (Rd.move rfl rfl) ?_
  refine WS.rd rfl rfl rfl (Rd.nilc rfl rfl) ?_
  refine WS.rd rfl rfl rfl ((by first | exact Rd.field rfl F84_0 rfl rfl | exact Rd.fieldE rfl F84_0 rfl (by repeat (first | assumption | exact List.mem_cons_self | refine List.mem_cons_of_mem _ ?_)) (by omega) | exact Rd.fieldA rfl F84_0 rfl (by repeat (first | assumption | exact List.mem_cons_self | refine List.mem_cons_of_mem _ ?_)) (by omega))) ?_
  refine WS.rd rfl rfl rfl (Rd.getGl (off := 0) (u := dp d) rfl C25 rfl hl rfl) ?_
  refine WS.rd rfl rfl rfl (Rd.move rfl rfl) ?_
  refine WS.rd rfl rfl rfl (Rd.nilc rfl rfl) ?_
  refine WS.rd rfl rfl rfl ((by first | exact Rd.field rfl F84_1 rfl rfl | exact Rd.fieldE rfl F84_1 rfl (by repeat (first | assumption | exact List.mem_cons_self | refine List.mem_cons_of_mem _ ?_)) (by omega) | exact Rd.fieldA rfl F84_1 rfl (by repeat (first | assumption | exact List.mem_cons_self | refine List.mem_cons_of_mem _ ?_)) (by omega))) ?_
  refine WS.rd rfl rfl rfl (Rd.getGl (off := 1) (u := .int .i64 f) rfl C3 rfl hl rfl) ?_
  refine WS.rd rfl rfl rfl (Rd.move rfl rfl) ?_
  refine WS.switch ?_
  refine WL.op rfl ?_
  refine OpW.call rfl rfl (by repeat (first | exact Evs.nil | apply Evs.cons rfl)) (by kernel_rfl) rfl rfl rfl ?_
  refine write_spec dk.ok (by omega) hv hkeep ?_; intro U1 hu1 hku1
  refine WL.rd rfl rfl rfl (Rd.assign rfl rfl) ?_
  refine WL.nil ?_
  refine thenQ.normal ?_
  refine WC.seq ?_
  refine WC.region ?_
  refine WL.rd rfl rfl rfl (Rd.move rfl rfl) ?_
  refine WL.rd rfl rfl rfl (Rd.neq rfl rfl rfl) ?_
  refine WL.nil ?_
  refine thenQ.normal ?_
  first | refine WC.ite rfl (fun hc1 => ?_) (fun hc1 => ?_) | refine WC.cond rfl (fun hc1 => ?_) (fun hc1 => ?_)
  · skip
    have hfin : sayS s f h = (putS s f h, dputE s f h) := by rw [say_is, if_pos (by omega)]
    rw [hfin] at hk
    refine WC.seq ?_
    refine WC.region ?_
    refine WL.rd rfl rfl rfl (Rd.move rfl rfl) ?_
    refine WL.rd rfl rfl rfl (Rd.assign rfl rfl) ?_
    refine WL.nil ?_
    refine thenQ.normal ?_
    -- ret_1
    refine WC.ret (Ret.one Tryd.results31 rfl ?_)
    exact hk U1 hu1 hku1
  · skip
    have hfin : sayS s f h = (syncS (putS s f h), stepE (putS s f h)) := by rw [say_is, if_neg (by omega)]
    rw [hfin] at hk
    refine WC.skip ?_
    refine thenQ.normal ?_
    refine WC.seq ?_
    refine WC.region ?_
    refine WL.rd rfl rfl rfl (Rd.move rfl rfl) ?_
    refine WL.rd rfl rfl rfl (Rd.nilc rfl rfl) ?_
    refine WL.rd rfl rfl rfl ((by first | exact Rd.field rfl F84_0 rfl rfl | exact Rd.fieldE rfl F84_0 rfl (by repeat (first | assumption | exact List.mem_cons_self | refine List.mem_cons_of_mem _ ?_)) (by omega) | exact Rd.fieldA rfl F84_0 rfl (by repeat (first | assumption | exact List.mem_cons_self | refine List.mem_cons_of_mem _ ?_)) (by omega))) ?_
    refine WL.rd rfl rfl rfl (Rd.getGl (off := 0) (u := dp d) rfl C25 rfl hl rfl) ?_
    refine WL.op rfl ?_
    refine OpW.call rfl rfl (by repeat (first | exact Evs.nil | apply Evs.cons rfl)) (by kernel_rfl) rfl rfl rfl ?_
    refine sync_spec (dk.put _ _).ok (by omega) hu1 (by rw [hku1, put_keepW]; exact hkeep) ?_; intro U2 hu2 hku2
    refine WL.rd rfl rfl rfl (Rd.assign rfl rfl) ?_
    refine WL.nil ?_
    refine thenQ.normal ?_
    -- ret_2
    refine WC.ret (Ret.one Tryd.results31 rfl ?_)
    exact hk U2 hu2 (hku2.trans hku1)
end
end Go.Proofs.YtaalegffcjbglaaDoor
