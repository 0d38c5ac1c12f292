/-
  The whole: TopFramed.
-/
import Derived.Test.YtodedkoebcdejaaDoorTf1
namespace Go.Proofs.YtodedkoebcdejaaDoor
open Go Go.SL

section
variable {R : List RO} {O : List Own} {POST : Value → List RO → List Own → Prop}
set_option maxRecDepth 20000 in
theorem reads_spec (ht : tabR ∈ R) (hr : rootsR ∈ R) (hk : POST (.bool true) R O) : Fun Tryd.prog 4 #[] R O POST := by
  have hsl : (shaE [97]).length = 32 := by decide +kernel
  obtain ⟨dg, hdg⟩ : ∃ dg, dg = shaE [97] := ⟨_, rfl⟩
  rw [← hdg] at hsl
  have hfl : (frameE 1 dg).length = 38 := by rw [frame_length (by omega), hsl]; decide +kernel
  have hnx : nextF (frameE 1 dg) = (1, dg, 38, 0) := by
    have := frame_next (k := 1) (b := dg) (by omega) []
    rw [List.append_nil, hfl] at this
    exact this
  have hp1 : putI ((1 : Nat) : Int) = [1] := by decide +kernel
  refine Fun.enter (l := []) Tryd.func4 rfl Tryd.ntmps4 rfl (L0 := []) rfl ?_
  refine WC.seq ?_
  refine WC.region ?_
  refine WL.rd rfl rfl rfl (Rd.assign rfl rfl) ?_
  refine WL.nil ?_
  refine thenQ.normal ?_
  refine WC.seq ?_
  refine WC.region ?_
  refine WL.op rfl ?_
  refine OpW.buildSl (ps := [(0, _)]) rfl S24 (by repeat (first | exact Evs.nil | apply Evs.cons rfl)) rfl rfl (by repeat (first | exact CellsOf.nil | apply CellsOf.cons rfl)) (by kernel_rfl) rfl rfl rfl ?_; intro b8
  refine WL.heap (fun w h => Sat.shareRow (enc := one vs) (xs := [[97]]) (m := 1) (by repeat (first | assumption | exact Take.head _ | apply Take.tail)) rfl rfl (by decide) h) ?_
  refine WL.op rfl ?_
  refine OpW.call rfl rfl (by repeat (first | exact Evs.nil | apply Evs.cons rfl)) (by kernel_rfl) rfl rfl rfl ?_
  refine shaSum_spec (l := [[97]]) (by repeat (first | assumption | exact List.mem_cons_self | refine List.mem_cons_of_mem _ ?_)) (by repeat (first | assumption | exact List.mem_cons_self | refine List.mem_cons_of_mem _ ?_)) (by decide) ?_
  rw [show ([[97]] : List (List UInt8)).flatten = [97] from rfl, ← hdg]
  refine WL.op rfl ?_
  refine OpW.call rfl rfl (by repeat (first | exact Evs.nil | apply Evs.cons rfl)) (by kernel_rfl) rfl rfl rfl ?_
  refine frame_spec (k := 1) (by repeat (first | assumption | exact List.mem_cons_self | refine List.mem_cons_of_mem _ ?_)) ?_
  refine WL.op rfl ?_
  refine OpW.call rfl rfl (by repeat (first | exact Evs.nil | apply Evs.cons rfl)) (by kernel_rfl) rfl rfl rfl ?_
  refine crcNext_spec (by repeat (first | assumption | exact List.mem_cons_self | refine List.mem_cons_of_mem _ ?_)) (by omega) ?_; rw [hnx]
  refine WL.rd rfl rfl rfl (Rd.move rfl rfl) ?_
  refine WL.rd rfl rfl rfl (Rd.extract rfl rfl rfl) ?_
  refine WL.rd rfl rfl rfl (Rd.extract rfl rfl rfl) ?_
  refine WL.rd rfl rfl rfl (Rd.extract rfl rfl rfl) ?_
  refine WL.rd rfl rfl rfl (Rd.extract rfl rfl rfl) ?_
  refine WL.rd rfl rfl rfl (Rd.assign rfl rfl) ?_
  refine WL.rd rfl rfl rfl (Rd.assign rfl rfl) ?_
  refine WL.rd rfl rfl rfl (Rd.assign rfl rfl) ?_
  refine WL.rd rfl rfl rfl (Rd.assign rfl rfl) ?_
  refine WL.nil ?_
  refine thenQ.normal ?_
  refine WC.seq ?_
  refine WC.region ?_
  refine WL.op rfl ?_
  refine OpW.call rfl rfl (by repeat (first | exact Evs.nil | apply Evs.cons rfl)) (by kernel_rfl) rfl rfl rfl ?_
  refine new_spec (fun h => by exfalso; omega) (fun n hn _ _ d V hv => ?_); obtain rfl : n = 1 := by omega
  refine WL.rd rfl rfl rfl (Rd.move rfl rfl) ?_
  refine WL.rd rfl rfl rfl (Rd.extract rfl rfl rfl) ?_
  refine WL.rd rfl rfl rfl (Rd.extract rfl rfl rfl) ?_
  refine WL.rd rfl rfl rfl (Rd.assign rfl rfl) ?_
  refine WL.rd rfl rfl rfl (Rd.assign rfl rfl) ?_
  refine WL.nil ?_
  refine thenQ.normal ?_
  refine WC.seq ?_
  refine WC.region ?_
  refine WL.rd rfl rfl rfl (Rd.move rfl rfl) ?_
  refine WL.rd rfl rfl rfl (Rd.eql rfl rfl rfl) ?_
  refine WL.rd rfl rfl rfl (Rd.move rfl rfl) ?_
  refine WL.case 22 rfl (fun hg22 => ?_) (fun hg22 => ?_)
  · skip
    refine WL.rd_yes rfl rfl rfl rfl rfl rfl (Rd.move rfl rfl) ?_
    refine WL.rd_yes rfl rfl rfl rfl rfl rfl (Rd.slen (ts := #[]) (ty := 0) rfl rfl Tryd.underlying9) ?_
    refine WL.rd_yes rfl rfl rfl rfl rfl rfl (Rd.eql rfl rfl rfl) ?_
    refine WL.rd rfl rfl rfl (Rd.pick_t rfl rfl rfl) ?_
    refine WL.rd rfl rfl rfl (Rd.move rfl rfl) ?_
    refine WL.case 27 rfl (fun hg27 => ?_) (fun hg27 => ?_)
    · skip
      refine WL.rd_yes rfl rfl rfl rfl rfl rfl (Rd.move rfl rfl) ?_
      refine WL.rd_yes rfl rfl rfl rfl rfl rfl (Rd.eql rfl rfl rfl) ?_
      refine WL.rd rfl rfl rfl (Rd.pick_t rfl rfl rfl) ?_
      refine WL.rd rfl rfl rfl (Rd.move rfl rfl) ?_
      refine WL.case 31 rfl (fun hg31 => ?_) (fun hg31 => ?_)
      · skip
        refine WL.rd_yes rfl rfl rfl rfl rfl rfl (Rd.move rfl rfl) ?_
        refine WL.rd_yes rfl rfl rfl rfl rfl rfl (Rd.eql rfl rfl rfl) ?_
        refine WL.rd rfl rfl rfl (Rd.pick_t rfl rfl rfl) ?_
        refine WL.rd rfl rfl rfl (Rd.move rfl rfl) ?_
        refine WL.case 35 rfl (fun hg35 => ?_) (fun hg35 => ?_)
        · skip
          refine WL.rd_yes rfl rfl rfl rfl rfl rfl (Rd.move rfl rfl) ?_
          refine WL.op_yes rfl rfl rfl rfl ?_
          refine OpW.call rfl rfl (by repeat (first | exact Evs.nil | apply Evs.cons rfl)) (by kernel_rfl) rfl rfl rfl ?_
          refine size_spec ?_
          refine WL.rd_yes rfl rfl rfl rfl rfl rfl (Rd.eql rfl rfl rfl) ?_
          refine WL.rd rfl rfl rfl (Rd.pick_t rfl rfl rfl) ?_
          refine WL.rd rfl rfl rfl (Rd.move rfl rfl) ?_
          refine WL.case 40 rfl (fun hg40 => ?_) (fun hg40 => ?_)
          · skip
            refine WL.op_yes rfl rfl rfl rfl ?_
            refine OpW.call rfl rfl (by repeat (first | exact Evs.nil | apply Evs.cons rfl)) (by kernel_rfl) rfl rfl rfl ?_
            refine put_spec (p := ((1 : Nat) : Int)) ?_; rw [hp1]
            refine WL.rd_yes rfl rfl rfl rfl rfl rfl (Rd.seql rfl rfl rfl) ?_
            refine WL.say 42 (u := .bool true) rfl (by simp) ?_
            refine WL.rd rfl rfl rfl (Rd.pick_t rfl rfl rfl) ?_
            refine WL.rd rfl rfl rfl (Rd.assign rfl rfl) ?_
            refine WL.nil ?_
            refine thenQ.normal ?_
            -- ret_1
            refine WC.heap (R' := R) (O' := O) (fun w h => OwnL.sat (by repeat (first | exact OwnL.refl | apply OwnL.take (by repeat (first | exact Take.head _ | apply Take.tail)) | apply OwnL.drop)) w (h.thin (SubL.mem (by repeat (first | exact SubL.refl | refine SubL.cons (by repeat (first | assumption | exact List.mem_cons_self | refine List.mem_cons_of_mem _ ?_)) ?_ | refine SubL.skip ?_))))) ?_
            refine WC.ret (Ret.one Tryd.results4 rfl ?_)
            exact hk
          · skip
            exact absurd rfl hg40
        · skip
          exact absurd rfl hg35
      · skip
        exact absurd rfl hg31
    · skip
      exact absurd (by rw [hsl]; rfl) hg27
  · skip
    exact absurd rfl hg22
theorem tb_nat {i : Nat} (h : i < 256) : (UInt8.ofNat (i % 256)).toNat = i := by rw [u8_toNat (Nat.mod_lt _ (by decide))]; omega
set_option maxRecDepth 20000 in
set_option maxHeartbeats 8000000 in
theorem framed_spec {L : List VT} {lv : Value} (ht : tabR ∈ R) (hr : rootsR ∈ R) (hl : SlE encL lv L ∈ R) (hq : AllQ QL L ∈ R) (hk : POST (.bool true) R O) : Fun Tryd.prog 3 #[lv] R O POST := by
  refine Fun.enter (l := [_]) Tryd.func3 rfl Tryd.ntmps3 rfl (L0 := [(0, _)]) rfl ?_
  refine WC.seq ?_
  refine WC.region ?_
  refine WL.rd rfl rfl rfl (Rd.assign rfl rfl) ?_
  refine WL.nil ?_
  refine thenQ.normal ?_
  refine WC.seq ?_
  refine WC.seq ?_
  refine WC.region ?_
  refine WL.op rfl ?_
  refine OpW.call rfl rfl (by repeat (first | exact Evs.nil | apply Evs.cons rfl)) (by kernel_rfl) rfl rfl rfl ?_
  refine reads_spec ht hr ?_
  refine WL.say 25 (u := .bool (decide True)) rfl (by simp) ?_
  refine WL.rd rfl rfl rfl ((by first | exact Rd.notd rfl rfl | exact Rd.not rfl rfl)) ?_
  refine WL.nil ?_
  refine thenQ.normal ?_
  first | refine WC.ite rfl (fun hc1 => ?_) (fun hc1 => ?_) | refine WC.cond rfl (fun hc1 => ?_) (fun hc1 => ?_)
  · skip
    exact absurd trivial hc1
  · skip
    refine WC.skip ?_
    refine thenQ.normal ?_
    refine WC.seq ?_
    refine WC.region ?_
    refine WL.rd rfl rfl rfl (Rd.assign rfl rfl) ?_
    refine WL.rd rfl rfl rfl (Rd.assign rfl rfl) ?_
    refine WL.nil ?_
    refine thenQ.normal ?_
    refine WC.cut (α := Nat) (fun n => [(0, lv), (3, vs (cat (bodies L) n)), (4, .int .i64 (n : Int))]) (fun _ => R) (fun _ => O) (fun n => n ≤ 20 ∧ n ≤ L.length ∧ ∀ j, j < n → Fit L[j]!.2) ?_ ?_
    · skip
      refine WC.seq ?_
      refine WC.region ?_
      refine WL.rd rfl rfl rfl (Rd.assign rfl rfl) ?_
      refine WL.nil ?_
      refine thenQ.normal ?_
      refine WC.block ?_
      refine WC.pick [3, 4, 5, 0] (by repeat (first | exact Pick.nil | apply Pick.cons rfl)) ?_
      refine WC.loop1o 3 (fun (i : Nat) => [(3, vs (cat (bodies L) i)), (4, .int .i64 (i : Int)), (5, .int .i64 (i : Int))]) (fun (i : Nat) => i ≤ 20 ∧ i ≤ L.length ∧ ∀ j, j < i → Fit L[j]!.2) (fun (i : Nat) => 20 - i) (0) (by repeat (first | exact Split.zero | apply Split.succ)) ?hinv1 (by repeat (first | exact Sub.nil | refine Sub.cons rfl (by first | rfl | (congr 1; omega) | assumption) ?_)) (fun _ h => h) ?_
      case hinv1 =>
        exact ⟨Nat.zero_le _, Nat.zero_le _, fun j hj => absurd hj (Nat.not_lt_zero _)⟩
      intro i
      rintro ⟨i1, i2, i3⟩
      refine WC.seq ?_
      refine WC.seq ?_
      refine WC.region ?_
      refine WL.rd rfl rfl rfl (Rd.move rfl rfl) ?_
      refine WL.rd rfl rfl rfl (Rd.move rfl rfl) ?_
      refine WL.rd rfl rfl rfl ((by first | exact Rd.lenE rfl rfl Tryd.underlying22 (by repeat (first | assumption | exact List.mem_cons_self | refine List.mem_cons_of_mem _ ?_)) | exact Rd.lenA rfl rfl Tryd.underlying22 (by repeat (first | assumption | exact List.mem_cons_self | refine List.mem_cons_of_mem _ ?_)) | exact Rd.len rfl rfl Tryd.underlying22)) ?_
      refine WL.rd rfl rfl rfl (Rd.lss rfl rfl rfl) ?_
      refine WL.rd rfl rfl rfl (Rd.move rfl rfl) ?_
      refine WL.case 31 rfl (fun hg31 => ?_) (fun hg31 => ?_)
      · skip
        refine WL.rd_yes rfl rfl rfl rfl rfl rfl (Rd.move rfl rfl) ?_
        refine WL.rd_yes rfl rfl rfl rfl rfl rfl (Rd.lss rfl rfl rfl) ?_
        refine WL.rd rfl rfl rfl (Rd.pick_t rfl rfl rfl) ?_
        refine WL.nil ?_
        refine thenQ.normal ?_
        first | refine WC.ite rfl (fun hc2 => ?_) (fun hc2 => ?_) | refine WC.cond rfl (fun hc2 => ?_) (fun hc2 => ?_)
        · skip
          refine WC.skip ?_
          refine thenQ.normal ?_
          refine WC.seq ?_
          refine WC.block ?_
          refine WC.seq ?_
          refine WC.seq ?_
          have hil : i < L.length := by omega
          refine WC.heap (fun w h => h.derive (q := SlE (one vs) L[i]!.1 L[i]!.2) (fun w hR => ql_of hil (hR (AllQ QL L) (by repeat (first | assumption | exact List.mem_cons_self | refine List.mem_cons_of_mem _ ?_))))) ?_
          refine WC.know (p := SlE (one vs) L[i]!.1 L[i]!.2) (by repeat (first | assumption | exact List.mem_cons_self | refine List.mem_cons_of_mem _ ?_)) (fun w h => h.len) fun hxl => ?_
          obtain ⟨xs, hxs⟩ : ∃ xs, xs = L[i]!.2 := ⟨_, rfl⟩
          rw [← hxs] at hxl ⊢
          have hsh : Shorts (bodies L) i := fun j hj => by rw [bodies_get (by omega)]; exact join_fit (i3 j hj)
          have hcl := (cat_len hsh).1
          refine WC.region ?_
          refine WL.rd rfl rfl rfl (Rd.assign rfl rfl) ?_
          refine WL.nil ?_
          refine thenQ.normal ?_
          refine WC.block ?_
          refine WC.pick [6, 0, 3, 4, 5] (by repeat (first | exact Pick.nil | apply Pick.cons rfl)) ?_
          refine WC.loop1o 1 (fun (k : Nat) => [(6, .int .i64 (k : Int))]) (fun (k : Nat) => k ≤ xs.length ∧ k ≤ 21 ∧ ∀ j, j < k → xs[j]!.length ≤ 1000) (fun (k : Nat) => xs.length - k) (0) (by repeat (first | exact Split.zero | apply Split.succ)) ?hinv2 (by repeat (first | exact Sub.nil | refine Sub.cons rfl (by first | rfl | (congr 1; omega) | assumption) ?_)) (fun _ h => h) ?_
          case hinv2 =>
            exact ⟨Nat.zero_le _, Nat.zero_le _, fun j hj => absurd hj (Nat.not_lt_zero _)⟩
          intro k
          rintro ⟨k1, k2, k3⟩
          refine WC.seq ?_
          refine WC.seq ?_
          refine WC.region ?_
          refine WL.rd rfl rfl rfl (Rd.move rfl rfl) ?_
          refine WL.rd rfl rfl rfl (Rd.move rfl rfl) ?_
          refine WL.rd rfl rfl rfl (Rd.move rfl rfl) ?_
          refine WL.rd rfl rfl rfl ((by first | exact Rd.idx1 rfl S22 rfl rfl rfl (by repeat (first | assumption | exact List.mem_cons_self | refine List.mem_cons_of_mem _ ?_)) (by first | omega | (simp only [List.length_cons, List.length_nil, List.length_append, List.length_map]; omega)) | exact Rd.idxA1 rfl S22 rfl rfl rfl (by repeat (first | assumption | exact List.mem_cons_self | refine List.mem_cons_of_mem _ ?_)) (by first | omega | (simp only [List.length_cons, List.length_nil, List.length_append, List.length_map]; omega)) | exact Rd.idxR1 rfl S22 rfl rfl rfl (by omega))) ?_
          refine WL.rd rfl rfl rfl (Rd.get (k := i) (g := fun x : VT => x.1) (a := L[i]!) (xs := L) rfl C24 rfl (by repeat (first | assumption | exact List.mem_cons_self | refine List.mem_cons_of_mem _ ?_)) (get!_of_lt (by omega))) ?_
          refine WL.rd rfl rfl rfl ((by first | exact Rd.lenE rfl rfl Tryd.underlying24 (by repeat (first | assumption | exact List.mem_cons_self | refine List.mem_cons_of_mem _ ?_)) | exact Rd.lenA rfl rfl Tryd.underlying24 (by repeat (first | assumption | exact List.mem_cons_self | refine List.mem_cons_of_mem _ ?_)) | exact Rd.len rfl rfl Tryd.underlying24)) ?_
          refine WL.rd rfl rfl rfl (Rd.lss rfl rfl rfl) ?_
          refine WL.nil ?_
          refine thenQ.normal ?_
          first | refine WC.ite rfl (fun hc3 => ?_) (fun hc3 => ?_) | refine WC.cond rfl (fun hc3 => ?_) (fun hc3 => ?_)
          · skip
            refine WC.skip ?_
            refine thenQ.normal ?_
            refine WC.seq ?_
            refine WC.block ?_
            refine WC.seq ?_
            refine WC.region ?_
            refine WL.rd rfl rfl rfl (Rd.move rfl rfl) ?_
            refine WL.rd rfl rfl rfl (Rd.gtr rfl rfl rfl) ?_
            refine WL.rd rfl rfl rfl (Rd.move rfl rfl) ?_
            refine WL.case 48 rfl (fun hg48 => ?_) (fun hg48 => ?_)
            · skip
              refine WL.no rfl rfl rfl rfl rfl rfl ?_
              refine WL.no rfl rfl rfl rfl rfl rfl ?_
              refine WL.no rfl rfl rfl rfl rfl rfl ?_
              refine WL.no rfl rfl rfl rfl rfl rfl ?_
              refine WL.no rfl rfl rfl rfl rfl rfl ?_
              refine WL.no rfl rfl rfl rfl rfl rfl ?_
              refine WL.no rfl rfl rfl rfl rfl rfl ?_
              refine WL.no rfl rfl rfl rfl rfl rfl ?_
              refine WL.no rfl rfl rfl rfl rfl rfl ?_
              refine WL.rd rfl rfl rfl (Rd.pick_t rfl rfl rfl) ?_
              refine WL.nil ?_
              refine thenQ.normal ?_
              refine WC.yes rfl ?_
              refine WC.seq ?_
              refine WC.region ?_
              refine WL.rd rfl rfl rfl (Rd.assign rfl rfl) ?_
              refine WL.nil ?_
              refine thenQ.normal ?_
              -- ret_1
              refine WC.heap (R' := R) (O' := O) (fun w h => OwnL.sat (by repeat (first | exact OwnL.refl | apply OwnL.take (by repeat (first | exact Take.head _ | apply Take.tail)) | apply OwnL.drop)) w (h.thin (SubL.mem (by repeat (first | exact SubL.refl | refine SubL.cons (by repeat (first | assumption | exact List.mem_cons_self | refine List.mem_cons_of_mem _ ?_)) ?_ | refine SubL.skip ?_))))) ?_
              refine WC.ret (Ret.one Tryd.results3 rfl ?_)
              exact hk
            · skip
              refine WL.rd_yes rfl rfl rfl rfl rfl rfl (Rd.move rfl rfl) ?_
              refine WL.rd_yes rfl rfl rfl rfl rfl rfl (Rd.move rfl rfl) ?_
              refine WL.rd_yes rfl rfl rfl rfl rfl rfl ((by first | exact Rd.idx1 rfl S22 rfl rfl rfl (by repeat (first | assumption | exact List.mem_cons_self | refine List.mem_cons_of_mem _ ?_)) (by first | omega | (simp only [List.length_cons, List.length_nil, List.length_append, List.length_map]; omega)) | exact Rd.idxA1 rfl S22 rfl rfl rfl (by repeat (first | assumption | exact List.mem_cons_self | refine List.mem_cons_of_mem _ ?_)) (by first | omega | (simp only [List.length_cons, List.length_nil, List.length_append, List.length_map]; omega)) | exact Rd.idxR1 rfl S22 rfl rfl rfl (by omega))) ?_
              refine WL.rd_yes rfl rfl rfl rfl rfl rfl (Rd.get (k := i) (g := fun x : VT => x.1) (a := L[i]!) (xs := L) rfl C24 rfl (by repeat (first | assumption | exact List.mem_cons_self | refine List.mem_cons_of_mem _ ?_)) (get!_of_lt (by omega))) ?_
              refine WL.rd_yes rfl rfl rfl rfl rfl rfl (Rd.move rfl rfl) ?_
              refine WL.rd_yes rfl rfl rfl rfl rfl rfl ((by first | exact Rd.idx1 rfl S24 rfl rfl rfl (by repeat (first | assumption | exact List.mem_cons_self | refine List.mem_cons_of_mem _ ?_)) (by first | omega | (simp only [List.length_cons, List.length_nil, List.length_append, List.length_map]; omega)) | exact Rd.idxA1 rfl S24 rfl rfl rfl (by repeat (first | assumption | exact List.mem_cons_self | refine List.mem_cons_of_mem _ ?_)) (by first | omega | (simp only [List.length_cons, List.length_nil, List.length_append, List.length_map]; omega)) | exact Rd.idxR1 rfl S24 rfl rfl rfl (by omega))) ?_
              refine WL.rd_yes rfl rfl rfl rfl rfl rfl (Rd.get (k := k) (g := vs) (a := xs[k]!) (xs := xs) rfl C9 rfl (by repeat (first | assumption | exact List.mem_cons_self | refine List.mem_cons_of_mem _ ?_)) (get!_of_lt (by omega))) ?_
              refine WL.rd_yes rfl rfl rfl rfl rfl rfl (Rd.slen (ts := #[]) (ty := 0) rfl rfl Tryd.underlying9) ?_
              refine WL.rd_yes rfl rfl rfl rfl rfl rfl (Rd.gtr rfl rfl rfl) ?_
              refine WL.rd rfl rfl rfl (Rd.pick_f rfl rfl rfl) ?_
              refine WL.nil ?_
              refine thenQ.normal ?_
              first | refine WC.ite rfl (fun hc4 => ?_) (fun hc4 => ?_) | refine WC.cond rfl (fun hc4 => ?_) (fun hc4 => ?_)
              · skip
                refine WC.seq ?_
                refine WC.region ?_
                refine WL.rd rfl rfl rfl (Rd.assign rfl rfl) ?_
                refine WL.nil ?_
                refine thenQ.normal ?_
                -- ret_2
                refine WC.heap (R' := R) (O' := O) (fun w h => OwnL.sat (by repeat (first | exact OwnL.refl | apply OwnL.take (by repeat (first | exact Take.head _ | apply Take.tail)) | apply OwnL.drop)) w (h.thin (SubL.mem (by repeat (first | exact SubL.refl | refine SubL.cons (by repeat (first | assumption | exact List.mem_cons_self | refine List.mem_cons_of_mem _ ?_)) ?_ | refine SubL.skip ?_))))) ?_
                refine WC.ret (Ret.one Tryd.results3 rfl ?_)
                exact hk
              · skip
                refine WC.skip ?_
                refine blockQ.normal ?_
                refine thenQ.normal ?_
                refine WC.region ?_
                refine WL.rd rfl rfl rfl (Rd.move rfl rfl) ?_
                refine WL.rd rfl rfl rfl (Rd.add rfl rfl rfl (by omega)) ?_
                refine WL.rd rfl rfl rfl (Rd.assign rfl rfl) ?_
                refine WL.nil ?_
                -- next2_1
                exact loopQ1.mk (k + 1) ⟨by omega, by omega, fun j hj => by
                rcases Nat.lt_or_ge j k with h | h
                · exact k3 j h
                · obtain rfl : j = k := by omega
                  omega⟩ (by omega) (by repeat (first | exact Sub.nil | refine Sub.cons rfl (by first | rfl | (congr 1; omega) | assumption) ?_)) (fun w h => OwnL.sat (by repeat (first | exact OwnL.refl | apply OwnL.take (by repeat (first | exact Take.head _ | apply Take.tail)) | apply OwnL.drop)) w (h.thin (SubL.mem (by repeat (first | exact SubL.refl | refine SubL.cons (by repeat (first | assumption | exact List.mem_cons_self | refine List.mem_cons_of_mem _ ?_)) ?_ | refine SubL.skip ?_)))))
          · skip
            obtain rfl : k = xs.length := by omega
            have hfit : Fit xs := ⟨k2, fun t ht => by
              obtain ⟨j, hj, rfl⟩ := List.getElem_of_mem ht
              have := k3 j hj
              rwa [getElem!_pos xs j hj] at this⟩
            have hjf := join_fit hfit
            have hfr : frm (bodies L) i = frameE (UInt8.ofNat (i % 256)) (joinE xs) := by rw [frm, bodies_get hil, hxs]
            have hfrl := (frm_len (l := bodies L) (n := i + 1) (fun j hj => by
              rw [bodies_get (by omega)]
              rcases Nat.lt_or_ge j i with h | h
              · exact join_fit (i3 j h)
              · obtain rfl : j = i := by omega
                rw [← hxs]; exact hjf) (Nat.lt_succ_self i)).2
            refine WC.exit ?_
            refine thenQ.exit ?_
            refine loopQ1.exit ?_
            refine blockQ.exit ?_
            refine thenQ.normal ?_
            refine WC.seq ?_
            refine WC.region ?_
            refine WL.rd rfl rfl rfl (Rd.move rfl rfl) ?_
            refine WL.rd rfl rfl rfl (Rd.move rfl rfl) ?_
            refine WL.rd rfl rfl rfl (Rd.conv (kd' := .u8) (p := (i : Int)) rfl rfl Tryd.underlying5 (wrap_u8 (by omega)) (hS := Tryd.underlying3)) ?_
            refine WL.say 61 (u := vy (UInt8.ofNat (i % 256))) rfl (by show Value.int .u8 (i : Int) = Value.int .u8 ((UInt8.ofNat (i % 256)).toNat : Int); rw [tb_nat (by omega)]) ?_
            refine WL.op rfl ?_
            refine OpW.buildSl (ps := []) rfl S24 (by repeat (first | exact Evs.nil | apply Evs.cons rfl)) rfl rfl (by repeat (first | exact CellsOf.nil | apply CellsOf.cons rfl)) (by kernel_rfl) rfl rfl rfl ?_; intro b62
            refine WL.heap (fun w h => Sat.accRow (α := List UInt8) (b := b62) (enc := one vs) (xs := []) (by repeat (first | assumption | exact Take.head _ | apply Take.tail)) rfl rfl (fun _ => rfl) (Nat.zero_le _) h) ?_
            refine WL.rd rfl rfl rfl (Rd.move rfl rfl) ?_
            refine WL.rd rfl rfl rfl (Rd.move rfl rfl) ?_
            refine WL.rd rfl rfl rfl ((by first | exact Rd.idx1 rfl S22 rfl rfl rfl (by repeat (first | assumption | exact List.mem_cons_self | refine List.mem_cons_of_mem _ ?_)) (by first | omega | (simp only [List.length_cons, List.length_nil, List.length_append, List.length_map]; omega)) | exact Rd.idxA1 rfl S22 rfl rfl rfl (by repeat (first | assumption | exact List.mem_cons_self | refine List.mem_cons_of_mem _ ?_)) (by first | omega | (simp only [List.length_cons, List.length_nil, List.length_append, List.length_map]; omega)) | exact Rd.idxR1 rfl S22 rfl rfl rfl (by omega))) ?_
            refine WL.rd rfl rfl rfl (Rd.get (k := i) (g := fun x : VT => x.1) (a := L[i]!) (xs := L) rfl C24 rfl (by repeat (first | assumption | exact List.mem_cons_self | refine List.mem_cons_of_mem _ ?_)) (get!_of_lt (by omega))) ?_
            refine WL.op rfl ?_
            refine OpW.appendE (enc := one vs) (ys := xs) (xs := []) rfl S24 Tryd.underlying24 rfl rfl (by repeat (first | assumption | exact Take.head _ | apply Take.tail)) (by repeat (first | assumption | exact List.mem_cons_self | refine List.mem_cons_of_mem _ ?_)) (by intro x; first | rfl | (cases x; rfl) | (rcases x with ⟨_, _, _⟩; rfl) | (rcases x with ⟨_, _, _, _⟩; rfl)) (by intro x; first | rfl | (cases x; rfl) | (rcases x with ⟨_, _, _⟩; rfl) | (rcases x with ⟨_, _, _, _⟩; rfl)) ⟨by simp only [maxLen, List.length_append, List.length_nil, List.length_cons, List.length_drop, List.length_take, List.length_map]; omega, by first | omega | (simp only [List.length_append, List.length_nil, List.length_cons, List.length_drop, List.length_take, List.length_map]; omega)⟩ rfl rfl ?_; intro v67 hv67
            rw [List.nil_append]
            refine WL.heap (fun w h => Sat.shareA (xs := xs) (by repeat (first | assumption | exact Take.head _ | apply Take.tail)) h) ?_
            refine WL.op rfl ?_
            refine OpW.call rfl rfl (by repeat (first | exact Evs.nil | apply Evs.cons rfl)) (by kernel_rfl) rfl rfl rfl ?_
            refine join_spec (l := xs) (by repeat (first | assumption | exact List.mem_cons_self | refine List.mem_cons_of_mem _ ?_)) (by omega) ?_
            refine WL.op rfl ?_
            refine OpW.call rfl rfl (by repeat (first | exact Evs.nil | apply Evs.cons rfl)) (by kernel_rfl) rfl rfl rfl ?_
            refine frame_spec (by repeat (first | assumption | exact List.mem_cons_self | refine List.mem_cons_of_mem _ ?_)) ?_; rw [← hfr]
            refine WL.rd rfl rfl rfl (Rd.scat rfl rfl rfl (by omega)) ?_
            refine WL.rd rfl rfl rfl (Rd.assign rfl rfl) ?_
            refine WL.nil ?_
            refine thenQ.normal ?_
            refine WC.region ?_
            refine WL.rd rfl rfl rfl (Rd.move rfl rfl) ?_
            refine WL.rd rfl rfl rfl (Rd.add rfl rfl rfl (by omega)) ?_
            refine WL.rd rfl rfl rfl (Rd.assign rfl rfl) ?_
            refine WL.nil ?_
            refine blockQ.normal ?_
            refine thenQ.normal ?_
            refine WC.region ?_
            refine WL.rd rfl rfl rfl (Rd.move rfl rfl) ?_
            refine WL.rd rfl rfl rfl (Rd.add rfl rfl rfl (by omega)) ?_
            refine WL.rd rfl rfl rfl (Rd.assign rfl rfl) ?_
            refine WL.nil ?_
            -- next1_1
            exact loopQ1.mk (i + 1) ⟨by omega, by omega, fun j hj => by
            rcases Nat.lt_or_ge j i with h | h
            · exact i3 j h
            · obtain rfl : j = i := by omega
              rw [← hxs]; exact hfit⟩ (by omega) (by repeat (first | exact Sub.nil | refine Sub.cons rfl (by first | rfl | (congr 1; omega) | assumption) ?_)) (fun w h => OwnL.sat (by repeat (first | exact OwnL.refl | apply OwnL.take (by repeat (first | exact Take.head _ | apply Take.tail)) | apply OwnL.drop)) w (h.thin (SubL.mem (by repeat (first | exact SubL.refl | refine SubL.cons (by repeat (first | assumption | exact List.mem_cons_self | refine List.mem_cons_of_mem _ ?_)) ?_ | refine SubL.skip ?_)))))
        · skip
          refine WC.exit ?_
          refine thenQ.exit ?_
          refine loopQ1.exit ?_
          refine blockQ.exit ?_
          -- kut_l1 1
          exact ⟨i, ⟨i1, i2, i3⟩, (by repeat (first | exact Sub.nil | refine Sub.cons rfl (by first | rfl | (congr 1; omega) | assumption) ?_)), (fun w h => OwnL.sat (by repeat (first | exact OwnL.refl | apply OwnL.take (by repeat (first | exact Take.head _ | apply Take.tail)) | apply OwnL.drop)) w (h.thin (SubL.mem (by repeat (first | exact SubL.refl | refine SubL.cons (by repeat (first | assumption | exact List.mem_cons_self | refine List.mem_cons_of_mem _ ?_)) ?_ | refine SubL.skip ?_)))))⟩
      · skip
        refine WL.no rfl rfl rfl rfl rfl rfl ?_
        refine WL.no rfl rfl rfl rfl rfl rfl ?_
        refine WL.rd rfl rfl rfl (Rd.pick_f rfl rfl rfl) ?_
        refine WL.nil ?_
        refine thenQ.normal ?_
        refine WC.no rfl ?_
        refine WC.exit ?_
        refine thenQ.exit ?_
        refine loopQ1.exit ?_
        refine blockQ.exit ?_
        -- kut_l1 2
        exact ⟨i, ⟨i1, i2, i3⟩, (by repeat (first | exact Sub.nil | refine Sub.cons rfl (by first | rfl | (congr 1; omega) | assumption) ?_)), (fun w h => OwnL.sat (by repeat (first | exact OwnL.refl | apply OwnL.take (by repeat (first | exact Take.head _ | apply Take.tail)) | apply OwnL.drop)) w (h.thin (SubL.mem (by repeat (first | exact SubL.refl | refine SubL.cons (by repeat (first | assumption | exact List.mem_cons_self | refine List.mem_cons_of_mem _ ?_)) ?_ | refine SubL.skip ?_)))))⟩
    · skip
      rintro n ⟨n1, n2, n3⟩
      have hsh : Shorts (bodies L) n := fun j hj => by rw [bodies_get (by omega)]; exact join_fit (n3 j hj)
      have hcl := cat_len hsh
      have hwh := whole_all hsh
      obtain ⟨s, hs⟩ : ∃ s, s = cat (bodies L) n := ⟨_, rfl⟩
      rw [← hs] at hcl hwh ⊢
      obtain ⟨m, hm⟩ : ∃ m, m = (s.length + 511) / 512 := ⟨_, rfl⟩
      refine WC.seq ?_
      refine WC.region ?_
      refine WL.rd rfl rfl rfl (Rd.move rfl rfl) ?_
      refine WL.rd rfl rfl rfl (Rd.slen (ts := #[]) (ty := 0) rfl rfl Tryd.underlying9) ?_
      refine WL.rd rfl rfl rfl (Rd.add rfl rfl rfl (by omega)) ?_
      refine WL.rd rfl rfl rfl (Rd.quoI (a := s.length + 511) (b := 512) rfl rfl rfl (by omega) rfl (by decide) (by omega)) ?_
      refine WL.say 76 (u := .int .i64 (m : Int)) rfl (by rw [hm]) ?_
      refine WL.rd rfl rfl rfl (Rd.assign rfl rfl) ?_
      refine WL.nil ?_
      refine thenQ.normal ?_
      refine WC.seq ?_
      refine WC.region ?_
      refine WL.rd rfl rfl rfl (Rd.move rfl rfl) ?_
      refine WL.rd rfl rfl rfl (Rd.add rfl rfl rfl (by omega)) ?_
      refine WL.op rfl ?_
      refine OpW.call rfl rfl (by repeat (first | exact Evs.nil | apply Evs.cons rfl)) (by kernel_rfl) rfl rfl rfl ?_
      refine new_spec (fun h => by exfalso; omega) (fun N hN hN1 hN2 d V hv => ?_); obtain rfl : N = m + 1 := by omega
      refine WL.rd rfl rfl rfl (Rd.move rfl rfl) ?_
      refine WL.rd rfl rfl rfl (Rd.extract rfl rfl rfl) ?_
      refine WL.rd rfl rfl rfl (Rd.extract rfl rfl rfl) ?_
      refine WL.rd rfl rfl rfl (Rd.assign rfl rfl) ?_
      refine WL.rd rfl rfl rfl (Rd.assign rfl rfl) ?_
      refine WL.nil ?_
      refine thenQ.normal ?_
      refine WC.seq ?_
      refine WC.seq ?_
      refine WC.region ?_
      refine WL.rd rfl rfl rfl (Rd.move rfl rfl) ?_
      refine WL.rd rfl rfl rfl (Rd.neq rfl rfl rfl) ?_
      refine WL.nil ?_
      refine thenQ.normal ?_
      first | refine WC.ite rfl (fun hc5 => ?_) (fun hc5 => ?_) | refine WC.cond rfl (fun hc5 => ?_) (fun hc5 => ?_)
      · skip
        exact absurd rfl hc5
      · skip
        refine WC.skip ?_
        refine thenQ.normal ?_
        refine WC.seq ?_
        refine WC.seq ?_
        refine WC.region ?_
        refine WL.rd rfl rfl rfl (Rd.assign rfl rfl) ?_
        refine WL.nil ?_
        refine thenQ.normal ?_
        refine WC.block ?_
        refine WC.pick [10, 0, 3, 4, 7, 8] (by repeat (first | exact Pick.nil | apply Pick.cons rfl)) ?_
        refine WC.loop2r 1 (fun (i : Nat) (V : DV) => [(10, .int .i64 (i : Int))]) (fun (i : Nat) (V : DV) => SlE (one vi) V.kv [] :: R) (fun (i : Nat) (V : DV) => dO d V (disk (m + 1) s i) O) (fun (i : Nat) (V : DV) => i ≤ m ∧ VOk V (disk (m + 1) s i)) (fun (i : Nat) (V : DV) => m - i) (0) (V) (by repeat (first | exact Split.zero | apply Split.succ)) ?hinv3 (by repeat (first | exact Sub.nil | refine Sub.cons rfl (by first | rfl | (congr 1; omega) | assumption) ?_)) (fun w h => by exact (fun w h => OwnL.sat (by repeat (first | exact OwnL.refl | apply OwnL.take (by repeat (first | exact Take.head _ | apply Take.tail)) | apply OwnL.drop)) w (h.thin (SubL.mem (by repeat (first | exact SubL.refl | refine SubL.cons (by repeat (first | assumption | exact List.mem_cons_self | refine List.mem_cons_of_mem _ ?_)) ?_ | refine SubL.skip ?_))))) w h) ?_
        case hinv3 =>
          exact ⟨Nat.zero_le _, hv⟩
        intro i V
        rintro ⟨i1, hv⟩
        refine WC.seq ?_
        refine WC.seq ?_
        refine WC.region ?_
        refine WL.rd rfl rfl rfl (Rd.move rfl rfl) ?_
        refine WL.rd rfl rfl rfl (Rd.move rfl rfl) ?_
        refine WL.rd rfl rfl rfl (Rd.lss rfl rfl rfl) ?_
        refine WL.nil ?_
        refine thenQ.normal ?_
        first | refine WC.ite rfl (fun hc6 => ?_) (fun hc6 => ?_) | refine WC.cond rfl (fun hc6 => ?_) (fun hc6 => ?_)
        · skip
          refine WC.skip ?_
          refine thenQ.normal ?_
          refine WC.seq ?_
          refine WC.block ?_
          refine WC.region ?_
          refine WL.rd rfl rfl rfl (Rd.move rfl rfl) ?_
          refine WL.rd rfl rfl rfl (Rd.move rfl rfl) ?_
          refine WL.rd rfl rfl rfl (Rd.move rfl rfl) ?_
          refine WL.rd rfl rfl rfl (Rd.move rfl rfl) ?_
          refine WL.rd rfl rfl rfl (Rd.mul rfl rfl rfl (by omega)) ?_
          refine WL.rd rfl rfl rfl (Rd.move rfl rfl) ?_
          refine WL.rd rfl rfl rfl (Rd.mul rfl rfl rfl (by omega)) ?_
          refine WL.rd rfl rfl rfl (Rd.add rfl rfl rfl (by omega)) ?_
          refine WL.rd rfl rfl rfl (Rd.move rfl rfl) ?_
          refine WL.rd rfl rfl rfl (Rd.slen (ts := #[]) (ty := 0) rfl rfl Tryd.underlying9) ?_
          refine WL.rd rfl rfl rfl (Rd.min2 rfl rfl rfl) ?_
          refine WL.say 103 (u := .int .i64 ((min (512 * i + 512) s.length : Nat) : Int)) rfl (by congr 1; split <;> omega) ?_
          refine WL.rd rfl rfl rfl (Rd.scut_lh (lo := 512 * i) (hi := min (512 * i + 512) s.length) rfl Tryd.underlying9 rfl rfl rfl (by omega) rfl (by omega) (by omega)) ?_
          refine WL.op rfl ?_
          refine OpW.call rfl rfl (by repeat (first | exact Evs.nil | apply Evs.cons rfl)) (by kernel_rfl) rfl rfl rfl ?_
          refine write_spec (s := disk (m + 1) s i) (m := i) (i := (i : Int)) (dd := chunk s i) (disk_ok (by omega) (by omega)) (by omega) hv List.mem_cons_self ?_; intro V1 hv1 hkv1
          rw [disk_put (by omega) (by omega)] at hv1 ⊢
          refine WL.nil ?_
          refine blockQ.normal ?_
          refine thenQ.normal ?_
          refine WC.region ?_
          refine WL.rd rfl rfl rfl (Rd.move rfl rfl) ?_
          refine WL.rd rfl rfl rfl (Rd.add rfl rfl rfl (by omega)) ?_
          refine WL.rd rfl rfl rfl (Rd.assign rfl rfl) ?_
          refine WL.nil ?_
          -- next3_1
          exact loopQ2.mk (i + 1) V1 ⟨by omega, hv1⟩ (by omega) (by repeat (first | exact Sub.nil | refine Sub.cons rfl (by first | rfl | (congr 1; omega) | assumption) ?_)) (fun w h => by simp only [hkv1]; exact (fun w h => OwnL.sat (by repeat (first | exact OwnL.refl | apply OwnL.take (by repeat (first | exact Take.head _ | apply Take.tail)) | apply OwnL.drop)) w (h.thin (SubL.mem (by repeat (first | exact SubL.refl | refine SubL.cons (by repeat (first | assumption | exact List.mem_cons_self | refine List.mem_cons_of_mem _ ?_)) ?_ | refine SubL.skip ?_))))) w h)
        · skip
          obtain rfl : i = m := by omega
          refine WC.exit ?_
          refine thenQ.exit ?_
          refine loopQ2.exit ?_
          refine blockQ.exit ?_
          refine thenQ.normal ?_
          refine WC.seq ?_
          refine WC.region ?_
          refine WL.rd rfl rfl rfl (Rd.move rfl rfl) ?_
          refine WL.op rfl ?_
          refine OpW.call rfl rfl (by repeat (first | exact Evs.nil | apply Evs.cons rfl)) (by kernel_rfl) rfl rfl rfl ?_
          refine sync_spec (m := i) (disk_ok (by omega) (by omega)) (by omega) hv List.mem_cons_self ?_; intro V1 hv1 hkv1
          refine WL.nil ?_
          refine thenQ.normal ?_
          refine WC.seq ?_
          refine WC.region ?_
          refine WL.rd rfl rfl rfl (Rd.move rfl rfl) ?_
          refine WL.heap (fun w h => Sat.nilE (α := Int) (enc := one vi) h) ?_
          refine WL.op rfl ?_
          refine OpW.call rfl rfl (by repeat (first | exact Evs.nil | apply Evs.cons rfl)) (by kernel_rfl) rfl rfl rfl ?_
          have hok := (disk_ok (N := i + 1) (n := i) (s := s) (by omega) (by omega)).sync
          refine crash_spec (keep := []) hok (by omega) hv1 List.mem_cons_self ?_; intro hv2
          have hok2 := hok.crash []
          refine WL.nil ?_
          refine thenQ.normal ?_
          refine WC.seq ?_
          refine WC.region ?_
          refine WL.rd rfl rfl rfl (Rd.assign rfl rfl) ?_
          refine WL.say 11 (u := vs (backE s 0)) rfl (by rw [show backE s 0 = [] from by unfold backE; simp]) ?_
          refine WL.nil ?_
          refine thenQ.normal ?_
          refine WC.seq ?_
          refine WC.seq ?_
          refine WC.region ?_
          refine WL.rd rfl rfl rfl (Rd.assign rfl rfl) ?_
          refine WL.nil ?_
          refine thenQ.normal ?_
          refine WC.block ?_
          refine WC.pick [11, 12, 0, 3, 4, 7, 8] (by repeat (first | exact Pick.nil | apply Pick.cons rfl)) ?_
          refine WC.loop1o 2 (fun (j : Nat) => [(11, vs (backE s j)), (12, .int .i64 (j : Int))]) (fun (j : Nat) => j ≤ i) (fun (j : Nat) => i - j) (0) (by repeat (first | exact Split.zero | apply Split.succ)) ?hinv4 (by repeat (first | exact Sub.nil | refine Sub.cons rfl (by first | rfl | (congr 1; omega) | assumption) ?_)) (fun _ h => h) ?_
          case hinv4 =>
            exact Nat.zero_le _
          intro j
          rintro j1
          refine WC.seq ?_
          refine WC.seq ?_
          refine WC.region ?_
          refine WL.rd rfl rfl rfl (Rd.move rfl rfl) ?_
          refine WL.rd rfl rfl rfl (Rd.move rfl rfl) ?_
          refine WL.rd rfl rfl rfl (Rd.lss rfl rfl rfl) ?_
          refine WL.nil ?_
          refine thenQ.normal ?_
          first | refine WC.ite rfl (fun hc7 => ?_) (fun hc7 => ?_) | refine WC.cond rfl (fun hc7 => ?_) (fun hc7 => ?_)
          · skip
            refine WC.skip ?_
            refine thenQ.normal ?_
            refine WC.seq ?_
            refine WC.block ?_
            refine WC.seq ?_
            refine WC.region ?_
            refine WL.rd rfl rfl rfl (Rd.move rfl rfl) ?_
            refine WL.rd rfl rfl rfl (Rd.move rfl rfl) ?_
            refine WL.op rfl ?_
            refine OpW.call rfl rfl (by repeat (first | exact Evs.nil | apply Evs.cons rfl)) (by kernel_rfl) rfl rfl rfl ?_
            refine read_spec (hok2.mono (by omega)) ?_
            refine WL.rd rfl rfl rfl (Rd.move rfl rfl) ?_
            refine WL.rd rfl rfl rfl (Rd.extract rfl rfl rfl) ?_
            refine WL.say 119 (u := vs (fullE (chunk s j))) rfl (by rw [← disk_read (N := i + 1) (n := i) (by omega) (by omega)]; rfl) ?_
            refine WL.rd rfl rfl rfl (Rd.extract rfl rfl rfl) ?_
            refine WL.rd rfl rfl rfl (Rd.assign rfl rfl) ?_
            refine WL.rd rfl rfl rfl (Rd.assign rfl rfl) ?_
            refine WL.nil ?_
            refine thenQ.normal ?_
            refine WC.region ?_
            refine WL.rd rfl rfl rfl (Rd.move rfl rfl) ?_
            refine WL.rd rfl rfl rfl (Rd.move rfl rfl) ?_
            refine WL.rd rfl rfl rfl (Rd.scat rfl rfl rfl (by have h1 := back_len (s := s) (i := j) (by omega); have h2 := full_len (s := chunk s j) (by have := chunk_len (s := s) (i := j) (by omega); omega); omega)) ?_
            refine WL.say 123 (u := vs (backE s (j + 1))) rfl (by rw [back_step (by omega)]) ?_
            refine WL.rd rfl rfl rfl (Rd.assign rfl rfl) ?_
            refine WL.nil ?_
            refine blockQ.normal ?_
            refine thenQ.normal ?_
            refine WC.region ?_
            refine WL.rd rfl rfl rfl (Rd.move rfl rfl) ?_
            refine WL.rd rfl rfl rfl (Rd.add rfl rfl rfl (by omega)) ?_
            refine WL.rd rfl rfl rfl (Rd.assign rfl rfl) ?_
            refine WL.nil ?_
            -- next4_1
            exact loopQ1.mk (j + 1) (by omega) (by omega) (by repeat (first | exact Sub.nil | refine Sub.cons rfl (by first | rfl | (congr 1; omega) | assumption) ?_)) (fun w h => OwnL.sat (by repeat (first | exact OwnL.refl | apply OwnL.take (by repeat (first | exact Take.head _ | apply Take.tail)) | apply OwnL.drop)) w (h.thin (SubL.mem (by repeat (first | exact SubL.refl | refine SubL.cons (by repeat (first | assumption | exact List.mem_cons_self | refine List.mem_cons_of_mem _ ?_)) ?_ | refine SubL.skip ?_)))))
          · skip
            obtain rfl : j = i := by omega
            refine WC.exit ?_
            refine thenQ.exit ?_
            refine loopQ1.exit ?_
            refine blockQ.exit ?_
            refine thenQ.normal ?_
            refine WC.seq ?_
            refine WC.region ?_
            refine WL.rd rfl rfl rfl (Rd.move rfl rfl) ?_
            refine WL.rd rfl rfl rfl (Rd.move rfl rfl) ?_
            refine WL.rd rfl rfl rfl (Rd.slen (ts := #[]) (ty := 0) rfl rfl Tryd.underlying9) ?_
            refine WL.rd rfl rfl rfl (Rd.scut_h (hi := s.length) rfl Tryd.underlying9 rfl rfl rfl (by have h1 := back_len (s := s) (i := j) (by omega); omega)) ?_
            refine WL.say 127 (u := vs s) rfl (by rw [back_all (by omega)]) ?_
            refine WL.rd rfl rfl rfl (Rd.assign rfl rfl) ?_
            refine WL.nil ?_
            refine thenQ.normal ?_
            refine WC.seq ?_
            refine WC.region ?_
            refine WL.rd rfl rfl rfl (Rd.move rfl rfl) ?_
            refine WL.op rfl ?_
            refine OpW.call rfl rfl (by repeat (first | exact Evs.nil | apply Evs.cons rfl)) (by kernel_rfl) rfl rfl rfl ?_
            refine crcWhole_spec (s := s) (by repeat (first | assumption | exact List.mem_cons_self | refine List.mem_cons_of_mem _ ?_)) (by omega) ?_; rw [hwh]
            refine WL.rd rfl rfl rfl (Rd.move rfl rfl) ?_
            refine WL.rd rfl rfl rfl (Rd.extract rfl rfl rfl) ?_
            refine WL.rd rfl rfl rfl (Rd.extract rfl rfl rfl) ?_
            refine WL.rd rfl rfl rfl (Rd.assign rfl rfl) ?_
            refine WL.rd rfl rfl rfl (Rd.assign rfl rfl) ?_
            refine WL.nil ?_
            refine thenQ.normal ?_
            refine WC.seq ?_
            refine WC.seq ?_
            refine WC.region ?_
            refine WL.rd rfl rfl rfl (Rd.move rfl rfl) ?_
            refine WL.rd rfl rfl rfl (Rd.move rfl rfl) ?_
            refine WL.rd rfl rfl rfl (Rd.slen (ts := #[]) (ty := 0) rfl rfl Tryd.underlying9) ?_
            refine WL.rd rfl rfl rfl (Rd.neq rfl rfl rfl) ?_
            refine WL.rd rfl rfl rfl (Rd.move rfl rfl) ?_
            refine WL.case 137 rfl (fun hg137 => ?_) (fun hg137 => ?_)
            · skip
              exact absurd rfl hg137
            · skip
              refine WL.rd_yes rfl rfl rfl rfl rfl rfl (Rd.move rfl rfl) ?_
              refine WL.rd_yes rfl rfl rfl rfl rfl rfl (Rd.move rfl rfl) ?_
              refine WL.rd_yes rfl rfl rfl rfl rfl rfl (Rd.neq rfl rfl rfl) ?_
              refine WL.rd rfl rfl rfl (Rd.pick_f rfl rfl rfl) ?_
              refine WL.nil ?_
              refine thenQ.normal ?_
              first | refine WC.ite rfl (fun hc8 => ?_) (fun hc8 => ?_) | refine WC.cond rfl (fun hc8 => ?_) (fun hc8 => ?_)
              · skip
                exact absurd rfl hc8
              · skip
                refine WC.skip ?_
                refine thenQ.normal ?_
                refine WC.seq ?_
                refine WC.seq ?_
                refine WC.region ?_
                have e0 : s = from_ (bodies L) n 0 := by rw [hs]; rfl
                rw [e0]
                refine WL.rd rfl rfl rfl (Rd.assign rfl rfl) ?_
                refine WL.nil ?_
                refine thenQ.normal ?_
                refine WC.block ?_
                refine WC.pick [11, 17, 0, 4] (by repeat (first | exact Pick.nil | apply Pick.cons rfl)) ?_
                refine WC.loop1r 2 (fun (q : Nat) => [(11, vs (from_ (bodies L) n q)), (17, .int .i64 (q : Int))]) (fun (q : Nat) => R) (fun (q : Nat) => O) (fun (q : Nat) => q ≤ n) (fun (q : Nat) => n - q) (0) (by repeat (first | exact Split.zero | apply Split.succ)) ?hinv5 (by repeat (first | exact Sub.nil | refine Sub.cons rfl (by first | rfl | (congr 1; omega) | assumption) ?_)) (fun w h => OwnL.sat (by repeat (first | exact OwnL.refl | apply OwnL.take (by repeat (first | exact Take.head _ | apply Take.tail)) | apply OwnL.drop)) w (h.thin (SubL.mem (by repeat (first | exact SubL.refl | refine SubL.cons (by repeat (first | assumption | exact List.mem_cons_self | refine List.mem_cons_of_mem _ ?_)) ?_ | refine SubL.skip ?_))))) ?_
                case hinv5 =>
                  exact Nat.zero_le _
                intro q
                rintro q1
                refine WC.seq ?_
                refine WC.seq ?_
                refine WC.region ?_
                refine WL.rd rfl rfl rfl (Rd.move rfl rfl) ?_
                refine WL.rd rfl rfl rfl (Rd.move rfl rfl) ?_
                refine WL.rd rfl rfl rfl (Rd.lss rfl rfl rfl) ?_
                refine WL.nil ?_
                refine thenQ.normal ?_
                first | refine WC.ite rfl (fun hc9 => ?_) (fun hc9 => ?_) | refine WC.cond rfl (fun hc9 => ?_) (fun hc9 => ?_)
                · skip
                  refine WC.skip ?_
                  refine thenQ.normal ?_
                  refine WC.seq ?_
                  refine WC.block ?_
                  refine WC.seq ?_
                  have hil : q < L.length := by omega
                  refine WC.heap (fun w h => h.derive (q := SlE (one vs) L[q]!.1 L[q]!.2) (fun w hR => ql_of hil (hR (AllQ QL L) (by repeat (first | assumption | exact List.mem_cons_self | refine List.mem_cons_of_mem _ ?_))))) ?_
                  refine WC.know (p := SlE (one vs) L[q]!.1 L[q]!.2) (by repeat (first | assumption | exact List.mem_cons_self | refine List.mem_cons_of_mem _ ?_)) (fun w h => h.len) fun hxl => ?_
                  obtain ⟨xs, hxs⟩ : ∃ xs, xs = L[q]!.2 := ⟨_, rfl⟩
                  have hfit : Fit xs := by rw [hxs]; exact n3 q (by omega)
                  rw [← hxs] at hxl ⊢
                  have hjf := join_fit hfit
                  have hnx := frm_nx hsh (j := q) (by omega) (from_ (bodies L) n (q + 1))
                  rw [bodies_get hil, ← hxs, tb_nat (by omega)] at hnx
                  have hfq := from_step (l := bodies L) (n := n) (k := q) (by omega)
                  have hfl : (from_ (bodies L) n q).length ≤ 700000 := by unfold from_; rw [List.length_drop, ← hs]; omega
                  refine WC.region ?_
                  refine WL.rd rfl rfl rfl (Rd.move rfl rfl) ?_
                  refine WL.op rfl ?_
                  refine OpW.call rfl rfl (by repeat (first | exact Evs.nil | apply Evs.cons rfl)) (by kernel_rfl) rfl rfl rfl ?_
                  refine crcNext_spec (s := from_ (bodies L) n q) (by repeat (first | assumption | exact List.mem_cons_self | refine List.mem_cons_of_mem _ ?_)) (by omega) ?_; rw [hfq, hnx]
                  refine WL.rd rfl rfl rfl (Rd.move rfl rfl) ?_
                  refine WL.rd rfl rfl rfl (Rd.extract rfl rfl rfl) ?_
                  refine WL.rd rfl rfl rfl (Rd.extract rfl rfl rfl) ?_
                  refine WL.rd rfl rfl rfl (Rd.extract rfl rfl rfl) ?_
                  refine WL.rd rfl rfl rfl (Rd.extract rfl rfl rfl) ?_
                  refine WL.rd rfl rfl rfl (Rd.assign rfl rfl) ?_
                  refine WL.rd rfl rfl rfl (Rd.assign rfl rfl) ?_
                  refine WL.rd rfl rfl rfl (Rd.assign rfl rfl) ?_
                  refine WL.rd rfl rfl rfl (Rd.assign rfl rfl) ?_
                  refine WL.nil ?_
                  refine thenQ.normal ?_
                  refine WC.seq ?_
                  refine WC.region ?_
                  refine WL.rd rfl rfl rfl (Rd.move rfl rfl) ?_
                  refine WL.op rfl ?_
                  refine OpW.call rfl rfl (by repeat (first | exact Evs.nil | apply Evs.cons rfl)) (by kernel_rfl) rfl rfl rfl ?_
                  refine split_spec (s := joinE xs) (by omega) ?_; intro v156 e156 out l1 r1 hp1 he1; obtain ⟨rfl, rfl⟩ := split_join hfit hp1 he1
                  refine WL.rd rfl rfl rfl (Rd.move rfl rfl) ?_
                  refine WL.rd rfl rfl rfl (Rd.extract rfl rfl rfl) ?_
                  refine WL.rd rfl rfl rfl (Rd.extract rfl rfl rfl) ?_
                  refine WL.rd rfl rfl rfl (Rd.assign rfl rfl) ?_
                  refine WL.rd rfl rfl rfl (Rd.assign rfl rfl) ?_
                  refine WL.nil ?_
                  refine thenQ.normal ?_
                  refine WC.seq ?_
                  refine WC.seq ?_
                  refine WC.region ?_
                  refine WL.rd rfl rfl rfl (Rd.move rfl rfl) ?_
                  refine WL.rd rfl rfl rfl (Rd.neq rfl rfl rfl) ?_
                  refine WL.rd rfl rfl rfl (Rd.move rfl rfl) ?_
                  refine WL.case 161 rfl (fun hg161 => ?_) (fun hg161 => ?_)
                  · skip
                    exact absurd rfl hg161
                  · skip
                    refine WL.rd_yes rfl rfl rfl rfl rfl rfl (Rd.move rfl rfl) ?_
                    refine WL.rd_yes rfl rfl rfl rfl rfl rfl (Rd.neq rfl rfl rfl) ?_
                    refine WL.rd rfl rfl rfl (Rd.pick_f rfl rfl rfl) ?_
                    refine WL.rd rfl rfl rfl (Rd.move rfl rfl) ?_
                    refine WL.case 165 rfl (fun hg165 => ?_) (fun hg165 => ?_)
                    · skip
                      exact absurd rfl hg165
                    · skip
                      refine WL.rd_yes rfl rfl rfl rfl rfl rfl (Rd.move rfl rfl) ?_
                      refine WL.rd_yes rfl rfl rfl rfl rfl rfl (Rd.move rfl rfl) ?_
                      refine WL.rd_yes rfl rfl rfl rfl rfl rfl (Rd.conv (kd' := .u8) (p := (q : Int)) rfl rfl Tryd.underlying5 (wrap_u8 (by omega)) (hS := Tryd.underlying3)) ?_
                      refine WL.rd_yes rfl rfl rfl rfl rfl rfl (Rd.neq rfl rfl rfl) ?_
                      refine WL.rd rfl rfl rfl (Rd.pick_f rfl rfl rfl) ?_
                      refine WL.rd rfl rfl rfl (Rd.move rfl rfl) ?_
                      refine WL.case 171 rfl (fun hg171 => ?_) (fun hg171 => ?_)
                      · skip
                        exact absurd rfl hg171
                      · skip
                        refine WL.rd_yes rfl rfl rfl rfl rfl rfl (Rd.move rfl rfl) ?_
                        refine WL.rd_yes rfl rfl rfl rfl rfl rfl ((by first | exact Rd.lenE rfl rfl Tryd.underlying24 (by repeat (first | assumption | exact List.mem_cons_self | refine List.mem_cons_of_mem _ ?_)) | exact Rd.lenA rfl rfl Tryd.underlying24 (by repeat (first | assumption | exact List.mem_cons_self | refine List.mem_cons_of_mem _ ?_)) | exact Rd.len rfl rfl Tryd.underlying24)) ?_
                        refine WL.rd_yes rfl rfl rfl rfl rfl rfl (Rd.move rfl rfl) ?_
                        refine WL.rd_yes rfl rfl rfl rfl rfl rfl (Rd.move rfl rfl) ?_
                        refine WL.rd_yes rfl rfl rfl rfl rfl rfl ((by first | exact Rd.idx1 rfl S22 rfl rfl rfl (by repeat (first | assumption | exact List.mem_cons_self | refine List.mem_cons_of_mem _ ?_)) (by first | omega | (simp only [List.length_cons, List.length_nil, List.length_append, List.length_map]; omega)) | exact Rd.idxA1 rfl S22 rfl rfl rfl (by repeat (first | assumption | exact List.mem_cons_self | refine List.mem_cons_of_mem _ ?_)) (by first | omega | (simp only [List.length_cons, List.length_nil, List.length_append, List.length_map]; omega)) | exact Rd.idxR1 rfl S22 rfl rfl rfl (by omega))) ?_
                        refine WL.rd_yes rfl rfl rfl rfl rfl rfl (Rd.get (k := q) (g := fun x : VT => x.1) (a := L[q]!) (xs := L) rfl C24 rfl (by repeat (first | assumption | exact List.mem_cons_self | refine List.mem_cons_of_mem _ ?_)) (get!_of_lt (by omega))) ?_
                        refine WL.rd_yes rfl rfl rfl rfl rfl rfl ((by first | exact Rd.lenE rfl rfl Tryd.underlying24 (by repeat (first | assumption | exact List.mem_cons_self | refine List.mem_cons_of_mem _ ?_)) | exact Rd.lenA rfl rfl Tryd.underlying24 (by repeat (first | assumption | exact List.mem_cons_self | refine List.mem_cons_of_mem _ ?_)) | exact Rd.len rfl rfl Tryd.underlying24)) ?_
                        refine WL.rd_yes rfl rfl rfl rfl rfl rfl (Rd.neq rfl rfl rfl) ?_
                        refine WL.rd rfl rfl rfl (Rd.pick_f rfl rfl rfl) ?_
                        refine WL.nil ?_
                        refine thenQ.normal ?_
                        first | refine WC.ite rfl (fun hc10 => ?_) (fun hc10 => ?_) | refine WC.cond rfl (fun hc10 => ?_) (fun hc10 => ?_)
                        · skip
                          exact absurd rfl hc10
                        · skip
                          refine WC.skip ?_
                          refine thenQ.normal ?_
                          refine WC.seq ?_
                          refine WC.seq ?_
                          refine WC.region ?_
                          refine WL.rd rfl rfl rfl (Rd.assign rfl rfl) ?_
                          refine WL.nil ?_
                          refine thenQ.normal ?_
                          refine WC.block ?_
                          refine WC.pick [24, 0, 4, 11, 17, 20, 22] (by repeat (first | exact Pick.nil | apply Pick.cons rfl)) ?_
                          refine WC.loop1o 1 (fun (k : Nat) => [(24, .int .i64 (k : Int))]) (fun (k : Nat) => k ≤ out.length) (fun (k : Nat) => out.length - k) (0) (by repeat (first | exact Split.zero | apply Split.succ)) ?hinv6 (by repeat (first | exact Sub.nil | refine Sub.cons rfl (by first | rfl | (congr 1; omega) | assumption) ?_)) (fun _ h => h) ?_
                          case hinv6 =>
                            exact Nat.zero_le _
                          intro k
                          rintro k1
                          refine WC.seq ?_
                          refine WC.seq ?_
                          refine WC.region ?_
                          refine WL.rd rfl rfl rfl (Rd.move rfl rfl) ?_
                          refine WL.rd rfl rfl rfl (Rd.move rfl rfl) ?_
                          refine WL.rd rfl rfl rfl ((by first | exact Rd.lenE rfl rfl Tryd.underlying24 (by repeat (first | assumption | exact List.mem_cons_self | refine List.mem_cons_of_mem _ ?_)) | exact Rd.lenA rfl rfl Tryd.underlying24 (by repeat (first | assumption | exact List.mem_cons_self | refine List.mem_cons_of_mem _ ?_)) | exact Rd.len rfl rfl Tryd.underlying24)) ?_
                          refine WL.rd rfl rfl rfl (Rd.lss rfl rfl rfl) ?_
                          refine WL.nil ?_
                          refine thenQ.normal ?_
                          first | refine WC.ite rfl (fun hc11 => ?_) (fun hc11 => ?_) | refine WC.cond rfl (fun hc11 => ?_) (fun hc11 => ?_)
                          · skip
                            refine WC.skip ?_
                            refine thenQ.normal ?_
                            refine WC.seq ?_
                            refine WC.block ?_
                            refine WC.seq ?_
                            refine WC.still mixed (by kernel_rfl) ?_
                            refine WA.rd rfl rfl rfl (Rd.move rfl rfl) ?_
                            refine WA.rd rfl rfl rfl (Rd.move rfl rfl) ?_
                            refine WA.rd rfl rfl rfl ((by first | exact Rd.idx1 rfl S24 rfl rfl rfl (by repeat (first | assumption | exact List.mem_cons_self | refine List.mem_cons_of_mem _ ?_)) (by first | omega | (simp only [List.length_cons, List.length_nil, List.length_append, List.length_map]; omega)) | exact Rd.idxA1 rfl S24 rfl rfl rfl (by repeat (first | assumption | exact List.mem_cons_self | refine List.mem_cons_of_mem _ ?_)) (by first | omega | (simp only [List.length_cons, List.length_nil, List.length_append, List.length_map]; omega)) | exact Rd.idxR1 rfl S24 rfl rfl rfl (by omega))) ?_
                            refine WA.rd rfl rfl rfl (Rd.get (k := k) (g := vs) (a := out[k]!) (xs := out) rfl C9 rfl (by repeat (first | assumption | exact List.mem_cons_self | refine List.mem_cons_of_mem _ ?_)) (get!_of_lt (by omega))) ?_
                            refine WA.rd rfl rfl rfl (Rd.move rfl rfl) ?_
                            refine WA.rd rfl rfl rfl (Rd.move rfl rfl) ?_
                            refine WA.rd rfl rfl rfl ((by first | exact Rd.idx1 rfl S22 rfl rfl rfl (by repeat (first | assumption | exact List.mem_cons_self | refine List.mem_cons_of_mem _ ?_)) (by first | omega | (simp only [List.length_cons, List.length_nil, List.length_append, List.length_map]; omega)) | exact Rd.idxA1 rfl S22 rfl rfl rfl (by repeat (first | assumption | exact List.mem_cons_self | refine List.mem_cons_of_mem _ ?_)) (by first | omega | (simp only [List.length_cons, List.length_nil, List.length_append, List.length_map]; omega)) | exact Rd.idxR1 rfl S22 rfl rfl rfl (by omega))) ?_
                            refine WA.rd rfl rfl rfl (Rd.get (k := q) (g := fun x : VT => x.1) (a := L[q]!) (xs := L) rfl C24 rfl (by repeat (first | assumption | exact List.mem_cons_self | refine List.mem_cons_of_mem _ ?_)) (get!_of_lt (by omega))) ?_
                            refine WA.rd rfl rfl rfl (Rd.move rfl rfl) ?_
                            refine WA.rd rfl rfl rfl ((by first | exact Rd.idx1 rfl S24 rfl rfl rfl (by repeat (first | assumption | exact List.mem_cons_self | refine List.mem_cons_of_mem _ ?_)) (by first | omega | (simp only [List.length_cons, List.length_nil, List.length_append, List.length_map]; omega)) | exact Rd.idxA1 rfl S24 rfl rfl rfl (by repeat (first | assumption | exact List.mem_cons_self | refine List.mem_cons_of_mem _ ?_)) (by first | omega | (simp only [List.length_cons, List.length_nil, List.length_append, List.length_map]; omega)) | exact Rd.idxR1 rfl S24 rfl rfl rfl (by omega))) ?_
                            refine WA.rd rfl rfl rfl (Rd.get (k := k) (g := vs) (a := out[k]!) (xs := out) rfl C9 rfl (by repeat (first | assumption | exact List.mem_cons_self | refine List.mem_cons_of_mem _ ?_)) (get!_of_lt (by omega))) ?_
                            refine WA.rd rfl rfl rfl (Rd.sneq rfl rfl rfl) ?_
                            refine WA.nil ?_
                            refine thenQ.normal ?_
                            first | refine WC.ite rfl (fun hc12 => ?_) (fun hc12 => ?_) | refine WC.cond rfl (fun hc12 => ?_) (fun hc12 => ?_)
                            · skip
                              exact absurd rfl hc12
                            · skip
                              refine WC.skip ?_
                              refine blockQ.normal ?_
                              refine thenQ.normal ?_
                              refine WC.region ?_
                              refine WL.rd rfl rfl rfl (Rd.move rfl rfl) ?_
                              refine WL.rd rfl rfl rfl (Rd.add rfl rfl rfl (by omega)) ?_
                              refine WL.rd rfl rfl rfl (Rd.assign rfl rfl) ?_
                              refine WL.nil ?_
                              -- next6_1
                              exact loopQ1.mk (k + 1) (by omega) (by omega) (by repeat (first | exact Sub.nil | refine Sub.cons rfl (by first | rfl | (congr 1; omega) | assumption) ?_)) (fun w h => OwnL.sat (by repeat (first | exact OwnL.refl | apply OwnL.take (by repeat (first | exact Take.head _ | apply Take.tail)) | apply OwnL.drop)) w (h.thin (SubL.mem (by repeat (first | exact SubL.refl | refine SubL.cons (by repeat (first | assumption | exact List.mem_cons_self | refine List.mem_cons_of_mem _ ?_)) ?_ | refine SubL.skip ?_)))))
                          · skip
                            refine WC.exit ?_
                            refine thenQ.exit ?_
                            refine loopQ1.exit ?_
                            refine blockQ.exit ?_
                            refine thenQ.normal ?_
                            refine WC.region ?_
                            refine WL.rd rfl rfl rfl (Rd.move rfl rfl) ?_
                            refine WL.rd rfl rfl rfl (Rd.move rfl rfl) ?_
                            refine WL.rd rfl rfl rfl (Rd.scut_l (lo := (frm (bodies L) q).length) rfl Tryd.underlying9 rfl rfl rfl (by rw [List.length_append]; omega)) ?_
                            refine WL.say 201 (u := vs (from_ (bodies L) n (q + 1))) rfl (by rw [List.drop_left]) ?_
                            refine WL.rd rfl rfl rfl (Rd.assign rfl rfl) ?_
                            refine WL.nil ?_
                            refine blockQ.normal ?_
                            refine thenQ.normal ?_
                            refine WC.region ?_
                            refine WL.rd rfl rfl rfl (Rd.move rfl rfl) ?_
                            refine WL.rd rfl rfl rfl (Rd.add rfl rfl rfl (by omega)) ?_
                            refine WL.rd rfl rfl rfl (Rd.assign rfl rfl) ?_
                            refine WL.nil ?_
                            -- next5_1
                            exact loopQ1.mk (q + 1) (by omega) (by omega) (by repeat (first | exact Sub.nil | refine Sub.cons rfl (by first | rfl | (congr 1; omega) | assumption) ?_)) (fun w h => OwnL.sat (by repeat (first | exact OwnL.refl | apply OwnL.take (by repeat (first | exact Take.head _ | apply Take.tail)) | apply OwnL.drop)) w (h.thin (SubL.mem (by repeat (first | exact SubL.refl | refine SubL.cons (by repeat (first | assumption | exact List.mem_cons_self | refine List.mem_cons_of_mem _ ?_)) ?_ | refine SubL.skip ?_)))))
                · skip
                  refine WC.exit ?_
                  refine thenQ.exit ?_
                  refine loopQ1.exit ?_
                  refine blockQ.exit ?_
                  refine thenQ.normal ?_
                  refine WC.seq ?_
                  refine WC.region ?_
                  refine WL.rd rfl rfl rfl (Rd.assign rfl rfl) ?_
                  refine WL.nil ?_
                  refine thenQ.normal ?_
                  -- ret_3
                  refine WC.heap (R' := R) (O' := O) (fun w h => OwnL.sat (by repeat (first | exact OwnL.refl | apply OwnL.take (by repeat (first | exact Take.head _ | apply Take.tail)) | apply OwnL.drop)) w (h.thin (SubL.mem (by repeat (first | exact SubL.refl | refine SubL.cons (by repeat (first | assumption | exact List.mem_cons_self | refine List.mem_cons_of_mem _ ?_)) ?_ | refine SubL.skip ?_))))) ?_
                  refine WC.ret (Ret.one Tryd.results3 rfl ?_)
                  exact hk
end
end Go.Proofs.YtodedkoebcdejaaDoor
