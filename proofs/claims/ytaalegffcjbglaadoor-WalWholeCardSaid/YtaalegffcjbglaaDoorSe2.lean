/-
  Layer 4: a disk in memory; blank, full, New.
-/
import Derived.Test.YtaalegffcjbglaaDoorSe1
namespace Go.Proofs.YtaalegffcjbglaaDoor
open Go Go.SL

theorem se_repeat_zero (n : Nat) : Lib.repeatL [0] n = List.replicate n 0 := by
  have := Lib.repeatL_replicate 0 1 n
  rwa [Nat.mul_one] at this
set_option maxRecDepth 20000 in
theorem blank_spec {R : List RO} {O : List Own} {POST : Value → List RO → List Own → Prop} (hk : POST (vs zs512) R O) : Fun Tryd.prog 26 #[] R O POST := by
  refine Fun.enter (l := []) Tryd.func26 rfl Tryd.ntmps26 rfl (L0 := []) rfl ?_
  refine WC.seq ?_
  refine WC.region ?_
  refine WL.rd rfl rfl rfl (Rd.assign rfl rfl) ?_
  refine WL.nil ?_
  refine thenQ.normal ?_
  refine WC.seq ?_
  refine WC.region ?_
  refine WL.op rfl ?_
  refine OpW.call rfl rfl (by repeat (first | exact Evs.nil | apply Evs.cons rfl)) (by kernel_rfl) rfl rfl rfl ?_
  refine Fun.below (v := vs (Lib.repeatL [0] 512)) (fun w => Tryd.strings_Repeat ⟨#[0]⟩ 512 w (by omega) (by show 1 * _ ≤ _; omega)) ?_
  rw [se_repeat_zero, show List.replicate 512 (0 : UInt8) = zs512 from rfl]
  refine WL.rd rfl rfl rfl (Rd.assign rfl rfl) ?_
  refine WL.nil ?_
  refine thenQ.normal ?_
  -- ret_1
  refine WC.ret (Ret.one Tryd.results26 rfl ?_)
  exact hk
set_option maxRecDepth 20000 in
theorem full_spec {R : List RO} {O : List Own} {POST : Value → List RO → List Own → Prop} {s : List UInt8} (hs : s.length ≤ 512) (hk : POST (vs (fullE s)) R O) : Fun Tryd.prog 42 #[vs s] R O POST := by
  have hz : zs512.length = 512 := List.length_replicate
  refine Fun.enter (l := [_]) Tryd.func42 rfl Tryd.ntmps42 rfl (L0 := [(0, _)]) rfl ?_
  refine WC.seq ?_
  refine WC.region ?_
  refine WL.rd rfl rfl rfl (Rd.assign rfl rfl) ?_
  refine WL.nil ?_
  refine thenQ.normal ?_
  refine WC.seq ?_
  refine WC.region ?_
  refine WL.rd rfl rfl rfl (Rd.move rfl rfl) ?_
  refine WL.op rfl ?_
  refine OpW.call rfl rfl (by repeat (first | exact Evs.nil | apply Evs.cons rfl)) (by kernel_rfl) rfl rfl rfl ?_
  refine blank_spec ?_
  refine WL.rd rfl rfl rfl (Rd.move rfl rfl) ?_
  refine WL.rd rfl rfl rfl (Rd.slen (ts := #[]) (ty := 0) rfl rfl Tryd.underlying9) ?_
  refine WL.rd rfl rfl rfl (Rd.scut_l (lo := s.length) (s := zs512) rfl Tryd.underlying9 rfl rfl rfl (by omega)) ?_
  refine WL.rd rfl rfl rfl (Rd.scat rfl rfl rfl (by rw [List.length_drop]; omega)) ?_
  refine WL.rd rfl rfl rfl (Rd.assign rfl rfl) ?_
  refine WL.nil ?_
  refine thenQ.normal ?_
  -- ret_1
  refine WC.ret (Ret.one Tryd.results42 rfl ?_)
  rw [full_of hs]
  exact hk
set_option maxHeartbeats 1000000 in
set_option maxRecDepth 20000 in
theorem repeat_spec {R : List RO} {O : List Own} {POST : Value → List RO → List Own → Prop} {v : List UInt8} {n bx : Nat} (hn1 : 1 ≤ n) (hn : n ≤ 4096) (hx : rowC bx 9 [vs v] ∈ O)
    (hk : ∀ b, POST (.slice (some ⟨b, 0, none⟩) n n) R (rowC b 9 (List.replicate n (vs v)) :: O)) : Fun Tryd.prog 25 #[.slice (some ⟨bx, 0, none⟩) 1 1, .int .i64 (n : Int)] R O POST := by
  refine Fun.enter (l := [_, _]) Tryd.func25 rfl Tryd.ntmps25 rfl (L0 := [(0, _), (1, _)]) rfl ?_
  refine WC.seq ?_
  refine WC.region ?_
  refine WL.rd rfl rfl rfl (Rd.assign rfl rfl) ?_
  refine WL.nil ?_
  refine thenQ.normal ?_
  refine WC.seq ?_
  refine WC.seq ?_
  refine WC.region ?_
  refine WL.rd rfl rfl rfl (Rd.move rfl rfl) ?_
  refine WL.rd rfl rfl rfl (Rd.lss rfl rfl rfl) ?_
  refine WL.nil ?_
  refine thenQ.normal ?_
  first | refine WC.ite rfl (fun hc1 => ?_) (fun hc1 => ?_) | refine WC.cond rfl (fun hc1 => ?_) (fun hc1 => ?_)
  · skip
    omega
  · skip
    refine WC.skip ?_
    refine thenQ.normal ?_
    refine WC.seq ?_
    refine WC.region ?_
    refine WL.rd rfl rfl rfl (Rd.move rfl rfl) ?_
    refine WL.rd rfl rfl rfl (Rd.len rfl rfl Tryd.underlying48) ?_
    refine WL.rd rfl rfl rfl (Rd.conv (kd' := .u64) (p := ((1 : Nat) : Int)) rfl rfl Tryd.underlying108 (wrap_u64 (by omega)) (hS := Tryd.underlying3)) ?_
    refine WL.rd rfl rfl rfl (Rd.move rfl rfl) ?_
    refine WL.rd rfl rfl rfl (Rd.conv (kd' := .u64) (p := (n : Int)) rfl rfl Tryd.underlying108 (wrap_u64 (by omega)) (hS := Tryd.underlying3)) ?_
    refine WL.op rfl ?_
    refine OpW.call rfl rfl (by repeat (first | exact Evs.nil | apply Evs.cons rfl)) (by kernel_rfl) rfl rfl rfl ?_
    refine Fun.still (fun w => Tryd.bits_Mul 1 n (by omega) (by omega) w) ?_
    refine WL.rd rfl rfl rfl (Rd.move rfl rfl) ?_
    refine WL.rd rfl rfl rfl (Rd.extract rfl rfl rfl) ?_
    refine WL.say 19 (u := .int .u64 0) rfl (by rw [show 1 * n / 18446744073709551616 = 0 from by omega]; rfl) ?_
    refine WL.rd rfl rfl rfl (Rd.extract rfl rfl rfl) ?_
    refine WL.say 20 (u := .int .u64 (n : Int)) rfl (by rw [show 1 * n % 18446744073709551616 = n from by omega]; rfl) ?_
    refine WL.rd rfl rfl rfl (Rd.assign rfl rfl) ?_
    refine WL.rd rfl rfl rfl (Rd.assign rfl rfl) ?_
    refine WL.nil ?_
    refine thenQ.normal ?_
    refine WC.seq ?_
    refine WC.seq ?_
    refine WC.region ?_
    refine WL.rd rfl rfl rfl (Rd.move rfl rfl) ?_
    refine WL.rd rfl rfl rfl (Rd.gtr rfl rfl rfl) ?_
    refine WL.rd rfl rfl rfl (Rd.move rfl rfl) ?_
    refine WL.case 23 rfl (fun hg23 => ?_) (fun hg23 => ?_)
    · skip
      exact absurd hg23 (by decide)
    · skip
      refine WL.rd_yes rfl rfl rfl rfl rfl rfl (Rd.move rfl rfl) ?_
      refine WL.rd_yes rfl rfl rfl rfl rfl rfl (Rd.gtr rfl rfl rfl) ?_
      refine WL.rd rfl rfl rfl (Rd.pick_f rfl rfl rfl) ?_
      refine WL.nil ?_
      refine thenQ.normal ?_
      first | refine WC.ite rfl (fun hc2 => ?_) (fun hc2 => ?_) | refine WC.cond rfl (fun hc2 => ?_) (fun hc2 => ?_)
      · skip
        omega
      · skip
        refine WC.skip ?_
        refine thenQ.normal ?_
        refine WC.seq ?_
        refine WC.region ?_
        refine WL.rd rfl rfl rfl (Rd.move rfl rfl) ?_
        refine WL.rd rfl rfl rfl (Rd.conv (kd' := .i64) (p := (n : Int)) rfl rfl Tryd.underlying3 (wrap_i64 (by omega)) (hS := Tryd.underlying108)) ?_
        refine WL.op rfl ?_
        refine OpW.make1 (m := n) (c := n) rfl S48 rfl rfl rfl rfl rfl (by omega) (by omega) (by omega) rfl rfl ?_; intro b30
        refine WL.rd rfl rfl rfl (Rd.assign rfl rfl) ?_
        refine WL.nil ?_
        refine thenQ.normal ?_
        refine WC.seq ?_
        refine WC.region ?_
        refine WL.rd rfl rfl rfl (Rd.move rfl rfl) ?_
        refine WL.rd rfl rfl rfl (Rd.move rfl rfl) ?_
        refine WL.op rfl ?_
        refine OpW.copyRow (cs := [vs v]) rfl S48 rfl rfl (Take.head _) (by show 1 = min 1 n; omega) (fun w _ hO j u hj => ?_) (by simp; omega) (by intro u hu; rw [List.mem_singleton] at hu; subst hu; rfl) rfl rfl ?_
        · rw [add_spot rfl]
          have := row_cell (hO _ (List.mem_cons_of_mem _ hx)) hj
          simpa using this
        have e0 : (List.replicate n (vs [])).take 0 ++ [vs v] ++ (List.replicate n (vs [])).drop (0 + [vs v].length) = List.replicate 1 (vs v) ++ List.replicate (n - 1) (vs []) := by simp
        refine WL.heap (R' := R) (O' := rowC b30 9 (List.replicate 1 (vs v) ++ List.replicate (n - 1) (vs [])) :: O) (fun w h => by rw [← e0]; exact h) ?_
        refine WL.rd rfl rfl rfl (Rd.assign rfl rfl) ?_
        refine WL.nil ?_
        refine thenQ.normal ?_
        refine WC.seq ?_
        refine WC.block ?_
        refine WC.pick [8, 7] (by repeat (first | exact Pick.nil | apply Pick.cons rfl)) ?_
        refine WC.loop1 1 (fun (m : Nat) => [(8, .int .i64 (m : Int))]) (fun (m : Nat) => rowC b30 9 (List.replicate m (vs v) ++ List.replicate (n - m) (vs [])) :: O) (fun (m : Nat) => 1 ≤ m ∧ m ≤ n) (fun (m : Nat) => n - m) (1) (by repeat (first | exact Split.zero | apply Split.succ)) ?hinv1 (by repeat (first | exact Sub.nil | refine Sub.cons rfl (by first | rfl | (congr 1; omega) | assumption) ?_)) (fun _ h => h) ?_
        case hinv1 =>
          exact ⟨Nat.le_refl _, hn1⟩
        intro m
        rintro ⟨i1, i2⟩
        refine WC.seq ?_
        refine WC.seq ?_
        refine WC.region ?_
        refine WL.rd rfl rfl rfl (Rd.move rfl rfl) ?_
        refine WL.rd rfl rfl rfl (Rd.move rfl rfl) ?_
        refine WL.rd rfl rfl rfl (Rd.len rfl rfl Tryd.underlying48) ?_
        refine WL.rd rfl rfl rfl (Rd.lss rfl rfl rfl) ?_
        refine WL.nil ?_
        refine thenQ.normal ?_
        first | refine WC.ite rfl (fun hc3 => ?_) (fun hc3 => ?_) | refine WC.cond rfl (fun hc3 => ?_) (fun hc3 => ?_)
        · skip
          refine WC.skip ?_
          refine thenQ.normal ?_
          refine WC.block ?_
          refine WC.drawn (O) 10 rfl mixed ?_
          refine WD.take 0 rfl (by kernel_rfl) (Held.mk' (by repeat (first | exact SubL.refl | refine SubL.cons (by repeat (first | assumption | exact List.mem_cons_self | refine List.mem_cons_of_mem _ ?_)) ?_ | refine SubL.skip ?_)) (by repeat (first | exact OwnL.refl | apply OwnL.take (by repeat (first | exact Take.head _ | apply Take.tail)) | apply OwnL.drop))) rfl rfl rfl (Rd.move rfl rfl) ?_
          refine WD.take 1 rfl (by kernel_rfl) (Held.mk' (by repeat (first | exact SubL.refl | refine SubL.cons (by repeat (first | assumption | exact List.mem_cons_self | refine List.mem_cons_of_mem _ ?_)) ?_ | refine SubL.skip ?_)) (by repeat (first | exact OwnL.refl | apply OwnL.take (by repeat (first | exact Take.head _ | apply Take.tail)) | apply OwnL.drop))) rfl rfl rfl (Rd.move rfl rfl) ?_
          refine WD.take 2 rfl (by kernel_rfl) (Held.mk' (by repeat (first | exact SubL.refl | refine SubL.cons (by repeat (first | assumption | exact List.mem_cons_self | refine List.mem_cons_of_mem _ ?_)) ?_ | refine SubL.skip ?_)) (by repeat (first | exact OwnL.refl | apply OwnL.take (by repeat (first | exact Take.head _ | apply Take.tail)) | apply OwnL.drop))) rfl rfl rfl (Rd.move rfl rfl) ?_
          refine WD.take 3 rfl (by kernel_rfl) (Held.mk' (by repeat (first | exact SubL.refl | refine SubL.cons (by repeat (first | assumption | exact List.mem_cons_self | refine List.mem_cons_of_mem _ ?_)) ?_ | refine SubL.skip ?_)) (by repeat (first | exact OwnL.refl | apply OwnL.take (by repeat (first | exact Take.head _ | apply Take.tail)) | apply OwnL.drop))) rfl rfl rfl (Rd.cutR_l (lo := m) rfl S48 rfl rfl rfl (by intro h; cases h) (by omega)) ?_
          refine WD.say 41 (u := .slice (some ⟨b30, m, none⟩) (n - m) (n - m)) rfl (by simp only [subSl]; rw [if_neg (by omega)]; simp [add_spot]) ?_
          refine WD.take 4 rfl (by kernel_rfl) (Held.mk' (by repeat (first | exact SubL.refl | refine SubL.cons (by repeat (first | assumption | exact List.mem_cons_self | refine List.mem_cons_of_mem _ ?_)) ?_ | refine SubL.skip ?_)) (by repeat (first | exact OwnL.refl | apply OwnL.take (by repeat (first | exact Take.head _ | apply Take.tail)) | apply OwnL.drop))) rfl rfl rfl (Rd.move rfl rfl) ?_
          refine WD.take 5 rfl (by kernel_rfl) (Held.mk' (by repeat (first | exact SubL.refl | refine SubL.cons (by repeat (first | assumption | exact List.mem_cons_self | refine List.mem_cons_of_mem _ ?_)) ?_ | refine SubL.skip ?_)) (by repeat (first | exact OwnL.refl | apply OwnL.take (by repeat (first | exact Take.head _ | apply Take.tail)) | apply OwnL.drop))) rfl rfl rfl (Rd.move rfl rfl) ?_
          refine WD.take 6 rfl (by kernel_rfl) (Held.mk' (by repeat (first | exact SubL.refl | refine SubL.cons (by repeat (first | assumption | exact List.mem_cons_self | refine List.mem_cons_of_mem _ ?_)) ?_ | refine SubL.skip ?_)) (by repeat (first | exact OwnL.refl | apply OwnL.take (by repeat (first | exact Take.head _ | apply Take.tail)) | apply OwnL.drop))) rfl rfl rfl (Rd.cutR_h (hi := m) rfl S48 rfl rfl rfl (by intro h; cases h) (by omega)) ?_
          refine WD.say 44 (u := .slice (some ⟨b30, 0, none⟩) m n) rfl (subSl0 _ _ _ _ _) ?_
          refine WD.one 7 rfl (by kernel_rfl) rfl ?_
          refine OpW.copyRow (cs := List.replicate (min m (n - m)) (vs v)) rfl S48 rfl rfl (Take.head _) (by rw [List.length_replicate]) (fun w _ hO j u hj => ?_) (by simp <;> omega) (by intro u hu; rw [List.eq_of_mem_replicate hu]; rfl) rfl rfl ?_
          · rw [add_spot rfl]
            have hlt := (List.getElem?_eq_some_iff.1 hj).1
            rw [List.length_replicate] at hlt
            have hu : u = vs v := by have := (List.getElem?_eq_some_iff.1 hj).2; simpa using this.symm
            subst hu
            have := row_cell (j := j) (u := vs v) (hO _ List.mem_cons_self) (by rw [List.getElem?_append_left (by rw [List.length_replicate]; omega), List.getElem?_replicate, if_pos (by omega)])
            simpa using this
          refine ⟨(Held.mk' (by repeat (first | exact SubL.refl | refine SubL.cons (by repeat (first | assumption | exact List.mem_cons_self | refine List.mem_cons_of_mem _ ?_)) ?_ | refine SubL.skip ?_)) (by repeat (first | exact OwnL.refl | apply OwnL.take (by repeat (first | exact Take.head _ | apply Take.tail)) | apply OwnL.drop))), ?_⟩
          rw [List.length_replicate]
          have e1 : (List.replicate m (vs v) ++ List.replicate (n - m) (vs [])).take m ++ List.replicate (min m (n - m)) (vs v) ++ (List.replicate m (vs v) ++ List.replicate (n - m) (vs [])).drop (m + min m (n - m)) = List.replicate (m + min m (n - m)) (vs v) ++ List.replicate (n - (m + min m (n - m))) (vs []) := by
            rw [List.take_left' List.length_replicate, List.replicate_append_replicate, List.drop_append, List.length_replicate, List.drop_eq_nil_of_le (by rw [List.length_replicate]; omega), List.nil_append, List.drop_replicate]
            congr 2; omega
          rw [e1]
          refine WD.take 8 rfl (by kernel_rfl) (Held.mk' (by repeat (first | exact SubL.refl | refine SubL.cons (by repeat (first | assumption | exact List.mem_cons_self | refine List.mem_cons_of_mem _ ?_)) ?_ | refine SubL.skip ?_)) (by repeat (first | exact OwnL.refl | apply OwnL.take (by repeat (first | exact Take.head _ | apply Take.tail)) | apply OwnL.drop))) rfl rfl rfl (Rd.add rfl rfl rfl (by omega)) ?_
          refine WD.take 9 rfl (by kernel_rfl) (Held.mk' (by repeat (first | exact SubL.refl | refine SubL.cons (by repeat (first | assumption | exact List.mem_cons_self | refine List.mem_cons_of_mem _ ?_)) ?_ | refine SubL.skip ?_)) (by repeat (first | exact OwnL.refl | apply OwnL.take (by repeat (first | exact Take.head _ | apply Take.tail)) | apply OwnL.drop))) rfl rfl rfl (Rd.assign rfl rfl) ?_
          refine WD.done (by kernel_rfl) ?_
          refine blockQ.normal ?_
          -- next1_1
          exact loopQ1.mk (m + min m (n - m)) ⟨by omega, by omega⟩ (by omega) (by repeat (first | exact Sub.nil | refine Sub.cons rfl (by first | rfl | (congr 1; omega) | assumption) ?_)) (fun w h => OwnL.sat (by repeat (first | exact OwnL.refl | apply OwnL.take (by repeat (first | exact Take.head _ | apply Take.tail)) | apply OwnL.drop)) w (h.thin (SubL.mem (by repeat (first | exact SubL.refl | refine SubL.cons (by repeat (first | assumption | exact List.mem_cons_self | refine List.mem_cons_of_mem _ ?_)) ?_ | refine SubL.skip ?_)))))
        · skip
          refine WC.exit ?_
          refine thenQ.exit ?_
          refine loopQ1.exit ?_
          refine blockQ.exit ?_
          refine thenQ.normal ?_
          refine WC.seq ?_
          refine WC.region ?_
          refine WL.rd rfl rfl rfl (Rd.move rfl rfl) ?_
          refine WL.rd rfl rfl rfl (Rd.assign rfl rfl) ?_
          refine WL.nil ?_
          refine thenQ.normal ?_
          -- ret_1
          obtain rfl : m = n := by omega
          refine WC.heap (R' := R) (O' := rowC b30 9 (List.replicate m (vs v)) :: O) (fun w h => by rw [Nat.sub_self, List.replicate_zero, List.append_nil] at h; exact h) ?_
          refine WC.ret (Ret.one Tryd.results25 rfl ?_)
          exact hk b30
end Go.Proofs.YtaalegffcjbglaaDoor
