/-
  Layer 4: a disk in memory; New, Size, has, Off, On, Counts, Read, fail.
-/
import Derived.Test.YtaalegffcjbglaaDoorSe2
import Derived.Test.YtaalegffcjbglaaDoorAto
namespace Go.Proofs.YtaalegffcjbglaaDoor
open Go Go.SL

def encW (x : Nat × List UInt8) : List Value := [.int .i64 (x.1 : Int), vs x.2]
theorem encW_one (x : Nat × List UInt8) : ((encW x).all Value.oneCell') = true := rfl
/-- The values that a disk's cells hold. -/
structure DV where
  lv : Value
  sv : Value
  kv : Value
  cb : Option Nat
def cutC (cb : Option Nat) (left : Nat) (kv : Value) : Own := match cb with
  | none => { blks := [], pred := fun _ => True }
  | some b => rowC b 101 [.int .i64 (left : Int), kv]
abbrev pvOf (cb : Option Nat) : Value := .pointer (cb.map fun b => ⟨b, 0, none⟩)
abbrev dRow (d : Nat) (V : DV) (s : DSt) : Own := rowC d 81 [V.lv, V.sv, pvOf V.cb, .bool s.off, .int .i64 (s.done : Int)]
abbrev dO (d : Nat) (V : DV) (s : DSt) (O : List Own) : List Own := dRow d V s :: accC 9 1 (one vs) V.lv s.lasts :: accC 105 2 encW V.sv s.since :: cutC V.cb s.left V.kv :: O
structure VOk (V : DV) (s : DSt) : Prop where
  cb : V.cb = none ↔ s.left = 0
  lv : OneV V.lv
  sv : OneV V.sv
  kv : OneV V.kv
abbrev dp (d : Nat) : Value := .pointer (some ⟨d, 0, none⟩)
set_option maxHeartbeats 1000000 in
set_option maxRecDepth 20000 in
theorem new_spec {R : List RO} {O : List Own} {POST : Value → List RO → List Own → Prop} {nv : Int} (hk1 : nv < 1 ∨ 4096 < nv → POST (.tuple #[.pointer none, .int .i64 1]) R O)
    (hk2 : ∀ n : Nat, nv = n → 1 ≤ n → n ≤ 4096 → ∀ d V, VOk V (newS n) → POST (.tuple #[dp d, .int .i64 0]) (SlE (one vi) V.kv [] :: R) (dO d V (newS n) O)) : Fun Tryd.prog 7 #[.int .i64 nv] R O POST := by
  refine Fun.enter (l := [_]) Tryd.func7 rfl Tryd.ntmps7 rfl (L0 := [(0, _)]) rfl ?_
  refine WC.seq ?_
  refine WC.region ?_
  refine WL.rd rfl rfl rfl (Rd.assign rfl rfl) ?_
  refine WL.rd rfl rfl rfl (Rd.assign rfl rfl) ?_
  refine WL.nil ?_
  refine thenQ.normal ?_
  refine WC.seq ?_
  refine WC.pick [0] (by repeat (first | exact Pick.nil | apply Pick.cons rfl)) ?_
  refine WC.val 9 (.bool (decide (nv < 1 ∨ 4096 < nv))) ?_ ?_
  · skip
    refine WC.region ?_
    refine WL.rd rfl rfl rfl (Rd.move rfl rfl) ?_
    refine WL.rd rfl rfl rfl (Rd.lss rfl rfl rfl) ?_
    refine WL.rd rfl rfl rfl (Rd.move rfl rfl) ?_
    refine WL.case 6 rfl (fun hg6 => ?_) (fun hg6 => ?_)
    · skip
      refine WL.no rfl rfl rfl rfl rfl rfl ?_
      refine WL.no rfl rfl rfl rfl rfl rfl ?_
      refine WL.rd rfl rfl rfl (Rd.pick_t rfl rfl rfl) ?_
      refine WL.nil ?_
      exact ⟨by repeat (first | exact Sub.nil | refine Sub.cons rfl (by first | rfl | (first | rfl | exact vb (by omega) | exact vb_t (by omega) | exact vb_f (by omega) | (simp [*]; done) | (simp_all; done))) ?_), by first | exact (fun _ h => h.thin (SubL.mem (by repeat (first | exact SubL.refl | refine SubL.cons (by repeat (first | assumption | exact List.mem_cons_self | refine List.mem_cons_of_mem _ ?_)) ?_ | refine SubL.skip ?_)))) | exact (fun w h => OwnL.sat (by repeat (first | exact OwnL.refl | apply OwnL.take (by repeat (first | exact Take.head _ | apply Take.tail)) | apply OwnL.drop)) w (h.thin (SubL.mem (by repeat (first | exact SubL.refl | refine SubL.cons (by repeat (first | assumption | exact List.mem_cons_self | refine List.mem_cons_of_mem _ ?_)) ?_ | refine SubL.skip ?_)))))⟩
    · skip
      refine WL.rd_yes rfl rfl rfl rfl rfl rfl (Rd.move rfl rfl) ?_
      refine WL.rd_yes rfl rfl rfl rfl rfl rfl (Rd.gtr rfl rfl rfl) ?_
      refine WL.rd rfl rfl rfl (Rd.pick_f rfl rfl rfl) ?_
      refine WL.nil ?_
      exact ⟨by repeat (first | exact Sub.nil | refine Sub.cons rfl (by first | rfl | (first | rfl | exact vb (by omega) | exact vb_t (by omega) | exact vb_f (by omega) | (simp [*]; done) | (simp_all; done))) ?_), by first | exact (fun _ h => h.thin (SubL.mem (by repeat (first | exact SubL.refl | refine SubL.cons (by repeat (first | assumption | exact List.mem_cons_self | refine List.mem_cons_of_mem _ ?_)) ?_ | refine SubL.skip ?_)))) | exact (fun w h => OwnL.sat (by repeat (first | exact OwnL.refl | apply OwnL.take (by repeat (first | exact Take.head _ | apply Take.tail)) | apply OwnL.drop)) w (h.thin (SubL.mem (by repeat (first | exact SubL.refl | refine SubL.cons (by repeat (first | assumption | exact List.mem_cons_self | refine List.mem_cons_of_mem _ ?_)) ?_ | refine SubL.skip ?_)))))⟩
  · skip
    first | refine WC.ite rfl (fun hc1 => ?_) (fun hc1 => ?_) | refine WC.cond rfl (fun hc1 => ?_) (fun hc1 => ?_)
    · skip
      refine WC.seq ?_
      refine WC.region ?_
      refine WL.rd rfl rfl rfl (Rd.assign rfl rfl) ?_
      refine WL.rd rfl rfl rfl (Rd.assign rfl rfl) ?_
      refine WL.nil ?_
      refine thenQ.normal ?_
      -- ret_1
      refine WC.ret (Ret.two Tryd.results7 rfl rfl ?_)
      exact hk1 hc1
    · skip
      obtain ⟨n, rfl⟩ : ∃ n : Nat, nv = n := ⟨nv.toNat, by omega⟩
      refine WC.skip ?_
      refine thenQ.normal ?_
      refine WC.seq ?_
      refine WC.region ?_
      refine WL.op rfl ?_
      refine OpW.call rfl rfl (by repeat (first | exact Evs.nil | apply Evs.cons rfl)) (by kernel_rfl) rfl rfl rfl ?_
      refine blank_spec ?_
      refine WL.op rfl ?_
      refine OpW.buildSl (ps := [(0, _)]) rfl S48 (by repeat (first | exact Evs.nil | apply Evs.cons rfl)) rfl rfl (by repeat (first | exact CellsOf.nil | apply CellsOf.cons rfl)) (by kernel_rfl) rfl rfl rfl ?_; intro b11
      refine WL.rd rfl rfl rfl (Rd.move rfl rfl) ?_
      refine WL.op rfl ?_
      refine OpW.call rfl rfl (by repeat (first | exact Evs.nil | apply Evs.cons rfl)) (by kernel_rfl) rfl rfl rfl ?_
      refine repeat_spec (v := zs512) (n := n) (by omega) (by omega) List.mem_cons_self ?_; intro b13
      refine WL.rd rfl rfl rfl (Rd.buildN (ps := [(0, _)]) rfl Bs81 I81 rfl (by repeat (first | exact Evs.nil | apply Evs.cons rfl)) (by repeat (first | exact CellsOf.nil | apply CellsOf.cons rfl)) (by apply NFo.mk; repeat (first | exact NF.nil | apply NF.cons))) ?_
      refine WL.op rfl ?_
      refine OpW.box rfl rfl (by repeat (first | exact NF.nil | apply NF.cons)) rfl rfl ?_; intro b15
      refine WL.rd rfl rfl rfl (Rd.assign rfl rfl) ?_
      refine WL.rd rfl rfl rfl (Rd.assign rfl rfl) ?_
      refine WL.nil ?_
      refine thenQ.normal ?_
      -- ret_2
      refine WC.heap (R' := SlE (one vi) (.slice none 0 0) [] :: R) (O' := dO b15 ⟨.slice (some ⟨b13, 0, none⟩) n n, .slice none 0 0, .slice none 0 0, none⟩ (newS n) O) (fun w h => by
        have g1 := Sat.accRow (b := b13) (e := 9) (size := 1) (enc := one vs) (xs := List.replicate n zs512) (m := n) (cells := List.replicate n (vs zs512)) (by repeat (first | assumption | exact Take.head _ | apply Take.tail)) (by rw [flat_one, List.map_replicate]) List.length_replicate (fun _ => rfl) (by omega) h
        have g2 := g1.accNil (α := Nat × List UInt8) (e := 105) (size := 2) (enc := encW)
        have g3 := g2.emp (cutC none 0 (.slice none 0 0)) rfl (fun _ => trivial)
        have g4 := g3.nilE (α := Int) (enc := one vi)
        exact (fun w h => OwnL.sat (by repeat (first | exact OwnL.refl | apply OwnL.take (by repeat (first | exact Take.head _ | apply Take.tail)) | apply OwnL.drop)) w (h.thin (SubL.mem (by repeat (first | exact SubL.refl | refine SubL.cons (by repeat (first | assumption | exact List.mem_cons_self | refine List.mem_cons_of_mem _ ?_)) ?_ | refine SubL.skip ?_))))) w g4) ?_
      refine WC.ret (Ret.two Tryd.results7 rfl rfl ?_)
      exact hk2 n rfl (by omega) (by omega) b15 ⟨.slice (some ⟨b13, 0, none⟩) n n, .slice none 0 0, .slice none 0 0, none⟩ ⟨⟨fun _ => rfl, fun _ => rfl⟩, OneV.sl, OneV.sl, OneV.sl⟩
section
variable {R : List RO} {O : List Own} {POST : Value → List RO → List Own → Prop} {d : Nat} {V : DV} {s : DSt}
set_option maxRecDepth 20000 in
theorem size_spec (hk : POST (.int .i64 (s.lasts.length : Nat)) R (dO d V s O)) : Fun Tryd.prog 28 #[dp d] R (dO d V s O) POST := by
  refine Fun.enter (l := [_]) Tryd.func28 rfl Tryd.ntmps28 rfl (L0 := [(0, _)]) rfl ?_
  refine WC.seq ?_
  refine WC.region ?_
  refine WL.rd rfl rfl rfl (Rd.assign rfl rfl) ?_
  refine WL.nil ?_
  refine thenQ.normal ?_
  refine WC.seq ?_
  refine WC.seq ?_
  refine WC.region ?_
  refine WL.rd rfl rfl rfl (Rd.move rfl rfl) ?_
  refine WL.rd rfl rfl rfl (Rd.peqN rfl Tryd.underlying25 rfl rfl) ?_
  refine WL.nil ?_
  refine thenQ.normal ?_
  first | refine WC.ite rfl (fun hc1 => ?_) (fun hc1 => ?_) | refine WC.cond rfl (fun hc1 => ?_) (fun hc1 => ?_)
  · skip
    simp at hc1
  · skip
    refine WC.skip ?_
    refine thenQ.normal ?_
    refine WC.seq ?_
    refine WC.region ?_
    refine WL.rd rfl rfl rfl (Rd.move rfl rfl) ?_
    refine WL.rd rfl rfl rfl (Rd.nilc rfl rfl) ?_
    refine WL.rd rfl rfl rfl ((by first | exact Rd.field rfl F81_0 rfl rfl | exact Rd.fieldE rfl F81_0 rfl (by repeat (first | assumption | exact List.mem_cons_self | refine List.mem_cons_of_mem _ ?_)) (by omega) | exact Rd.fieldA rfl F81_0 rfl (by repeat (first | assumption | exact List.mem_cons_self | refine List.mem_cons_of_mem _ ?_)) (by omega))) ?_
    refine WL.rd rfl rfl rfl (Rd.row1 (off := 0) rfl C48 rfl List.mem_cons_self rfl) ?_
    refine WL.rd rfl rfl rfl ((by first | exact Rd.lenE rfl rfl Tryd.underlying48 (by repeat (first | assumption | exact List.mem_cons_self | refine List.mem_cons_of_mem _ ?_)) | exact Rd.lenA rfl rfl Tryd.underlying48 (by repeat (first | assumption | exact List.mem_cons_self | refine List.mem_cons_of_mem _ ?_)) | exact Rd.len rfl rfl Tryd.underlying48)) ?_
    refine WL.rd rfl rfl rfl (Rd.assign rfl rfl) ?_
    refine WL.nil ?_
    refine thenQ.normal ?_
    -- ret_1
    refine WC.ret (Ret.one Tryd.results28 rfl ?_)
    exact hk
set_option maxRecDepth 20000 in
theorem size_nil (hk : POST (.int .i64 0) R O) : Fun Tryd.prog 28 #[.pointer none] R O POST := by
  refine Fun.enter (l := [_]) Tryd.func28 rfl Tryd.ntmps28 rfl (L0 := [(0, _)]) rfl ?_
  refine WC.seq ?_
  refine WC.region ?_
  refine WL.rd rfl rfl rfl (Rd.assign rfl rfl) ?_
  refine WL.nil ?_
  refine thenQ.normal ?_
  refine WC.seq ?_
  refine WC.seq ?_
  refine WC.region ?_
  refine WL.rd rfl rfl rfl (Rd.move rfl rfl) ?_
  refine WL.rd rfl rfl rfl (Rd.peqN rfl Tryd.underlying25 rfl rfl) ?_
  refine WL.nil ?_
  refine thenQ.normal ?_
  first | refine WC.ite rfl (fun hc1 => ?_) (fun hc1 => ?_) | refine WC.cond rfl (fun hc1 => ?_) (fun hc1 => ?_)
  · skip
    refine WC.seq ?_
    refine WC.region ?_
    refine WL.rd rfl rfl rfl (Rd.assign rfl rfl) ?_
    refine WL.nil ?_
    refine thenQ.normal ?_
    -- ret_1
    refine WC.ret (Ret.one Tryd.results28 rfl ?_)
    exact hk
  · skip
    simp at hc1
set_option maxRecDepth 20000 in
theorem has_spec {i : Int} (hk : POST (.bool (hasB s i)) R (dO d V s O)) : Fun Tryd.prog 40 #[dp d, .int .i64 i] R (dO d V s O) POST := by
  refine Fun.enter (l := [_, _]) Tryd.func40 rfl Tryd.ntmps40 rfl (L0 := [(0, _), (1, _)]) rfl ?_
  refine WC.seq ?_
  refine WC.region ?_
  refine WL.rd rfl rfl rfl (Rd.assign rfl rfl) ?_
  refine WL.nil ?_
  refine thenQ.normal ?_
  refine WC.seq ?_
  refine WC.region ?_
  refine WL.rd rfl rfl rfl (Rd.move rfl rfl) ?_
  refine WL.rd rfl rfl rfl (Rd.geq rfl rfl rfl) ?_
  refine WL.rd rfl rfl rfl (Rd.move rfl rfl) ?_
  refine WL.case 7 rfl (fun hg7 => ?_) (fun hg7 => ?_)
  · skip
    refine WL.rd_yes rfl rfl rfl rfl rfl rfl (Rd.move rfl rfl) ?_
    refine WL.rd_yes rfl rfl rfl rfl rfl rfl (Rd.move rfl rfl) ?_
    refine WL.op_yes rfl rfl rfl rfl ?_
    refine OpW.call rfl rfl (by repeat (first | exact Evs.nil | apply Evs.cons rfl)) (by kernel_rfl) rfl rfl rfl ?_
    refine size_spec ?_
    refine WL.rd_yes rfl rfl rfl rfl rfl rfl (Rd.lss rfl rfl rfl) ?_
    refine WL.rd rfl rfl rfl (Rd.pick_t rfl rfl rfl) ?_
    refine WL.rd rfl rfl rfl (Rd.assign rfl rfl) ?_
    refine WL.nil ?_
    refine thenQ.normal ?_
    -- ret_1
    refine WC.ret (Ret.one Tryd.results40 rfl ?_)
    simpa [hasB, *] using hk
  · skip
    refine WL.no rfl rfl rfl rfl rfl rfl ?_
    refine WL.no rfl rfl rfl rfl rfl rfl ?_
    refine WL.no rfl rfl rfl rfl rfl rfl ?_
    refine WL.no rfl rfl rfl rfl rfl rfl ?_
    refine WL.rd rfl rfl rfl (Rd.pick_f rfl rfl rfl) ?_
    refine WL.rd rfl rfl rfl (Rd.assign rfl rfl) ?_
    refine WL.nil ?_
    refine thenQ.normal ?_
    -- ret_2
    refine WC.ret (Ret.one Tryd.results40 rfl ?_)
    simpa [hasB, *] using hk
set_option maxRecDepth 20000 in
theorem has_nil {i : Int} (hk : POST (.bool false) R O) : Fun Tryd.prog 40 #[.pointer none, .int .i64 i] R O POST := by
  refine Fun.enter (l := [_, _]) Tryd.func40 rfl Tryd.ntmps40 rfl (L0 := [(0, _), (1, _)]) rfl ?_
  refine WC.seq ?_
  refine WC.region ?_
  refine WL.rd rfl rfl rfl (Rd.assign rfl rfl) ?_
  refine WL.nil ?_
  refine thenQ.normal ?_
  refine WC.seq ?_
  refine WC.region ?_
  refine WL.rd rfl rfl rfl (Rd.move rfl rfl) ?_
  refine WL.rd rfl rfl rfl (Rd.geq rfl rfl rfl) ?_
  refine WL.rd rfl rfl rfl (Rd.move rfl rfl) ?_
  refine WL.case 7 rfl (fun hg7 => ?_) (fun hg7 => ?_)
  · skip
    refine WL.rd_yes rfl rfl rfl rfl rfl rfl (Rd.move rfl rfl) ?_
    refine WL.rd_yes rfl rfl rfl rfl rfl rfl (Rd.move rfl rfl) ?_
    refine WL.op_yes rfl rfl rfl rfl ?_
    refine OpW.call rfl rfl (by repeat (first | exact Evs.nil | apply Evs.cons rfl)) (by kernel_rfl) rfl rfl rfl ?_
    refine size_nil ?_
    refine WL.rd_yes rfl rfl rfl rfl rfl rfl (Rd.lss rfl rfl rfl) ?_
    refine WL.rd rfl rfl rfl (Rd.pick_t rfl rfl rfl) ?_
    refine WL.rd rfl rfl rfl (Rd.assign rfl rfl) ?_
    refine WL.nil ?_
    refine thenQ.normal ?_
    -- ret_1
    refine WC.ret (Ret.one Tryd.results40 rfl ?_)
    rw [decide_eq_false (by omega)]
    exact hk
  · skip
    refine WL.no rfl rfl rfl rfl rfl rfl ?_
    refine WL.no rfl rfl rfl rfl rfl rfl ?_
    refine WL.no rfl rfl rfl rfl rfl rfl ?_
    refine WL.no rfl rfl rfl rfl rfl rfl ?_
    refine WL.rd rfl rfl rfl (Rd.pick_f rfl rfl rfl) ?_
    refine WL.rd rfl rfl rfl (Rd.assign rfl rfl) ?_
    refine WL.nil ?_
    refine thenQ.normal ?_
    -- ret_2
    refine WC.ret (Ret.one Tryd.results40 rfl ?_)
    exact hk
set_option maxRecDepth 20000 in
theorem off_spec (hk : POST (.bool s.off) R (dO d V s O)) : Fun Tryd.prog 48 #[dp d] R (dO d V s O) POST := by
  refine Fun.enter (l := [_]) Tryd.func48 rfl Tryd.ntmps48 rfl (L0 := [(0, _)]) rfl ?_
  refine WC.seq ?_
  refine WC.region ?_
  refine WL.rd rfl rfl rfl (Rd.assign rfl rfl) ?_
  refine WL.nil ?_
  refine thenQ.normal ?_
  refine WC.seq ?_
  refine WC.region ?_
  refine WL.rd rfl rfl rfl (Rd.move rfl rfl) ?_
  refine WL.rd rfl rfl rfl (Rd.pneqN rfl Tryd.underlying25 rfl rfl) ?_
  refine WL.rd rfl rfl rfl (Rd.move rfl rfl) ?_
  refine WL.say 5 (u := .bool (decide True)) rfl (by simp) ?_
  refine WL.case 5 rfl (fun hg5 => ?_) (fun hg5 => ?_)
  · skip
    refine WL.rd_yes rfl rfl rfl rfl rfl rfl (Rd.move rfl rfl) ?_
    refine WL.rd_yes rfl rfl rfl rfl rfl rfl (Rd.nilc rfl rfl) ?_
    refine WL.rd_yes rfl rfl rfl rfl rfl rfl ((by first | exact Rd.field rfl F81_3 rfl rfl | exact Rd.fieldE rfl F81_3 rfl (by repeat (first | assumption | exact List.mem_cons_self | refine List.mem_cons_of_mem _ ?_)) (by omega) | exact Rd.fieldA rfl F81_3 rfl (by repeat (first | assumption | exact List.mem_cons_self | refine List.mem_cons_of_mem _ ?_)) (by omega))) ?_
    refine WL.rd_yes rfl rfl rfl rfl rfl rfl (Rd.row1 (off := 3) rfl C4 rfl List.mem_cons_self rfl) ?_
    refine WL.rd rfl rfl rfl (Rd.pick_t rfl rfl rfl) ?_
    refine WL.rd rfl rfl rfl (Rd.assign rfl rfl) ?_
    refine WL.nil ?_
    refine thenQ.normal ?_
    -- ret_1
    refine WC.ret (Ret.one Tryd.results48 rfl ?_)
    exact hk
  · skip
    exact absurd trivial hg5
set_option maxRecDepth 20000 in
theorem off_nil (hk : POST (.bool false) R O) : Fun Tryd.prog 48 #[.pointer none] R O POST := by
  refine Fun.enter (l := [_]) Tryd.func48 rfl Tryd.ntmps48 rfl (L0 := [(0, _)]) rfl ?_
  refine WC.seq ?_
  refine WC.region ?_
  refine WL.rd rfl rfl rfl (Rd.assign rfl rfl) ?_
  refine WL.nil ?_
  refine thenQ.normal ?_
  refine WC.seq ?_
  refine WC.region ?_
  refine WL.rd rfl rfl rfl (Rd.move rfl rfl) ?_
  refine WL.rd rfl rfl rfl (Rd.pneqN rfl Tryd.underlying25 rfl rfl) ?_
  refine WL.rd rfl rfl rfl (Rd.move rfl rfl) ?_
  refine WL.say 5 (u := .bool (decide False)) rfl (by simp) ?_
  refine WL.case 5 rfl (fun hg5 => ?_) (fun hg5 => ?_)
  · skip
    exact hg5.elim
  · skip
    refine WL.no rfl rfl rfl rfl rfl rfl ?_
    refine WL.no rfl rfl rfl rfl rfl rfl ?_
    refine WL.no rfl rfl rfl rfl rfl rfl ?_
    refine WL.no rfl rfl rfl rfl rfl rfl ?_
    refine WL.rd rfl rfl rfl (Rd.pick_f rfl rfl rfl) ?_
    refine WL.rd rfl rfl rfl (Rd.assign rfl rfl) ?_
    refine WL.nil ?_
    refine thenQ.normal ?_
    -- ret_1
    refine WC.ret (Ret.one Tryd.results48 rfl ?_)
    exact hk
set_option maxRecDepth 20000 in
theorem on_spec (hv : VOk V s) (hk : VOk ⟨V.lv, V.sv, V.kv, none⟩ (onS s) → POST (.tuple #[]) R (dO d ⟨V.lv, V.sv, V.kv, none⟩ (onS s) O)) : Fun Tryd.prog 22 #[dp d] R (dO d V s O) POST := by
  refine Fun.enter (l := [_]) Tryd.func22 rfl Tryd.ntmps22 rfl (L0 := [(0, _)]) rfl ?_
  refine WC.seq ?_
  refine WC.region ?_
  refine WL.rd rfl rfl rfl (Rd.move rfl rfl) ?_
  refine WL.rd rfl rfl rfl (Rd.pneqN rfl Tryd.underlying25 rfl rfl) ?_
  refine WL.nil ?_
  refine thenQ.normal ?_
  first | refine WC.ite rfl (fun hc1 => ?_) (fun hc1 => ?_) | refine WC.cond rfl (fun hc1 => ?_) (fun hc1 => ?_)
  · skip
    refine WC.region ?_
    refine WL.rd rfl rfl rfl (Rd.move rfl rfl) ?_
    refine WL.rd rfl rfl rfl (Rd.move rfl rfl) ?_
    refine WL.rd rfl rfl rfl (Rd.nilc rfl rfl) ?_
    refine WL.rd rfl rfl rfl ((by first | exact Rd.field rfl F81_3 rfl rfl | exact Rd.fieldE rfl F81_3 rfl (by repeat (first | assumption | exact List.mem_cons_self | refine List.mem_cons_of_mem _ ?_)) (by omega) | exact Rd.fieldA rfl F81_3 rfl (by repeat (first | assumption | exact List.mem_cons_self | refine List.mem_cons_of_mem _ ?_)) (by omega))) ?_
    refine WL.op rfl ?_
    refine OpW.store1 rfl Z4 rfl rfl (by first | exact ⟨rfl, rfl⟩ | assumption) (by repeat (first | assumption | exact Take.head _ | apply Take.tail)) (by first | (simp; done) | omega | exact of_decide_eq_true rfl | (simp only [List.length_append, List.length_replicate, List.length_map, List.length_set]; omega)) rfl ?_
    refine WL.rd rfl rfl rfl (Rd.nilc rfl rfl) ?_
    refine WL.rd rfl rfl rfl ((by first | exact Rd.field rfl F81_2 rfl rfl | exact Rd.fieldE rfl F81_2 rfl (by repeat (first | assumption | exact List.mem_cons_self | refine List.mem_cons_of_mem _ ?_)) (by omega) | exact Rd.fieldA rfl F81_2 rfl (by repeat (first | assumption | exact List.mem_cons_self | refine List.mem_cons_of_mem _ ?_)) (by omega))) ?_
    refine WL.op rfl ?_
    refine OpW.store1 rfl Z74 rfl rfl (by first | exact ⟨rfl, rfl⟩ | assumption) (by repeat (first | assumption | exact Take.head _ | apply Take.tail)) (by first | (simp; done) | omega | exact of_decide_eq_true rfl | (simp only [List.length_append, List.length_replicate, List.length_map, List.length_set]; omega)) rfl ?_
    refine WL.heap (R' := R) (O' := dO d ⟨V.lv, V.sv, V.kv, none⟩ (onS s) O) (fun w h => by
    have g1 := h.emp (cutC none 0 V.kv) rfl (fun _ => trivial)
    exact (fun w h => OwnL.sat (by repeat (first | exact OwnL.refl | apply OwnL.take (by repeat (first | exact Take.head _ | apply Take.tail)) | apply OwnL.drop)) w (h.thin (SubL.mem (by repeat (first | exact SubL.refl | refine SubL.cons (by repeat (first | assumption | exact List.mem_cons_self | refine List.mem_cons_of_mem _ ?_)) ?_ | refine SubL.skip ?_))))) w g1) ?_
    refine WL.nil ?_
    -- ret_1
    refine Ret.normal (Ret.zero Tryd.results22 ?_)
    exact hk ⟨by simp [onS], hv.lv, hv.sv, hv.kv⟩
  · skip
    simp at hc1
set_option maxRecDepth 20000 in
theorem on_nil (hk : POST (.tuple #[]) R O) : Fun Tryd.prog 22 #[.pointer none] R O POST := by
  refine Fun.enter (l := [_]) Tryd.func22 rfl Tryd.ntmps22 rfl (L0 := [(0, _)]) rfl ?_
  refine WC.seq ?_
  refine WC.region ?_
  refine WL.rd rfl rfl rfl (Rd.move rfl rfl) ?_
  refine WL.rd rfl rfl rfl (Rd.pneqN rfl Tryd.underlying25 rfl rfl) ?_
  refine WL.nil ?_
  refine thenQ.normal ?_
  first | refine WC.ite rfl (fun hc1 => ?_) (fun hc1 => ?_) | refine WC.cond rfl (fun hc1 => ?_) (fun hc1 => ?_)
  · skip
    simp at hc1
  · skip
    refine WC.skip ?_
    -- ret_1
    refine Ret.normal (Ret.zero Tryd.results22 ?_)
    exact hk
end
end Go.Proofs.YtaalegffcjbglaaDoor
