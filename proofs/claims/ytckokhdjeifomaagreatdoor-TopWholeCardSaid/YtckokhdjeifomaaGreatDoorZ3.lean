/-
  Part 3 of the texts that the law TopWhole is proved with: Se5, Se6, Se7, Se8, Wa1, Wa2, Wa3, Wg, Fi1, Ret, Sp2, Rf. No premise.
-/
import Derived.Test.YtckokhdjeifomaaGreatDoorZ2
import Derived.RangeFuncIn
import Derived.RangeFuncRecord
import Derived.RangeFuncSeq
import Derived.TacticsIn
import Derived.OrdersIn
namespace Go.Proofs.YtckokhdjeifomaaGreatDoor
open Go Go.SL
theorem stepE_off {s : DSt} (h : s.off = true) : stepE s = 7 ∧ stepS s = s := by unfold stepE stepS; rw [if_pos h, if_pos h]; exact ⟨rfl, rfl⟩
theorem stepE_fail {s : DSt} (h : ¬ s.off = true) (h1 : s.left = 1) : stepE s = 7 ∧ stepS s = failS s s.keep := by unfold stepE stepS; rw [if_neg h, if_neg h, if_pos h1, if_pos h1]; exact ⟨rfl, rfl⟩
theorem stepE_on {s : DSt} (h : ¬ s.off = true) (h1 : ¬ s.left = 1) : stepE s = 0 ∧ stepS s = { s with left := s.left - 1, done := s.done + 1 } := by unfold stepE stepS; rw [if_neg h, if_neg h, if_neg h1, if_neg h1]; exact ⟨rfl, rfl⟩
theorem step_keep (s : DSt) : (stepS s).keep = s.keep := by
 unfold stepS
 split
 · rfl
 · split <;> rfl
section
variable {R : List RO} {O : List Own} {POST : Value → List RO → List Own → Prop} {d m : Nat} {V : DV} {s : DSt}
set_option maxRecDepth 20000 in
theorem add_spec {O' : List Own} {b off : Nat} {e : TypeId} {cs : List Value} {p : Int} (hT : Take (rowC b e cs) O O') (hc : cs[off]? = some (.int .i64 p)) (hr : 0 ≤ p ∧ p ≤ 4294967296) (hk : POST (.int .i64 (p + 1)) R (rowC b e (cs.set off (.int .i64 (p + 1))) :: O')) : Fun Tryz.prog 77 #[.pointer (some ⟨b, off, none⟩), .int .i64 1] R O POST := by
 refine Fun.enter (l := [_, _]) Tryz.func77 rfl Tryz.ntmps77 rfl (L0 := [(0, _), (1, _)]) rfl ?_
 refine WC.seq ?_
 refine WC.region ?_
 refine WL.rd rfl rfl rfl (Rd.assign rfl rfl) ?_
 refine WL.nil ?_
 refine thenQ.normal ?_
 refine WC.seq ?_
 refine WC.region ?_
 refine WL.rd rfl rfl rfl (Rd.move rfl rfl) ?_
 refine WL.rd rfl rfl rfl (Rd.nilc rfl rfl) ?_
 refine WL.rd rfl rfl rfl ((by exact Rd.field rfl F49_2 rfl rfl)) ?_
 refine WL.rd rfl rfl rfl (Rd.move rfl rfl) ?_
 refine WL.op rfl ?_
 refine OpW.atomicAdd (off := off) (p := p) (k := 1) rfl rfl rfl rfl Tryz.func104 Z.K Z.K Z.K Z.K hT hc Z.W rfl rfl ?_
 refine WL.rd rfl rfl rfl (Rd.assign rfl rfl) ?_
 refine WL.nil ?_
 refine thenQ.normal ?_
 refine WC.ret (Ret.one Tryz.results77 rfl ?_)
 exact hk
set_option maxHeartbeats 1000000 in
set_option maxRecDepth 20000 in
theorem step_spec (ok : DOk s m) (hm : m ≤ 4294967295) (hv : VOk V s) (hkeep : SlE (SL.one vi) V.kv s.keep ∈ R)
 (hk : ∀ V', VOk V' (stepS s) → V'.kv = V.kv → POST (.int .i64 (stepE s : Nat)) R (dO d V' (stepS s) O)) : Fun Tryz.prog 46 #[dp d] R (dO d V s O) POST := by
 obtain ⟨lv, sv, kv, cb⟩ := V
 have hdone := ok.done
 refine Fun.enter (l := [_]) Tryz.func46 rfl Tryz.ntmps46 rfl (L0 := [(0, _)]) rfl ?_
 refine WC.seq ?_
 refine WC.region ?_
 refine WL.rd rfl rfl rfl (Rd.assign rfl rfl) ?_
 refine WL.nil ?_
 refine thenQ.normal ?_
 refine WC.seq ?_
 refine WC.seq ?_
 refine WC.region ?_
 refine WL.rd rfl rfl rfl (Rd.move rfl rfl) ?_
 refine WL.rd rfl rfl rfl (Rd.nilc rfl rfl) ?_
 refine WL.rd rfl rfl rfl ((by exact Rd.field rfl F51_3 rfl rfl)) ?_
 refine WL.rd rfl rfl rfl (Rd.row1 (off := 3) rfl C4 rfl List.mem_cons_self rfl) ?_
 refine WL.nil ?_
 refine thenQ.normal ?_
 refine WC.cond rfl (fun hc1 => ?_) (fun hc1 => ?_)
 ·
  refine WC.seq ?_
  refine WC.region ?_
  refine WL.rd rfl rfl rfl (Rd.assign rfl rfl) ?_
  refine WL.nil ?_
  refine thenQ.normal ?_
  refine WC.ret (Ret.one Tryz.results46 rfl ?_)
  rw [(stepE_off hc1).1, (stepE_off hc1).2] at hk
  exact hk _ hv rfl
 ·
  replace hc1 : ¬ s.off = true := by rw [hc1]; simp
  refine WC.skip ?_
  refine thenQ.normal ?_
  refine WC.seq ?_
  refine WC.seq ?_
  refine WC.region ?_
  refine WL.rd rfl rfl rfl (Rd.move rfl rfl) ?_
  refine WL.rd rfl rfl rfl (Rd.nilc rfl rfl) ?_
  refine WL.rd rfl rfl rfl ((by exact Rd.field rfl F51_2 rfl rfl)) ?_
  refine WL.rd rfl rfl rfl (Rd.row1 (off := 2) rfl C44 rfl List.mem_cons_self rfl) ?_
  refine WL.rd rfl rfl rfl (Rd.pneqN rfl Tryz.underlying44 rfl rfl) ?_
  refine WL.nil ?_
  refine thenQ.normal ?_
  refine WC.cond rfl (fun hc2 => ?_) (fun hc2 => ?_)
  ·
   obtain ⟨b, rfl⟩ : ∃ b, cb = some b := by
    cases cb with
    | none => simp at hc2
    | some b => exact ⟨b, rfl⟩
   have hl0 : s.left ≠ 0 := fun h => by have := hv.cb.2 h; cases this
   have hll := ok.left
   refine WC.heap (R' := R) (O' := dRow d ⟨lv, sv, kv, some b⟩ s :: accC 9 1 (SL.one vs) lv s.lasts :: accC 96 2 encW sv s.since :: rowC b 74 [.int .i64 (s.left : Int), kv] :: O) (fun w h => h) ?_
   refine WC.seq ?_
   refine WC.region ?_
   refine WL.rd rfl rfl rfl (Rd.move rfl rfl) ?_
   refine WL.rd rfl rfl rfl (Rd.nilc rfl rfl) ?_
   refine WL.rd rfl rfl rfl ((by exact Rd.field rfl F51_2 rfl rfl)) ?_
   refine WL.rd rfl rfl rfl (Rd.row1 (off := 2) (u := dp b) rfl C44 rfl List.mem_cons_self rfl) ?_
   refine WL.rd rfl rfl rfl (Rd.nilc rfl rfl) ?_
   refine WL.rd rfl rfl rfl ((by exact Rd.field rfl F74_0 rfl rfl)) ?_
   refine WL.rd rfl rfl rfl (Rd.row1 (b := b) (off := 0) rfl C3 rfl Z.M rfl) ?_
   refine WL.rd rfl rfl rfl (Rd.sub rfl rfl rfl Z.W) ?_
   refine WL.say 19 (u := .int .i64 ((s.left - 1 : Nat) : Int)) rfl (by congr 1; omega) ?_
   refine WL.rd rfl rfl rfl (Rd.nilc rfl rfl) ?_
   refine WL.rd rfl rfl rfl ((by exact Rd.field rfl F74_0 rfl rfl)) ?_
   refine WL.op rfl ?_
   refine OpW.store1 rfl Z3 rfl rfl (by exact ⟨rfl, rfl⟩) Z.T (by (simp; done)) rfl ?_
   refine WL.nil ?_
   refine thenQ.normal ?_
   refine WC.seq ?_
   refine WC.region ?_
   refine WL.rd rfl rfl rfl (Rd.move rfl rfl) ?_
   refine WL.rd rfl rfl rfl (Rd.nilc rfl rfl) ?_
   refine WL.rd rfl rfl rfl ((by exact Rd.field rfl F51_2 rfl rfl)) ?_
   refine WL.rd rfl rfl rfl (Rd.row1 (off := 2) (u := dp b) rfl C44 rfl Z.M rfl) ?_
   refine WL.rd rfl rfl rfl (Rd.nilc rfl rfl) ?_
   refine WL.rd rfl rfl rfl ((by exact Rd.field rfl F74_0 rfl rfl)) ?_
   refine WL.rd rfl rfl rfl (Rd.row1 (b := b) (off := 0) rfl C3 rfl Z.M rfl) ?_
   refine WL.rd rfl rfl rfl (Rd.eql rfl rfl rfl) ?_
   refine WL.nil ?_
   refine thenQ.normal ?_
   refine WC.ite rfl (fun hc3 => ?_) (fun hc3 => ?_)
   ·
    refine WC.seq ?_
    refine WC.region ?_
    refine WL.rd rfl rfl rfl (Rd.move rfl rfl) ?_
    refine WL.rd rfl rfl rfl (Rd.move rfl rfl) ?_
    refine WL.rd rfl rfl rfl (Rd.nilc rfl rfl) ?_
    refine WL.rd rfl rfl rfl ((by exact Rd.field rfl F51_2 rfl rfl)) ?_
    refine WL.rd rfl rfl rfl (Rd.row1 (off := 2) (u := dp b) rfl C44 rfl Z.M rfl) ?_
    refine WL.rd rfl rfl rfl (Rd.nilc rfl rfl) ?_
    refine WL.rd rfl rfl rfl ((by exact Rd.field rfl F74_1 rfl rfl)) ?_
    refine WL.rd rfl rfl rfl (Rd.row1 (b := b) (off := 1) rfl C23 rfl Z.M rfl) ?_
    refine WL.op rfl ?_
    refine OpW.call rfl rfl Z.E Z.K rfl rfl rfl ?_
    refine Fun.heap (R' := R) (O' := dO d ⟨lv, sv, kv, some b⟩ { s with left := s.left - 1 } O) Z.F ?_
    refine fail_spec (s := { s with left := s.left - 1 }) (m := m) (keep := s.keep) ⟨ok.at_, ok.lasts, by show s.left - 1 ≤ _; omega, ok.since, ok.done⟩ Z.W hv.lv hv.kv hkeep ?_; intro hv2
    refine WL.nil ?_
    refine thenQ.normal ?_
    refine WC.seq ?_
    refine WC.region ?_
    refine WL.rd rfl rfl rfl (Rd.assign rfl rfl) ?_
    refine WL.nil ?_
    refine thenQ.normal ?_
    refine WC.ret (Ret.one Tryz.results46 rfl ?_)
    rw [(stepE_fail hc1 Z.W).1, (stepE_fail hc1 Z.W).2] at hk
    exact hk ⟨lv, .slice none 0 0, kv, none⟩ hv2 rfl
   ·
    refine WC.skip ?_
    refine thenQ.normal ?_
    refine WC.seq ?_
    refine WC.region ?_
    refine WL.rd rfl rfl rfl (Rd.move rfl rfl) ?_
    refine WL.rd rfl rfl rfl (Rd.nilc rfl rfl) ?_
    refine WL.rd rfl rfl rfl ((by exact Rd.field rfl F51_4 rfl rfl)) ?_
    refine WL.op rfl ?_
    refine OpW.call rfl rfl Z.E Z.K rfl rfl rfl ?_
    refine add_spec (b := d) (off := 4) (p := s.done) Z.T rfl Z.W ?_
    first
     | refine WL.heap (R' := R) (O' := dO d ⟨lv, sv, kv, some b⟩ { s with left := s.left - 1, done := s.done + 1 } O) Z.F ?_
     | refine WL.heap (R' := R) (O' := dO d ⟨lv, sv, kv, none⟩ { s with left := s.left - 1, done := s.done + 1 } O) Z.F ?_
    refine WL.nil ?_
    refine thenQ.normal ?_
    refine WC.seq ?_
    refine WC.region ?_
    refine WL.rd rfl rfl rfl (Rd.assign rfl rfl) ?_
    refine WL.nil ?_
    refine thenQ.normal ?_
    refine WC.ret (Ret.one Tryz.results46 rfl ?_)
    rw [(stepE_on hc1 Z.W).1, (stepE_on hc1 Z.W).2] at hk
    exact hk ⟨lv, sv, kv, some b⟩ ⟨⟨fun h => (nomatch h), fun h => by exfalso; have h2 : s.left - 1 = 0 := h; omega⟩, hv.lv, hv.sv, hv.kv⟩ rfl
  ·
   obtain rfl : cb = none := by
    cases cb with
    | none => rfl
    | some b => simp at hc2
   have hl0 : s.left = 0 := hv.cb.1 rfl
   refine WC.skip ?_
   refine thenQ.normal ?_
   refine WC.seq ?_
   refine WC.region ?_
   refine WL.rd rfl rfl rfl (Rd.move rfl rfl) ?_
   refine WL.rd rfl rfl rfl (Rd.nilc rfl rfl) ?_
   refine WL.rd rfl rfl rfl ((by exact Rd.field rfl F51_4 rfl rfl)) ?_
   refine WL.op rfl ?_
   refine OpW.call rfl rfl Z.E Z.K rfl rfl rfl ?_
   refine add_spec (b := d) (off := 4) (p := s.done) Z.T rfl Z.W ?_
   first
    | refine WL.heap (R' := R) (O' := dO d ⟨lv, sv, kv, some b⟩ { s with left := s.left - 1, done := s.done + 1 } O) Z.F ?_
    | refine WL.heap (R' := R) (O' := dO d ⟨lv, sv, kv, none⟩ { s with left := s.left - 1, done := s.done + 1 } O) Z.F ?_
   refine WL.nil ?_
   refine thenQ.normal ?_
   refine WC.seq ?_
   refine WC.region ?_
   refine WL.rd rfl rfl rfl (Rd.assign rfl rfl) ?_
   refine WL.nil ?_
   refine thenQ.normal ?_
   refine WC.ret (Ret.one Tryz.results46 rfl ?_)
   rw [(stepE_on hc1 Z.W).1, (stepE_on hc1 Z.W).2] at hk
   exact hk ⟨lv, sv, kv, none⟩ ⟨⟨fun _ => by show s.left - 1 = 0; omega, fun _ => rfl⟩, hv.lv, hv.sv, hv.kv⟩ rfl
set_option maxHeartbeats 1000000 in
set_option maxRecDepth 20000 in
theorem write_spec {i : Int} {dd : List UInt8} (ok : DOk s m) (hm : m ≤ 4294967294) (hv : VOk V s) (hkeep : SlE (SL.one vi) V.kv s.keep ∈ R)
 (hk : ∀ V', VOk V' (putS s i dd) → V'.kv = V.kv → POST (.int .i64 (dputE s i dd : Nat)) R (dO d V' (putS s i dd) O)) : Fun Tryz.prog 19 #[dp d, .int .i64 i, vs dd] R (dO d V s O) POST := by
 have okp := ok.step
 have hsl := ok.since
 have hsl2 := okp.since
 refine Fun.enter (l := [_, _, _]) Tryz.func19 rfl Tryz.ntmps19 rfl (L0 := [(0, _), (1, _), (2, _)]) rfl ?_
 refine WC.seq ?_
 refine WC.region ?_
 refine WL.rd rfl rfl rfl (Rd.assign rfl rfl) ?_
 refine WL.nil ?_
 refine thenQ.normal ?_
 refine WC.seq ?_
 refine WC.pick [0, 1, 2] Z.P ?_
 refine WC.val 16 (.bool (decide (badB s i dd = true))) ?_ ?_
 ·
  refine WC.region ?_
  refine WL.rd rfl rfl rfl (Rd.move rfl rfl) ?_
  refine WL.rd rfl rfl rfl (Rd.move rfl rfl) ?_
  refine WL.op rfl ?_
  refine OpW.call rfl rfl Z.E Z.K rfl rfl rfl ?_
  refine has_spec ?_
  refine WL.say 10 (u := .bool (decide (hasB s i = true))) rfl (by simp) ?_
  refine WL.rd rfl rfl rfl ((by exact Rd.notd rfl rfl)) ?_
  refine WL.rd rfl rfl rfl (Rd.move rfl rfl) ?_
  refine WL.case 12 rfl (fun hg12 => ?_) (fun hg12 => ?_)
  ·
   refine WL.no rfl rfl rfl rfl rfl rfl ?_
   refine WL.no rfl rfl rfl rfl rfl rfl ?_
   refine WL.no rfl rfl rfl rfl rfl rfl ?_
   refine WL.rd rfl rfl rfl (Rd.pick_t rfl rfl rfl) ?_
   refine WL.nil ?_
   exact ⟨by repeat (first | exact Sub.nil | refine Sub.cons rfl (by first | rfl | ((simp [badB, *]; done))) ?_), by exact (fun _ h => h.thin (SubL.mem Z.S))⟩
  ·
   refine WL.rd_yes rfl rfl rfl rfl rfl rfl (Rd.move rfl rfl) ?_
   refine WL.rd_yes rfl rfl rfl rfl rfl rfl (Rd.slen (ts := #[]) (ty := 0) rfl rfl Tryz.underlying9) ?_
   refine WL.rd_yes rfl rfl rfl rfl rfl rfl (Rd.gtr rfl rfl rfl) ?_
   refine WL.rd rfl rfl rfl (Rd.pick_f rfl rfl rfl) ?_
   refine WL.nil ?_
   exact ⟨by repeat (first | exact Sub.nil | refine Sub.cons rfl (by first | rfl | ((simp [badB, *]; omega))) ?_), by exact (fun _ h => h.thin (SubL.mem Z.S))⟩
 ·
  refine WC.ite rfl (fun hc1 => ?_) (fun hc1 => ?_)
  ·
   refine WC.seq ?_
   refine WC.region ?_
   refine WL.rd rfl rfl rfl (Rd.assign rfl rfl) ?_
   refine WL.nil ?_
   refine thenQ.normal ?_
   refine WC.ret (Ret.one Tryz.results19 rfl ?_)
   unfold putS dputE at hk
   rw [if_pos hc1, if_pos hc1] at hk
   exact hk V hv rfl
  ·
   obtain ⟨hb1, hb2⟩ := bad_not hc1
   obtain ⟨hb3, hb4⟩ := has_iff hb1
   obtain ⟨n, rfl⟩ : ∃ n : Nat, i = n := ⟨_, hb4.symm⟩
   unfold putS dputE at hk
   rw [if_neg hc1, if_neg hc1] at hk
   refine WC.skip ?_
   refine thenQ.normal ?_
   refine WC.seq ?_
   refine WC.seq ?_
   refine WC.region ?_
   refine WL.rd rfl rfl rfl (Rd.move rfl rfl) ?_
   refine WL.op rfl ?_
   refine OpW.call rfl rfl Z.E Z.K rfl rfl rfl ?_
   refine step_spec ok Z.W hv hkeep ?_; intro V1 hv1 hkv1
   refine WL.rd rfl rfl rfl (Rd.assign rfl rfl) ?_
   refine WL.nil ?_
   refine thenQ.normal ?_
   refine WC.seq ?_
   refine WC.region ?_
   refine WL.rd rfl rfl rfl (Rd.move rfl rfl) ?_
   refine WL.rd rfl rfl rfl (Rd.neq rfl rfl rfl) ?_
   refine WL.nil ?_
   refine thenQ.normal ?_
   refine WC.ite rfl (fun hc2 => ?_) (fun hc2 => ?_)
   ·
    refine WC.seq ?_
    refine WC.region ?_
    refine WL.rd rfl rfl rfl (Rd.move rfl rfl) ?_
    refine WL.rd rfl rfl rfl (Rd.assign rfl rfl) ?_
    refine WL.nil ?_
    refine thenQ.normal ?_
    refine WC.ret (Ret.one Tryz.results19 rfl ?_)
    rw [if_neg Z.W] at hk
    exact hk V1 hv1 hkv1
   ·
    rw [if_pos Z.W] at hk
    refine WC.skip ?_
    refine thenQ.normal ?_
    refine WC.seq ?_
    refine WC.drawn (O) 14 rfl mixed ?_
    refine WD.take 0 rfl Z.K Z.H rfl rfl rfl (Rd.move rfl rfl) ?_
    refine WD.take 1 rfl Z.K Z.H rfl rfl rfl (Rd.move rfl rfl) ?_
    refine WD.take 2 rfl Z.K Z.H rfl rfl rfl (Rd.nilc rfl rfl) ?_
    refine WD.take 3 rfl Z.K Z.H rfl rfl rfl ((by exact Rd.field rfl F51_1 rfl rfl)) ?_
    refine WD.take 5 rfl Z.K Z.H rfl rfl rfl (Rd.move rfl rfl) ?_
    refine WD.take 6 rfl Z.K Z.H rfl rfl rfl (Rd.move rfl rfl) ?_
    refine WD.two 4 7 rfl rfl Z.K rfl rfl ?_ ?_
    ·
     refine OpW.rd rfl rfl (Rd.row1 (off := 1) rfl C43 rfl Z.M rfl) ?_
     refine ⟨Z.H, ?_⟩
     refine WD.one 7 rfl Z.K rfl ?_
     refine OpW.call rfl rfl Z.E Z.K rfl rfl rfl ?_
     refine full_spec hb2 ?_
     refine ⟨Z.H, ?_⟩
     refine WD.take 8 rfl Z.K Z.H rfl rfl rfl (Rd.buildN (ps := [(0, _), (1, _)]) rfl Bs96 I96 rfl Z.E Z.C (by apply NFo.mk; repeat (first | exact NF.nil | apply NF.cons))) ?_
     refine WD.one 9 rfl Z.K rfl ?_
     refine OpW.buildSl (ps := [(0, _)]) rfl S43 Z.E rfl rfl Z.C Z.K rfl rfl rfl ?_; intro b31
     refine ⟨Z.H, ?_⟩
     refine WD.one 10 rfl Z.K rfl ?_
     refine OpW.appendRow (enc := encW) rfl S43 rfl rfl Z.T Z.T [(n, fullE dd)] rfl (by rfl) rfl (by intro x; rfl) (by intro x; rfl) (by exact ⟨by simp only [maxLen, List.length_append, List.length_nil, List.length_cons, List.length_drop, List.length_take, List.length_map]; omega, by omega⟩) rfl rfl ?_; intro v32 hv32
     refine ⟨Z.H, ?_⟩
     refine WD.take 11 rfl Z.K Z.H rfl rfl rfl (Rd.nilc rfl rfl) ?_
     refine WD.take 12 rfl Z.K Z.H rfl rfl rfl ((by exact Rd.field rfl F51_1 rfl rfl)) ?_
     refine WD.one 13 rfl Z.K rfl ?_
     refine OpW.store1 rfl Z43 rfl rfl (by assumption) Z.T (by (simp; done)) rfl ?_
     refine ⟨Z.H, ?_⟩
     refine WD.heap (R' := R) (O' := dO d ⟨V1.lv, v32, V1.kv, V1.cb⟩ { stepS s with since := (stepS s).since ++ [(n, fullE dd)] } O) Z.F ?_
     refine WD.done Z.K ?_
     refine thenQ.normal ?_
     refine WC.seq ?_
     refine WC.region ?_
     refine WL.rd rfl rfl rfl (Rd.assign rfl rfl) ?_
     refine WL.nil ?_
     refine thenQ.normal ?_
     refine WC.ret (Ret.one Tryz.results19 rfl ?_)
     rw [show stepE s = 0 from by omega] at hk
     exact hk ⟨V1.lv, v32, V1.kv, V1.cb⟩ ⟨hv1.cb, hv1.lv, hv32, hv1.kv⟩ hkv1
    ·
     refine OpW.call rfl rfl Z.E Z.K rfl rfl rfl ?_
     refine full_spec hb2 ?_
     refine ⟨Z.H, ?_⟩
     refine WD.take 8 rfl Z.K Z.H rfl rfl rfl (Rd.buildN (ps := [(0, _), (1, _)]) rfl Bs96 I96 rfl Z.E Z.C (by apply NFo.mk; repeat (first | exact NF.nil | apply NF.cons))) ?_
     refine WD.two 4 9 rfl rfl Z.K rfl rfl ?_ ?_
     ·
      refine OpW.rd rfl rfl (Rd.row1 (off := 1) rfl C43 rfl Z.M rfl) ?_
      refine ⟨Z.H, ?_⟩
      refine WD.one 9 rfl Z.K rfl ?_
      refine OpW.buildSl (ps := [(0, _)]) rfl S43 Z.E rfl rfl Z.C Z.K rfl rfl rfl ?_; intro b31
      refine ⟨Z.H, ?_⟩
      refine WD.one 10 rfl Z.K rfl ?_
      refine OpW.appendRow (enc := encW) rfl S43 rfl rfl Z.T Z.T [(n, fullE dd)] rfl (by rfl) rfl (by intro x; rfl) (by intro x; rfl) (by exact ⟨by simp only [maxLen, List.length_append, List.length_nil, List.length_cons, List.length_drop, List.length_take, List.length_map]; omega, by omega⟩) rfl rfl ?_; intro v32 hv32
      refine ⟨Z.H, ?_⟩
      refine WD.take 11 rfl Z.K Z.H rfl rfl rfl (Rd.nilc rfl rfl) ?_
      refine WD.take 12 rfl Z.K Z.H rfl rfl rfl ((by exact Rd.field rfl F51_1 rfl rfl)) ?_
      refine WD.one 13 rfl Z.K rfl ?_
      refine OpW.store1 rfl Z43 rfl rfl (by assumption) Z.T (by (simp; done)) rfl ?_
      refine ⟨Z.H, ?_⟩
      refine WD.heap (R' := R) (O' := dO d ⟨V1.lv, v32, V1.kv, V1.cb⟩ { stepS s with since := (stepS s).since ++ [(n, fullE dd)] } O) Z.F ?_
      refine WD.done Z.K ?_
      refine thenQ.normal ?_
      refine WC.seq ?_
      refine WC.region ?_
      refine WL.rd rfl rfl rfl (Rd.assign rfl rfl) ?_
      refine WL.nil ?_
      refine thenQ.normal ?_
      refine WC.ret (Ret.one Tryz.results19 rfl ?_)
      rw [show stepE s = 0 from by omega] at hk
      exact hk ⟨V1.lv, v32, V1.kv, V1.cb⟩ ⟨hv1.cb, hv1.lv, hv32, hv1.kv⟩ hkv1
     ·
      refine OpW.buildSl (ps := [(0, _)]) rfl S43 Z.E rfl rfl Z.C Z.K rfl rfl rfl ?_; intro b31
      refine ⟨Z.H, ?_⟩
      refine WD.one 4 rfl Z.K rfl ?_
      refine OpW.rd rfl rfl (Rd.row1 (off := 1) rfl C43 rfl Z.M rfl) ?_
      refine ⟨Z.H, ?_⟩
      refine WD.one 10 rfl Z.K rfl ?_
      refine OpW.appendRow (enc := encW) rfl S43 rfl rfl Z.T Z.T [(n, fullE dd)] rfl (by rfl) rfl (by intro x; rfl) (by intro x; rfl) (by exact ⟨by simp only [maxLen, List.length_append, List.length_nil, List.length_cons, List.length_drop, List.length_take, List.length_map]; omega, by omega⟩) rfl rfl ?_; intro v32 hv32
      refine ⟨Z.H, ?_⟩
      refine WD.take 11 rfl Z.K Z.H rfl rfl rfl (Rd.nilc rfl rfl) ?_
      refine WD.take 12 rfl Z.K Z.H rfl rfl rfl ((by exact Rd.field rfl F51_1 rfl rfl)) ?_
      refine WD.one 13 rfl Z.K rfl ?_
      refine OpW.store1 rfl Z43 rfl rfl (by assumption) Z.T (by (simp; done)) rfl ?_
      refine ⟨Z.H, ?_⟩
      refine WD.heap (R' := R) (O' := dO d ⟨V1.lv, v32, V1.kv, V1.cb⟩ { stepS s with since := (stepS s).since ++ [(n, fullE dd)] } O) Z.F ?_
      refine WD.done Z.K ?_
      refine thenQ.normal ?_
      refine WC.seq ?_
      refine WC.region ?_
      refine WL.rd rfl rfl rfl (Rd.assign rfl rfl) ?_
      refine WL.nil ?_
      refine thenQ.normal ?_
      refine WC.ret (Ret.one Tryz.results19 rfl ?_)
      rw [show stepE s = 0 from by omega] at hk
      exact hk ⟨V1.lv, v32, V1.kv, V1.cb⟩ ⟨hv1.cb, hv1.lv, hv32, hv1.kv⟩ hkv1
set_option maxHeartbeats 1000000 in
set_option maxRecDepth 20000 in
theorem sync_spec (ok : DOk s m) (hm : m ≤ 4294967294) (hv : VOk V s) (hkeep : SlE (SL.one vi) V.kv s.keep ∈ R)
 (hk : ∀ V', VOk V' (syncS s) → V'.kv = V.kv → POST (.int .i64 (stepE s : Nat)) R (dO d V' (syncS s) O)) : Fun Tryz.prog 20 #[dp d] R (dO d V s O) POST := by
 have okp := ok.step
 have hsl2 := okp.since
 have hat : ∀ k, k < (stepS s).since.length → (stepS s).since[k]!.1 < (stepS s).lasts.length := fun k hk => by
  rw [getElem!_pos _ k hk]; exact okp.at_ _ (List.getElem_mem _)
 obtain ⟨s2, hs2⟩ : ∃ s2, s2 = stepS s := ⟨_, rfl⟩
 rw [← hs2] at hat
 refine Fun.enter (l := [_]) Tryz.func20 rfl Tryz.ntmps20 rfl (L0 := [(0, _)]) rfl ?_
 refine WC.seq ?_
 refine WC.region ?_
 refine WL.rd rfl rfl rfl (Rd.assign rfl rfl) ?_
 refine WL.nil ?_
 refine thenQ.normal ?_
 refine WC.seq ?_
 refine WC.seq ?_
 refine WC.region ?_
 refine WL.rd rfl rfl rfl (Rd.move rfl rfl) ?_
 refine WL.rd rfl rfl rfl (Rd.peqN rfl Tryz.underlying25 rfl rfl) ?_
 refine WL.nil ?_
 refine thenQ.normal ?_
 refine WC.cond rfl (fun hc1 => ?_) (fun hc1 => ?_)
 ·
  simp at hc1
 ·
  refine WC.skip ?_
  refine thenQ.normal ?_
  refine WC.seq ?_
  refine WC.seq ?_
  refine WC.region ?_
  refine WL.rd rfl rfl rfl (Rd.move rfl rfl) ?_
  refine WL.op rfl ?_
  refine OpW.call rfl rfl Z.E Z.K rfl rfl rfl ?_
  refine step_spec ok Z.W hv hkeep ?_; intro V1 hv1 hkv1
  refine WL.rd rfl rfl rfl (Rd.assign rfl rfl) ?_
  refine WL.nil ?_
  refine thenQ.normal ?_
  refine WC.seq ?_
  refine WC.region ?_
  refine WL.rd rfl rfl rfl (Rd.move rfl rfl) ?_
  refine WL.rd rfl rfl rfl (Rd.neq rfl rfl rfl) ?_
  refine WL.nil ?_
  refine thenQ.normal ?_
  refine WC.ite rfl (fun hc2 => ?_) (fun hc2 => ?_)
  ·
   refine WC.seq ?_
   refine WC.region ?_
   refine WL.rd rfl rfl rfl (Rd.move rfl rfl) ?_
   refine WL.rd rfl rfl rfl (Rd.assign rfl rfl) ?_
   refine WL.nil ?_
   refine thenQ.normal ?_
   refine WC.ret (Ret.one Tryz.results20 rfl ?_)
   unfold syncS at hk
   rw [if_neg Z.W] at hk
   exact hk V1 hv1 hkv1
  ·
   unfold syncS at hk
   rw [if_pos Z.W] at hk
   rw [← hs2] at hk hsl2 hv1
   rw [← hs2]
   refine WC.skip ?_
   refine thenQ.normal ?_
   refine WC.seq ?_
   refine WC.seq ?_
   refine WC.region ?_
   refine WL.rd rfl rfl rfl (Rd.move rfl rfl) ?_
   refine WL.rd rfl rfl rfl (Rd.nilc rfl rfl) ?_
   refine WL.rd rfl rfl rfl ((by exact Rd.field rfl F51_1 rfl rfl)) ?_
   refine WL.rd rfl rfl rfl (Rd.row1 (off := 1) rfl C43 rfl List.mem_cons_self rfl) ?_
   refine WL.rd rfl rfl rfl (Rd.lenA (enc := encW) rfl rfl Tryz.underlying43 (xs := s2.since) (e' := 96) Z.M) ?_
   refine WL.rd rfl rfl rfl (Rd.move rfl rfl) ?_
   refine WL.nil ?_
   refine thenQ.normal ?_
   refine WC.block ?_
   refine WC.pick [18, 0, 16, 17] Z.P ?_
   refine WC.loop1 1 (fun (k : Nat) => [(18, .int .i64 (k : Int))]) (fun (k : Nat) => dRow d V1 s2 :: accC 9 1 (SL.one vs) V1.lv (failN s2.since [1] s2.lasts k) :: accC 96 2 encW V1.sv s2.since :: cutC V1.cb s2.left V1.kv :: O) (fun (k : Nat) => k ≤ s2.since.length) (fun (k : Nat) => s2.since.length - k) (0) Z.L ?hinv1 (by repeat (first | exact Sub.nil | refine Sub.cons rfl (by rfl) ?_)) (fun _ h => h) ?_
   case hinv1 =>
    exact Nat.zero_le _
   intro k
   rintro i1
   refine WC.seq ?_
   refine WC.region ?_
   refine WL.rd rfl rfl rfl (Rd.lss rfl rfl rfl) ?_
   refine WL.nil ?_
   refine thenQ.normal ?_
   refine WC.seq ?_
   refine WC.ite rfl (fun hc3 => ?_) (fun hc3 => ?_)
   ·
    have hatk := hat k Z.W
    have hfl := failN_len s2.since [1] s2.lasts k
    have hfs := failN_succ s2.since [1] s2.lasts k
    rw [if_pos (odd_one k)] at hfs
    refine WC.skip ?_
    refine thenQ.normal ?_
    refine WC.seq ?_
    refine WC.block ?_
    refine WC.seq ?_
    refine WC.region ?_
    refine WL.rd rfl rfl rfl (Rd.idxA (k := k) rfl S43 rfl rfl rfl (enc := encW) (xs := s2.since) (e' := 96) Z.M Z.W) ?_
    refine WL.rd rfl rfl rfl (Rd.getSA (k := k) (cs := [.int .i64 (s2.since[k]!.1 : Int), vs s2.since[k]!.2]) (enc := encW) (xs := s2.since) (e' := 96) rfl G96 rfl Z.M (fun _ => rfl) (get!_of_lt Z.W) Z.N) ?_
    refine WL.op rfl ?_
    refine OpW.alloc rfl I96 rfl Z.N rfl rfl ?_; intro b5
    refine WL.op rfl ?_
    refine OpW.storeS rfl G96 rfl rfl Z.N Z.T rfl rfl Z.N rfl ?_
    refine WL.nil ?_
    refine thenQ.normal ?_
    refine WC.tail 9 mixed Z.K ?_
    refine WS.rd rfl rfl rfl (Rd.move rfl rfl) ?_
    refine WS.rd rfl rfl rfl (Rd.nilc rfl rfl) ?_
    refine WS.rd rfl rfl rfl ((by exact Rd.field rfl F51_0 rfl rfl)) ?_
    refine WS.rd rfl rfl rfl (Rd.row1 (off := 0) rfl C40 rfl Z.M rfl) ?_
    refine WS.rd rfl rfl rfl ((by exact Rd.field rfl F96_0 rfl rfl)) ?_
    refine WS.rd rfl rfl rfl (Rd.row1 (off := 0) rfl C3 rfl List.mem_cons_self rfl) ?_
    refine WS.rd rfl rfl rfl ((by exact Rd.field rfl F96_1 rfl rfl)) ?_
    refine WS.rd rfl rfl rfl (Rd.row1 (off := 1) rfl C9 rfl List.mem_cons_self rfl) ?_
    refine WS.rd rfl rfl rfl (Rd.idxA1 (k := s2.since[k]!.1) rfl S40 rfl rfl rfl (enc := SL.one vs) (xs := failN s2.since [1] s2.lasts k) (e' := 9) Z.M Z.W) ?_
    refine WS.switch ?_
    refine WL.op rfl ?_
    refine OpW.storeAcc (k := s2.since[k]!.1) (a := s2.since[k]!.2) (g := vs) rfl Z9 rfl rfl rfl rfl Z.T Z.W rfl ?_
    refine WL.nil ?_
    refine blockQ.normal ?_
    refine thenQ.normal ?_
    refine WC.region ?_
    refine WL.rd rfl rfl rfl (Rd.add rfl rfl rfl Z.W) ?_
    refine WL.rd rfl rfl rfl (Rd.move rfl rfl) ?_
    refine WL.nil ?_
    exact loopQ1.mk (k + 1) Z.W Z.W (by repeat (first | exact Sub.nil | refine Sub.cons rfl (by rfl) ?_)) (fun w h => by rw [hfs]; exact Z.Fw h)
   ·
    refine WC.exit ?_
    refine thenQ.exit ?_
    refine loopQ1.exit ?_
    refine blockQ.exit ?_
    refine thenQ.normal ?_
    refine WC.seq ?_
    refine WC.region ?_
    refine WL.rd rfl rfl rfl (Rd.move rfl rfl) ?_
    refine WL.rd rfl rfl rfl (Rd.nilc rfl rfl) ?_
    refine WL.rd rfl rfl rfl ((by exact Rd.field rfl F51_1 rfl rfl)) ?_
    refine WL.op rfl ?_
    refine OpW.store1 rfl Z43 rfl rfl (by exact ⟨rfl, rfl⟩) Z.T (by (simp; done)) rfl ?_
    obtain rfl : k = s2.since.length := by omega
    refine WL.heap (R' := R) (O' := dO d ⟨V1.lv, .slice none 0 0, V1.kv, V1.cb⟩ { s2 with lasts := failN s2.since [1] s2.lasts s2.since.length, since := [] } O) (fun w h => by
     have g2 := h.accNil (α := Nat × List UInt8) (e := 96) (size := 2) (enc := encW)
     exact Z.Fw g2) ?_
    refine WL.nil ?_
    refine thenQ.normal ?_
    refine WC.seq ?_
    refine WC.region ?_
    refine WL.rd rfl rfl rfl (Rd.assign rfl rfl) ?_
    refine WL.nil ?_
    refine thenQ.normal ?_
    refine WC.ret (Ret.one Tryz.results20 rfl ?_)
    rw [show stepE s = 0 from by omega] at hk
    exact hk ⟨V1.lv, .slice none 0 0, V1.kv, V1.cb⟩ ⟨hv1.cb, hv1.lv, OneV.sl, hv1.kv⟩ hkv1
set_option maxRecDepth 20000 in
theorem clonei_spec {xs : List Int} {av : Value} (ha : SlE (SL.one vi) av xs ∈ R) (hb : xs.length ≤ 17592186043904) (hk : ∀ v, OneV v → POST v R (accC 3 1 (SL.one vi) v xs :: O)) : Fun Tryz.prog 29 #[av] R O POST := by
 refine Fun.know (φ := ∃ a c, av = .slice a xs.length c ∧ (a = none → xs.length = 0)) ha (fun w h => by
  obtain ⟨a, c, h1, _, _, h2, _⟩ := h
  exact ⟨a, c, h1, h2⟩) ?_
 rintro ⟨a, c, rfl, hn⟩
 refine Fun.enter (l := [_]) Tryz.func29 rfl Tryz.ntmps29 rfl (L0 := [(0, _)]) rfl ?_
 refine WC.seq ?_
 refine WC.region ?_
 refine WL.rd rfl rfl rfl (Rd.assign rfl rfl) ?_
 refine WL.nil ?_
 refine thenQ.normal ?_
 refine WC.seq ?_
 refine WC.seq ?_
 refine WC.region ?_
 refine WL.rd rfl rfl rfl (Rd.move rfl rfl) ?_
 refine WL.rd rfl rfl rfl (Rd.eqNil' rfl Tryz.underlying23 rfl rfl) ?_
 refine WL.nil ?_
 refine thenQ.normal ?_
 refine WC.cond rfl (fun hc1 => ?_) (fun hc1 => ?_)
 ·
  refine WC.seq ?_
  refine WC.region ?_
  refine WL.rd rfl rfl rfl (Rd.assign rfl rfl) ?_
  refine WL.nil ?_
  refine thenQ.normal ?_
  obtain rfl : xs = [] := List.length_eq_zero_iff.1 (hn (by simpa using hc1))
  refine WC.heap (fun w h => h.accNil (α := Int) (e := 3) (size := 1) (enc := SL.one vi)) ?_
  refine WC.ret (Ret.one Tryz.results29 rfl ?_)
  exact hk _ OneV.sl
 ·
  refine WC.skip ?_
  refine thenQ.normal ?_
  refine WC.seq ?_
  refine WC.region ?_
  refine WL.op rfl ?_
  refine OpW.buildSl (ps := []) rfl S23 Z.E rfl rfl Z.C Z.K rfl rfl rfl ?_; intro b5
  refine WL.rd rfl rfl rfl (Rd.move rfl rfl) ?_
  refine WL.heap (fun w h => h.accRow (α := Int) (enc := SL.one vi) (xs := []) Z.T rfl rfl (fun _ => rfl) (Nat.zero_le _)) ?_
  refine WL.op rfl ?_
  refine OpW.appendE (enc := SL.one vi) rfl S23 Tryz.underlying23 rfl rfl Z.T Z.M (by intro x; rfl) (by intro x; rfl) (by exact ⟨by simp only [maxLen, List.length_append, List.length_nil, List.length_cons, List.length_drop, List.length_take, List.length_map]; omega, by (simp only [List.length_append, List.length_nil, List.length_cons, List.length_drop, List.length_take, List.length_map]; omega)⟩) rfl rfl ?_; intro v7 hv7
  refine WL.rd rfl rfl rfl (Rd.assign rfl rfl) ?_
  refine WL.nil ?_
  refine thenQ.normal ?_
  refine WC.ret (Ret.one Tryz.results29 rfl ?_)
  exact hk _ hv7
set_option maxRecDepth 20000 in
set_option maxHeartbeats 1000000 in
theorem cut_spec {n : Int} {keep : List Int} {kv : Value} (hv : VOk V s) (hkeep : SlE (SL.one vi) kv keep ∈ R) (hkl : keep.length ≤ 17592186043904)
 (hk : ∀ V', VOk V' (cutS s n keep) → POST (.tuple #[]) (SlE (SL.one vi) V'.kv keep :: R) (dO d V' (cutS s n keep) O)) : Fun Tryz.prog 10 #[dp d, .int .i64 n, kv] R (dO d V s O) POST := by
 refine Fun.enter (l := [_, _, _]) Tryz.func10 rfl Tryz.ntmps10 rfl (L0 := [(0, _), (1, _), (2, _)]) rfl ?_
 refine WC.seq ?_
 refine WC.region ?_
 refine WL.rd rfl rfl rfl (Rd.move rfl rfl) ?_
 refine WL.rd rfl rfl rfl (Rd.pneqN rfl Tryz.underlying25 rfl rfl) ?_
 refine WL.nil ?_
 refine thenQ.normal ?_
 refine WC.cond rfl (fun hc1 => ?_) (fun hc1 => ?_)
 ·
  refine WC.region ?_
  refine WL.rd rfl rfl rfl (Rd.move rfl rfl) ?_
  refine WL.rd rfl rfl rfl (Rd.move rfl rfl) ?_
  refine WL.rd rfl rfl rfl (Rd.max2 rfl rfl rfl) ?_
  refine WL.say 10 (u := .int .i64 (((max n 1).toNat : Nat) : Int)) rfl (by congr 1; split <;> omega) ?_
  refine WL.rd rfl rfl rfl (Rd.move rfl rfl) ?_
  refine WL.op rfl ?_
  refine OpW.call rfl rfl Z.E Z.K rfl rfl rfl ?_
  refine clonei_spec (xs := keep) hkeep hkl ?_; intro v12 hv12
  refine WL.heap (fun w h => Sat.shareA (Take.head _) h) ?_
  refine WL.rd rfl rfl rfl (Rd.buildN (ps := [(0, _), (1, _)]) (cells := [.int .i64 (((max n 1).toNat : Nat) : Int), v12]) rfl Bs74 I74 rfl Z.E (by exact CellsOf.cons rfl (CellsOf.cons hv12.cells CellsOf.nil)) (by apply NFo.mk; repeat (first | exact NF.nil | apply NF.cons))) ?_
  refine WL.op rfl ?_
  refine OpW.box rfl rfl Z.N rfl rfl ?_; intro b14
  refine WL.rd rfl rfl rfl (Rd.nilc rfl rfl) ?_
  refine WL.rd rfl rfl rfl ((by exact Rd.field rfl F51_2 rfl rfl)) ?_
  refine WL.op rfl ?_
  refine OpW.store1 rfl Z44 rfl rfl (by exact ⟨rfl, rfl⟩) Z.T (by (simp; done)) rfl ?_
  refine WL.heap (R' := SlE (SL.one vi) v12 keep :: R) (O' := dO d ⟨V.lv, V.sv, v12, some b14⟩ (cutS s n keep) O) Z.F ?_
  refine WL.nil ?_
  refine Ret.normal (Ret.zero Tryz.results10 ?_)
  exact hk ⟨V.lv, V.sv, v12, some b14⟩ ⟨⟨fun h => (nomatch h), fun h => by exfalso; have h2 : (max n 1).toNat = 0 := h; omega⟩, hv.lv, hv.sv, hv12⟩
 ·
  simp at hc1
end
end Go.Proofs.YtckokhdjeifomaaGreatDoor
namespace Go.Proofs.YtckokhdjeifomaaGreatDoor
open Go Go.SL
abbrev Chg := Int × List UInt8
def encC (x : Chg) : List Value := [.int .i64 x.1, vs x.2]
def byteOf (n : Nat) : UInt8 := UInt8.ofNat (n % 256)
/-- A head that says changes. -/
def hdB (x : List Chg) : List UInt8 := [87, 76, byteOf x.length] ++ x.flatMap fun c => [byteOf (c.1.toNat / 256), byteOf c.1.toNat]
def allB (x : List Chg) : List UInt8 := hdB x ++ x.flatMap fun c => fullE c.2
def headB (x : List Chg) : List UInt8 := hdB x ++ le4 (sumE (allB x))
/-- Writes one after the other, up to the first that fails. -/
def runP : DSt → List Chg → DSt × Nat
 | s, [] => (s, 0)
 | s, c :: r => if dputE s c.1 c.2 ≠ 0 then (putS s c.1 c.2, dputE s c.1 c.2) else runP (putS s c.1 c.2) r
def thenE (p : DSt × Nat) (f : DSt → DSt × Nat) : DSt × Nat := if p.2 ≠ 0 then p else f p.1
def makeS (s : DSt) (x : List Chg) : DSt × Nat := thenE (runP s x) fun t => (syncS t, stepE t)
def sayS (s : DSt) (f : Int) (h : List UInt8) : DSt × Nat := makeS s [(f, h)]
def mayB (s : DSt) (f z i : Int) : Bool := decide (0 ≤ i ∧ i < (s.lasts.length : Int) ∧ ¬ (f ≤ i ∧ i < f + z))
def fitsB (s : DSt) (f z : Int) : Bool := decide (0 ≤ f ∧ 2 ≤ z ∧ z ≤ 65 ∧ f + z ≤ (s.lasts.length : Int))
def decC (s : DSt) (f : Int) (h : List UInt8) (i : Nat) : Chg := (((h[3 + 2 * i]!.toNat * 256 + h[4 + 2 * i]!.toNat : Nat) : Int), (readE s (f + 1 + i)).1)
def decN (s : DSt) (f : Int) (h : List UInt8) (n : Nat) : List Chg := (List.range n).map (decC s f h)
/-- What the head says; the error. -/
def saidE (s : DSt) (f z : Int) : List Chg × Nat :=
 if (readE s f).2 ≠ 0 then ([], (readE s f).2)
 else if (readE s f).1.take 2 ≠ [87, 76] ∨ (readE s f).1[2]!.toNat < 1 ∨ z ≤ ((readE s f).1[2]!.toNat : Int) then ([], 0)
 else if ¬ ∀ c ∈ decN s f (readE s f).1 (readE s f).1[2]!.toNat, mayB s f z c.1 = true then ([], 0)
 else if (readE s f).1 ≠ fullE (headB (decN s f (readE s f).1 (readE s f).1[2]!.toNat)) then ([], 0)
 else (decN s f (readE s f).1 (readE s f).1[2]!.toNat, 0)
/-- An opening: the disk behind it, how many changes were made, the error. -/
def doneE (s : DSt) (f : Int) (x : List Chg) : DSt × Nat := thenE (makeS s x) fun t => sayS t f []
def openE (s : DSt) (f z : Int) : DSt × Nat × Nat :=
 if ¬ fitsB s f z then (s, 0, 1)
 else if (saidE s f z).2 ≠ 0 then (s, 0, (saidE s f z).2)
 else if (saidE s f z).1 = [] then (s, 0, 0)
 else if (doneE s f (saidE s f z).1).2 ≠ 0 then ((doneE s f (saidE s f z).1).1, 0, (doneE s f (saidE s f z).1).2)
 else ((doneE s f (saidE s f z).1).1, (saidE s f z).1.length, 0)
def imagesE (f : Int) (x : List Chg) : List Chg := x.zipIdx.map fun p => (f + 1 + (p.2 : Int), p.1.2)
def chgBad (s : DSt) (f z : Int) (c : Chg) : Bool := decide (¬ mayB s f z c.1 = true ∨ 512 < c.2.length)
def commitE (s : DSt) (f z : Int) (x : List Chg) : DSt × Nat :=
 if x = [] ∨ z ≤ (x.length : Int) then (s, 1)
 else if ∃ c ∈ x, chgBad s f z c = true then (s, 1)
 else thenE (makeS s (imagesE f x)) fun t => thenE (sayS t f (headB x)) fun t => doneE t f x
/-- Each sector is whole. -/
structure W512 (s : DSt) : Prop where
 lasts : ∀ l ∈ s.lasts, l.length = 512
 since : ∀ w ∈ s.since, w.2.length = 512
theorem W512.new {n : Nat} : W512 (newS n) := ⟨fun l hl => by rw [List.eq_of_mem_replicate hl]; exact List.length_replicate, fun w hw => absurd hw List.not_mem_nil⟩
theorem W512.failN {s : DSt} (h : W512 s) (keep : List Int) : ∀ n, n ≤ s.since.length → ∀ l ∈ Go.Proofs.YtckokhdjeifomaaGreatDoor.failN s.since keep s.lasts n, l.length = 512
 | 0, _ => h.lasts
 | n + 1, hn => by
   rw [failN_succ]
   have ih := W512.failN h keep n Z.W
   split
   · intro l hl
     rcases List.mem_or_eq_of_mem_set hl with h1 | h1
     · exact ih l h1
     · rw [h1, getElem!_pos s.since n Z.W]; exact h.since _ (List.getElem_mem _)
   · exact ih
theorem W512.fail {s : DSt} (h : W512 s) (keep : List Int) : W512 (failS s keep) := ⟨h.failN keep _ (Nat.le_refl _), fun w hw => absurd hw List.not_mem_nil⟩
theorem W512.step {s : DSt} (h : W512 s) : W512 (stepS s) := by
 unfold stepS
 split
 · exact h
 · split
   · exact h.fail _
   · exact ⟨h.lasts, h.since⟩
theorem W512.put {s : DSt} (h : W512 s) (i : Int) (d : List UInt8) : W512 (putS s i d) := by
 unfold putS
 split
 · exact h
 · rename_i hb
   split
   · refine ⟨h.step.lasts, fun w hw => ?_⟩
     rcases List.mem_append.1 hw with hw | hw
     · exact h.step.since w hw
     · rw [List.mem_singleton] at hw; subst hw; exact full_len (bad_not hb).2
   · exact h.step
theorem W512.sync {s : DSt} (h : W512 s) : W512 (syncS s) := by
 unfold syncS
 split
 · exact ⟨h.step.failN [1] _ (Nat.le_refl _), fun w hw => absurd hw List.not_mem_nil⟩
 · exact h.step
theorem W512.cut {s : DSt} (h : W512 s) (n : Int) (keep : List Int) : W512 (cutS s n keep) := ⟨h.lasts, h.since⟩
theorem W512.on {s : DSt} (h : W512 s) : W512 (onS s) := ⟨h.lasts, h.since⟩
theorem W512.look {s : DSt} (h : W512 s) {n : Nat} (hn : n < s.lasts.length) : ∀ k, k ≤ s.since.length → (lookN s n k).length = 512
 | 0, _ => by show (s.lasts[n]!).length = 512; rw [getElem!_pos s.lasts n hn]; exact h.lasts _ (List.getElem_mem _)
 | k + 1, hk => by
   rw [lookN_succ]
   split
   · rw [getElem!_pos s.since k Z.W]; exact h.since _ (List.getElem_mem _)
   · exact W512.look h hn k Z.W
theorem read_ok {s : DSt} (h : W512 s) {i : Int} (h0 : (readE s i).2 = 0) : (readE s i).1.length = 512 ∧ hasB s i = true ∧ s.off = false := by
 unfold readE at h0 ⊢
 by_cases h1 : hasB s i = true
 · rw [if_neg (fun hh => hh h1)] at h0 ⊢
   by_cases h2 : s.off = true
   · rw [if_pos h2] at h0; simp at h0
   · rw [if_neg h2]
     exact ⟨h.look (has_iff h1).1 _ (Nat.le_refl _), h1, by simpa using h2⟩
 · rw [if_pos h1] at h0; simp at h0
theorem read_0 {s : DSt} {i : Int} (h1 : hasB s i = true) (h2 : s.off = false) : (readE s i).2 = 0 := by
 unfold readE
 rw [if_neg (fun hh => hh h1), if_neg (by rw [h2]; exact Bool.false_ne_true)]
theorem put_lasts (s : DSt) (i : Int) (d : List UInt8) : (putS s i d).lasts.length = s.lasts.length := by
 unfold putS
 split
 · rfl
 · split
   · exact step_lasts s
   · exact step_lasts s
theorem sync_lasts (s : DSt) : (syncS s).lasts.length = s.lasts.length := by
 unfold syncS
 split
 · show (failN _ _ _ _).length = _; rw [failN_len]; exact step_lasts s
 · exact step_lasts s
theorem put_keepW (s : DSt) (i : Int) (d : List UInt8) : (putS s i d).keep = s.keep := by
 unfold putS
 split
 · rfl
 · split
   · exact step_keep s
   · exact step_keep s
theorem sync_keepW (s : DSt) : (syncS s).keep = s.keep := by
 unfold syncS
 split
 · exact step_keep s
 · exact step_keep s
/-- What is so of a disk, and stays so. -/
structure Dk (s : DSt) (m : Nat) : Prop where
 ok : DOk s m
 w : W512 s
theorem Dk.put {s : DSt} {m : Nat} (h : Dk s m) (i : Int) (d : List UInt8) : Dk (putS s i d) (m + 1) := ⟨h.ok.put i d, h.w.put i d⟩
theorem Dk.sync {s : DSt} {m : Nat} (h : Dk s m) : Dk (syncS s) (m + 1) := ⟨h.ok.sync, h.w.sync⟩
theorem Dk.mono {s : DSt} {m m' : Nat} (h : Dk s m) (hm : m ≤ m') : Dk s m' := ⟨h.ok.mono hm, h.w⟩
theorem run_dk : ∀ {x : List Chg} {s : DSt} {m : Nat}, Dk s m → Dk (runP s x).1 (m + x.length) ∧ (runP s x).1.lasts.length = s.lasts.length ∧ (runP s x).1.keep = s.keep
 | [], s, m, h => ⟨h, rfl, rfl⟩
 | c :: r, s, m, h => by
   rw [runP, List.length_cons]
   split
   · exact ⟨(h.put _ _).mono Z.W, put_lasts _ _ _, put_keepW _ _ _⟩
   · obtain ⟨h1, h2, h3⟩ := run_dk (x := r) (h.put c.1 c.2)
     exact ⟨h1.mono Z.W, h2.trans (put_lasts _ _ _), h3.trans (put_keepW _ _ _)⟩
theorem make_dk {x : List Chg} {s : DSt} {m : Nat} (h : Dk s m) : Dk (makeS s x).1 (m + x.length + 1) ∧ (makeS s x).1.lasts.length = s.lasts.length ∧ (makeS s x).1.keep = s.keep := by
 obtain ⟨h1, h2, h3⟩ := run_dk (x := x) h
 unfold makeS thenE
 split
 · exact ⟨h1.mono Z.W, h2, h3⟩
 · exact ⟨h1.sync, (sync_lasts _).trans h2, (sync_keepW _).trans h3⟩
theorem full_full {h : List UInt8} (hh : h.length ≤ 512) : fullE (fullE h) = fullE h := by
 have e : (fullE h).length = 512 := full_len hh
 rw [fullE.eq_1 (fullE h), e]; simp
theorem say_is (s : DSt) (f : Int) (h : List UInt8) : sayS s f h = if dputE s f h ≠ 0 then (putS s f h, dputE s f h) else (syncS (putS s f h), stepE (putS s f h)) := by
 have h1 : runP s [(f, h)] = if dputE s f h ≠ 0 then (putS s f h, dputE s f h) else (putS s f h, 0) := by rw [runP, runP]
 unfold sayS makeS
 rw [h1]
 by_cases e : dputE s f h ≠ 0
 · rw [if_pos e, if_pos e]; unfold thenE; rw [if_pos (by exact e)]
 · rw [if_neg e, if_neg e]; rfl
theorem hdB_len (x : List Chg) : (hdB x).length = 3 + 2 * x.length := by
 unfold hdB
 rw [List.length_append]
 have : (x.flatMap fun c => [byteOf (c.1.toNat / 256), byteOf c.1.toNat]).length = 2 * x.length := by
  induction x with
  | nil => rfl
  | cons c r ih => rw [List.flatMap_cons, List.length_append, ih]; show 2 + 2 * r.length = 2 * (r.length + 1); omega
 rw [this]; rfl
theorem headB_len (x : List Chg) : (headB x).length = 7 + 2 * x.length := by
 unfold headB
 rw [List.length_append, hdB_len]; show _ + 4 = _; omega
theorem flat_full_len {x : List Chg} (h : ∀ c ∈ x, c.2.length ≤ 512) : (x.flatMap fun c => fullE c.2).length = 512 * x.length := by
 induction x with
 | nil => rfl
 | cons c r ih =>
   rw [List.flatMap_cons, List.length_append, ih (fun c hc => h c (List.mem_cons_of_mem _ hc)), full_len (h c List.mem_cons_self), List.length_cons]; omega
theorem le4_sn (n i : Nat) : (le4 n).take (i + 1) = (le4 n).take i ++ (if i < 4 then [UInt8.ofNat (n / 256 ^ i % 256)] else []) := by
 match i with
 | 0 => simp [le4]
 | 1 => rfl
 | 2 => rfl
 | 3 => rfl
 | i + 4 => rw [if_neg Z.W, List.append_nil, List.take_of_length_le (by simp [le4]), List.take_of_length_le (by simp [le4])]
theorem flat_next {x : List Chg} {g : Chg → List UInt8} {j : Nat} (h : j < x.length) : (x.take (j + 1)).flatMap g = (x.take j).flatMap g ++ g x[j]! := by
 rw [List.take_add_one, get!_of_lt h, List.flatMap_append]; simp
theorem chg_mem {x : List Chg} {j : Nat} (h : j < x.length) : x[j]! ∈ x := by rw [getElem!_pos x j h]; exact List.getElem_mem _
theorem run_at {s : DSt} {x : List Chg} {j : Nat} {t : DSt} (h : j < x.length) (hr : runP s x = runP t (x.drop j)) : runP s x = if dputE t x[j]!.1 x[j]!.2 ≠ 0 then (putS t x[j]!.1 x[j]!.2, dputE t x[j]!.1 x[j]!.2) else runP (putS t x[j]!.1 x[j]!.2) (x.drop (j + 1)) := by
 rw [hr, List.drop_eq_getElem_cons h, runP, getElem!_pos x j h]
theorem images_len (f : Int) (x : List Chg) : (imagesE f x).length = x.length := by simp [imagesE]
theorem images_get {f : Int} {x : List Chg} {j : Nat} (h : j < x.length) : (imagesE f x)[j]! = (f + 1 + (j : Int), x[j]!.2) := by
 rw [getElem!_pos _ j (by rw [images_len]; exact h), getElem!_pos x j h]
 simp [imagesE]
theorem dec_get {s : DSt} {f : Int} {h : List UInt8} {n j : Nat} (hj : j < n) : (decN s f h n)[j]! = decC s f h j := by
 unfold decN
 rw [getElem!_pos _ j (by simp; exact hj)]; simp
theorem dec_len (s : DSt) (f : Int) (h : List UInt8) (n : Nat) : (decN s f h n).length = n := by simp [decN]
theorem dec_next (s : DSt) (f : Int) (h : List UInt8) (n : Nat) : decN s f h (n + 1) = decN s f h n ++ [decC s f h n] := by
 unfold decN; rw [List.range_succ, List.map_append]; rfl
end Go.Proofs.YtckokhdjeifomaaGreatDoor
namespace Go.Proofs.YtckokhdjeifomaaGreatDoor
open Go Go.SL
theorem byte_wrap (n : Nat) : IntKind.u8.wrap (n : Int) = ((byteOf n).toNat : Int) := wrap_byte n
theorem u8_sum {a b : UInt8} : (a.toNat * 2 ^ 8 ||| b.toNat) = a.toNat * 256 + b.toNat := by
 rw [num_or]; omega
/-- A row that is only read from now on. -/
theorem Sat.shareG {R : List RO} {O O' : List Own} {b : Nat} {e : TypeId} {cs : List Value} {w : World} (hT : Take (rowC b e cs) O O') (h : Sat R O w) : Sat (garr b cs :: R) O' w := (h.perm hT.perm).share _ (fun w hp _ j u hj => row_cell hp hj)
def Chgs (x : List Chg) : Prop := ∀ c ∈ x, 0 ≤ c.1 ∧ c.1 < 65536 ∧ c.2.length ≤ 512
section
variable {R : List RO} {O : List Own} {POST : Value → List RO → List Own → Prop} {d l m : Nat} {V : DV} {s : DSt} {f z : Int}
abbrev logR (l d : Nat) (f z : Int) : RO := garr l [dp d, .int .i64 f, .int .i64 z]
set_option maxRecDepth 20000 in
theorem own_spec {i : Int} (hl : logR l d f z ∈ R) (hz : 0 ≤ f ∧ f ≤ 5000 ∧ 0 ≤ z ∧ z ≤ 5000) (hk : POST (.bool (decide (f ≤ i ∧ i < f + z))) R O) : Fun Tryz.prog 105 #[dp l, .int .i64 i] R O POST := by
 refine Fun.enter (l := [_, _]) Tryz.func105 rfl Tryz.ntmps105 rfl (L0 := [(0, _), (1, _)]) rfl ?_
 refine WC.seq ?_
 refine WC.region ?_
 refine WL.rd rfl rfl rfl (Rd.assign rfl rfl) ?_
 refine WL.nil ?_
 refine thenQ.normal ?_
 refine WC.seq ?_
 refine WC.still mixed Z.K ?_
 refine WA.rd rfl rfl rfl (Rd.move rfl rfl) ?_
 refine WA.rd rfl rfl rfl (Rd.move rfl rfl) ?_
 refine WA.rd rfl rfl rfl (Rd.nilc rfl rfl) ?_
 refine WA.rd rfl rfl rfl ((by exact Rd.field rfl F98_1 rfl rfl)) ?_
 refine WA.rd rfl rfl rfl (Rd.getGl (off := 1) rfl C3 rfl hl rfl) ?_
 refine WA.rd rfl rfl rfl (Rd.geq rfl rfl rfl) ?_
 refine WA.rd rfl rfl rfl (Rd.move rfl rfl) ?_
 refine WA.case 11 rfl (fun hg11 => ?_) (fun hg11 => ?_)
 ·
  refine WA.rd_yes rfl rfl rfl rfl rfl rfl (Rd.move rfl rfl) ?_
  refine WA.rd_yes rfl rfl rfl rfl rfl rfl (Rd.move rfl rfl) ?_
  refine WA.rd_yes rfl rfl rfl rfl rfl rfl (Rd.nilc rfl rfl) ?_
  refine WA.rd_yes rfl rfl rfl rfl rfl rfl ((by exact Rd.field rfl F98_1 rfl rfl)) ?_
  refine WA.rd_yes rfl rfl rfl rfl rfl rfl (Rd.getGl (off := 1) rfl C3 rfl hl rfl) ?_
  refine WA.rd_yes rfl rfl rfl rfl rfl rfl (Rd.move rfl rfl) ?_
  refine WA.rd_yes rfl rfl rfl rfl rfl rfl (Rd.nilc rfl rfl) ?_
  refine WA.rd_yes rfl rfl rfl rfl rfl rfl ((by exact Rd.field rfl F98_2 rfl rfl)) ?_
  refine WA.rd_yes rfl rfl rfl rfl rfl rfl (Rd.getGl (off := 2) rfl C3 rfl hl rfl) ?_
  refine WA.rd_yes rfl rfl rfl rfl rfl rfl (Rd.add rfl rfl rfl Z.W) ?_
  refine WA.rd_yes rfl rfl rfl rfl rfl rfl (Rd.lss rfl rfl rfl) ?_
  refine WA.rd rfl rfl rfl (Rd.pick_t rfl rfl rfl) ?_
  refine WA.rd rfl rfl rfl (Rd.assign rfl rfl) ?_
  refine WA.nil ?_
  refine thenQ.normal ?_
  refine WC.ret (Ret.one Tryz.results105 rfl ?_)
  rw [show decide (f ≤ i ∧ i < f + z) = decide (i < f + z) from by rw [decide_eq_decide]; exact ⟨fun h => h.2, fun h => ⟨by omega, h⟩⟩] at hk
  exact hk
 ·
  refine WA.no rfl rfl rfl rfl rfl rfl ?_
  refine WA.no rfl rfl rfl rfl rfl rfl ?_
  refine WA.no rfl rfl rfl rfl rfl rfl ?_
  refine WA.no rfl rfl rfl rfl rfl rfl ?_
  refine WA.no rfl rfl rfl rfl rfl rfl ?_
  refine WA.no rfl rfl rfl rfl rfl rfl ?_
  refine WA.no rfl rfl rfl rfl rfl rfl ?_
  refine WA.no rfl rfl rfl rfl rfl rfl ?_
  refine WA.no rfl rfl rfl rfl rfl rfl ?_
  refine WA.no rfl rfl rfl rfl rfl rfl ?_
  refine WA.no rfl rfl rfl rfl rfl rfl ?_
  refine WA.rd rfl rfl rfl (Rd.pick_f rfl rfl rfl) ?_
  refine WA.rd rfl rfl rfl (Rd.assign rfl rfl) ?_
  refine WA.nil ?_
  refine thenQ.normal ?_
  refine WC.ret (Ret.one Tryz.results105 rfl ?_)
  rw [decide_eq_false Z.W] at hk
  exact hk
set_option maxRecDepth 20000 in
theorem may_spec {i : Int} (hl : logR l d f z ∈ R) (hz : 0 ≤ f ∧ f ≤ 5000 ∧ 0 ≤ z ∧ z ≤ 5000) (hk : POST (.bool (mayB s f z i)) R (dO d V s O)) : Fun Tryz.prog 78 #[dp l, .int .i64 i] R (dO d V s O) POST := by
 refine Fun.enter (l := [_, _]) Tryz.func78 rfl Tryz.ntmps78 rfl (L0 := [(0, _), (1, _)]) rfl ?_
 refine WC.seq ?_
 refine WC.region ?_
 refine WL.rd rfl rfl rfl (Rd.assign rfl rfl) ?_
 refine WL.nil ?_
 refine thenQ.normal ?_
 refine WC.seq ?_
 refine WC.region ?_
 refine WL.rd rfl rfl rfl (Rd.move rfl rfl) ?_
 refine WL.rd rfl rfl rfl (Rd.geq rfl rfl rfl) ?_
 refine WL.rd rfl rfl rfl (Rd.move rfl rfl) ?_
 refine WL.case 7 rfl (fun hg7 => ?_) (fun hg7 => ?_)
 ·
  refine WL.rd_yes rfl rfl rfl rfl rfl rfl (Rd.move rfl rfl) ?_
  refine WL.rd_yes rfl rfl rfl rfl rfl rfl (Rd.move rfl rfl) ?_
  refine WL.rd_yes rfl rfl rfl rfl rfl rfl (Rd.nilc rfl rfl) ?_
  refine WL.rd_yes rfl rfl rfl rfl rfl rfl ((by exact Rd.field rfl F98_0 rfl rfl)) ?_
  refine WL.rd_yes rfl rfl rfl rfl rfl rfl (Rd.getGl (off := 0) (u := dp d) rfl C25 rfl hl rfl) ?_
  refine WL.op_yes rfl rfl rfl rfl ?_
  refine OpW.call rfl rfl Z.E Z.K rfl rfl rfl ?_
  refine size_spec ?_
  refine WL.rd_yes rfl rfl rfl rfl rfl rfl (Rd.lss rfl rfl rfl) ?_
  refine WL.rd rfl rfl rfl (Rd.pick_t rfl rfl rfl) ?_
  refine WL.rd rfl rfl rfl (Rd.move rfl rfl) ?_
  refine WL.case 16 rfl (fun hg16 => ?_) (fun hg16 => ?_)
  ·
   refine WL.rd_yes rfl rfl rfl rfl rfl rfl (Rd.move rfl rfl) ?_
   refine WL.rd_yes rfl rfl rfl rfl rfl rfl (Rd.move rfl rfl) ?_
   refine WL.op_yes rfl rfl rfl rfl ?_
   refine OpW.call rfl rfl Z.E Z.K rfl rfl rfl ?_
   refine own_spec hl hz ?_
   refine WL.rd_yes rfl rfl rfl rfl rfl rfl ((by exact Rd.notd rfl rfl)) ?_
   refine WL.rd rfl rfl rfl (Rd.pick_t rfl rfl rfl) ?_
   refine WL.rd rfl rfl rfl (Rd.assign rfl rfl) ?_
   refine WL.nil ?_
   refine thenQ.normal ?_
   refine WC.ret (Ret.one Tryz.results78 rfl ?_)
   first
    | (have e : mayB s f z i = false := decide_eq_false Z.W
       rw [e] at hk
       exact hk)
    | (have e : mayB s f z i = !decide (f ≤ i ∧ i < f + z) := by
        unfold mayB
        rw [Bool.eq_iff_iff]
        simp only [decide_eq_true_eq, Bool.not_eq_true', decide_eq_false_iff_not]
        omega
       rw [e] at hk
       exact hk)
    | (have e : mayB s f z i = decide (¬ (f ≤ i ∧ i < f + z)) := by
        unfold mayB
        rw [decide_eq_decide]
        omega
       rw [e] at hk
       exact hk)
  ·
   refine WL.no rfl rfl rfl rfl rfl rfl ?_
   refine WL.no rfl rfl rfl rfl rfl rfl ?_
   refine WL.no rfl rfl rfl rfl rfl rfl ?_
   refine WL.no rfl rfl rfl rfl rfl rfl ?_
   refine WL.rd rfl rfl rfl (Rd.pick_f rfl rfl rfl) ?_
   refine WL.rd rfl rfl rfl (Rd.assign rfl rfl) ?_
   refine WL.nil ?_
   refine thenQ.normal ?_
   refine WC.ret (Ret.one Tryz.results78 rfl ?_)
   first
    | (have e : mayB s f z i = false := decide_eq_false Z.W
       rw [e] at hk
       exact hk)
    | (have e : mayB s f z i = !decide (f ≤ i ∧ i < f + z) := by
        unfold mayB
        rw [Bool.eq_iff_iff]
        simp only [decide_eq_true_eq, Bool.not_eq_true', decide_eq_false_iff_not]
        omega
       rw [e] at hk
       exact hk)
    | (have e : mayB s f z i = decide (¬ (f ≤ i ∧ i < f + z)) := by
        unfold mayB
        rw [decide_eq_decide]
        omega
       rw [e] at hk
       exact hk)
 ·
  refine WL.no rfl rfl rfl rfl rfl rfl ?_
  refine WL.no rfl rfl rfl rfl rfl rfl ?_
  refine WL.no rfl rfl rfl rfl rfl rfl ?_
  refine WL.no rfl rfl rfl rfl rfl rfl ?_
  refine WL.no rfl rfl rfl rfl rfl rfl ?_
  refine WL.no rfl rfl rfl rfl rfl rfl ?_
  refine WL.no rfl rfl rfl rfl rfl rfl ?_
  refine WL.rd rfl rfl rfl (Rd.pick_f rfl rfl rfl) ?_
  refine WL.rd rfl rfl rfl (Rd.move rfl rfl) ?_
  refine WL.no rfl rfl rfl rfl rfl rfl ?_
  refine WL.no rfl rfl rfl rfl rfl rfl ?_
  refine WL.no rfl rfl rfl rfl rfl rfl ?_
  refine WL.no rfl rfl rfl rfl rfl rfl ?_
  refine WL.rd rfl rfl rfl (Rd.pick_f rfl rfl rfl) ?_
  refine WL.rd rfl rfl rfl (Rd.assign rfl rfl) ?_
  refine WL.nil ?_
  refine thenQ.normal ?_
  refine WC.ret (Ret.one Tryz.results78 rfl ?_)
  first
   | (have e : mayB s f z i = false := decide_eq_false Z.W
      rw [e] at hk
      exact hk)
   | (have e : mayB s f z i = !decide (f ≤ i ∧ i < f + z) := by
       unfold mayB
       rw [Bool.eq_iff_iff]
       simp only [decide_eq_true_eq, Bool.not_eq_true', decide_eq_false_iff_not]
       omega
      rw [e] at hk
      exact hk)
   | (have e : mayB s f z i = decide (¬ (f ≤ i ∧ i < f + z)) := by
       unfold mayB
       rw [decide_eq_decide]
       omega
      rw [e] at hk
      exact hk)
set_option maxRecDepth 20000 in
theorem most_spec (hl : logR l d f z ∈ R) (hz : 0 ≤ z ∧ z ≤ 5000) (hk : POST (.int .i64 (z - 1)) R O) : Fun Tryz.prog 32 #[dp l] R O POST := by
 refine Fun.enter (l := [_]) Tryz.func32 rfl Tryz.ntmps32 rfl (L0 := [(0, _)]) rfl ?_
 refine WC.seq ?_
 refine WC.region ?_
 refine WL.rd rfl rfl rfl (Rd.assign rfl rfl) ?_
 refine WL.nil ?_
 refine thenQ.normal ?_
 refine WC.seq ?_
 refine WC.seq ?_
 refine WC.region ?_
 refine WL.rd rfl rfl rfl (Rd.move rfl rfl) ?_
 refine WL.rd rfl rfl rfl (Rd.peqN rfl Tryz.underlying61 rfl rfl) ?_
 refine WL.nil ?_
 refine thenQ.normal ?_
 refine WC.cond rfl (fun hc1 => ?_) (fun hc1 => ?_)
 ·
  simp at hc1
 ·
  refine WC.skip ?_
  refine thenQ.normal ?_
  refine WC.seq ?_
  refine WC.region ?_
  refine WL.rd rfl rfl rfl (Rd.move rfl rfl) ?_
  refine WL.rd rfl rfl rfl (Rd.nilc rfl rfl) ?_
  refine WL.rd rfl rfl rfl ((by exact Rd.field rfl F98_2 rfl rfl)) ?_
  refine WL.rd rfl rfl rfl (Rd.getGl (off := 2) rfl C3 rfl hl rfl) ?_
  refine WL.rd rfl rfl rfl (Rd.sub rfl rfl rfl Z.W) ?_
  refine WL.rd rfl rfl rfl (Rd.assign rfl rfl) ?_
  refine WL.nil ?_
  refine thenQ.normal ?_
  refine WC.ret (Ret.one Tryz.results32 rfl ?_)
  exact hk
set_option maxRecDepth 20000 in
set_option maxHeartbeats 2000000 in
theorem walHead_spec {x : List Chg} {xv : Value} (ht : tabR ∈ R) (hx : SlE encC xv x ∈ R) (hc : Chgs x) (hn : x.length ≤ 64) (hk : POST (vs (headB x)) R O) : Fun Tryz.prog 79 #[xv] R O POST := by
 have hhl := hdB_len x
 have hal : (allB x).length ≤ 200000 := by
  unfold allB
  rw [List.length_append, flat_full_len (fun c hc' => (hc c hc').2.2)]; omega
 have hsum := sumE_lt (allB x)
 refine Fun.enter (l := [_]) Tryz.func79 rfl Tryz.ntmps79 rfl (L0 := [(0, _)]) rfl ?_
 refine WC.seq ?_
 refine WC.region ?_
 refine WL.rd rfl rfl rfl (Rd.assign rfl rfl) ?_
 refine WL.nil ?_
 refine thenQ.normal ?_
 refine WC.seq ?_
 refine WC.region ?_
 refine WL.rd rfl rfl rfl (Rd.move rfl rfl) ?_
 refine WL.rd rfl rfl rfl ((by exact Rd.lenE rfl rfl Tryz.underlying99 Z.M)) ?_
 refine WL.rd rfl rfl rfl (Rd.convw (kd' := .u8) rfl rfl Tryz.underlying5 (hS := Tryz.underlying3)) ?_
 refine WL.say 13 (u := vy (byteOf x.length)) rfl (by rw [byte_wrap]) ?_
 refine WL.op rfl ?_
 refine OpW.buildSl (ps := [(0, _)]) rfl S70 Z.E rfl rfl Z.C Z.K rfl rfl rfl ?_; intro b14
 refine WL.rd rfl rfl rfl (Rd.strOfR (bs := [byteOf x.length]) rfl Tryz.underlying70 Tryz.underlying9 Tryz.underlying5 rfl Z.M rfl rfl Z.W) ?_
 refine WL.rd rfl rfl rfl (Rd.scat rfl rfl rfl (by show 2 + 1 ≤ _; omega)) ?_
 refine WL.rd rfl rfl rfl (Rd.assign rfl rfl) ?_
 refine WL.nil ?_
 refine thenQ.normal ?_
 refine WC.seq ?_
 refine WC.seq ?_
 refine WC.region ?_
 refine WL.rd rfl rfl rfl (Rd.move rfl rfl) ?_
 refine WL.rd rfl rfl rfl ((by exact Rd.lenE rfl rfl Tryz.underlying99 Z.M)) ?_
 refine WL.rd rfl rfl rfl (Rd.move rfl rfl) ?_
 refine WL.nil ?_
 refine thenQ.normal ?_
 refine WC.block ?_
 refine WC.pick [3, 19, 0, 17, 18] Z.P ?_
 refine WC.loop1 2 (fun (j : Nat) => [(3, vs ([87, 76, byteOf x.length] ++ (x.take j).flatMap fun c => [byteOf (c.1.toNat / 256), byteOf c.1.toNat])), (19, .int .i64 (j : Int))]) (fun (j : Nat) => O) (fun (j : Nat) => j ≤ x.length) (fun (j : Nat) => x.length - j) (0) Z.L ?hinv1 (by repeat (first | exact Sub.nil | refine Sub.cons rfl (by rfl) ?_)) Z.F ?_
 case hinv1 =>
  exact Nat.zero_le _
 intro j
 rintro j1
 refine WC.seq ?_
 refine WC.region ?_
 refine WL.rd rfl rfl rfl (Rd.lss rfl rfl rfl) ?_
 refine WL.nil ?_
 refine thenQ.normal ?_
 refine WC.seq ?_
 refine WC.ite rfl (fun hc1 => ?_) (fun hc1 => ?_)
 ·
  obtain ⟨hc1', hc2', hc3'⟩ := hc _ (chg_mem (x := x) (j := j) Z.W)
  have hpl : ([87, 76, byteOf x.length] ++ (x.take j).flatMap fun c => [byteOf (c.1.toNat / 256), byteOf c.1.toNat]).length = 3 + 2 * j := by
   have := hdB_len (x.take j)
   unfold hdB at this
   rw [List.length_append] at this ⊢
   rw [List.length_take, Nat.min_eq_left Z.W] at this
   exact this
  have hnx := flat_next (g := fun c : Chg => [byteOf (c.1.toNat / 256), byteOf c.1.toNat]) (x := x) (j := j) Z.W
  obtain ⟨c, hcc⟩ : ∃ c, c = x[j]! := ⟨_, rfl⟩
  rw [← hcc] at hc1' hc2' hc3' hnx
  refine WC.skip ?_
  refine thenQ.normal ?_
  refine WC.seq ?_
  refine WC.block ?_
  refine WC.seq ?_
  refine WC.region ?_
  refine WL.rd rfl rfl rfl ((by exact Rd.idx rfl S99 rfl rfl rfl Z.M Z.W)) ?_
  refine WL.rd rfl rfl rfl (Rd.getS (k := j) (a := c) (cs := [.int .i64 c.1, vs c.2]) (enc := encC) (xs := x) rfl G145 rfl Z.M (fun _ => rfl) (by rw [hcc]; exact get!_of_lt Z.W) Z.N) ?_
  refine WL.op rfl ?_
  refine OpW.alloc rfl I145 rfl Z.N rfl rfl ?_; intro b5
  refine WL.op rfl ?_
  refine OpW.storeS rfl G145 rfl rfl Z.N Z.T rfl rfl Z.N rfl ?_
  refine WL.nil ?_
  refine thenQ.normal ?_
  refine WC.region ?_
  refine WL.rd rfl rfl rfl (Rd.move rfl rfl) ?_
  refine WL.rd rfl rfl rfl ((by exact Rd.field rfl F145_0 rfl rfl)) ?_
  refine WL.rd rfl rfl rfl (Rd.row1 (off := 0) (u := .int .i64 c.1) rfl C3 rfl Z.M rfl) ?_
  refine WL.rd rfl rfl rfl (Rd.shrN (a := c.1.toNat) (n := 8) rfl rfl rfl Z.W rfl (by decide)) ?_
  refine WL.rd rfl rfl rfl (Rd.convw (kd' := .u8) rfl rfl Tryz.underlying5 (hS := Tryz.underlying3)) ?_
  refine WL.say 27 (u := vy (byteOf (c.1.toNat / 256))) rfl (by rw [byte_wrap]) ?_
  refine WL.rd rfl rfl rfl ((by exact Rd.field rfl F145_0 rfl rfl)) ?_
  refine WL.rd rfl rfl rfl (Rd.row1 (off := 0) (u := .int .i64 c.1) rfl C3 rfl Z.M rfl) ?_
  refine WL.rd rfl rfl rfl (Rd.convw (kd' := .u8) rfl rfl Tryz.underlying5 (hS := Tryz.underlying3)) ?_
  refine WL.say 30 (u := vy (byteOf c.1.toNat)) rfl (by show Value.int .u8 (IntKind.u8.wrap c.1) = Value.int .u8 ((byteOf c.1.toNat).toNat : Int); rw [← byte_wrap, Int.toNat_of_nonneg hc1']) ?_
  refine WL.op rfl ?_
  refine OpW.buildSl (ps := [(0, _), (1, _)]) rfl S70 Z.E rfl rfl Z.C Z.K rfl rfl rfl ?_; intro b31
  refine WL.rd rfl rfl rfl (Rd.strOfR (bs := [byteOf (c.1.toNat / 256), byteOf c.1.toNat]) rfl Tryz.underlying70 Tryz.underlying9 Tryz.underlying5 rfl Z.M rfl rfl Z.W) ?_
  refine WL.rd rfl rfl rfl (Rd.scat rfl rfl rfl (by rw [hpl]; show _ + 2 ≤ _; omega)) ?_
  refine WL.rd rfl rfl rfl (Rd.assign rfl rfl) ?_
  refine WL.nil ?_
  refine blockQ.normal ?_
  refine thenQ.normal ?_
  refine WC.region ?_
  refine WL.rd rfl rfl rfl (Rd.add rfl rfl rfl Z.W) ?_
  refine WL.rd rfl rfl rfl (Rd.move rfl rfl) ?_
  refine WL.nil ?_
  exact loopQ1.mk (j + 1) Z.W Z.W (by refine Sub.cons rfl (by rw [hnx, List.append_assoc]) ?_; exact (by repeat (first | exact Sub.nil | refine Sub.cons rfl (by rfl) ?_))) Z.F
 ·
  obtain rfl : j = x.length := by omega
  have hhd : ([87, 76, byteOf x.length] ++ (x.take x.length).flatMap fun c => [byteOf (c.1.toNat / 256), byteOf c.1.toNat]) = hdB x := by rw [List.take_length]; rfl
  rw [hhd]
  refine WC.exit ?_
  refine thenQ.exit ?_
  refine loopQ1.exit ?_
  refine blockQ.exit ?_
  refine thenQ.normal ?_
  refine WC.seq ?_
  refine WC.region ?_
  refine WL.op rfl ?_
  refine OpW.alloc rfl I113 rfl Z.N rfl rfl ?_; intro b6
  refine WL.nil ?_
  refine thenQ.normal ?_
  refine WC.seq ?_
  refine WC.heap (fun w h => (h.accNil (α := UInt8) (e := 5) (size := 1) (enc := SL.one vy)).swap) ?_
  refine WC.region ?_
  refine WL.rd rfl rfl rfl (Rd.move rfl rfl) ?_
  refine WL.op rfl ?_
  refine OpW.call rfl rfl Z.E Z.K rfl rfl rfl ?_
  refine bws_spec (off := 0) (bs := []) (.inl rfl) rfl rfl Z.K (by rw [hhl]; simp; omega) ?_; intro v36 hv36
  refine WL.nil ?_
  refine thenQ.normal ?_
  refine WC.seq ?_
  refine WC.seq ?_
  refine WC.region ?_
  refine WL.rd rfl rfl rfl (Rd.move rfl rfl) ?_
  refine WL.rd rfl rfl rfl ((by exact Rd.lenE rfl rfl Tryz.underlying99 Z.M)) ?_
  refine WL.rd rfl rfl rfl (Rd.move rfl rfl) ?_
  refine WL.nil ?_
  refine thenQ.normal ?_
  refine WC.block ?_
  refine WC.pick [39, 3, 6, 37, 38] Z.P ?_
  refine WC.loop2 1 (fun (j : Nat) (v : Value) => [(39, .int .i64 (j : Int))]) (fun (j : Nat) (v : Value) => rowC b6 113 [pself b6 0, v] :: accC 5 1 (SL.one vy) v (hdB x ++ (x.take j).flatMap fun c => fullE c.2) :: O) (fun (j : Nat) (v : Value) => j ≤ x.length ∧ OneV v) (fun (j : Nat) (v : Value) => x.length - j) (0) (v36) Z.L ?hinv2 (by repeat (first | exact Sub.nil | refine Sub.cons rfl (by rfl) ?_)) (fun w h => by rw [List.take_zero, List.flatMap_nil, List.append_nil]; exact Z.Fw h) ?_
  case hinv2 =>
   exact ⟨Nat.zero_le _, hv36⟩
  intro j v
  rintro ⟨j1, j2⟩
  refine WC.seq ?_
  refine WC.region ?_
  refine WL.rd rfl rfl rfl (Rd.lss rfl rfl rfl) ?_
  refine WL.nil ?_
  refine thenQ.normal ?_
  refine WC.seq ?_
  refine WC.ite rfl (fun hc2 => ?_) (fun hc2 => ?_)
  ·
   obtain ⟨hc1', hc2', hc3'⟩ := hc _ (chg_mem (x := x) (j := j) Z.W)
   have hnx := flat_next (g := fun c : Chg => fullE c.2) (x := x) (j := j) Z.W
   have hpl : ((x.take j).flatMap fun c : Chg => fullE c.2).length = 512 * j := by
    rw [flat_full_len (fun c hc' => (hc c (List.mem_of_mem_take hc')).2.2), List.length_take, Nat.min_eq_left Z.W]
   obtain ⟨c, hcc⟩ : ∃ c, c = x[j]! := ⟨_, rfl⟩
   rw [← hcc] at hc1' hc2' hc3' hnx
   have hfl := full_len hc3'
   refine WC.skip ?_
   refine thenQ.normal ?_
   refine WC.seq ?_
   refine WC.block ?_
   refine WC.seq ?_
   refine WC.region ?_
   refine WL.rd rfl rfl rfl ((by exact Rd.idx rfl S99 rfl rfl rfl Z.M Z.W)) ?_
   refine WL.rd rfl rfl rfl (Rd.getS (k := j) (a := c) (cs := [.int .i64 c.1, vs c.2]) (enc := encC) (xs := x) rfl G145 rfl Z.M (fun _ => rfl) (by rw [hcc]; exact get!_of_lt Z.W) Z.N) ?_
   refine WL.op rfl ?_
   refine OpW.alloc rfl I145 rfl Z.N rfl rfl ?_; intro b8
   refine WL.op rfl ?_
   refine OpW.storeS rfl G145 rfl rfl Z.N Z.T rfl rfl Z.N rfl ?_
   refine WL.nil ?_
   refine thenQ.normal ?_
   refine WC.drawn (rowC b8 145 [.int .i64 c.1, vs c.2] :: O) 9 rfl mixed ?_
   refine WD.take 0 rfl Z.K Z.H rfl rfl rfl ((by exact Rd.field rfl F145_1 rfl rfl)) ?_
   refine WD.take 1 rfl Z.K Z.H rfl rfl rfl (Rd.row1 (off := 1) (u := vs c.2) rfl C9 rfl Z.M rfl) ?_
   refine WD.take 2 rfl Z.K Z.H rfl rfl rfl ((by exact Rd.field rfl F145_1 rfl rfl)) ?_
   refine WD.take 3 rfl Z.K Z.H rfl rfl rfl (Rd.row1 (off := 1) (u := vs c.2) rfl C9 rfl Z.M rfl) ?_
   refine WD.take 4 rfl Z.K Z.H rfl rfl rfl (Rd.slen (ts := #[]) (ty := 0) rfl rfl Tryz.underlying9) ?_
   refine WD.take 5 rfl Z.K Z.H rfl rfl rfl (Rd.sub rfl rfl rfl Z.W) ?_
   refine WD.one 6 rfl Z.K rfl ?_
   refine OpW.call rfl rfl Z.E Z.K rfl rfl rfl ?_
   refine Fun.below (v := vs (Lib.repeatL [0] (512 - c.2.length))) (fun w => by
    have := Tryz.strings_Repeat ⟨#[0]⟩ (512 - c.2.length) w Z.W (by show 1 * _ ≤ _; omega)
    rw [show ((512 - c.2.length : Nat) : Int) = 512 - (c.2.length : Int) from by omega] at this
    exact this) ?_
   rw [se_repeat_zero]
   refine ⟨Z.H, ?_⟩
   refine WD.take 7 rfl Z.K Z.H rfl rfl rfl (Rd.scat rfl rfl rfl (by rw [List.length_replicate]; omega)) ?_
   refine WD.say 50 (u := vs (fullE c.2)) rfl rfl ?_
   refine WD.one 8 rfl Z.K rfl ?_
   refine OpW.call rfl rfl Z.E Z.K rfl rfl rfl ?_
   refine Fun.heap (R' := R) (O' := rowC b6 113 [pself b6 0, v] :: accC 5 1 (SL.one vy) v (hdB x ++ (x.take j).flatMap fun c => fullE c.2) :: rowC b8 145 [.int .i64 c.1, vs c.2] :: O) Z.F ?_
   refine bws_spec (off := 0) (.inr rfl) rfl rfl Z.K (by rw [List.length_append, hhl, hpl, hfl]; omega) ?_; intro v51 hv51
   refine ⟨Z.H, ?_⟩
   refine WD.done Z.K ?_
   refine blockQ.normal ?_
   refine thenQ.normal ?_
   refine WC.region ?_
   refine WL.rd rfl rfl rfl (Rd.add rfl rfl rfl Z.W) ?_
   refine WL.rd rfl rfl rfl (Rd.move rfl rfl) ?_
   refine WL.nil ?_
   exact loopQ2.mk (j + 1) v51 ⟨by omega, hv51⟩ Z.W (by repeat (first | exact Sub.nil | refine Sub.cons rfl (by rfl) ?_)) (fun w h => by rw [hnx, ← List.append_assoc]; exact Z.Fw h)
  ·
   obtain rfl : j = x.length := by omega
   have hall : (hdB x ++ (x.take x.length).flatMap fun c => fullE c.2) = allB x := by rw [List.take_length]; rfl
   rw [hall]
   refine WC.exit ?_
   refine thenQ.exit ?_
   refine loopQ2.exit ?_
   refine blockQ.exit ?_
   refine thenQ.normal ?_
   refine WC.seq ?_
   refine WC.region ?_
   refine WL.op rfl ?_
   refine OpW.call rfl rfl Z.E Z.K rfl rfl rfl ?_
   refine bstr_spec (off := 0) rfl ?_
   refine WL.op rfl ?_
   refine OpW.call rfl rfl Z.E Z.K rfl rfl rfl ?_
   refine crcSum_spec ht Z.W ?_
   refine WL.rd rfl rfl rfl (Rd.assign rfl rfl) ?_
   refine WL.say 3 (u := vs (hdB x ++ (le4 (sumE (allB x))).take 0)) rfl (by rw [List.take_zero, List.append_nil]) ?_
   refine WL.nil ?_
   refine thenQ.normal ?_
   refine WC.seq ?_
   refine WC.seq ?_
   refine WC.region ?_
   refine WL.rd rfl rfl rfl (Rd.move rfl rfl) ?_
   refine WL.nil ?_
   refine thenQ.normal ?_
   refine WC.block ?_
   refine WC.pick [3, 55, 9] Z.P ?_
   refine WC.loop1 2 (fun (i : Nat) => [(3, vs (hdB x ++ (le4 (sumE (allB x))).take i)), (55, .int .i64 (i : Int))]) (fun (i : Nat) => O) (fun (i : Nat) => i ≤ 4) (fun (i : Nat) => 4 - i) (0) Z.L ?hinv3 (by repeat (first | exact Sub.nil | refine Sub.cons rfl (by rfl) ?_)) Z.F ?_
   case hinv3 =>
    exact Nat.zero_le _
   intro i
   rintro i1
   refine WC.seq ?_
   refine WC.region ?_
   refine WL.rd rfl rfl rfl (Rd.lss rfl rfl rfl) ?_
   refine WL.nil ?_
   refine thenQ.normal ?_
   refine WC.seq ?_
   refine WC.ite rfl (fun hc3 => ?_) (fun hc3 => ?_)
   ·
    have hls := le4_sn (sumE (allB x)) i
    rw [if_pos Z.W] at hls
    have hlt : ((le4 (sumE (allB x))).take i).length ≤ 4 := by rw [List.length_take]; simp [le4]; omega
    refine WC.skip ?_
    refine thenQ.normal ?_
    refine WC.seq ?_
    refine WC.block ?_
    refine WC.seq ?_
    refine WC.region ?_
    refine WL.rd rfl rfl rfl (Rd.move rfl rfl) ?_
    refine WL.rd rfl rfl rfl (Rd.assign rfl rfl) ?_
    refine WL.nil ?_
    refine thenQ.normal ?_
    refine WC.region ?_
    refine WL.rd rfl rfl rfl (Rd.move rfl rfl) ?_
    refine WL.rd rfl rfl rfl (Rd.move rfl rfl) ?_
    refine WL.rd rfl rfl rfl (Rd.move rfl rfl) ?_
    refine WL.rd rfl rfl rfl (Rd.mul rfl rfl rfl Z.W) ?_
    refine WL.rd rfl rfl rfl (Rd.shrN (a := sumE (allB x)) (n := 8 * i) rfl rfl rfl rfl Z.W (by show 8 * i ≤ 32; omega)) ?_
    refine WL.rd rfl rfl rfl (Rd.convw (kd' := .u8) rfl rfl Tryz.underlying5 (hS := Tryz.underlying134)) ?_
    refine WL.say 63 (u := vy (UInt8.ofNat (sumE (allB x) / 256 ^ i % 256))) rfl (by rw [wrap_byte, show (2 : Nat) ^ (8 * i) = 256 ^ i from by rw [Nat.pow_mul]]) ?_
    refine WL.op rfl ?_
    refine OpW.buildSl (ps := [(0, _)]) rfl S70 Z.E rfl rfl Z.C Z.K rfl rfl rfl ?_; intro b64
    refine WL.rd rfl rfl rfl (Rd.strOfR (bs := [UInt8.ofNat (sumE (allB x) / 256 ^ i % 256)]) rfl Tryz.underlying70 Tryz.underlying9 Tryz.underlying5 rfl Z.M rfl rfl Z.W) ?_
    refine WL.rd rfl rfl rfl (Rd.scat rfl rfl rfl (by rw [List.length_append, hhl]; show _ + 1 ≤ _; omega)) ?_
    refine WL.rd rfl rfl rfl (Rd.assign rfl rfl) ?_
    refine WL.nil ?_
    refine blockQ.normal ?_
    refine thenQ.normal ?_
    refine WC.region ?_
    refine WL.rd rfl rfl rfl (Rd.add rfl rfl rfl Z.W) ?_
    refine WL.rd rfl rfl rfl (Rd.move rfl rfl) ?_
    refine WL.nil ?_
    exact loopQ1.mk (i + 1) Z.W Z.W (by refine Sub.cons rfl (by rw [hls, List.append_assoc]) ?_; exact (by repeat (first | exact Sub.nil | refine Sub.cons rfl (by rfl) ?_))) Z.F
   ·
    refine WC.exit ?_
    refine thenQ.exit ?_
    refine loopQ1.exit ?_
    refine blockQ.exit ?_
    refine thenQ.normal ?_
    refine WC.seq ?_
    refine WC.region ?_
    refine WL.rd rfl rfl rfl (Rd.move rfl rfl) ?_
    refine WL.rd rfl rfl rfl (Rd.assign rfl rfl) ?_
    refine WL.nil ?_
    refine thenQ.normal ?_
    obtain rfl : i = 4 := by omega
    have e4 : (le4 (sumE (allB x))).take 4 = le4 (sumE (allB x)) := rfl
    rw [e4]
    refine WC.heap (R' := R) (O' := O) Z.F ?_
    refine WC.ret (Ret.one Tryz.results79 rfl ?_)
    exact hk
set_option maxRecDepth 20000 in
set_option maxHeartbeats 2000000 in
theorem walMake_spec {x : List Chg} {xv : Value} (hl : logR l d f z ∈ R) (hx : SlE encC xv x ∈ R) (dk : Dk s m) (hm : m + x.length ≤ 4294967290) (hv : VOk V s) (hkeep : SlE (SL.one vi) V.kv s.keep ∈ R)
 (hk : ∀ V', VOk V' (makeS s x).1 → V'.kv = V.kv → POST (.int .i64 ((makeS s x).2 : Nat)) R (dO d V' (makeS s x).1 O)) : Fun Tryz.prog 49 #[dp l, xv] R (dO d V s O) POST := by
 refine Fun.len hx fun hxl => ?_
 obtain ⟨dk1, _, hkp1⟩ := run_dk (x := x) dk
 refine Fun.enter (l := [_, _]) Tryz.func49 rfl Tryz.ntmps49 rfl (L0 := [(0, _), (1, _)]) rfl ?_
 refine WC.seq ?_
 refine WC.region ?_
 refine WL.rd rfl rfl rfl (Rd.assign rfl rfl) ?_
 refine WL.nil ?_
 refine thenQ.normal ?_
 refine WC.seq ?_
 refine WC.seq ?_
 refine WC.region ?_
 refine WL.rd rfl rfl rfl (Rd.move rfl rfl) ?_
 refine WL.rd rfl rfl rfl ((by exact Rd.lenE rfl rfl Tryz.underlying99 Z.M)) ?_
 refine WL.rd rfl rfl rfl (Rd.move rfl rfl) ?_
 refine WL.nil ?_
 refine thenQ.normal ?_
 refine WC.block ?_
 refine WC.pick [10, 0, 8, 9] Z.P ?_
 refine WC.loop3 1 (fun (j : Nat) (t : DSt) (U : DV) => [(10, .int .i64 (j : Int))]) (fun (j : Nat) (t : DSt) (U : DV) => dO d U t O) (fun (j : Nat) (t : DSt) (U : DV) => j ≤ x.length ∧ Dk t (m + j) ∧ VOk U t ∧ U.kv = V.kv ∧ t.keep = s.keep ∧ runP s x = runP t (x.drop j)) (fun (j : Nat) (t : DSt) (U : DV) => x.length - j) (0) (s) (V) Z.L ?hinv1 (by repeat (first | exact Sub.nil | refine Sub.cons rfl (by rfl) ?_)) (fun _ h => h) ?_
 case hinv1 =>
  exact ⟨Nat.zero_le _, dk, hv, rfl, rfl, rfl⟩
 intro j t U
 rintro ⟨j1, dkt, hu, hkv, hkp, hrun⟩
 refine WC.seq ?_
 refine WC.region ?_
 refine WL.rd rfl rfl rfl (Rd.lss rfl rfl rfl) ?_
 refine WL.nil ?_
 refine thenQ.normal ?_
 refine WC.seq ?_
 refine WC.ite rfl (fun hc1 => ?_) (fun hc1 => ?_)
 ·
  have hat := run_at (j := j) Z.W hrun
  obtain ⟨c, hcc⟩ : ∃ c, c = x[j]! := ⟨_, rfl⟩
  rw [← hcc] at hat
  refine WC.skip ?_
  refine thenQ.normal ?_
  refine WC.seq ?_
  refine WC.block ?_
  refine WC.seq ?_
  refine WC.region ?_
  refine WL.rd rfl rfl rfl ((by exact Rd.idx rfl S99 rfl rfl rfl Z.M Z.W)) ?_
  refine WL.rd rfl rfl rfl (Rd.getS (k := j) (a := c) (cs := [.int .i64 c.1, vs c.2]) (enc := encC) (xs := x) rfl G145 rfl Z.M (fun _ => rfl) (by rw [hcc]; exact get!_of_lt Z.W) Z.N) ?_
  refine WL.op rfl ?_
  refine OpW.alloc rfl I145 rfl Z.N rfl rfl ?_; intro b6
  refine WL.op rfl ?_
  refine OpW.storeS rfl G145 rfl rfl Z.N Z.T rfl rfl Z.N rfl ?_
  refine WL.nil ?_
  refine thenQ.normal ?_
  refine WC.seq ?_
  refine WC.tail 8 mixed Z.K ?_
  refine WS.rd rfl rfl rfl (Rd.move rfl rfl) ?_
  refine WS.rd rfl rfl rfl (Rd.nilc rfl rfl) ?_
  refine WS.rd rfl rfl rfl ((by exact Rd.field rfl F98_0 rfl rfl)) ?_
  refine WS.rd rfl rfl rfl (Rd.getGl (off := 0) (u := dp d) rfl C25 rfl hl rfl) ?_
  refine WS.rd rfl rfl rfl ((by exact Rd.field rfl F145_0 rfl rfl)) ?_
  refine WS.rd rfl rfl rfl (Rd.row1 (off := 0) (u := .int .i64 c.1) rfl C3 rfl Z.M rfl) ?_
  refine WS.rd rfl rfl rfl ((by exact Rd.field rfl F145_1 rfl rfl)) ?_
  refine WS.rd rfl rfl rfl (Rd.row1 (off := 1) (u := vs c.2) rfl C9 rfl Z.M rfl) ?_
  refine WS.switch ?_
  refine WL.op rfl ?_
  refine OpW.call rfl rfl Z.E Z.K rfl rfl rfl ?_
  refine Fun.heap (R' := R) (O' := dO d U t (rowC b6 145 [.int .i64 c.1, vs c.2] :: O)) Z.F ?_
  refine write_spec dkt.ok Z.W hu (by rw [hkv, hkp]; exact hkeep) ?_; intro U1 hu1 hku1
  refine WL.rd rfl rfl rfl (Rd.assign rfl rfl) ?_
  refine WL.nil ?_
  refine thenQ.normal ?_
  refine WC.seq ?_
  refine WC.region ?_
  refine WL.rd rfl rfl rfl (Rd.move rfl rfl) ?_
  refine WL.rd rfl rfl rfl (Rd.neq rfl rfl rfl) ?_
  refine WL.nil ?_
  refine thenQ.normal ?_
  refine WC.ite rfl (fun hc2 => ?_) (fun hc2 => ?_)
  ·
   rw [if_pos Z.W] at hat
   have hfin : makeS s x = (putS t c.1 c.2, dputE t c.1 c.2) := by unfold makeS thenE; rw [hat, if_pos (by show dputE t c.1 c.2 ≠ 0; omega)]
   rw [hfin] at hk
   refine WC.seq ?_
   refine WC.region ?_
   refine WL.rd rfl rfl rfl (Rd.move rfl rfl) ?_
   refine WL.rd rfl rfl rfl (Rd.assign rfl rfl) ?_
   refine WL.nil ?_
   refine thenQ.normal ?_
   refine WC.heap (R' := R) (O' := dO d U1 (putS t c.1 c.2) O) Z.F ?_
   refine WC.ret (Ret.one Tryz.results49 rfl ?_)
   exact hk U1 hu1 (hku1.trans hkv)
  ·
   rw [if_neg Z.W] at hat
   refine WC.skip ?_
   refine blockQ.normal ?_
   refine thenQ.normal ?_
   refine WC.region ?_
   refine WL.rd rfl rfl rfl (Rd.add rfl rfl rfl Z.W) ?_
   refine WL.rd rfl rfl rfl (Rd.move rfl rfl) ?_
   refine WL.nil ?_
   exact loopQ3.mk (j + 1) (putS t c.1 c.2) U1 ⟨by omega, (dkt.put _ _).mono Z.W, hu1, hku1.trans hkv, (put_keepW _ _ _).trans hkp, hat⟩ Z.W (by repeat (first | exact Sub.nil | refine Sub.cons rfl (by rfl) ?_)) Z.F
 ·
  obtain rfl : j = x.length := by omega
  have hr0 : runP s x = (t, 0) := by rw [hrun, List.drop_length]; rfl
  have hfin : makeS s x = (syncS t, stepE t) := by unfold makeS thenE; rw [hr0, if_neg (fun h => h rfl)]
  rw [hfin] at hk
  refine WC.exit ?_
  refine thenQ.exit ?_
  refine loopQ3.exit ?_
  refine blockQ.exit ?_
  refine thenQ.normal ?_
  refine WC.seq ?_
  refine WC.region ?_
  refine WL.rd rfl rfl rfl (Rd.move rfl rfl) ?_
  refine WL.rd rfl rfl rfl (Rd.nilc rfl rfl) ?_
  refine WL.rd rfl rfl rfl ((by exact Rd.field rfl F98_0 rfl rfl)) ?_
  refine WL.rd rfl rfl rfl (Rd.getGl (off := 0) (u := dp d) rfl C25 rfl hl rfl) ?_
  refine WL.op rfl ?_
  refine OpW.call rfl rfl Z.E Z.K rfl rfl rfl ?_
  refine sync_spec dkt.ok Z.W hu (by rw [hkv, hkp]; exact hkeep) ?_; intro U1 hu1 hku1
  refine WL.rd rfl rfl rfl (Rd.assign rfl rfl) ?_
  refine WL.nil ?_
  refine thenQ.normal ?_
  refine WC.ret (Ret.one Tryz.results49 rfl ?_)
  exact hk U1 hu1 (hku1.trans hkv)
set_option maxRecDepth 20000 in
theorem walSay_spec {h : List UInt8} (hl : logR l d f z ∈ R) (dk : Dk s m) (hm : m ≤ 4294967280) (hv : VOk V s) (hkeep : SlE (SL.one vi) V.kv s.keep ∈ R)
 (hk : ∀ V', VOk V' (sayS s f h).1 → V'.kv = V.kv → POST (.int .i64 ((sayS s f h).2 : Nat)) R (dO d V' (sayS s f h).1 O)) : Fun Tryz.prog 50 #[dp l, vs h] R (dO d V s O) POST := by
 refine Fun.enter (l := [_, _]) Tryz.func50 rfl Tryz.ntmps50 rfl (L0 := [(0, _), (1, _)]) rfl ?_
 refine WC.seq ?_
 refine WC.region ?_
 refine WL.rd rfl rfl rfl (Rd.assign rfl rfl) ?_
 refine WL.nil ?_
 refine thenQ.normal ?_
 refine WC.seq ?_
 refine WC.seq ?_
 refine WC.tail 9 mixed Z.K ?_
 refine WS.rd rfl rfl rfl (Rd.move rfl rfl) ?_
 refine WS.rd rfl rfl rfl (Rd.nilc rfl rfl) ?_
 refine WS.rd rfl rfl rfl ((by exact Rd.field rfl F98_0 rfl rfl)) ?_
 refine WS.rd rfl rfl rfl (Rd.getGl (off := 0) (u := dp d) rfl C25 rfl hl rfl) ?_
 refine WS.rd rfl rfl rfl (Rd.move rfl rfl) ?_
 refine WS.rd rfl rfl rfl (Rd.nilc rfl rfl) ?_
 refine WS.rd rfl rfl rfl ((by exact Rd.field rfl F98_1 rfl rfl)) ?_
 refine WS.rd rfl rfl rfl (Rd.getGl (off := 1) (u := .int .i64 f) rfl C3 rfl hl rfl) ?_
 refine WS.rd rfl rfl rfl (Rd.move rfl rfl) ?_
 refine WS.switch ?_
 refine WL.op rfl ?_
 refine OpW.call rfl rfl Z.E Z.K rfl rfl rfl ?_
 refine write_spec dk.ok Z.W hv hkeep ?_; intro U1 hu1 hku1
 refine WL.rd rfl rfl rfl (Rd.assign rfl rfl) ?_
 refine WL.nil ?_
 refine thenQ.normal ?_
 refine WC.seq ?_
 refine WC.region ?_
 refine WL.rd rfl rfl rfl (Rd.move rfl rfl) ?_
 refine WL.rd rfl rfl rfl (Rd.neq rfl rfl rfl) ?_
 refine WL.nil ?_
 refine thenQ.normal ?_
 refine WC.ite rfl (fun hc1 => ?_) (fun hc1 => ?_)
 ·
  have hfin : sayS s f h = (putS s f h, dputE s f h) := by rw [say_is, if_pos Z.W]
  rw [hfin] at hk
  refine WC.seq ?_
  refine WC.region ?_
  refine WL.rd rfl rfl rfl (Rd.move rfl rfl) ?_
  refine WL.rd rfl rfl rfl (Rd.assign rfl rfl) ?_
  refine WL.nil ?_
  refine thenQ.normal ?_
  refine WC.ret (Ret.one Tryz.results50 rfl ?_)
  exact hk U1 hu1 hku1
 ·
  have hfin : sayS s f h = (syncS (putS s f h), stepE (putS s f h)) := by rw [say_is, if_neg Z.W]
  rw [hfin] at hk
  refine WC.skip ?_
  refine thenQ.normal ?_
  refine WC.seq ?_
  refine WC.region ?_
  refine WL.rd rfl rfl rfl (Rd.move rfl rfl) ?_
  refine WL.rd rfl rfl rfl (Rd.nilc rfl rfl) ?_
  refine WL.rd rfl rfl rfl ((by exact Rd.field rfl F98_0 rfl rfl)) ?_
  refine WL.rd rfl rfl rfl (Rd.getGl (off := 0) (u := dp d) rfl C25 rfl hl rfl) ?_
  refine WL.op rfl ?_
  refine OpW.call rfl rfl Z.E Z.K rfl rfl rfl ?_
  refine sync_spec (dk.put _ _).ok Z.W hu1 (by rw [hku1, put_keepW]; exact hkeep) ?_; intro U2 hu2 hku2
  refine WL.rd rfl rfl rfl (Rd.assign rfl rfl) ?_
  refine WL.nil ?_
  refine thenQ.normal ?_
  refine WC.ret (Ret.one Tryz.results50 rfl ?_)
  exact hk U2 hu2 (hku2.trans hku1)
end
end Go.Proofs.YtckokhdjeifomaaGreatDoor
namespace Go.Proofs.YtckokhdjeifomaaGreatDoor
open Go Go.SL
theorem fits_iff {s : DSt} {f z : Int} (h : fitsB s f z = true) : 0 ≤ f ∧ 2 ≤ z ∧ z ≤ 65 ∧ f + z ≤ (s.lasts.length : Int) := of_decide_eq_true h
theorem may_iff {s : DSt} {f z i : Int} (h : mayB s f z i = true) : 0 ≤ i ∧ i < (s.lasts.length : Int) ∧ ¬ (f ≤ i ∧ i < f + z) := of_decide_eq_true h
theorem said_chgs {s : DSt} {f z : Int} {m : Nat} (dk : Dk s m) (hf : fitsB s f z = true) (h0 : (readE s f).2 = 0) {n : Nat} (hn : (n : Int) ≤ z - 1) : Chgs (decN s f (readE s f).1 n) := by
 intro c hc
 obtain ⟨j, hj, rfl⟩ := List.mem_map.1 hc
 have hjn := List.mem_range.1 hj
 obtain ⟨h1, h2, h3⟩ := read_ok dk.w h0
 obtain ⟨f1, f2, f3, f4⟩ := fits_iff hf
 have a8 := UInt8.toNat_lt (readE s f).1[3 + 2 * j]!
 have b8 := UInt8.toNat_lt (readE s f).1[4 + 2 * j]!
 have hb : hasB s (f + 1 + (j : Int)) = true := by unfold hasB; rw [decide_eq_true_eq]; omega
 refine ⟨by show (0 : Int) ≤ ((_ : Nat) : Int); omega, by show ((_ : Nat) : Int) < 65536; omega, ?_⟩
 show (readE s (f + 1 + (j : Int))).1.length ≤ 512
 rw [(read_ok dk.w (read_0 hb h3)).1]; exact Nat.le_refl _
def logO (po : Option Nat) (d : Nat) (f z : Int) : RO := fun w => ∀ l, po = some l → logR l d f z w
section
variable {R : List RO} {O : List Own} {POST : Value → List RO → List Own → Prop} {d l m : Nat} {V : DV} {s : DSt} {f z : Int}
set_option maxRecDepth 20000 in
set_option maxHeartbeats 4000000 in
theorem said_spec (ht : tabR ∈ R) (hl : logR l d f z ∈ R) (dk : Dk s m) (hm : m ≤ 4294967290) (hf : fitsB s f z = true)
 (hk : ∀ v, POST (.tuple #[v, .int .i64 ((saidE s f z).2 : Nat)]) (SlE encC v (saidE s f z).1 :: R) (dO d V s O)) : Fun Tryz.prog 48 #[dp l] R (dO d V s O) POST := by
 have hll := dk.ok.lasts
 obtain ⟨f1, f2, f3, f4⟩ := fits_iff hf
 have hfin := saidE.eq_1 s f z
 refine Fun.enter (l := [_]) Tryz.func48 rfl Tryz.ntmps48 rfl (L0 := [(0, _)]) rfl ?_
 refine WC.seq ?_
 refine WC.region ?_
 refine WL.rd rfl rfl rfl (Rd.assign rfl rfl) ?_
 refine WL.rd rfl rfl rfl (Rd.assign rfl rfl) ?_
 refine WL.nil ?_
 refine thenQ.normal ?_
 refine WC.seq ?_
 refine WC.drawnA 14 rfl mixed ?_
 refine WD.take 0 rfl Z.K Held.all rfl rfl rfl (Rd.move rfl rfl) ?_
 refine WD.take 1 rfl Z.K Held.all rfl rfl rfl (Rd.nilc rfl rfl) ?_
 refine WD.take 2 rfl Z.K Held.all rfl rfl rfl ((by exact Rd.field rfl F98_0 rfl rfl)) ?_
 refine WD.take 3 rfl Z.K Held.all rfl rfl rfl (Rd.getGl (off := 0) (u := dp d) rfl C25 rfl hl rfl) ?_
 refine WD.take 4 rfl Z.K Held.all rfl rfl rfl (Rd.move rfl rfl) ?_
 refine WD.take 5 rfl Z.K Held.all rfl rfl rfl (Rd.nilc rfl rfl) ?_
 refine WD.take 6 rfl Z.K Held.all rfl rfl rfl ((by exact Rd.field rfl F98_1 rfl rfl)) ?_
 refine WD.take 7 rfl Z.K Held.all rfl rfl rfl (Rd.getGl (off := 1) (u := .int .i64 f) rfl C3 rfl hl rfl) ?_
 refine WD.one 8 rfl Z.K rfl ?_
 refine OpW.call rfl rfl Z.E Z.K rfl rfl rfl ?_
 refine read_spec (dk.ok.mono Z.W) ?_
 refine ⟨Z.H, ?_⟩
 refine WD.take 9 rfl Z.K Z.H rfl rfl rfl (Rd.move rfl rfl) ?_
 refine WD.take 10 rfl Z.K Z.H rfl rfl rfl (Rd.extract rfl rfl rfl) ?_
 refine WD.take 11 rfl Z.K Z.H rfl rfl rfl (Rd.extract rfl rfl rfl) ?_
 refine WD.take 12 rfl Z.K Z.H rfl rfl rfl (Rd.assign rfl rfl) ?_
 refine WD.take 13 rfl Z.K Z.H rfl rfl rfl (Rd.assign rfl rfl) ?_
 refine WD.done Z.K ?_
 refine thenQ.normal ?_
 refine WC.seq ?_
 refine WC.seq ?_
 refine WC.region ?_
 refine WL.rd rfl rfl rfl (Rd.move rfl rfl) ?_
 refine WL.rd rfl rfl rfl (Rd.neq rfl rfl rfl) ?_
 refine WL.nil ?_
 refine thenQ.normal ?_
 refine WC.ite rfl (fun hc1 => ?_) (fun hc1 => ?_)
 ·
  rw [if_pos Z.W] at hfin
  refine WC.seq ?_
  refine WC.region ?_
  refine WL.rd rfl rfl rfl (Rd.move rfl rfl) ?_
  refine WL.rd rfl rfl rfl (Rd.assign rfl rfl) ?_
  refine WL.rd rfl rfl rfl (Rd.assign rfl rfl) ?_
  refine WL.nil ?_
  refine thenQ.normal ?_
  refine WC.heap (fun w h => Sat.nilE (α := Chg) (enc := encC) h) ?_
  refine WC.ret (Ret.two Tryz.results48 rfl rfl ?_)
  rw [hfin] at hk
  exact hk _
 ·
  have h0 : (readE s f).2 = 0 := by omega
  rw [if_neg Z.W] at hfin
  obtain ⟨hh1, hh2, hh3⟩ := read_ok dk.w h0
  have hch := fun (n : Nat) (hn : (n : Int) ≤ z - 1) => said_chgs dk hf h0 (n := n) hn
  obtain ⟨h, hhh⟩ : ∃ h, h = (readE s f).1 := ⟨_, rfl⟩
  rw [← hhh] at hfin hh1 hch ⊢
  obtain ⟨n, hn⟩ : ∃ n, n = h[2]!.toNat := ⟨_, rfl⟩
  have hn8 := UInt8.toNat_lt h[2]!
  rw [← hn] at hfin hn8
  refine WC.skip ?_
  refine thenQ.normal ?_
  refine WC.seq ?_
  refine WC.region ?_
  refine WL.rd rfl rfl rfl (Rd.move rfl rfl) ?_
  refine WL.rd rfl rfl rfl (Rd.sidx (k := 2) (b := h[2]!) rfl Tryz.underlying9 rfl rfl rfl (get!_of_lt Z.W)) ?_
  refine WL.rd rfl rfl rfl (Rd.conv (kd' := .i64) rfl rfl Tryz.underlying3 (wrap_i64 (by rw [← hn]; omega)) (hS := Tryz.underlying5)) ?_
  refine WL.say 32 (u := .int .i64 (n : Int)) rfl (by rw [hn]) ?_
  refine WL.rd rfl rfl rfl (Rd.assign rfl rfl) ?_
  refine WL.nil ?_
  refine thenQ.normal ?_
  refine WC.seq ?_
  refine WC.pick [0, 4, 6] Z.P ?_
  refine WC.val 45 (.bool (decide (h.take 2 ≠ [87, 76] ∨ n < 1 ∨ z ≤ (n : Int)))) ?_ ?_
  ·
   refine WC.region ?_
   refine WL.rd rfl rfl rfl (Rd.move rfl rfl) ?_
   refine WL.rd rfl rfl rfl (Rd.scut_h (hi := 2) rfl Tryz.underlying9 rfl rfl rfl Z.W) ?_
   refine WL.rd rfl rfl rfl (Rd.sneq rfl rfl rfl) ?_
   refine WL.rd rfl rfl rfl (Rd.move rfl rfl) ?_
   refine WL.case 36 rfl (fun hg36 => ?_) (fun hg36 => ?_)
   ·
    refine WL.no rfl rfl rfl rfl rfl rfl ?_
    refine WL.no rfl rfl rfl rfl rfl rfl ?_
    refine WL.rd rfl rfl rfl (Rd.pick_t rfl rfl rfl) ?_
    refine WL.rd rfl rfl rfl (Rd.move rfl rfl) ?_
    refine WL.no rfl rfl rfl rfl rfl rfl ?_
    refine WL.no rfl rfl rfl rfl rfl rfl ?_
    refine WL.no rfl rfl rfl rfl rfl rfl ?_
    refine WL.no rfl rfl rfl rfl rfl rfl ?_
    refine WL.rd rfl rfl rfl (Rd.pick_t rfl rfl rfl) ?_
    refine WL.nil ?_
    exact ⟨by repeat (first | exact Sub.nil | refine Sub.cons rfl (by first | rfl | (exact vb_t (.inl hg36))) ?_), by exact (fun _ h => h.thin (SubL.mem Z.S))⟩
   ·
    refine WL.rd_yes rfl rfl rfl rfl rfl rfl (Rd.move rfl rfl) ?_
    refine WL.rd_yes rfl rfl rfl rfl rfl rfl (Rd.lss rfl rfl rfl) ?_
    refine WL.rd rfl rfl rfl (Rd.pick_f rfl rfl rfl) ?_
    refine WL.rd rfl rfl rfl (Rd.move rfl rfl) ?_
    refine WL.case 40 rfl (fun hg40 => ?_) (fun hg40 => ?_)
    ·
     refine WL.no rfl rfl rfl rfl rfl rfl ?_
     refine WL.no rfl rfl rfl rfl rfl rfl ?_
     refine WL.no rfl rfl rfl rfl rfl rfl ?_
     refine WL.no rfl rfl rfl rfl rfl rfl ?_
     refine WL.rd rfl rfl rfl (Rd.pick_t rfl rfl rfl) ?_
     refine WL.nil ?_
     exact ⟨by repeat (first | exact Sub.nil | refine Sub.cons rfl (by first | rfl | (exact vb_t (.inr (.inl Z.W)))) ?_), by exact (fun _ h => h.thin (SubL.mem Z.S))⟩
    ·
     refine WL.rd_yes rfl rfl rfl rfl rfl rfl (Rd.move rfl rfl) ?_
     refine WL.rd_yes rfl rfl rfl rfl rfl rfl (Rd.move rfl rfl) ?_
     refine WL.op_yes rfl rfl rfl rfl ?_
     refine OpW.call rfl rfl Z.E Z.K rfl rfl rfl ?_
     refine most_spec (z := z) hl Z.W ?_
     refine WL.rd_yes rfl rfl rfl rfl rfl rfl (Rd.gtr rfl rfl rfl) ?_
     refine WL.rd rfl rfl rfl (Rd.pick_f rfl rfl rfl) ?_
     refine WL.nil ?_
     exact ⟨by repeat (first | exact Sub.nil | refine Sub.cons rfl (by first | rfl | (exact vb ⟨fun h => .inr (.inr Z.W), fun h => h.elim (fun a => absurd a hg36) (fun h => h.elim (fun b => by omega) (fun b => by omega))⟩)) ?_), by exact (fun _ h => h.thin (SubL.mem Z.S))⟩
  ·
   refine WC.ite rfl (fun hc2 => ?_) (fun hc2 => ?_)
   ·
    rw [if_pos hc2] at hfin
    refine WC.seq ?_
    refine WC.region ?_
    refine WL.rd rfl rfl rfl (Rd.assign rfl rfl) ?_
    refine WL.rd rfl rfl rfl (Rd.assign rfl rfl) ?_
    refine WL.nil ?_
    refine thenQ.normal ?_
    refine WC.heap (fun w h => Sat.nilE (α := Chg) (enc := encC) h) ?_
    refine WC.ret (Ret.two Tryz.results48 rfl rfl ?_)
    rw [hfin] at hk
    exact hk _
   ·
    rw [if_neg hc2] at hfin
    have hn1 : 1 ≤ n := Nat.le_of_not_lt fun hx => hc2 (.inr (.inl hx))
    have hnz : (n : Int) ≤ z - 1 := by
     by_cases hx : z ≤ (n : Int)
     · exact absurd (.inr (.inr hx)) hc2
     · omega
    refine WC.skip ?_
    refine thenQ.normal ?_
    refine WC.seq ?_
    refine WC.region ?_
    refine WL.rd rfl rfl rfl (Rd.assign rfl rfl) ?_
    refine WL.nil ?_
    refine thenQ.normal ?_
    refine WC.seq ?_
    refine WC.seq ?_
    refine WC.region ?_
    refine WL.rd rfl rfl rfl (Rd.move rfl rfl) ?_
    refine WL.rd rfl rfl rfl (Rd.move rfl rfl) ?_
    refine WL.nil ?_
    refine thenQ.normal ?_
    refine WC.block ?_
    refine WC.pick [7, 47, 0, 4, 46] Z.P ?_
    refine WC.loop2 2 (fun (j : Nat) (v : Value) => [(7, v), (47, .int .i64 (j : Int))]) (fun (j : Nat) (v : Value) => dO d V s (accC 145 2 encC v (decN s f h j) :: O)) (fun (j : Nat) (v : Value) => j ≤ n ∧ OneV v) (fun (j : Nat) (v : Value) => n - j) (0) (.slice none 0 0) Z.L ?hinv1 (by repeat (first | exact Sub.nil | refine Sub.cons rfl (by rfl) ?_)) (fun w h => by
    have g1 := h.accNil (α := Chg) (e := 145) (size := 2) (enc := encC)
    exact Z.Fw g1) ?_
    case hinv1 =>
     exact ⟨Nat.zero_le _, OneV.sl⟩
    intro j v
    rintro ⟨j1, j2⟩
    refine WC.seq ?_
    refine WC.region ?_
    refine WL.rd rfl rfl rfl (Rd.lss rfl rfl rfl) ?_
    refine WL.nil ?_
    refine thenQ.normal ?_
    refine WC.seq ?_
    refine WC.ite rfl (fun hc3 => ?_) (fun hc3 => ?_)
    ·
     have hr0 : (readE s (f + 1 + (j : Int))).2 = 0 := read_0 (by unfold hasB; rw [decide_eq_true_eq]; omega) hh3
     have a8 := UInt8.toNat_lt h[3 + 2 * j]!
     have b8 := UInt8.toNat_lt h[4 + 2 * j]!
     have hdl := dec_len s f h j
     refine WC.skip ?_
     refine thenQ.normal ?_
     refine WC.seq ?_
     refine WC.block ?_
     refine WC.seq ?_
     refine WC.region ?_
     refine WL.rd rfl rfl rfl (Rd.move rfl rfl) ?_
     refine WL.rd rfl rfl rfl (Rd.assign rfl rfl) ?_
     refine WL.nil ?_
     refine thenQ.normal ?_
     refine WC.seq ?_
     refine WC.drawnA 17 rfl mixed ?_
     refine WD.take 0 rfl Z.K Held.all rfl rfl rfl (Rd.move rfl rfl) ?_
     refine WD.take 1 rfl Z.K Held.all rfl rfl rfl (Rd.nilc rfl rfl) ?_
     refine WD.take 2 rfl Z.K Held.all rfl rfl rfl ((by exact Rd.field rfl F98_0 rfl rfl)) ?_
     refine WD.take 3 rfl Z.K Held.all rfl rfl rfl (Rd.getGl (off := 0) (u := dp d) rfl C25 rfl hl rfl) ?_
     refine WD.take 4 rfl Z.K Held.all rfl rfl rfl (Rd.move rfl rfl) ?_
     refine WD.take 5 rfl Z.K Held.all rfl rfl rfl (Rd.nilc rfl rfl) ?_
     refine WD.take 6 rfl Z.K Held.all rfl rfl rfl ((by exact Rd.field rfl F98_1 rfl rfl)) ?_
     refine WD.take 7 rfl Z.K Held.all rfl rfl rfl (Rd.getGl (off := 1) (u := .int .i64 f) rfl C3 rfl hl rfl) ?_
     refine WD.take 8 rfl Z.K Held.all rfl rfl rfl (Rd.add rfl rfl rfl Z.W) ?_
     refine WD.take 9 rfl Z.K Held.all rfl rfl rfl (Rd.move rfl rfl) ?_
     refine WD.take 10 rfl Z.K Held.all rfl rfl rfl (Rd.add rfl rfl rfl Z.W) ?_
     refine WD.one 11 rfl Z.K rfl ?_
     refine OpW.call rfl rfl Z.E Z.K rfl rfl rfl ?_
     refine read_spec (dk.ok.mono Z.W) ?_
     refine ⟨Z.H, ?_⟩
     refine WD.take 12 rfl Z.K Z.H rfl rfl rfl (Rd.move rfl rfl) ?_
     refine WD.take 13 rfl Z.K Z.H rfl rfl rfl (Rd.extract rfl rfl rfl) ?_
     refine WD.take 14 rfl Z.K Z.H rfl rfl rfl (Rd.extract rfl rfl rfl) ?_
     refine WD.say 64 (u := .int .i64 0) rfl (by rw [hr0]; rfl) ?_
     refine WD.take 15 rfl Z.K Z.H rfl rfl rfl (Rd.assign rfl rfl) ?_
     refine WD.take 16 rfl Z.K Z.H rfl rfl rfl (Rd.assign rfl rfl) ?_
     refine WD.done Z.K ?_
     refine thenQ.normal ?_
     refine WC.seq ?_
     refine WC.seq ?_
     refine WC.region ?_
     refine WL.rd rfl rfl rfl (Rd.move rfl rfl) ?_
     refine WL.rd rfl rfl rfl (Rd.neq rfl rfl rfl) ?_
     refine WL.nil ?_
     refine thenQ.normal ?_
     refine WC.ite rfl (fun hc4 => ?_) (fun hc4 => ?_)
     ·
      exact absurd rfl hc4
     ·
      refine WC.skip ?_
      refine thenQ.normal ?_
      refine WC.seq ?_
      refine WC.region ?_
      refine WL.rd rfl rfl rfl (Rd.move rfl rfl) ?_
      refine WL.rd rfl rfl rfl (Rd.mul rfl rfl rfl Z.W) ?_
      refine WL.rd rfl rfl rfl (Rd.add rfl rfl rfl Z.W) ?_
      refine WL.rd rfl rfl rfl (Rd.assign rfl rfl) ?_
      refine WL.nil ?_
      refine thenQ.normal ?_
      refine WC.drawn (O) 17 rfl mixed ?_
      refine WD.take 0 rfl Z.K Z.H rfl rfl rfl (Rd.move rfl rfl) ?_
      refine WD.take 1 rfl Z.K Z.H rfl rfl rfl (Rd.move rfl rfl) ?_
      refine WD.take 2 rfl Z.K Z.H rfl rfl rfl (Rd.move rfl rfl) ?_
      refine WD.take 3 rfl Z.K Z.H rfl rfl rfl (Rd.sidx (k := 3 + 2 * j) (b := h[3 + 2 * j]!) rfl Tryz.underlying9 rfl rfl Z.W (get!_of_lt Z.W)) ?_
      refine WD.take 4 rfl Z.K Z.H rfl rfl rfl (Rd.conv (kd' := .i64) rfl rfl Tryz.underlying3 (wrap_i64 Z.W) (hS := Tryz.underlying5)) ?_
      refine WD.take 5 rfl Z.K Z.H rfl rfl rfl (Rd.shlS (n := 8) rfl rfl rfl rfl rfl (by decide) Z.W) ?_
      refine WD.take 6 rfl Z.K Z.H rfl rfl rfl (Rd.move rfl rfl) ?_
      refine WD.take 7 rfl Z.K Z.H rfl rfl rfl (Rd.move rfl rfl) ?_
      refine WD.take 8 rfl Z.K Z.H rfl rfl rfl (Rd.add rfl rfl rfl Z.W) ?_
      refine WD.take 9 rfl Z.K Z.H rfl rfl rfl (Rd.sidx (k := 4 + 2 * j) (b := h[4 + 2 * j]!) rfl Tryz.underlying9 rfl rfl Z.W (get!_of_lt Z.W)) ?_
      refine WD.take 10 rfl Z.K Z.H rfl rfl rfl (Rd.conv (kd' := .i64) rfl rfl Tryz.underlying3 (wrap_i64 Z.W) (hS := Tryz.underlying5)) ?_
      refine WD.take 11 rfl Z.K Z.H rfl rfl rfl (Rd.orS (a := h[3 + 2 * j]!.toNat * 2 ^ 8) (b := h[4 + 2 * j]!.toNat) rfl rfl rfl rfl rfl (show _ < 9223372036854775808 by omega) (show _ < 9223372036854775808 by omega)) ?_
      refine WD.say 82 (u := .int .i64 ((h[3 + 2 * j]!.toNat * 256 + h[4 + 2 * j]!.toNat : Nat) : Int)) rfl (by rw [u8_sum]) ?_
      refine WD.take 12 rfl Z.K Z.H rfl rfl rfl (Rd.move rfl rfl) ?_
      refine WD.take 13 rfl Z.K Z.H rfl rfl rfl (Rd.buildN (ps := [(0, _), (1, _)]) rfl Bs145 I145 rfl Z.E Z.C (by apply NFo.mk; repeat (first | exact NF.nil | apply NF.cons))) ?_
      refine WD.one 14 rfl Z.K rfl ?_
      refine OpW.buildSl (ps := [(0, _)]) rfl S99 Z.E rfl rfl Z.C Z.K rfl rfl rfl ?_; intro b85
      refine ⟨Z.H, ?_⟩
      refine WD.one 15 rfl Z.K rfl ?_
      refine OpW.appendRow (enc := encC) rfl S99 rfl rfl Z.T Z.T [decC s f h j] rfl (by rfl) rfl (by intro x; rfl) (by intro x; rfl) (by exact ⟨by simp only [maxLen, List.length_append, List.length_nil, List.length_cons, List.length_drop, List.length_take, List.length_map]; omega, by omega⟩) rfl rfl ?_; intro v86 hv86
      refine ⟨Z.H, ?_⟩
      refine WD.take 16 rfl Z.K Z.H rfl rfl rfl (Rd.assign rfl rfl) ?_
      refine WD.done Z.K ?_
      refine blockQ.normal ?_
      refine thenQ.normal ?_
      refine WC.region ?_
      refine WL.rd rfl rfl rfl (Rd.add rfl rfl rfl Z.W) ?_
      refine WL.rd rfl rfl rfl (Rd.move rfl rfl) ?_
      refine WL.nil ?_
      exact loopQ2.mk (j + 1) v86 ⟨by omega, hv86⟩ Z.W (by repeat (first | exact Sub.nil | refine Sub.cons rfl (by rfl) ?_)) (fun w h => by rw [dec_next]; exact Z.Fw h)
    ·
     obtain rfl : j = n := by omega
     obtain ⟨x, hx⟩ : ∃ x, x = decN s f h j := ⟨_, rfl⟩
     have hxl : x.length = j := by rw [hx, dec_len]
     have hxc := hch j hnz
     rw [← hx] at hxc hfin ⊢
     have hhb := headB_len x
     refine WC.exit ?_
     refine thenQ.exit ?_
     refine loopQ2.exit ?_
     refine blockQ.exit ?_
     refine thenQ.normal ?_
     refine WC.seq ?_
     refine WC.seq ?_
     refine WC.heap (fun w h => Sat.shareA (enc := encC) (xs := x) Z.T h) ?_
     refine WC.region ?_
     refine WL.rd rfl rfl rfl (Rd.move rfl rfl) ?_
     refine WL.rd rfl rfl rfl ((by exact Rd.lenE rfl rfl Tryz.underlying99 Z.M)) ?_
     refine WL.rd rfl rfl rfl (Rd.move rfl rfl) ?_
     refine WL.nil ?_
     refine thenQ.normal ?_
     refine WC.block ?_
     refine WC.pick [90, 0, 4, 7, 88, 89] Z.P ?_
     refine WC.loop1o 1 (fun (k : Nat) => [(90, .int .i64 (k : Int))]) (fun (k : Nat) => k ≤ x.length ∧ ∀ i, i < k → mayB s f z x[i]!.1 = true) (fun (k : Nat) => x.length - k) (0) Z.L ?hinv2 (by repeat (first | exact Sub.nil | refine Sub.cons rfl (by rfl) ?_)) (fun _ h => h) ?_
     case hinv2 =>
      exact ⟨Nat.zero_le _, fun i hi => absurd hi (Nat.not_lt_zero _)⟩
     intro k
     rintro ⟨k1, k2⟩
     refine WC.seq ?_
     refine WC.region ?_
     refine WL.rd rfl rfl rfl (Rd.lss rfl rfl rfl) ?_
     refine WL.nil ?_
     refine thenQ.normal ?_
     refine WC.seq ?_
     refine WC.ite rfl (fun hc5 => ?_) (fun hc5 => ?_)
     ·
      refine WC.skip ?_
      refine thenQ.normal ?_
      refine WC.seq ?_
      refine WC.block ?_
      refine WC.seq ?_
      refine WC.region ?_
      refine WL.rd rfl rfl rfl ((by exact Rd.idx rfl S99 rfl rfl rfl Z.M Z.W)) ?_
      refine WL.rd rfl rfl rfl (Rd.getS (k := k) (a := x[k]!) (cs := [.int .i64 x[k]!.1, vs x[k]!.2]) (enc := encC) (xs := x) rfl G145 rfl Z.M (fun _ => rfl) (get!_of_lt Z.W) Z.N) ?_
      refine WL.op rfl ?_
      refine OpW.alloc rfl I145 rfl Z.N rfl rfl ?_; intro b13
      refine WL.op rfl ?_
      refine OpW.storeS rfl G145 rfl rfl Z.N Z.T rfl rfl Z.N rfl ?_
      refine WL.nil ?_
      refine thenQ.normal ?_
      refine WC.seq ?_
      refine WC.region ?_
      refine WL.rd rfl rfl rfl (Rd.move rfl rfl) ?_
      refine WL.rd rfl rfl rfl ((by exact Rd.field rfl F145_0 rfl rfl)) ?_
      refine WL.rd rfl rfl rfl (Rd.row1 (off := 0) (u := .int .i64 x[k]!.1) rfl C3 rfl Z.M rfl) ?_
      refine WL.op rfl ?_
      refine OpW.call rfl rfl Z.E Z.K rfl rfl rfl ?_
      refine Fun.heap (O' := dO d V s (rowC b13 145 [.int .i64 x[k]!.1, vs x[k]!.2] :: O)) Z.F ?_
      refine may_spec (f := f) (z := z) Z.M Z.W ?_
      refine WL.rd rfl rfl rfl ((by exact Rd.notd rfl rfl)) ?_
      refine WL.nil ?_
      refine thenQ.normal ?_
      refine WC.ite rfl (fun hc6 => ?_) (fun hc6 => ?_)
      ·
       have hno : ¬ ∀ c ∈ x, mayB s f z c.1 = true := fun hx => hc6 (may_iff (hx _ (chg_mem Z.W)))
       rw [if_pos hno] at hfin
       refine WC.seq ?_
       refine WC.region ?_
       refine WL.rd rfl rfl rfl (Rd.assign rfl rfl) ?_
       refine WL.rd rfl rfl rfl (Rd.assign rfl rfl) ?_
       refine WL.nil ?_
       refine thenQ.normal ?_
       refine WC.heap (R' := SlE encC (.slice none 0 0) ([] : List Chg) :: R) (O' := dO d V s O) (fun w h => by
       have g1 := Sat.nilE (α := Chg) (enc := encC) h
       exact Z.Fw g1) ?_
       refine WC.ret (Ret.two Tryz.results48 rfl rfl ?_)
       rw [hfin] at hk
       exact hk _
      ·
       refine WC.skip ?_
       refine blockQ.normal ?_
       refine thenQ.normal ?_
       refine WC.region ?_
       refine WL.rd rfl rfl rfl (Rd.add rfl rfl rfl Z.W) ?_
       refine WL.rd rfl rfl rfl (Rd.move rfl rfl) ?_
       refine WL.nil ?_
       exact loopQ1.mk (k + 1) ⟨by omega, fun i hi => by
       rcases Nat.lt_or_ge i k with h | h
       · exact k2 i h
       · obtain rfl : i = k := by omega
         exact decide_eq_true (Decidable.not_not.1 hc6)⟩ Z.W (by repeat (first | exact Sub.nil | refine Sub.cons rfl (by rfl) ?_)) Z.F
     ·
      obtain rfl : k = x.length := by omega
      have hyes : ¬ ¬ ∀ c ∈ x, mayB s f z c.1 = true := fun hx => hx fun c hc => by
       obtain ⟨i, hi, rfl⟩ := List.getElem_of_mem hc
       have := k2 i hi
       rwa [getElem!_pos x i hi] at this
      rw [if_neg hyes] at hfin
      refine WC.exit ?_
      refine thenQ.exit ?_
      refine loopQ1.exit ?_
      refine blockQ.exit ?_
      refine thenQ.normal ?_
      refine WC.seq ?_
      refine WC.seq ?_
      refine WC.region ?_
      refine WL.rd rfl rfl rfl (Rd.move rfl rfl) ?_
      refine WL.op rfl ?_
      refine OpW.call rfl rfl Z.E Z.K rfl rfl rfl ?_
      refine walHead_spec (x := x) (List.mem_cons_of_mem _ ht) Z.M hxc Z.W ?_
      refine WL.rd rfl rfl rfl (Rd.assign rfl rfl) ?_
      refine WL.nil ?_
      refine thenQ.normal ?_
      refine WC.seq ?_
      refine WC.region ?_
      refine WL.rd rfl rfl rfl (Rd.move rfl rfl) ?_
      refine WL.rd rfl rfl rfl (Rd.move rfl rfl) ?_
      refine WL.rd rfl rfl rfl (Rd.move rfl rfl) ?_
      refine WL.rd rfl rfl rfl (Rd.slen (ts := #[]) (ty := 0) rfl rfl Tryz.underlying9) ?_
      refine WL.rd rfl rfl rfl (Rd.sub rfl rfl rfl Z.W) ?_
      refine WL.op rfl ?_
      refine OpW.call rfl rfl Z.E Z.K rfl rfl rfl ?_
      refine Fun.below (v := vs (Lib.repeatL [0] (512 - (headB x).length))) (fun w => by
       have := Tryz.strings_Repeat ⟨#[0]⟩ (512 - (headB x).length) w Z.W (by show 1 * _ ≤ _; omega)
       rw [show ((512 - (headB x).length : Nat) : Int) = 512 - ((headB x).length : Int) from by omega] at this
       exact this) ?_
      rw [se_repeat_zero]
      refine WL.rd rfl rfl rfl (Rd.scat rfl rfl rfl (by rw [List.length_replicate]; omega)) ?_
      refine WL.say 108 (u := vs (fullE (headB x))) rfl rfl ?_
      refine WL.rd rfl rfl rfl (Rd.sneq rfl rfl rfl) ?_
      refine WL.nil ?_
      refine thenQ.normal ?_
      refine WC.ite rfl (fun hc7 => ?_) (fun hc7 => ?_)
      ·
       rw [if_pos hc7] at hfin
       refine WC.seq ?_
       refine WC.region ?_
       refine WL.rd rfl rfl rfl (Rd.assign rfl rfl) ?_
       refine WL.rd rfl rfl rfl (Rd.assign rfl rfl) ?_
       refine WL.nil ?_
       refine thenQ.normal ?_
       refine WC.heap (R' := SlE encC (.slice none 0 0) ([] : List Chg) :: R) (O' := dO d V s O) (fun w h => by
       have g1 := Sat.nilE (α := Chg) (enc := encC) h
       exact Z.Fw g1) ?_
       refine WC.ret (Ret.two Tryz.results48 rfl rfl ?_)
       rw [hfin] at hk
       exact hk _
      ·
       rw [if_neg hc7] at hfin
       refine WC.skip ?_
       refine thenQ.normal ?_
       refine WC.seq ?_
       refine WC.region ?_
       refine WL.rd rfl rfl rfl (Rd.move rfl rfl) ?_
       refine WL.rd rfl rfl rfl (Rd.assign rfl rfl) ?_
       refine WL.rd rfl rfl rfl (Rd.assign rfl rfl) ?_
       refine WL.nil ?_
       refine thenQ.normal ?_
       refine WC.ret (Ret.two Tryz.results48 rfl rfl ?_)
       rw [hfin] at hk
       exact hk v
set_option maxRecDepth 20000 in
set_option maxHeartbeats 4000000 in
theorem walOpen_spec (ht : tabR ∈ R) (dk : Dk s m) (hm : m ≤ 4294960000) (hv : VOk V s) (hkeep : SlE (SL.one vi) V.kv s.keep ∈ R)
 (hk : ∀ V' (po : Option Nat), VOk V' (openE s f z).1 → V'.kv = V.kv → (po.isSome = true ↔ (openE s f z).2.2 = 0) → POST (.tuple #[pvOf po, .int .i64 ((openE s f z).2.1 : Nat), .int .i64 ((openE s f z).2.2 : Nat)]) (logO po d f z :: R) (dO d V' (openE s f z).1 O)) :
 Fun Tryz.prog 22 #[dp d, .int .i64 f, .int .i64 z] R (dO d V s O) POST := by
 have hll := dk.ok.lasts
 have hfin := openE.eq_1 s f z
 refine Fun.enter (l := [_, _, _]) Tryz.func22 rfl Tryz.ntmps22 rfl (L0 := [(0, _), (1, _), (2, _)]) rfl ?_
 refine WC.seq ?_
 refine WC.region ?_
 refine WL.rd rfl rfl rfl (Rd.assign rfl rfl) ?_
 refine WL.rd rfl rfl rfl (Rd.assign rfl rfl) ?_
 refine WL.rd rfl rfl rfl (Rd.assign rfl rfl) ?_
 refine WL.nil ?_
 refine thenQ.normal ?_
 refine WC.seq ?_
 refine WC.pick [0, 1, 2] Z.P ?_
 refine WC.val 41 (.bool (decide (¬ fitsB s f z = true))) ?_ ?_
 ·
  refine WC.region ?_
  refine WL.rd rfl rfl rfl (Rd.move rfl rfl) ?_
  refine WL.rd rfl rfl rfl (Rd.peqN rfl Tryz.underlying25 rfl rfl) ?_
  refine WL.say 15 (u := .bool (decide False)) rfl (by simp) ?_
  refine WL.rd rfl rfl rfl (Rd.move rfl rfl) ?_
  refine WL.case 16 rfl (fun hg16 => ?_) (fun hg16 => ?_)
  ·
   exact hg16.elim
  ·
   refine WL.rd_yes rfl rfl rfl rfl rfl rfl (Rd.move rfl rfl) ?_
   refine WL.rd_yes rfl rfl rfl rfl rfl rfl (Rd.lss rfl rfl rfl) ?_
   refine WL.rd rfl rfl rfl (Rd.pick_f rfl rfl rfl) ?_
   refine WL.rd rfl rfl rfl (Rd.move rfl rfl) ?_
   refine WL.case 20 rfl (fun hg20 => ?_) (fun hg20 => ?_)
   ·
    refine WL.no rfl rfl rfl rfl rfl rfl ?_
    refine WL.no rfl rfl rfl rfl rfl rfl ?_
    refine WL.rd rfl rfl rfl (Rd.pick_t rfl rfl rfl) ?_
    refine WL.rd rfl rfl rfl (Rd.move rfl rfl) ?_
    refine WL.no rfl rfl rfl rfl rfl rfl ?_
    refine WL.no rfl rfl rfl rfl rfl rfl ?_
    refine WL.rd rfl rfl rfl (Rd.pick_t rfl rfl rfl) ?_
    refine WL.rd rfl rfl rfl (Rd.move rfl rfl) ?_
    refine WL.no rfl rfl rfl rfl rfl rfl ?_
    refine WL.no rfl rfl rfl rfl rfl rfl ?_
    refine WL.no rfl rfl rfl rfl rfl rfl ?_
    refine WL.no rfl rfl rfl rfl rfl rfl ?_
    refine WL.rd rfl rfl rfl (Rd.pick_t rfl rfl rfl) ?_
    refine WL.rd rfl rfl rfl (Rd.move rfl rfl) ?_
    refine WL.no rfl rfl rfl rfl rfl rfl ?_
    refine WL.no rfl rfl rfl rfl rfl rfl ?_
    refine WL.no rfl rfl rfl rfl rfl rfl ?_
    refine WL.no rfl rfl rfl rfl rfl rfl ?_
    refine WL.no rfl rfl rfl rfl rfl rfl ?_
    refine WL.no rfl rfl rfl rfl rfl rfl ?_
    refine WL.rd rfl rfl rfl (Rd.pick_t rfl rfl rfl) ?_
    refine WL.nil ?_
    exact ⟨by repeat (first | exact Sub.nil | refine Sub.cons rfl (by first | rfl | (exact vb_t (by simp only [fitsB, decide_eq_true_eq]; omega))) ?_), by exact (fun _ h => h.thin (SubL.mem Z.S))⟩
   ·
    refine WL.rd_yes rfl rfl rfl rfl rfl rfl (Rd.move rfl rfl) ?_
    refine WL.rd_yes rfl rfl rfl rfl rfl rfl (Rd.lss rfl rfl rfl) ?_
    refine WL.rd rfl rfl rfl (Rd.pick_f rfl rfl rfl) ?_
    refine WL.rd rfl rfl rfl (Rd.move rfl rfl) ?_
    refine WL.case 24 rfl (fun hg24 => ?_) (fun hg24 => ?_)
    ·
     refine WL.no rfl rfl rfl rfl rfl rfl ?_
     refine WL.no rfl rfl rfl rfl rfl rfl ?_
     refine WL.rd rfl rfl rfl (Rd.pick_t rfl rfl rfl) ?_
     refine WL.rd rfl rfl rfl (Rd.move rfl rfl) ?_
     refine WL.no rfl rfl rfl rfl rfl rfl ?_
     refine WL.no rfl rfl rfl rfl rfl rfl ?_
     refine WL.no rfl rfl rfl rfl rfl rfl ?_
     refine WL.no rfl rfl rfl rfl rfl rfl ?_
     refine WL.rd rfl rfl rfl (Rd.pick_t rfl rfl rfl) ?_
     refine WL.rd rfl rfl rfl (Rd.move rfl rfl) ?_
     refine WL.no rfl rfl rfl rfl rfl rfl ?_
     refine WL.no rfl rfl rfl rfl rfl rfl ?_
     refine WL.no rfl rfl rfl rfl rfl rfl ?_
     refine WL.no rfl rfl rfl rfl rfl rfl ?_
     refine WL.no rfl rfl rfl rfl rfl rfl ?_
     refine WL.no rfl rfl rfl rfl rfl rfl ?_
     refine WL.rd rfl rfl rfl (Rd.pick_t rfl rfl rfl) ?_
     refine WL.nil ?_
     exact ⟨by repeat (first | exact Sub.nil | refine Sub.cons rfl (by first | rfl | (exact vb_t (by simp only [fitsB, decide_eq_true_eq]; omega))) ?_), by exact (fun _ h => h.thin (SubL.mem Z.S))⟩
    ·
     refine WL.rd_yes rfl rfl rfl rfl rfl rfl (Rd.move rfl rfl) ?_
     refine WL.rd_yes rfl rfl rfl rfl rfl rfl (Rd.gtr rfl rfl rfl) ?_
     refine WL.rd rfl rfl rfl (Rd.pick_f rfl rfl rfl) ?_
     refine WL.rd rfl rfl rfl (Rd.move rfl rfl) ?_
     refine WL.case 28 rfl (fun hg28 => ?_) (fun hg28 => ?_)
     ·
      refine WL.no rfl rfl rfl rfl rfl rfl ?_
      refine WL.no rfl rfl rfl rfl rfl rfl ?_
      refine WL.no rfl rfl rfl rfl rfl rfl ?_
      refine WL.no rfl rfl rfl rfl rfl rfl ?_
      refine WL.rd rfl rfl rfl (Rd.pick_t rfl rfl rfl) ?_
      refine WL.rd rfl rfl rfl (Rd.move rfl rfl) ?_
      refine WL.no rfl rfl rfl rfl rfl rfl ?_
      refine WL.no rfl rfl rfl rfl rfl rfl ?_
      refine WL.no rfl rfl rfl rfl rfl rfl ?_
      refine WL.no rfl rfl rfl rfl rfl rfl ?_
      refine WL.no rfl rfl rfl rfl rfl rfl ?_
      refine WL.no rfl rfl rfl rfl rfl rfl ?_
      refine WL.rd rfl rfl rfl (Rd.pick_t rfl rfl rfl) ?_
      refine WL.nil ?_
      exact ⟨by repeat (first | exact Sub.nil | refine Sub.cons rfl (by first | rfl | (exact vb_t (by simp only [fitsB, decide_eq_true_eq]; omega))) ?_), by exact (fun _ h => h.thin (SubL.mem Z.S))⟩
     ·
      refine WL.rd_yes rfl rfl rfl rfl rfl rfl (Rd.move rfl rfl) ?_
      refine WL.rd_yes rfl rfl rfl rfl rfl rfl (Rd.move rfl rfl) ?_
      refine WL.op_yes rfl rfl rfl rfl ?_
      refine OpW.call rfl rfl Z.E Z.K rfl rfl rfl ?_
      refine size_spec ?_
      refine WL.rd_yes rfl rfl rfl rfl rfl rfl (Rd.gtr rfl rfl rfl) ?_
      refine WL.rd rfl rfl rfl (Rd.pick_f rfl rfl rfl) ?_
      refine WL.rd rfl rfl rfl (Rd.move rfl rfl) ?_
      refine WL.case 34 rfl (fun hg34 => ?_) (fun hg34 => ?_)
      ·
       refine WL.no rfl rfl rfl rfl rfl rfl ?_
       refine WL.no rfl rfl rfl rfl rfl rfl ?_
       refine WL.no rfl rfl rfl rfl rfl rfl ?_
       refine WL.no rfl rfl rfl rfl rfl rfl ?_
       refine WL.no rfl rfl rfl rfl rfl rfl ?_
       refine WL.no rfl rfl rfl rfl rfl rfl ?_
       refine WL.rd rfl rfl rfl (Rd.pick_t rfl rfl rfl) ?_
       refine WL.nil ?_
       exact ⟨by repeat (first | exact Sub.nil | refine Sub.cons rfl (by first | rfl | (exact vb_t (by simp only [fitsB, decide_eq_true_eq]; omega))) ?_), by exact (fun _ h => h.thin (SubL.mem Z.S))⟩
      ·
       refine WL.rd_yes rfl rfl rfl rfl rfl rfl (Rd.move rfl rfl) ?_
       refine WL.rd_yes rfl rfl rfl rfl rfl rfl (Rd.move rfl rfl) ?_
       refine WL.op_yes rfl rfl rfl rfl ?_
       refine OpW.call rfl rfl Z.E Z.K rfl rfl rfl ?_
       refine size_spec ?_
       refine WL.rd_yes rfl rfl rfl rfl rfl rfl (Rd.move rfl rfl) ?_
       refine WL.rd_yes rfl rfl rfl rfl rfl rfl (Rd.sub rfl rfl rfl Z.W) ?_
       refine WL.rd_yes rfl rfl rfl rfl rfl rfl (Rd.gtr rfl rfl rfl) ?_
       refine WL.rd rfl rfl rfl (Rd.pick_f rfl rfl rfl) ?_
       refine WL.nil ?_
       exact ⟨by repeat (first | exact Sub.nil | refine Sub.cons rfl (by first | rfl | (exact vb (by simp only [fitsB, decide_eq_true_eq]; omega))) ?_), by exact (fun _ h => h.thin (SubL.mem Z.S))⟩
 ·
  refine WC.ite rfl (fun hc1 => ?_) (fun hc1 => ?_)
  ·
   rw [if_pos hc1] at hfin
   have hk' := hk V none (by rw [hfin]; exact hv) rfl (by rw [hfin]; simp)
   refine WC.seq ?_
   refine WC.region ?_
   refine WL.rd rfl rfl rfl (Rd.assign rfl rfl) ?_
   refine WL.rd rfl rfl rfl (Rd.assign rfl rfl) ?_
   refine WL.rd rfl rfl rfl (Rd.assign rfl rfl) ?_
   refine WL.nil ?_
   refine thenQ.normal ?_
   refine WC.heap (R' := logO none d f z :: R) (O' := dO d V s O) (fun w h => h.derive (fun w _ l hl => by cases hl)) ?_
   refine WC.ret (Ret.three Tryz.results22 rfl rfl rfl ?_)
   rw [hfin] at hk'
   exact hk'
  ·
   have hfit : fitsB s f z = true := by simpa using hc1
   obtain ⟨f1, f2, f3, f4⟩ := fits_iff hfit
   rw [if_neg hc1] at hfin
   refine WC.skip ?_
   refine thenQ.normal ?_
   refine WC.seq ?_
   refine WC.region ?_
   refine WL.rd rfl rfl rfl (Rd.move rfl rfl) ?_
   refine WL.rd rfl rfl rfl (Rd.move rfl rfl) ?_
   refine WL.rd rfl rfl rfl (Rd.move rfl rfl) ?_
   refine WL.rd rfl rfl rfl (Rd.buildN (ps := [(0, _), (1, _), (2, _)]) rfl Bs98 I98 rfl Z.E Z.C (by apply NFo.mk; repeat (first | exact NF.nil | apply NF.cons))) ?_
   refine WL.op rfl ?_
   refine OpW.box rfl rfl Z.N rfl rfl ?_; intro b46
   refine WL.heap (fun w h => Sat.shareG Z.T h) ?_
   refine WL.rd rfl rfl rfl (Rd.assign rfl rfl) ?_
   refine WL.nil ?_
   refine thenQ.normal ?_
   refine WC.seq ?_
   refine WC.region ?_
   refine WL.rd rfl rfl rfl (Rd.move rfl rfl) ?_
   refine WL.op rfl ?_
   refine OpW.call rfl rfl Z.E Z.K rfl rfl rfl ?_
   refine said_spec (f := f) (z := z) (List.mem_cons_of_mem _ ht) List.mem_cons_self dk Z.W hfit ?_; intro xv
   refine WL.rd rfl rfl rfl (Rd.move rfl rfl) ?_
   refine WL.rd rfl rfl rfl (Rd.extract rfl rfl rfl) ?_
   refine WL.rd rfl rfl rfl (Rd.extract rfl rfl rfl) ?_
   refine WL.rd rfl rfl rfl (Rd.assign rfl rfl) ?_
   refine WL.rd rfl rfl rfl (Rd.assign rfl rfl) ?_
   refine WL.nil ?_
   refine thenQ.normal ?_
   refine WC.seq ?_
   refine WC.seq ?_
   refine WC.region ?_
   refine WL.rd rfl rfl rfl (Rd.move rfl rfl) ?_
   refine WL.rd rfl rfl rfl (Rd.neq rfl rfl rfl) ?_
   refine WL.nil ?_
   refine thenQ.normal ?_
   refine WC.ite rfl (fun hc2 => ?_) (fun hc2 => ?_)
   ·
    rw [if_pos Z.W] at hfin
    have hk' := hk V none (by rw [hfin]; exact hv) rfl (by rw [hfin]; exact ⟨fun h => (by cases h), fun h => (by exfalso; exact absurd h (by show (saidE s f z).2 ≠ 0; omega))⟩)
    refine WC.seq ?_
    refine WC.region ?_
    refine WL.rd rfl rfl rfl (Rd.move rfl rfl) ?_
    refine WL.rd rfl rfl rfl (Rd.assign rfl rfl) ?_
    refine WL.rd rfl rfl rfl (Rd.assign rfl rfl) ?_
    refine WL.rd rfl rfl rfl (Rd.assign rfl rfl) ?_
    refine WL.nil ?_
    refine thenQ.normal ?_
    refine WC.heap (R' := logO none d f z :: R) (O' := dO d V s O) (fun w h => by
    have g1 := h.derive (q := logO none d f z) (fun w _ l hl => by cases hl)
    exact Z.Fw g1) ?_
    refine WC.ret (Ret.three Tryz.results22 rfl rfl rfl ?_)
    rw [hfin] at hk'
    exact hk'
   ·
    rw [if_neg Z.W] at hfin
    obtain ⟨x, hx⟩ : ∃ x, x = (saidE s f z).1 := ⟨_, rfl⟩
    have hxl : x.length ≤ 255 := by
     rw [hx, saidE]
     split
     · exact Nat.zero_le _
     · split
       · exact Nat.zero_le _
       · split
         · exact Nat.zero_le _
         · split
           · exact Nat.zero_le _
           · rw [dec_len]; have := UInt8.toNat_lt (readE s f).1[2]!; omega
    rw [← hx] at hfin ⊢
    refine WC.skip ?_
    refine thenQ.normal ?_
    refine WC.seq ?_
    refine WC.seq ?_
    refine WC.region ?_
    refine WL.rd rfl rfl rfl (Rd.move rfl rfl) ?_
    refine WL.rd rfl rfl rfl ((by exact Rd.lenE rfl rfl Tryz.underlying99 Z.M)) ?_
    refine WL.rd rfl rfl rfl (Rd.gtr rfl rfl rfl) ?_
    refine WL.nil ?_
    refine thenQ.normal ?_
    refine WC.ite rfl (fun hc3 => ?_) (fun hc3 => ?_)
    ·
     have hne : x ≠ [] := fun h => by rw [h] at hc3; simp at hc3
     rw [if_neg hne] at hfin
     obtain ⟨dk1, _, hkp1⟩ := make_dk (x := x) dk
     obtain ⟨t, htt⟩ : ∃ t, t = makeS s x := ⟨_, rfl⟩
     rw [← htt] at dk1 hkp1
     have hdone : doneE s f x = thenE t fun u => sayS u f [] := by unfold doneE; rw [← htt]
     rw [hdone] at hfin
     refine WC.seq ?_
     refine WC.seq ?_
     refine WC.region ?_
     refine WL.rd rfl rfl rfl (Rd.move rfl rfl) ?_
     refine WL.rd rfl rfl rfl (Rd.move rfl rfl) ?_
     refine WL.op rfl ?_
     refine OpW.call rfl rfl Z.E Z.K rfl rfl rfl ?_
     refine walMake_spec (x := x) (f := f) (z := z) Z.M Z.M dk Z.W hv Z.M ?_; intro V1 hv1 hkv1; rw [← htt] at hv1 ⊢
     refine WL.rd rfl rfl rfl (Rd.assign rfl rfl) ?_
     refine WL.nil ?_
     refine thenQ.normal ?_
     refine WC.seq ?_
     refine WC.region ?_
     refine WL.rd rfl rfl rfl (Rd.move rfl rfl) ?_
     refine WL.rd rfl rfl rfl (Rd.neq rfl rfl rfl) ?_
     refine WL.nil ?_
     refine thenQ.normal ?_
     refine WC.ite rfl (fun hc4 => ?_) (fun hc4 => ?_)
     ·
      have hth : thenE t (fun u => sayS u f []) = t := by unfold thenE; rw [if_pos Z.W]
      rw [hth, if_pos Z.W] at hfin
      have hk' := hk V1 none (by rw [hfin]; exact hv1) hkv1 (by rw [hfin]; exact ⟨fun h => (by cases h), fun h => (by exfalso; exact absurd h (by show t.2 ≠ 0; omega))⟩)
      refine WC.seq ?_
      refine WC.region ?_
      refine WL.rd rfl rfl rfl (Rd.move rfl rfl) ?_
      refine WL.rd rfl rfl rfl (Rd.assign rfl rfl) ?_
      refine WL.rd rfl rfl rfl (Rd.assign rfl rfl) ?_
      refine WL.rd rfl rfl rfl (Rd.assign rfl rfl) ?_
      refine WL.nil ?_
      refine thenQ.normal ?_
      refine WC.heap (R' := logO none d f z :: R) (O' := dO d V1 t.1 O) (fun w h => by
      have g1 := h.derive (q := logO none d f z) (fun w _ l hl => by cases hl)
      exact Z.Fw g1) ?_
      refine WC.ret (Ret.three Tryz.results22 rfl rfl rfl ?_)
      rw [hfin] at hk'
      exact hk'
     ·
      have hth : thenE t (fun u => sayS u f []) = sayS t.1 f [] := by unfold thenE; rw [if_neg Z.W]
      rw [hth] at hfin
      refine WC.skip ?_
      refine thenQ.normal ?_
      refine WC.seq ?_
      refine WC.region ?_
      refine WL.rd rfl rfl rfl (Rd.move rfl rfl) ?_
      refine WL.op rfl ?_
      refine OpW.call rfl rfl Z.E Z.K rfl rfl rfl ?_
      refine walSay_spec (h := []) (f := f) (z := z) Z.M dk1 Z.W hv1 (by rw [hkv1, hkp1]; exact Z.M) ?_; intro V2 hv2 hkv2
      refine WL.rd rfl rfl rfl (Rd.assign rfl rfl) ?_
      refine WL.nil ?_
      refine thenQ.normal ?_
      refine WC.seq ?_
      refine WC.region ?_
      refine WL.rd rfl rfl rfl (Rd.move rfl rfl) ?_
      refine WL.rd rfl rfl rfl (Rd.neq rfl rfl rfl) ?_
      refine WL.nil ?_
      refine thenQ.normal ?_
      refine WC.ite rfl (fun hc5 => ?_) (fun hc5 => ?_)
      ·
       rw [if_pos Z.W] at hfin
       have hk' := hk V2 none (by rw [hfin]; exact hv2) (hkv2.trans hkv1) (by rw [hfin]; exact ⟨fun h => (by cases h), fun h => (by exfalso; exact absurd h (by show (sayS t.1 f []).2 ≠ 0; omega))⟩)
       refine WC.seq ?_
       refine WC.region ?_
       refine WL.rd rfl rfl rfl (Rd.move rfl rfl) ?_
       refine WL.rd rfl rfl rfl (Rd.assign rfl rfl) ?_
       refine WL.rd rfl rfl rfl (Rd.assign rfl rfl) ?_
       refine WL.rd rfl rfl rfl (Rd.assign rfl rfl) ?_
       refine WL.nil ?_
       refine thenQ.normal ?_
       refine WC.heap (R' := logO none d f z :: R) (O' := dO d V2 (sayS t.1 f []).1 O) (fun w h => by
       have g1 := h.derive (q := logO none d f z) (fun w _ l hl => by cases hl)
       exact Z.Fw g1) ?_
       refine WC.ret (Ret.three Tryz.results22 rfl rfl rfl ?_)
       rw [hfin] at hk'
       exact hk'
      ·
       rw [if_neg Z.W] at hfin
       refine WC.skip ?_
       refine thenQ.normal ?_
       refine WC.seq ?_
       refine WC.region ?_
       refine WL.rd rfl rfl rfl (Rd.move rfl rfl) ?_
       refine WL.rd rfl rfl rfl (Rd.move rfl rfl) ?_
       refine WL.rd rfl rfl rfl ((by exact Rd.lenE rfl rfl Tryz.underlying99 Z.M)) ?_
       refine WL.rd rfl rfl rfl (Rd.assign rfl rfl) ?_
       refine WL.rd rfl rfl rfl (Rd.assign rfl rfl) ?_
       refine WL.rd rfl rfl rfl (Rd.assign rfl rfl) ?_
       refine WL.nil ?_
       refine thenQ.normal ?_
       have hk' := hk V2 (some b46) (by rw [hfin]; exact hv2) (hkv2.trans hkv1) (by rw [hfin]; simp)
       refine WC.heap (R' := logO (some b46) d f z :: R) (O' := dO d V2 (sayS t.1 f []).1 O) (fun w h => by
        have g1 := h.derive (q := logO (some b46) d f z) (fun w hR l hl => by cases hl; exact hR (logR b46 d f z) Z.M)
        exact Z.Fw g1) ?_
       refine WC.ret (Ret.three Tryz.results22 rfl rfl rfl ?_)
       rw [hfin] at hk'
       exact hk'
    ·
     obtain rfl : x = [] := List.length_eq_zero_iff.1 Z.W
     rw [if_pos rfl] at hfin
     refine WC.skip ?_
     refine thenQ.normal ?_
     refine WC.seq ?_
     refine WC.region ?_
     refine WL.rd rfl rfl rfl (Rd.move rfl rfl) ?_
     refine WL.rd rfl rfl rfl (Rd.move rfl rfl) ?_
     refine WL.rd rfl rfl rfl ((by exact Rd.lenE rfl rfl Tryz.underlying99 Z.M)) ?_
     refine WL.rd rfl rfl rfl (Rd.assign rfl rfl) ?_
     refine WL.rd rfl rfl rfl (Rd.assign rfl rfl) ?_
     refine WL.rd rfl rfl rfl (Rd.assign rfl rfl) ?_
     refine WL.nil ?_
     refine thenQ.normal ?_
     have hk' := hk V (some b46) (by rw [hfin]; exact hv) rfl (by rw [hfin]; simp)
     refine WC.heap (R' := logO (some b46) d f z :: R) (O' := dO d V s O) (fun w h => by
      have g1 := h.derive (q := logO (some b46) d f z) (fun w hR l hl => by cases hl; exact hR (logR b46 d f z) Z.M)
      exact Z.Fw g1) ?_
     refine WC.ret (Ret.three Tryz.results22 rfl rfl rfl ?_)
     rw [hfin] at hk'
     exact hk'
set_option maxRecDepth 20000 in
set_option maxHeartbeats 4000000 in
theorem commit_spec {x : List Chg} {xv : Value} (ht : tabR ∈ R) (hl : logR l d f z ∈ R) (hfit : fitsB s f z = true) (hx : SlE encC xv x ∈ R) (dk : Dk s m) (hm : m ≤ 4294960000) (hv : VOk V s) (hkeep : SlE (SL.one vi) V.kv s.keep ∈ R)
 (hk : ∀ V', VOk V' (commitE s f z x).1 → V'.kv = V.kv → POST (.int .i64 ((commitE s f z x).2 : Nat)) R (dO d V' (commitE s f z x).1 O)) : Fun Tryz.prog 96 #[dp l, xv] R (dO d V s O) POST := by
 refine Fun.len hx fun hxl => ?_
 have hll := dk.ok.lasts
 obtain ⟨f1, f2, f3, f4⟩ := fits_iff hfit
 have hfin := commitE.eq_1 s f z x
 refine Fun.enter (l := [_, _]) Tryz.func96 rfl Tryz.ntmps96 rfl (L0 := [(0, _), (1, _)]) rfl ?_
 refine WC.seq ?_
 refine WC.region ?_
 refine WL.rd rfl rfl rfl (Rd.assign rfl rfl) ?_
 refine WL.nil ?_
 refine thenQ.normal ?_
 refine WC.seq ?_
 refine WC.pick [0, 1] Z.P ?_
 refine WC.val 26 (.bool (decide (x = [] ∨ z ≤ (x.length : Int)))) ?_ ?_
 ·
  refine WC.region ?_
  refine WL.rd rfl rfl rfl (Rd.move rfl rfl) ?_
  refine WL.rd rfl rfl rfl (Rd.peqN rfl Tryz.underlying61 rfl rfl) ?_
  refine WL.say 14 (u := .bool (decide False)) rfl (by simp) ?_
  refine WL.rd rfl rfl rfl (Rd.move rfl rfl) ?_
  refine WL.case 15 rfl (fun hg15 => ?_) (fun hg15 => ?_)
  ·
   exact hg15.elim
  ·
   refine WL.rd_yes rfl rfl rfl rfl rfl rfl (Rd.move rfl rfl) ?_
   refine WL.rd_yes rfl rfl rfl rfl rfl rfl ((by exact Rd.lenE rfl rfl Tryz.underlying99 Z.M)) ?_
   refine WL.rd_yes rfl rfl rfl rfl rfl rfl (Rd.eql rfl rfl rfl) ?_
   refine WL.rd rfl rfl rfl (Rd.pick_f rfl rfl rfl) ?_
   refine WL.rd rfl rfl rfl (Rd.move rfl rfl) ?_
   refine WL.case 20 rfl (fun hg20 => ?_) (fun hg20 => ?_)
   ·
    refine WL.no rfl rfl rfl rfl rfl rfl ?_
    refine WL.no rfl rfl rfl rfl rfl rfl ?_
    refine WL.no rfl rfl rfl rfl rfl rfl ?_
    refine WL.no rfl rfl rfl rfl rfl rfl ?_
    refine WL.no rfl rfl rfl rfl rfl rfl ?_
    refine WL.rd rfl rfl rfl (Rd.pick_t rfl rfl rfl) ?_
    refine WL.nil ?_
    exact ⟨by repeat (first | exact Sub.nil | refine Sub.cons rfl (by first | rfl | (exact vb_t (.inl (List.length_eq_zero_iff.1 Z.W)))) ?_), by exact (fun _ h => h.thin (SubL.mem Z.S))⟩
   ·
    refine WL.rd_yes rfl rfl rfl rfl rfl rfl (Rd.move rfl rfl) ?_
    refine WL.rd_yes rfl rfl rfl rfl rfl rfl ((by exact Rd.lenE rfl rfl Tryz.underlying99 Z.M)) ?_
    refine WL.rd_yes rfl rfl rfl rfl rfl rfl (Rd.move rfl rfl) ?_
    refine WL.op_yes rfl rfl rfl rfl ?_
    refine OpW.call rfl rfl Z.E Z.K rfl rfl rfl ?_
    refine most_spec (z := z) hl Z.W ?_
    refine WL.rd_yes rfl rfl rfl rfl rfl rfl (Rd.gtr rfl rfl rfl) ?_
    refine WL.rd rfl rfl rfl (Rd.pick_f rfl rfl rfl) ?_
    refine WL.nil ?_
    exact ⟨by repeat (first | exact Sub.nil | refine Sub.cons rfl (by first | rfl | (exact vb ⟨fun h => .inr Z.W, fun h => h.elim (fun h => by exfalso; rw [h] at hg20; exact hg20 rfl) (fun h => by omega)⟩)) ?_), by exact (fun _ h => h.thin (SubL.mem Z.S))⟩
 ·
  refine WC.ite rfl (fun hc1 => ?_) (fun hc1 => ?_)
  ·
   rw [if_pos hc1] at hfin
   refine WC.seq ?_
   refine WC.region ?_
   refine WL.rd rfl rfl rfl (Rd.assign rfl rfl) ?_
   refine WL.nil ?_
   refine thenQ.normal ?_
   refine WC.ret (Ret.one Tryz.results96 rfl ?_)
   rw [hfin] at hk
   exact hk V hv rfl
  ·
   rw [if_neg hc1] at hfin
   have hxz : (x.length : Int) < z := by
    by_cases hh : z ≤ (x.length : Int)
    · exact absurd (.inr hh) hc1
    · omega
   refine WC.skip ?_
   refine thenQ.normal ?_
   refine WC.cut (α := Unit) (fun _ => [(0, dp l), (1, xv)]) (fun _ => R) (fun _ => dO d V s O) (fun _ => ∀ j, j < x.length → chgBad s f z x[j]! = false) ?_ ?_
   ·
    refine WC.seq ?_
    refine WC.region ?_
    refine WL.rd rfl rfl rfl (Rd.move rfl rfl) ?_
    refine WL.rd rfl rfl rfl ((by exact Rd.lenE rfl rfl Tryz.underlying99 Z.M)) ?_
    refine WL.rd rfl rfl rfl (Rd.move rfl rfl) ?_
    refine WL.nil ?_
    refine thenQ.normal ?_
    refine WC.block ?_
    refine WC.pick [29, 0, 1, 27, 28] Z.P ?_
    refine WC.loop1o 1 (fun (j : Nat) => [(29, .int .i64 (j : Int))]) (fun (j : Nat) => j ≤ x.length ∧ ∀ i, i < j → chgBad s f z x[i]! = false) (fun (j : Nat) => x.length - j) (0) Z.L ?hinv1 (by repeat (first | exact Sub.nil | refine Sub.cons rfl (by rfl) ?_)) (fun _ h => h) ?_
    case hinv1 =>
     exact ⟨Nat.zero_le _, fun i hi => absurd hi (Nat.not_lt_zero _)⟩
    intro j
    rintro ⟨j1, j2⟩
    refine WC.seq ?_
    refine WC.region ?_
    refine WL.rd rfl rfl rfl (Rd.lss rfl rfl rfl) ?_
    refine WL.nil ?_
    refine thenQ.normal ?_
    refine WC.seq ?_
    refine WC.ite rfl (fun hc2 => ?_) (fun hc2 => ?_)
    ·
     refine WC.skip ?_
     refine thenQ.normal ?_
     refine WC.seq ?_
     refine WC.block ?_
     refine WC.seq ?_
     refine WC.region ?_
     refine WL.rd rfl rfl rfl ((by exact Rd.idx rfl S99 rfl rfl rfl Z.M Z.W)) ?_
     refine WL.rd rfl rfl rfl (Rd.getS (k := j) (a := x[j]!) (cs := [.int .i64 x[j]!.1, vs x[j]!.2]) (enc := encC) (xs := x) rfl G145 rfl Z.M (fun _ => rfl) (get!_of_lt Z.W) Z.N) ?_
     refine WL.op rfl ?_
     refine OpW.alloc rfl I145 rfl Z.N rfl rfl ?_; intro b6
     refine WL.op rfl ?_
     refine OpW.storeS rfl G145 rfl rfl Z.N Z.T rfl rfl Z.N rfl ?_
     refine WL.nil ?_
     refine thenQ.normal ?_
     refine WC.pick [0, 1, 6, 27, 28, 29] Z.P ?_
     refine WC.val 43 (.bool (decide (chgBad s f z x[j]! = true))) ?_ ?_
     ·
      refine WC.region ?_
      refine WL.rd rfl rfl rfl (Rd.move rfl rfl) ?_
      refine WL.rd rfl rfl rfl ((by exact Rd.field rfl F145_0 rfl rfl)) ?_
      refine WL.rd rfl rfl rfl (Rd.row1 (off := 0) (u := .int .i64 x[j]!.1) rfl C3 rfl Z.M rfl) ?_
      refine WL.op rfl ?_
      refine OpW.call rfl rfl Z.E Z.K rfl rfl rfl ?_
      refine Fun.heap (O' := dO d V s (rowC b6 145 [.int .i64 x[j]!.1, vs x[j]!.2] :: O)) Z.F ?_
      refine may_spec (f := f) (z := z) hl Z.W ?_
      refine WL.say 36 (u := .bool (decide (mayB s f z x[j]!.1 = true))) rfl (by simp) ?_
      refine WL.rd rfl rfl rfl ((by exact Rd.notd rfl rfl)) ?_
      refine WL.rd rfl rfl rfl (Rd.move rfl rfl) ?_
      refine WL.case 38 rfl (fun hg38 => ?_) (fun hg38 => ?_)
      ·
       refine WL.no rfl rfl rfl rfl rfl rfl ?_
       refine WL.no rfl rfl rfl rfl rfl rfl ?_
       refine WL.no rfl rfl rfl rfl rfl rfl ?_
       refine WL.no rfl rfl rfl rfl rfl rfl ?_
       refine WL.rd rfl rfl rfl (Rd.pick_t rfl rfl rfl) ?_
       refine WL.nil ?_
       exact ⟨by repeat (first | exact Sub.nil | refine Sub.cons rfl (by first | rfl | (exact vb_t (decide_eq_true (.inl hg38)))) ?_), by exact Z.F⟩
      ·
       refine WL.rd_yes rfl rfl rfl rfl rfl rfl ((by exact Rd.field rfl F145_1 rfl rfl)) ?_
       refine WL.rd_yes rfl rfl rfl rfl rfl rfl (Rd.row1 (off := 1) (u := vs x[j]!.2) rfl C9 rfl Z.M rfl) ?_
       refine WL.rd_yes rfl rfl rfl rfl rfl rfl (Rd.slen (ts := #[]) (ty := 0) rfl rfl Tryz.underlying9) ?_
       refine WL.rd_yes rfl rfl rfl rfl rfl rfl (Rd.gtr rfl rfl rfl) ?_
       refine WL.rd rfl rfl rfl (Rd.pick_f rfl rfl rfl) ?_
       refine WL.nil ?_
       exact ⟨by repeat (first | exact Sub.nil | refine Sub.cons rfl (by first | rfl | (exact vb ⟨fun h => decide_eq_true (.inr Z.W), fun h => (of_decide_eq_true h).elim (fun h => absurd h hg38) (fun h => by omega)⟩)) ?_), by exact Z.F⟩
     ·
      refine WC.ite rfl (fun hc3 => ?_) (fun hc3 => ?_)
      ·
       rw [if_pos ⟨_, chg_mem Z.W, hc3⟩] at hfin
       refine WC.seq ?_
       refine WC.region ?_
       refine WL.rd rfl rfl rfl (Rd.assign rfl rfl) ?_
       refine WL.nil ?_
       refine thenQ.normal ?_
       refine WC.heap (R' := R) (O' := dO d V s O) Z.F ?_
       refine WC.ret (Ret.one Tryz.results96 rfl ?_)
       rw [hfin] at hk
       exact hk V hv rfl
      ·
       refine WC.skip ?_
       refine blockQ.normal ?_
       refine thenQ.normal ?_
       refine WC.region ?_
       refine WL.rd rfl rfl rfl (Rd.add rfl rfl rfl Z.W) ?_
       refine WL.rd rfl rfl rfl (Rd.move rfl rfl) ?_
       refine WL.nil ?_
       exact loopQ1.mk (j + 1) ⟨by omega, fun i hi => by
       rcases Nat.lt_or_ge i j with h | h
       · exact j2 i h
       · obtain rfl : i = j := by omega
         simpa using hc3⟩ Z.W (by repeat (first | exact Sub.nil | refine Sub.cons rfl (by rfl) ?_)) Z.F
    ·
     refine WC.exit ?_
     refine thenQ.exit ?_
     refine loopQ1.exit ?_
     refine blockQ.exit ?_
     obtain rfl : j = x.length := by omega
     exact ⟨(), j2, (by repeat (first | exact Sub.nil | refine Sub.cons rfl (by rfl) ?_)), Z.F⟩
   ·
    rintro _ hgood
    have hgd : ∀ c ∈ x, mayB s f z c.1 = true ∧ c.2.length ≤ 512 := fun c hc => by
     obtain ⟨i, hi, rfl⟩ := List.getElem_of_mem hc
     have := hgood i hi
     rw [getElem!_pos x i hi] at this
     have h2 := of_decide_eq_false this
     exact ⟨Decidable.byContradiction fun h => h2 (.inl h), by omega⟩
    have hno : ¬ ∃ c ∈ x, chgBad s f z c = true := fun ⟨c, hc, hb⟩ => by
     obtain ⟨g1, g2⟩ := hgd c hc
     rcases of_decide_eq_true hb with h | h
     · exact h g1
     · omega
    rw [if_neg hno] at hfin
    have hxc : Chgs x := fun c hc => by
     obtain ⟨g1, g2⟩ := hgd c hc
     obtain ⟨q1, q2, _⟩ := may_iff g1
     exact ⟨q1, by omega, g2⟩
    obtain ⟨im, him⟩ : ∃ im, im = imagesE f x := ⟨_, rfl⟩
    have himl : im.length = x.length := by rw [him, images_len]
    rw [← him] at hfin
    refine WC.seq ?_
    refine WC.seq ?_
    refine WC.region ?_
    refine WL.rd rfl rfl rfl (Rd.move rfl rfl) ?_
    refine WL.rd rfl rfl rfl ((by exact Rd.lenE rfl rfl Tryz.underlying99 Z.M)) ?_
    refine WL.rd rfl rfl rfl (Rd.move rfl rfl) ?_
    refine WL.nil ?_
    refine thenQ.normal ?_
    refine WC.block ?_
    refine WC.pick [47, 0, 1, 45, 46] Z.P ?_
    refine WC.loop3 1 (fun (j : Nat) (t : DSt) (U : DV) => [(47, .int .i64 (j : Int))]) (fun (j : Nat) (t : DSt) (U : DV) => dO d U t O) (fun (j : Nat) (t : DSt) (U : DV) => j ≤ x.length ∧ Dk t (m + j) ∧ VOk U t ∧ U.kv = V.kv ∧ t.keep = s.keep ∧ t.lasts.length = s.lasts.length ∧ runP s im = runP t (im.drop j)) (fun (j : Nat) (t : DSt) (U : DV) => x.length - j) (0) (s) (V) Z.L ?hinv2 (by repeat (first | exact Sub.nil | refine Sub.cons rfl (by rfl) ?_)) (fun _ h => h) ?_
    case hinv2 =>
     exact ⟨Nat.zero_le _, dk, hv, rfl, rfl, rfl, rfl⟩
    intro j t U
    rintro ⟨j1, dkt, hu, hkv, hkp, hlen, hrun⟩
    refine WC.seq ?_
    refine WC.region ?_
    refine WL.rd rfl rfl rfl (Rd.lss rfl rfl rfl) ?_
    refine WL.nil ?_
    refine thenQ.normal ?_
    refine WC.seq ?_
    refine WC.ite rfl (fun hc4 => ?_) (fun hc4 => ?_)
    ·
     have hat := run_at (j := j) Z.W hrun
     rw [him, images_get Z.W, ← him] at hat
     simp only at hat
     obtain ⟨c, hcc⟩ : ∃ c, c = x[j]! := ⟨_, rfl⟩
     rw [← hcc] at hat
     refine WC.skip ?_
     refine thenQ.normal ?_
     refine WC.seq ?_
     refine WC.block ?_
     refine WC.seq ?_
     refine WC.region ?_
     refine WL.rd rfl rfl rfl (Rd.move rfl rfl) ?_
     refine WL.rd rfl rfl rfl ((by exact Rd.idx rfl S99 rfl rfl rfl Z.M Z.W)) ?_
     refine WL.rd rfl rfl rfl (Rd.getS (k := j) (a := c) (cs := [.int .i64 c.1, vs c.2]) (enc := encC) (xs := x) rfl G145 rfl Z.M (fun _ => rfl) (by rw [hcc]; exact get!_of_lt Z.W) Z.N) ?_
     refine WL.op rfl ?_
     refine OpW.alloc rfl I145 rfl Z.N rfl rfl ?_; intro b8
     refine WL.rd rfl rfl rfl (Rd.assign rfl rfl) ?_
     refine WL.op rfl ?_
     refine OpW.storeS rfl G145 rfl rfl Z.N Z.T rfl rfl Z.N rfl ?_
     refine WL.nil ?_
     refine thenQ.normal ?_
     refine WC.seq ?_
     refine WC.tail 13 mixed Z.K ?_
     refine WS.rd rfl rfl rfl (Rd.move rfl rfl) ?_
     refine WS.rd rfl rfl rfl (Rd.nilc rfl rfl) ?_
     refine WS.rd rfl rfl rfl ((by exact Rd.field rfl F98_0 rfl rfl)) ?_
     refine WS.rd rfl rfl rfl (Rd.getGl (off := 0) (u := dp d) rfl C25 rfl hl rfl) ?_
     refine WS.rd rfl rfl rfl (Rd.move rfl rfl) ?_
     refine WS.rd rfl rfl rfl (Rd.nilc rfl rfl) ?_
     refine WS.rd rfl rfl rfl ((by exact Rd.field rfl F98_1 rfl rfl)) ?_
     refine WS.rd rfl rfl rfl (Rd.getGl (off := 1) (u := .int .i64 f) rfl C3 rfl hl rfl) ?_
     refine WS.rd rfl rfl rfl (Rd.add rfl rfl rfl Z.W) ?_
     refine WS.rd rfl rfl rfl (Rd.move rfl rfl) ?_
     refine WS.rd rfl rfl rfl (Rd.add rfl rfl rfl Z.W) ?_
     refine WS.rd rfl rfl rfl ((by exact Rd.field rfl F145_1 rfl rfl)) ?_
     refine WS.rd rfl rfl rfl (Rd.row1 (off := 1) (u := vs c.2) rfl C9 rfl Z.M rfl) ?_
     refine WS.switch ?_
     refine WL.op rfl ?_
     refine OpW.call rfl rfl Z.E Z.K rfl rfl rfl ?_
     refine Fun.heap (R' := R) (O' := dO d U t (rowC b8 145 [.int .i64 c.1, vs c.2] :: O)) Z.F ?_
     refine write_spec dkt.ok Z.W hu (by rw [hkv, hkp]; exact hkeep) ?_; intro U1 hu1 hku1
     refine WL.rd rfl rfl rfl (Rd.assign rfl rfl) ?_
     refine WL.nil ?_
     refine thenQ.normal ?_
     refine WC.seq ?_
     refine WC.region ?_
     refine WL.rd rfl rfl rfl (Rd.move rfl rfl) ?_
     refine WL.rd rfl rfl rfl (Rd.neq rfl rfl rfl) ?_
     refine WL.nil ?_
     refine thenQ.normal ?_
     refine WC.ite rfl (fun hc5 => ?_) (fun hc5 => ?_)
     ·
      rw [if_pos Z.W] at hat
      have hmk : makeS s im = (putS t (f + 1 + (j : Int)) c.2, dputE t (f + 1 + (j : Int)) c.2) := by unfold makeS; rw [hat]; unfold thenE; rw [if_pos (by show dputE t (f + 1 + (j : Int)) c.2 ≠ 0; omega)]
      have hfin2 : commitE s f z x = (putS t (f + 1 + (j : Int)) c.2, dputE t (f + 1 + (j : Int)) c.2) := by
       rw [hfin, hmk]; unfold thenE; rw [if_pos (by show dputE t (f + 1 + (j : Int)) c.2 ≠ 0; omega)]
      rw [hfin2] at hk
      refine WC.seq ?_
      refine WC.region ?_
      refine WL.rd rfl rfl rfl (Rd.move rfl rfl) ?_
      refine WL.rd rfl rfl rfl (Rd.assign rfl rfl) ?_
      refine WL.nil ?_
      refine thenQ.normal ?_
      refine WC.heap (R' := R) (O' := dO d U1 (putS t (f + 1 + (j : Int)) c.2) O) Z.F ?_
      refine WC.ret (Ret.one Tryz.results96 rfl ?_)
      exact hk U1 hu1 (hku1.trans hkv)
     ·
      rw [if_neg Z.W] at hat
      refine WC.skip ?_
      refine blockQ.normal ?_
      refine thenQ.normal ?_
      refine WC.region ?_
      refine WL.rd rfl rfl rfl (Rd.add rfl rfl rfl Z.W) ?_
      refine WL.rd rfl rfl rfl (Rd.move rfl rfl) ?_
      refine WL.nil ?_
      exact loopQ3.mk (j + 1) (putS t (f + 1 + (j : Int)) c.2) U1 ⟨by omega, (dkt.put _ _).mono Z.W, hu1, hku1.trans hkv, (put_keepW _ _ _).trans hkp, (put_lasts _ _ _).trans hlen, hat⟩ Z.W (by repeat (first | exact Sub.nil | refine Sub.cons rfl (by rfl) ?_)) Z.F
    ·
     obtain rfl : j = x.length := by omega
     have hr0 : runP s im = (t, 0) := by rw [hrun, ← himl, List.drop_length]; rfl
     have hmk : makeS s im = (syncS t, stepE t) := by unfold makeS; rw [hr0]; rfl
     rw [hmk] at hfin
     refine WC.exit ?_
     refine thenQ.exit ?_
     refine loopQ3.exit ?_
     refine blockQ.exit ?_
     refine thenQ.normal ?_
     refine WC.seq ?_
     refine WC.seq ?_
     refine WC.region ?_
     refine WL.rd rfl rfl rfl (Rd.move rfl rfl) ?_
     refine WL.rd rfl rfl rfl (Rd.nilc rfl rfl) ?_
     refine WL.rd rfl rfl rfl ((by exact Rd.field rfl F98_0 rfl rfl)) ?_
     refine WL.rd rfl rfl rfl (Rd.getGl (off := 0) (u := dp d) rfl C25 rfl hl rfl) ?_
     refine WL.op rfl ?_
     refine OpW.call rfl rfl Z.E Z.K rfl rfl rfl ?_
     refine sync_spec dkt.ok Z.W hu (by rw [hkv, hkp]; exact hkeep) ?_; intro U1 hu1 hku1
     refine WL.rd rfl rfl rfl (Rd.assign rfl rfl) ?_
     refine WL.nil ?_
     refine thenQ.normal ?_
     refine WC.seq ?_
     refine WC.region ?_
     refine WL.rd rfl rfl rfl (Rd.move rfl rfl) ?_
     refine WL.rd rfl rfl rfl (Rd.neq rfl rfl rfl) ?_
     refine WL.nil ?_
     refine thenQ.normal ?_
     refine WC.ite rfl (fun hc6 => ?_) (fun hc6 => ?_)
     ·
      have hfin2 : commitE s f z x = (syncS t, stepE t) := by rw [hfin]; unfold thenE; rw [if_pos (by show stepE t ≠ 0; omega)]
      rw [hfin2] at hk
      refine WC.seq ?_
      refine WC.region ?_
      refine WL.rd rfl rfl rfl (Rd.move rfl rfl) ?_
      refine WL.rd rfl rfl rfl (Rd.assign rfl rfl) ?_
      refine WL.nil ?_
      refine thenQ.normal ?_
      refine WC.ret (Ret.one Tryz.results96 rfl ?_)
      exact hk U1 hu1 (hku1.trans hkv)
     ·
      have hfin2 : commitE s f z x = thenE (sayS (syncS t) f (headB x)) fun t => doneE t f x := by rw [hfin]; unfold thenE; rw [if_neg (by show ¬ stepE t ≠ 0; omega)]
      have dk1 := dkt.sync
      have hkp1 := (sync_keepW t).trans hkp
      have hlen1 := (sync_lasts t).trans hlen
      refine WC.skip ?_
      refine thenQ.normal ?_
      refine WC.seq ?_
      refine WC.seq ?_
      refine WC.region ?_
      refine WL.rd rfl rfl rfl (Rd.move rfl rfl) ?_
      refine WL.rd rfl rfl rfl (Rd.move rfl rfl) ?_
      refine WL.op rfl ?_
      refine OpW.call rfl rfl Z.E Z.K rfl rfl rfl ?_
      refine walHead_spec (x := x) ht hx hxc Z.W ?_
      refine WL.op rfl ?_
      refine OpW.call rfl rfl Z.E Z.K rfl rfl rfl ?_
      refine walSay_spec (h := headB x) (f := f) (z := z) hl dk1 Z.W hu1 (by rw [hku1, hkv, hkp1]; exact hkeep) ?_; intro U2 hu2 hku2
      obtain ⟨dk2, _, hkp2⟩ := make_dk (x := [(f, headB x)]) dk1
      obtain ⟨p, hp⟩ : ∃ p, p = sayS (syncS t) f (headB x) := ⟨_, rfl⟩
      have hp' : p = makeS (syncS t) [(f, headB x)] := hp
      rw [← hp'] at dk2 hkp2
      rw [← hp] at hfin2 hu2 ⊢
      refine WL.rd rfl rfl rfl (Rd.assign rfl rfl) ?_
      refine WL.nil ?_
      refine thenQ.normal ?_
      refine WC.seq ?_
      refine WC.region ?_
      refine WL.rd rfl rfl rfl (Rd.move rfl rfl) ?_
      refine WL.rd rfl rfl rfl (Rd.neq rfl rfl rfl) ?_
      refine WL.nil ?_
      refine thenQ.normal ?_
      refine WC.ite rfl (fun hc7 => ?_) (fun hc7 => ?_)
      ·
       have hfin3 : commitE s f z x = p := by rw [hfin2]; unfold thenE; rw [if_pos Z.W]
       rw [hfin3] at hk
       refine WC.seq ?_
       refine WC.region ?_
       refine WL.rd rfl rfl rfl (Rd.move rfl rfl) ?_
       refine WL.rd rfl rfl rfl (Rd.assign rfl rfl) ?_
       refine WL.nil ?_
       refine thenQ.normal ?_
       refine WC.ret (Ret.one Tryz.results96 rfl ?_)
       exact hk U2 hu2 (hku2.trans (hku1.trans hkv))
      ·
       have hfin3 : commitE s f z x = thenE (makeS p.1 x) fun u => sayS u f [] := by rw [hfin2]; unfold thenE; rw [if_neg Z.W]; rfl
       have hkp3 := hkp2.trans hkp1
       obtain ⟨dk3, _, hkp4⟩ := make_dk (x := x) dk2
       refine WC.skip ?_
       refine thenQ.normal ?_
       refine WC.seq ?_
       refine WC.seq ?_
       refine WC.region ?_
       refine WL.rd rfl rfl rfl (Rd.move rfl rfl) ?_
       refine WL.rd rfl rfl rfl (Rd.move rfl rfl) ?_
       refine WL.op rfl ?_
       refine OpW.call rfl rfl Z.E Z.K rfl rfl rfl ?_
       refine walMake_spec (x := x) (f := f) (z := z) hl hx dk2 (by show _ + 1 + _ ≤ _; simp only [List.length_singleton]; omega) hu2 (by rw [hku2, hku1, hkv, hkp3]; exact hkeep) ?_; intro U3 hu3 hku3
       obtain ⟨q, hq⟩ : ∃ q, q = makeS p.1 x := ⟨_, rfl⟩
       rw [← hq] at hfin3 hu3 dk3 hkp4 ⊢
       refine WL.rd rfl rfl rfl (Rd.assign rfl rfl) ?_
       refine WL.nil ?_
       refine thenQ.normal ?_
       refine WC.seq ?_
       refine WC.region ?_
       refine WL.rd rfl rfl rfl (Rd.move rfl rfl) ?_
       refine WL.rd rfl rfl rfl (Rd.neq rfl rfl rfl) ?_
       refine WL.nil ?_
       refine thenQ.normal ?_
       refine WC.ite rfl (fun hc8 => ?_) (fun hc8 => ?_)
       ·
        have hfin4 : commitE s f z x = q := by rw [hfin3]; unfold thenE; rw [if_pos Z.W]
        rw [hfin4] at hk
        refine WC.seq ?_
        refine WC.region ?_
        refine WL.rd rfl rfl rfl (Rd.move rfl rfl) ?_
        refine WL.rd rfl rfl rfl (Rd.assign rfl rfl) ?_
        refine WL.nil ?_
        refine thenQ.normal ?_
        refine WC.ret (Ret.one Tryz.results96 rfl ?_)
        exact hk U3 hu3 (hku3.trans (hku2.trans (hku1.trans hkv)))
       ·
        have hfin4 : commitE s f z x = sayS q.1 f [] := by rw [hfin3]; unfold thenE; rw [if_neg Z.W]
        rw [hfin4] at hk
        refine WC.skip ?_
        refine thenQ.normal ?_
        refine WC.seq ?_
        refine WC.region ?_
        refine WL.rd rfl rfl rfl (Rd.move rfl rfl) ?_
        refine WL.op rfl ?_
        refine OpW.call rfl rfl Z.E Z.K rfl rfl rfl ?_
        refine walSay_spec (h := []) (f := f) (z := z) hl dk3 (by simp only [List.length_singleton]; omega) hu3 (by rw [hku3, hku2, hku1, hkv, hkp4, hkp3]; exact hkeep) ?_; intro U4 hu4 hku4
        refine WL.rd rfl rfl rfl (Rd.assign rfl rfl) ?_
        refine WL.nil ?_
        refine thenQ.normal ?_
        refine WC.ret (Ret.one Tryz.results96 rfl ?_)
        exact hk U4 hu4 (hku4.trans (hku3.trans (hku2.trans (hku1.trans hkv))))
end
end Go.Proofs.YtckokhdjeifomaaGreatDoor
namespace Go.Proofs.YtckokhdjeifomaaGreatDoor
open Go Go.SL
def setC (L : List (List UInt8)) (c : Chg) : List (List UInt8) := L.set c.1.toNat (fullE c.2)
def applyA (x : List Chg) (L : List (List UInt8)) : List (List UInt8) := x.foldl setC L
def toW (c : Chg) : Nat × List UInt8 := (c.1.toNat, fullE c.2)
def OkC (n : Nat) (x : List Chg) : Prop := ∀ c ∈ x, 0 ≤ c.1 ∧ c.1 < (n : Int) ∧ c.2.length ≤ 512
def OffC (x : List Chg) (i : Nat) : Prop := ∀ c ∈ x, c.1.toNat ≠ i
theorem apply_snoc (x : List Chg) (c : Chg) (L : List (List UInt8)) : applyA (x ++ [c]) L = setC (applyA x L) c := by unfold applyA; rw [List.foldl_append]; rfl
theorem apply_len : ∀ (x : List Chg) (L : List (List UInt8)), (applyA x L).length = L.length
 | [], _ => rfl
 | c :: r, L => by
   show (applyA r (setC L c)).length = _
   rw [apply_len r]; unfold setC; rw [List.length_set]
theorem apply_at : ∀ (x : List Chg) (L L' : List (List UInt8)) (i : Nat), L.length = L'.length → (OffC x i → L[i]? = L'[i]?) → (applyA x L)[i]? = (applyA x L')[i]?
 | [], _, _, _, _, h => h (fun c hc => absurd hc List.not_mem_nil)
 | c :: r, L, L', i, hl, h => by
   show (applyA r (setC L c))[i]? = (applyA r (setC L' c))[i]?
   refine apply_at r _ _ i (by unfold setC; rw [List.length_set, List.length_set, hl]) (fun ho => ?_)
   unfold setC
   rw [List.getElem?_set, List.getElem?_set, hl]
   by_cases hc : c.1.toNat = i
   · rw [if_pos hc, if_pos hc]
   · rw [if_neg hc, if_neg hc]
     refine h (fun d hd => ?_)
     rcases List.mem_cons.1 hd with rfl | hd
     · exact hc
     · exact ho d hd
theorem apply_off : ∀ (x : List Chg) (L : List (List UInt8)) (i : Nat), OffC x i → (applyA x L)[i]? = L[i]?
 | [], _, _, _ => rfl
 | c :: r, L, i, h => by
   show (applyA r (setC L c))[i]? = _
   rw [apply_off r _ i (fun d hd => h d (List.mem_cons_of_mem _ hd))]
   unfold setC
   rw [List.getElem?_set_ne (h c List.mem_cons_self)]
theorem off_sub {x y : List Chg} {i : Nat} (h : OffC x i) (hs : List.Sublist y x) : OffC y i := fun c hc => h c (hs.subset hc)
theorem failN_app (ds : List Chg) (keep : List Int) (L : List (List UInt8)) : ∀ n, n ≤ ds.length → ∃ sub, List.Sublist sub (ds.take n) ∧ failN (ds.map toW) keep L n = applyA sub L
 | 0, _ => ⟨[], List.nil_sublist _, rfl⟩
 | n + 1, hn => by
   obtain ⟨sub, h1, h2⟩ := failN_app ds keep L n Z.W
   have ht : ds.take (n + 1) = ds.take n ++ [ds[n]!] := by rw [List.take_add_one, get!_of_lt Z.W]; rfl
   have hg : (ds.map toW)[n]! = toW ds[n]! := by
    rw [getElem!_pos (ds.map toW) n (by rw [List.length_map]; omega), getElem!_pos ds n Z.W, List.getElem_map]
   rw [failN_succ, ht, hg]
   split
   · exact ⟨sub ++ [ds[n]!], h1.append (List.Sublist.refl _), by rw [apply_snoc, h2]; rfl⟩
   · exact ⟨sub, h1.trans (List.sublist_append_left _ _), h2⟩
theorem failN_one (ds : List Chg) (L : List (List UInt8)) : ∀ n, n ≤ ds.length → failN (ds.map toW) [1] L n = applyA (ds.take n) L
 | 0, _ => rfl
 | n + 1, hn => by
   have ht : ds.take (n + 1) = ds.take n ++ [ds[n]!] := by rw [List.take_add_one, get!_of_lt Z.W]; rfl
   have hg : (ds.map toW)[n]! = toW ds[n]! := by
    rw [getElem!_pos (ds.map toW) n (by rw [List.length_map]; omega), getElem!_pos ds n Z.W, List.getElem_map]
   rw [failN_succ, if_pos (odd_one n), ht, hg, apply_snoc, failN_one ds L n Z.W]; rfl
/-- Writes, then they last; or the power fails, and some of them are there. -/
def Ph (s : DSt) (x : List Chg) (p : DSt × Nat) : Prop :=
 p.1.since = [] ∧ (p.2 = 0 ∧ p.1.off = false ∧ p.1.lasts = applyA x s.lasts ∧ (s.left = 0 → p.1.left = 0) ∨
  s.left ≠ 0 ∧ p.2 = 7 ∧ p.1.off = true ∧ ∃ sub, List.Sublist sub x ∧ p.1.lasts = applyA sub s.lasts)
theorem run_law : ∀ (x : List Chg) (s : DSt) (ds : List Chg), s.off = false → s.since = ds.map toW → OkC s.lasts.length x →
 ((runP s x).2 = 0 ∧ (runP s x).1.off = false ∧ (runP s x).1.since = (ds ++ x).map toW ∧ (runP s x).1.lasts = s.lasts ∧ (s.left = 0 → (runP s x).1.left = 0) ∨
   s.left ≠ 0 ∧ (runP s x).2 = 7 ∧ (runP s x).1.off = true ∧ (runP s x).1.since = [] ∧ ∃ sub, List.Sublist sub (ds ++ x) ∧ (runP s x).1.lasts = applyA sub s.lasts)
 | [], s, ds, ho, hs, _ => .inl ⟨rfl, ho, by rw [List.append_nil]; exact hs, rfl, fun h => h⟩
 | c :: r, s, ds, ho, hs, hc => by
   obtain ⟨c1, c2, c3⟩ := hc c List.mem_cons_self
   have hb : badB s c.1 c.2 = false := by
    unfold badB hasB
    rw [decide_eq_false_iff_not]
    simp only [decide_eq_true_eq]
    omega
   have hnb : ¬ badB s c.1 c.2 = true := by rw [hb]; exact Bool.false_ne_true
   have hno : ¬ s.off = true := by rw [ho]; exact Bool.false_ne_true
   rw [runP]
   by_cases hl : s.left = 1
   · obtain ⟨e1, e2⟩ := stepE_fail hno hl
     have ed : dputE s c.1 c.2 = 7 := by unfold dputE; rw [if_neg hnb, e1]
     have ep : putS s c.1 c.2 = failS s s.keep := by unfold putS; rw [if_neg hnb, e1, if_neg (by decide), e2]
     rw [ed, ep, if_pos (by decide)]
     obtain ⟨sub, h1, h2⟩ := failN_app ds s.keep s.lasts ds.length (Nat.le_refl _)
     rw [List.take_length] at h1
     refine .inr ⟨by omega, rfl, rfl, rfl, sub, h1.trans (List.sublist_append_left _ _), ?_⟩
     show failN s.since s.keep s.lasts s.since.length = _
     rw [hs, List.length_map, h2]
   · obtain ⟨e1, e2⟩ := stepE_on hno hl
     have ed : dputE s c.1 c.2 = 0 := by unfold dputE; rw [if_neg hnb, e1]
     have ep : putS s c.1 c.2 = { s with left := s.left - 1, done := s.done + 1, since := s.since ++ [toW c] } := by unfold putS; rw [if_neg hnb, e1, if_pos rfl, e2]; rfl
     rw [ed, ep, if_neg (fun h => h rfl)]
     have ih := run_law r { s with left := s.left - 1, done := s.done + 1, since := s.since ++ [toW c] } (ds ++ [c]) ho (by show s.since ++ [toW c] = _; rw [hs, List.map_append]; rfl) (fun d hd => hc d (List.mem_cons_of_mem _ hd))
     rw [List.append_assoc] at ih
     rcases ih with ⟨i1, i2, i3, i4, i5⟩ | ⟨i0, i1, i2, i3, i4⟩
     · exact .inl ⟨i1, i2, i3, i4, fun h => i5 (by show s.left - 1 = 0; omega)⟩
     · exact .inr ⟨by have : s.left - 1 ≠ 0 := i0; omega, i1, i2, i3, i4⟩
theorem make_law {s : DSt} {x : List Chg} (ho : s.off = false) (hs : s.since = []) (hc : OkC s.lasts.length x) : Ph s x (makeS s x) := by
 have h := run_law x s [] ho hs hc
 rw [List.nil_append] at h
 unfold makeS thenE
 rcases h with ⟨i1, i2, i3, i4, i5⟩ | ⟨i0, i1, i2, i3, i4⟩
 · rw [i1, if_neg (fun h => h rfl)]
   obtain ⟨t, ht⟩ : ∃ t, t = (runP s x).1 := ⟨_, rfl⟩
   rw [← ht] at i2 i3 i4 i5 ⊢
   show Ph s x (syncS t, stepE t)
   have hno : ¬ t.off = true := by rw [i2]; exact Bool.false_ne_true
   by_cases hl : t.left = 1
   · obtain ⟨e1, e2⟩ := stepE_fail hno hl
     have es : syncS t = failS t t.keep := by unfold syncS; rw [e1, if_neg (by decide), e2]
     obtain ⟨sub, h1, h2⟩ := failN_app x t.keep t.lasts x.length (Nat.le_refl _)
     rw [List.take_length] at h1
     rw [es, e1]
     refine ⟨rfl, .inr ⟨fun h0 => by have := i5 h0; omega, rfl, rfl, sub, h1, ?_⟩⟩
     show failN t.since t.keep t.lasts t.since.length = _
     rw [i3, List.length_map, h2, i4]
   · obtain ⟨e1, e2⟩ := stepE_on hno hl
     have es : syncS t = { t with left := t.left - 1, done := t.done + 1, lasts := failN t.since [1] t.lasts t.since.length, since := [] } := by unfold syncS; rw [e1, if_pos rfl, e2]
     rw [es, e1]
     refine ⟨rfl, .inl ⟨rfl, i2, ?_, fun h0 => by show t.left - 1 = 0; have := i5 h0; omega⟩⟩
     show failN t.since [1] t.lasts t.since.length = _
     rw [i3, List.length_map, failN_one x t.lasts x.length (Nat.le_refl _), List.take_length, i4]
 · rw [i1, if_pos (by decide)]
   exact ⟨i3, .inr ⟨i0, i1, i2, i4⟩⟩
theorem head_mark (x : List Chg) : (fullE (headB x)).take 2 = [87, 76] := by unfold fullE headB hdB; rfl
theorem said_some {s : DSt} {f z : Int} (h0 : (readE s f).2 = 0) {n : Nat} (hn : n = (readE s f).1[2]!.toNat) (h1 : 1 ≤ n) (h2 : (n : Int) < z) (h3 : ∀ c ∈ decN s f (readE s f).1 n, mayB s f z c.1 = true) (h4 : (readE s f).1 = fullE (headB (decN s f (readE s f).1 n))) : saidE s f z = (decN s f (readE s f).1 n, 0) := by
 have hm : (readE s f).1.take 2 = [87, 76] := by rw [h4]; exact head_mark _
 rw [saidE, ← hn, if_neg (fun hh => hh h0), if_neg, if_neg (fun hh => hh h3), if_neg (fun hh => hh h4)]
 rintro (h | h | h)
 · exact h hm
 · omega
 · omega
theorem done_dk {s : DSt} {m : Nat} (h : Dk s m) (f : Int) (x : List Chg) : Dk (doneE s f x).1 (m + x.length + 3) ∧ (doneE s f x).1.lasts.length = s.lasts.length ∧ (doneE s f x).1.keep = s.keep := by
 obtain ⟨h1, h2, h3⟩ := make_dk (x := x) h
 unfold doneE thenE
 split
 · exact ⟨h1.mono Z.W, h2, h3⟩
 · obtain ⟨g1, g2, g3⟩ := make_dk (x := [(f, [])]) h1
   exact ⟨g1.mono (by simp only [List.length_singleton]; omega), g2.trans h2, g3.trans h3⟩
theorem said_len (s : DSt) (f z : Int) : (saidE s f z).1.length ≤ 255 := by
 rw [saidE]
 split
 · exact Nat.zero_le _
 · split
   · exact Nat.zero_le _
   · split
     · exact Nat.zero_le _
     · split
       · exact Nat.zero_le _
       · rw [dec_len]; have := UInt8.toNat_lt (readE s f).1[2]!; omega
theorem open_dk {s : DSt} {m : Nat} (h : Dk s m) (f z : Int) : Dk (openE s f z).1 (m + 300) ∧ (openE s f z).1.lasts.length = s.lasts.length ∧ (openE s f z).1.keep = s.keep := by
 have hl := said_len s f z
 obtain ⟨g1, g2, g3⟩ := done_dk h f (saidE s f z).1
 rw [openE]
 split
 · exact ⟨h.mono Z.W, rfl, rfl⟩
 · split
   · exact ⟨h.mono Z.W, rfl, rfl⟩
   · split
     · exact ⟨h.mono Z.W, rfl, rfl⟩
     · split
       · exact ⟨g1.mono Z.W, g2, g3⟩
       · exact ⟨g1.mono Z.W, g2, g3⟩
theorem commit_dk {s : DSt} {m : Nat} (h : Dk s m) {f z : Int} (hz : z ≤ 65) (x : List Chg) : Dk (commitE s f z x).1 (m + 300) ∧ (commitE s f z x).1.lasts.length = s.lasts.length ∧ (commitE s f z x).1.keep = s.keep := by
 rw [commitE]
 split
 · exact ⟨h.mono Z.W, rfl, rfl⟩
 · rename_i h1
   have hx : (x.length : Int) < z := by
    by_cases hh : z ≤ (x.length : Int)
    · exact absurd (.inr hh) h1
    · omega
   split
   · exact ⟨h.mono Z.W, rfl, rfl⟩
   · obtain ⟨a1, a2, a3⟩ := make_dk (x := imagesE f x) h
     rw [images_len] at a1
     unfold thenE
     split
     · exact ⟨a1.mono Z.W, a2, a3⟩
     · dsimp only
       obtain ⟨b1, b2, b3⟩ := make_dk (x := [(f, headB x)]) a1
       split
       · exact ⟨b1.mono (by simp only [List.length_singleton]; omega), b2.trans a2, b3.trans a3⟩
       · obtain ⟨c1, c2, c3⟩ := done_dk b1 f x
         exact ⟨c1.mono (by simp only [List.length_singleton]; omega), c2.trans (b2.trans a2), c3.trans (b3.trans a3)⟩
def Geo (f z n : Nat) : Prop := 2 ≤ z ∧ z ≤ 65 ∧ f + z ≤ n ∧ n ≤ 4096
variable {f z n : Nat}
def Tame (f z n : Nat) (y : List Chg) : Prop := (Geo f z n ∧ y.length < z) ∧ ∀ c ∈ y, (0 ≤ c.1 ∧ c.1 < (f : Int) ∨ (f : Int) + z ≤ c.1 ∧ c.1 < (n : Int)) ∧ c.2.length ≤ 512
def Zero (f : Nat) (L : List (List UInt8)) : Prop := L[f]? = some zs512
def Hd (f : Nat) (x : List Chg) (L : List (List UInt8)) : Prop := L[f]? = some (fullE (headB x)) ∧ ∀ j, j < x.length → L[f + 1 + j]? = some (fullE x[j]!.2)
def SameOut (f z : Nat) (L T : List (List UInt8)) : Prop := ∀ i, i < f ∨ f + z ≤ i → L[i]? = T[i]?
structure StA (f z n : Nat) (T L : List (List UInt8)) : Prop where
 len : L.length = n
 zero : Zero f L
 out : SameOut f z L T
structure Redo (f z n : Nat) (w : List (List UInt8)) (x : List Chg) (L : List (List UInt8)) : Prop where
 len : L.length = n
 hd : Hd f x L
 out : ∀ i, i < f ∨ f + z ≤ i → OffC x i → L[i]? = w[i]?
def GA (f z n : Nat) (w : List (List UInt8)) (x : List Chg) (L : List (List UInt8)) : Prop := StA f z n w L ∨ StA f z n (applyA x w) L ∨ Redo f z n w x L
theorem Tame.ok {y : List Chg} (h : Tame f z n y) : OkC n y := fun c hc => by obtain ⟨⟨⟨g1, g2, g3, g4⟩, g5⟩, _⟩ := id h; obtain ⟨h1, h2⟩ := h.2 c hc; exact ⟨by omega, by omega, h2⟩
theorem Tame.off {y : List Chg} (h : Tame f z n y) {i : Nat} (h1 : f ≤ i) (h2 : i < f + z) : OffC y i := fun c hc => by obtain ⟨h3, _⟩ := h.2 c hc; omega
theorem Redo.sub {w L : List (List UInt8)} {x y : List Chg} (h : Redo f z n w x L) (hx : Tame f z n x) (hy : ∀ i, OffC x i → OffC y i) : Redo f z n w x (applyA y L) where
 len := by rw [apply_len]; exact h.len
 hd := ⟨by rw [apply_off y L f (hy f (hx.off Z.W (by have := hx.1.1.1; omega)))]; exact h.hd.1, fun j hj => by rw [apply_off y L (f + 1 + j) (hy _ (hx.off Z.W (by have := hx.1.2; omega)))]; exact h.hd.2 j hj⟩
 out := fun i hi ho => by rw [apply_off y L i (hy i ho)]; exact h.out i hi ho
theorem sub_one {c : Chg} {y : List Chg} (h : List.Sublist y [c]) : y = [] ∨ y = [c] := by
 cases h with
 | cons _ h => exact .inl (List.eq_nil_of_sublist_nil h)
 | cons_cons _ h => rw [List.eq_nil_of_sublist_nil h]; exact .inr rfl
theorem img_at : ∀ (x : List Chg) (k : Nat) (L : List (List UInt8)) (j : Nat), j < x.length → f + 1 + k + x.length ≤ L.length →
 (applyA ((x.zipIdx k).map fun p => ((f : Int) + 1 + (p.2 : Int), p.1.2)) L)[f + 1 + k + j]? = some (fullE x[j]!.2)
 | [], _, _, _, hj, _ => absurd hj (Nat.not_lt_zero _)
 | c :: r, k, L, j, hj, hl => by
   rw [List.length_cons] at hj hl
   rw [List.zipIdx_cons, List.map_cons]
   show (applyA ((r.zipIdx (k + 1)).map _) (setC L ((f : Int) + 1 + (k : Int), c.2)))[f + 1 + k + j]? = _
   match j with
   | 0 =>
     rw [apply_off]
     · unfold setC
       rw [show ((f : Int) + 1 + (k : Int)).toNat = f + 1 + k from by omega]
       show (L.set (f + 1 + k) _)[f + 1 + k]? = _
       rw [List.getElem?_set_self Z.W]; rfl
     · intro d hd
       obtain ⟨p, hp, rfl⟩ := List.mem_map.1 hd
       have := List.le_snd_of_mem_zipIdx (x := p) hp
       show ((f : Int) + 1 + (p.2 : Int)).toNat ≠ _
       omega
   | j + 1 =>
     have := img_at r (k + 1) (setC L ((f : Int) + 1 + (k : Int), c.2)) j Z.W (by unfold setC; rw [List.length_set]; omega)
     rw [show f + 1 + k + (j + 1) = f + 1 + (k + 1) + j from by omega, this]; rfl
theorem img_off {x : List Chg} {i : Nat} (h : i < f + 1 ∨ f + 1 + x.length ≤ i) : OffC (imagesE (f : Int) x) i := by
 intro d hd
 obtain ⟨p, hp, rfl⟩ := List.mem_map.1 hd
 have h1 := List.snd_lt_of_mem_zipIdx (x := p) hp
 show ((f : Int) + 1 + (p.2 : Int)).toNat ≠ _
 omega
theorem img_ok {x : List Chg} (h : Tame f z n x) : OkC n (imagesE (f : Int) x) := by
 obtain ⟨⟨⟨g1, g2, g3, g4⟩, g5⟩, _⟩ := id h
 intro d hd
 obtain ⟨p, hp, rfl⟩ := List.mem_map.1 hd
 have h1 := List.snd_lt_of_mem_zipIdx (x := p) hp
 have h2 := List.fst_mem_of_mem_zipIdx (x := p) hp
 have := h.1
 exact ⟨by show (0 : Int) ≤ (f : Int) + 1 + (p.2 : Int); omega, by show (f : Int) + 1 + (p.2 : Int) < _; omega, (h.2 _ h2).2⟩
structure Clean (f z n : Nat) (s : DSt) : Prop where
 off : s.off = false
 since : s.since = []
 len : s.lasts.length = n
 zero : Zero f s.lasts
theorem commit_law {s : DSt} {x : List Chg} (hs : Clean f z n s) (hx : Tame f z n x) (hne : x ≠ []) :
 (commitE s (f : Int) (z : Int) x).1.since = [] ∧ ((commitE s (f : Int) (z : Int) x).2 = 0 ∧ (commitE s (f : Int) (z : Int) x).1.off = false ∧ StA f z n (applyA x s.lasts) (commitE s (f : Int) (z : Int) x).1.lasts ∧ (s.left = 0 → (commitE s (f : Int) (z : Int) x).1.left = 0) ∨
   s.left ≠ 0 ∧ (commitE s (f : Int) (z : Int) x).2 = 7 ∧ (commitE s (f : Int) (z : Int) x).1.off = true ∧ GA f z n s.lasts x (commitE s (f : Int) (z : Int) x).1.lasts) := by
 obtain ⟨⟨⟨ga, gb, gc, gd⟩, hxl⟩, _⟩ := id hx
 have hlen := hs.len
 have e : commitE s (f : Int) (z : Int) x = thenE (makeS s (imagesE (f : Int) x)) fun t => thenE (sayS t (f : Int) (headB x)) fun t => thenE (makeS t x) fun t => sayS t (f : Int) [] := by
  rw [commitE, if_neg, if_neg]
  · rfl
  · rintro ⟨c, hc, hb⟩
    obtain ⟨h1, h2⟩ := hx.2 c hc
    have hb2 := of_decide_eq_true hb
    unfold mayB at hb2
    rw [decide_eq_true_eq, hlen] at hb2
    omega
  · rintro (h | h)
    · exact hne h
    · omega
 rw [e]
 obtain ⟨a1, a2⟩ := make_law hs.off hs.since (by rw [hlen]; exact img_ok hx)
 obtain ⟨p, hp⟩ : ∃ p, p = makeS s (imagesE (f : Int) x) := ⟨_, rfl⟩
 rw [← hp] at a1 a2 ⊢
 rcases a2 with ⟨b1, b2, b3, b4⟩ | ⟨b0, b1, b2, sub, b3, b4⟩
 · have L1len : p.1.lasts.length = n := by rw [b3, apply_len]; exact hlen
   have L1z : Zero f p.1.lasts := by unfold Zero; rw [b3, apply_off _ _ f (img_off (.inl Z.W))]; exact hs.zero
   have L1o : SameOut f z p.1.lasts s.lasts := fun i hi => by rw [b3, apply_off _ _ i (img_off Z.W)]
   have L1i : ∀ j, j < x.length → p.1.lasts[f + 1 + j]? = some (fullE x[j]!.2) := fun j hj => by
    have := img_at (f := f) x 0 s.lasts j hj Z.W
    rw [b3]; exact this
   have hL1 : StA f z n s.lasts p.1.lasts := ⟨L1len, L1z, L1o⟩
   rw [thenE, if_neg (by rw [b1]; exact fun h => h rfl)]
   have hhl := headB_len x
   obtain ⟨c1, c2⟩ := make_law (x := [((f : Int), headB x)]) b2 a1 (by
    intro d hd; rw [List.mem_singleton] at hd; subst hd
    exact ⟨by show (0 : Int) ≤ (f : Int); omega, by show (f : Int) < _; omega, by show (headB x).length ≤ 512; omega⟩)
   obtain ⟨q, hq⟩ : ∃ q, q = makeS p.1 [((f : Int), headB x)] := ⟨_, rfl⟩
   have e2 : sayS p.1 (f : Int) (headB x) = q := hq.symm
   rw [← hq] at c1 c2
   rw [e2]
   have hset : Redo f z n s.lasts x (applyA [((f : Int), headB x)] p.1.lasts) := by
    refine ⟨by rw [apply_len]; exact L1len, ⟨?_, fun j hj => ?_⟩, fun i hi ho => ?_⟩
    · show (p.1.lasts.set (f : Int).toNat (fullE (headB x)))[f]? = _
      rw [Int.toNat_natCast, List.getElem?_set_self Z.W]
    · rw [apply_off _ _ _ (by intro d hd; rw [List.mem_singleton] at hd; subst hd; show (f : Int).toNat ≠ _; omega)]; exact L1i j hj
    · rw [apply_off _ _ _ (by intro d hd; rw [List.mem_singleton] at hd; subst hd; show (f : Int).toNat ≠ _; omega)]; exact L1o i hi
   rcases c2 with ⟨d1, d2, d3, d4⟩ | ⟨d0, d1, d2, sub, d3, d4⟩
   · rw [← d3] at hset
     have hqlen := hset.len
     rw [thenE, if_neg (by rw [d1]; exact fun h => h rfl)]
     obtain ⟨g1, g2⟩ := make_law (x := x) d2 c1 (by rw [hqlen]; exact hx.ok)
     obtain ⟨r, hr⟩ : ∃ r, r = makeS q.1 x := ⟨_, rfl⟩
     rw [← hr] at g1 g2 ⊢
     rcases g2 with ⟨h1, h2, h3, h4⟩ | ⟨h0, h1, h2, sub, h3, h4⟩
     · have hred : Redo f z n s.lasts x r.1.lasts := by rw [h3]; exact hset.sub hx (fun _ h => h)
       have hrl := hred.len
       have hrout : SameOut f z r.1.lasts (applyA x s.lasts) := fun i hi => by
        rw [h3]; exact apply_at x _ _ i (by rw [hqlen, hlen]) (fun ho => hset.out i hi ho)
       have hz : StA f z n (applyA x s.lasts) (applyA [((f : Int), [])] r.1.lasts) := by
        refine ⟨by rw [apply_len]; exact hrl, ?_, fun i hi => ?_⟩
        · show (r.1.lasts.set (f : Int).toNat (fullE []))[f]? = _
          rw [Int.toNat_natCast, List.getElem?_set_self Z.W]; rfl
        · rw [apply_off _ _ _ (by intro d hd; rw [List.mem_singleton] at hd; subst hd; show (f : Int).toNat ≠ _; omega)]; exact hrout i hi
       rw [thenE, if_neg (by rw [h1]; exact fun h => h rfl)]
       obtain ⟨k1, k2⟩ := make_law (x := [((f : Int), [])]) h2 g1 (by
        intro d hd; rw [List.mem_singleton] at hd; subst hd
        exact ⟨by show (0 : Int) ≤ (f : Int); omega, by show (f : Int) < _; omega, Nat.zero_le _⟩)
       have e3 : sayS r.1 (f : Int) [] = makeS r.1 [((f : Int), [])] := rfl
       rw [e3]
       rcases k2 with ⟨l1, l2, l3, l4⟩ | ⟨l0, l1, l2, sub, l3, l4⟩
       · exact ⟨k1, .inl ⟨l1, l2, by rw [l3]; exact hz, fun h => l4 (h4 (d4 (b4 h)))⟩⟩
       · refine ⟨k1, .inr ⟨fun h => l0 (h4 (d4 (b4 h))), l1, l2, ?_⟩⟩
         rw [l4]
         rcases sub_one l3 with rfl | rfl
         · exact .inr (.inr hred)
         · exact .inr (.inl hz)
     · rw [thenE, if_pos (by rw [h1]; decide)]
       refine ⟨g1, .inr ⟨fun h => h0 (d4 (b4 h)), h1, h2, .inr (.inr ?_)⟩⟩
       rw [h4]
       exact hset.sub hx (fun _ h => off_sub h h3)
   · rw [thenE, if_pos (by rw [d1]; decide)]
     refine ⟨c1, .inr ⟨fun h => d0 (b4 h), d1, d2, ?_⟩⟩
     rw [d4]
     rcases sub_one d3 with rfl | rfl
     · exact .inl hL1
     · exact .inr (.inr hset)
 · rw [thenE, if_pos (by rw [b1]; decide)]
   refine ⟨a1, .inr ⟨b0, b1, b2, .inl ⟨by rw [b4, apply_len]; exact hlen, ?_, fun i hi => ?_⟩⟩⟩
   · unfold Zero; rw [b4, apply_off _ _ f (off_sub (img_off (.inl Z.W)) b3)]; exact hs.zero
   · rw [b4, apply_off _ _ i (off_sub (img_off Z.W) b3)]
theorem read_at {s : DSt} (ho : s.off = false) (hs : s.since = []) {i : Nat} (hi : i < s.lasts.length) : readE s (i : Int) = (s.lasts[i]!, 0) := by
 have e1 : hasB s (i : Int) = true := by unfold hasB; rw [decide_eq_true_eq]; omega
 unfold readE
 rw [if_neg (fun h => h e1), if_neg (by rw [ho]; exact Bool.false_ne_true), hs]
 rfl
theorem get_bang {L : List (List UInt8)} {i : Nat} {v : List UInt8} (h : L[i]? = some v) : L[i]! = v := by
 rw [List.getElem!_eq_getElem?_getD, h]; rfl
theorem zero_said {s : DSt} (hg : Geo f z n) (hs : Clean f z n s) : saidE s (f : Int) (z : Int) = ([], 0) := by
 have h3 : readE s (f : Int) = (zs512, 0) := by
  have := read_at hs.off hs.since (i := f) (by rw [hs.len]; obtain ⟨ga, gb, gc, gd⟩ := hg; omega)
  rw [get_bang hs.zero] at this; exact this
 rw [saidE, h3, if_neg (fun h => h rfl), if_pos (.inl (by decide))]
theorem fits12 {s : DSt} (hg : Geo f z n) (h : s.lasts.length = n) : fitsB s (f : Int) (z : Int) = true := by
 obtain ⟨ga, gb, gc, gd⟩ := hg; unfold fitsB; rw [decide_eq_true_eq, h]; omega
theorem open_zero {s : DSt} (hg : Geo f z n) (hs : Clean f z n s) : openE s (f : Int) (z : Int) = (s, 0, 0) := by
 rw [openE, if_neg (by rw [fits12 hg hs.len]; exact fun h => h rfl), zero_said hg hs, if_neg (fun h => h rfl), if_pos rfl]
def fullC (x : List Chg) : List Chg := x.map fun c => (c.1, fullE c.2)
theorem fullC_head {x : List Chg} (h : ∀ c ∈ x, c.2.length ≤ 512) : headB (fullC x) = headB x := by
 have e1 : hdB (fullC x) = hdB x := by
  unfold hdB fullC
  rw [List.length_map, List.flatMap_map]
 have e2 : allB (fullC x) = allB x := by
  have e : (fullC x).flatMap (fun c => fullE c.2) = x.flatMap fun c => fullE c.2 := by
   unfold fullC
   induction x with
   | nil => rfl
   | cons c r ih => rw [List.map_cons, List.flatMap_cons, List.flatMap_cons, ih (fun d hd => h d (List.mem_cons_of_mem _ hd)) (by unfold hdB fullC; rw [List.length_map, List.flatMap_map]), full_full (h c List.mem_cons_self)]
  unfold allB
  rw [e1, e]
 unfold headB
 rw [e1, e2]
theorem flat2 : ∀ (x : List Chg) (r : List UInt8) (i : Nat), i < x.length →
 ((x.flatMap fun c => [byteOf (c.1.toNat / 256), byteOf c.1.toNat]) ++ r)[2 * i]? = some (byteOf (x[i]!.1.toNat / 256)) ∧ ((x.flatMap fun c => [byteOf (c.1.toNat / 256), byteOf c.1.toNat]) ++ r)[2 * i + 1]? = some (byteOf x[i]!.1.toNat)
 | [], _, _, h => absurd h (Nat.not_lt_zero _)
 | c :: x, r, 0, _ => ⟨rfl, rfl⟩
 | c :: x, r, i + 1, h => by
   have := flat2 x r i (by rw [List.length_cons] at h; omega)
   rw [List.flatMap_cons, show 2 * (i + 1) = 2 * i + 1 + 1 from by omega]
   exact this
theorem fullC_dec {s : DSt} {x : List Chg} {w : List (List UInt8)} (ho : s.off = false) (hs : s.since = []) (h : Redo f z n w x s.lasts) (hx : Tame f z n x) : decN s (f : Int) (fullE (headB x)) x.length = fullC x := by
 obtain ⟨⟨⟨ga, gb, gc, gd⟩, hxl⟩, _⟩ := id hx
 have hlen := h.len
 refine List.ext_getElem (by rw [dec_len]; unfold fullC; rw [List.length_map]) (fun j h1 h2 => ?_)
 rw [dec_len] at h1
 have hg := dec_get (s := s) (f := (f : Int)) (h := fullE (headB x)) h1
 rw [getElem!_pos _ j (by rw [dec_len]; exact h1)] at hg
 rw [hg]
 have hf : (fullC x)[j] = (x[j]!.1, fullE x[j]!.2) := by simp [fullC, getElem!_pos x j h1]
 rw [hf]
 obtain ⟨t1, t2⟩ := hx.2 _ (chg_mem h1)
 have hfe : fullE (headB x) = 87 :: 76 :: byteOf x.length :: ((x.flatMap fun c => [byteOf (c.1.toNat / 256), byteOf c.1.toNat]) ++ (le4 (sumE (allB x)) ++ List.replicate (512 - (headB x).length) 0)) := by
  have e1 : fullE (headB x) = (([87, 76, byteOf x.length] ++ x.flatMap fun c => [byteOf (c.1.toNat / 256), byteOf c.1.toNat]) ++ le4 (sumE (allB x))) ++ List.replicate (512 - (headB x).length) 0 := rfl
  rw [e1, List.append_assoc, List.append_assoc]; rfl
 obtain ⟨f1, f2⟩ := flat2 x (le4 (sumE (allB x)) ++ List.replicate (512 - (headB x).length) 0) j h1
 have g1 : (fullE (headB x))[3 + 2 * j]? = some (byteOf (x[j]!.1.toNat / 256)) := by rw [hfe, show 3 + 2 * j = 2 * j + 1 + 1 + 1 from by omega]; exact f1
 have g2 : (fullE (headB x))[4 + 2 * j]? = some (byteOf x[j]!.1.toNat) := by rw [hfe, show 4 + 2 * j = 2 * j + 1 + 1 + 1 + 1 from by omega]; exact f2
 have b1 : (fullE (headB x))[3 + 2 * j]! = byteOf (x[j]!.1.toNat / 256) := by rw [List.getElem!_eq_getElem?_getD, g1]; rfl
 have b2 : (fullE (headB x))[4 + 2 * j]! = byteOf x[j]!.1.toNat := by rw [List.getElem!_eq_getElem?_getD, g2]; rfl
 have hr := read_at ho hs (i := f + 1 + j) Z.W
 rw [get_bang (h.hd.2 j h1)] at hr
 unfold decC
 rw [b1, b2, show (f : Int) + 1 + (j : Int) = ((f + 1 + j : Nat) : Int) from by omega, hr]
 have n1 : (byteOf (x[j]!.1.toNat / 256)).toNat = x[j]!.1.toNat / 256 := by
  unfold byteOf; rw [UInt8.toNat_ofNat']; omega
 have n2 : (byteOf x[j]!.1.toNat).toNat = x[j]!.1.toNat % 256 := by
  unfold byteOf; rw [UInt8.toNat_ofNat']; omega
 rw [n1, n2]
 refine Prod.ext ?_ rfl
 show ((x[j]!.1.toNat / 256 * 256 + x[j]!.1.toNat % 256 : Nat) : Int) = x[j]!.1
 omega
theorem fullC_apply : ∀ {x : List Chg}, (∀ c ∈ x, c.2.length ≤ 512) → ∀ L, applyA (fullC x) L = applyA x L
 | [], _, _ => rfl
 | c :: r, h, L => by
   show applyA (fullC r) (setC L (c.1, fullE c.2)) = applyA r (setC L c)
   rw [fullC_apply (fun d hd => h d (List.mem_cons_of_mem _ hd))]
   unfold setC
   rw [full_full (h c List.mem_cons_self)]
theorem fullC_off {x : List Chg} {i : Nat} (h : OffC x i) : OffC (fullC x) i := by
 intro d hd
 obtain ⟨c, hc, rfl⟩ := List.mem_map.1 hd
 exact h c hc
theorem redo_said {s : DSt} {x : List Chg} {w : List (List UInt8)} (ho : s.off = false) (hs : s.since = []) (h : Redo f z n w x s.lasts) (hx : Tame f z n x) (hne : x ≠ []) : saidE s (f : Int) (z : Int) = (fullC x, 0) := by
 obtain ⟨⟨⟨ga, gb, gc, gd⟩, hxl⟩, _⟩ := id hx
 have h3 : readE s (f : Int) = (fullE (headB x), 0) := by
  have := read_at ho hs (i := f) (by rw [h.len]; omega)
  rw [get_bang h.hd.1] at this; exact this
 have hn : ((fullE (headB x))[2]!).toNat = x.length := by
  have : (fullE (headB x))[2]! = byteOf x.length := rfl
  rw [this]; unfold byteOf; rw [UInt8.toNat_ofNat']; omega
 have h0 : 1 ≤ x.length := List.length_pos_iff.2 hne
 have := said_some (s := s) (f := (f : Int)) (z := (z : Int)) (n := x.length) (by rw [h3]) (by rw [h3]; exact hn.symm) h0 Z.W
  (by
    rw [h3, fullC_dec ho hs h hx]
    intro c hc
    obtain ⟨d, hd, rfl⟩ := List.mem_map.1 hc
    obtain ⟨t1, _⟩ := hx.2 d hd
    unfold mayB
    rw [decide_eq_true_eq, h.len]
    show 0 ≤ d.1 ∧ _
    omega)
  (by rw [h3, fullC_dec ho hs h hx, fullC_head (fun c hc => (hx.2 c hc).2)])
 rw [this, h3, fullC_dec ho hs h hx]
theorem open_law {s : DSt} {x : List Chg} {w : List (List UInt8)} (ho : s.off = false) (hs : s.since = []) (hw : w.length = n) (h : GA f z n w x s.lasts) (hx : Tame f z n x) (hne : x ≠ []) :
 (openE s (f : Int) (z : Int)).1.since = [] ∧ ((openE s (f : Int) (z : Int)).2.2 = 0 ∧ (openE s (f : Int) (z : Int)).1.off = false ∧ (StA f z n w (openE s (f : Int) (z : Int)).1.lasts ∨ StA f z n (applyA x w) (openE s (f : Int) (z : Int)).1.lasts) ∧ (s.left = 0 → (openE s (f : Int) (z : Int)).1.left = 0) ∧ ((openE s (f : Int) (z : Int)).2.1 = 0 ∨ (openE s (f : Int) (z : Int)).2.1 = x.length) ∨
   s.left ≠ 0 ∧ (openE s (f : Int) (z : Int)).2.2 = 7 ∧ (openE s (f : Int) (z : Int)).1.off = true ∧ GA f z n w x (openE s (f : Int) (z : Int)).1.lasts) := by
 rcases h with h | h | h
 · rw [open_zero hx.1.1 ⟨ho, hs, h.len, h.zero⟩]
   exact ⟨hs, .inl ⟨rfl, ho, .inl h, fun h => h, .inl rfl⟩⟩
 · rw [open_zero hx.1.1 ⟨ho, hs, h.len, h.zero⟩]
   exact ⟨hs, .inl ⟨rfl, ho, .inr h, fun h => h, .inl rfl⟩⟩
 · have hd2 : ∀ c ∈ x, c.2.length ≤ 512 := fun c hc => (hx.2 c hc).2
   have hsd := redo_said ho hs h hx hne
   have hlen := h.len
   obtain ⟨⟨⟨ga, gb, gc, gd⟩, hxl⟩, _⟩ := id hx
   have hnf : fullC x ≠ [] := by unfold fullC; intro h; exact hne (List.map_eq_nil_iff.1 h)
   have hfl : (fullC x).length = x.length := by unfold fullC; rw [List.length_map]
   obtain ⟨p, hp⟩ : ∃ p, p = doneE s (f : Int) (fullC x) := ⟨_, rfl⟩
   have key : p.1.since = [] ∧ (p.2 = 0 ∧ p.1.off = false ∧ StA f z n (applyA x w) p.1.lasts ∧ (s.left = 0 → p.1.left = 0) ∨ s.left ≠ 0 ∧ p.2 = 7 ∧ p.1.off = true ∧ GA f z n w x p.1.lasts) := by
    rw [hp]
    unfold doneE
    obtain ⟨a1, a2⟩ := make_law (x := fullC x) ho hs (by
     intro c hc
     obtain ⟨d, hd, rfl⟩ := List.mem_map.1 hc
     obtain ⟨t1, t2⟩ := hx.2 d hd
     exact ⟨by show 0 ≤ d.1; omega, by show d.1 < _; omega, by show (fullE d.2).length ≤ 512; rw [full_len t2]; exact Nat.le_refl _⟩)
    obtain ⟨q, hq⟩ : ∃ q, q = makeS s (fullC x) := ⟨_, rfl⟩
    rw [← hq] at a1 a2 ⊢
    rcases a2 with ⟨b1, b2, b3, b4⟩ | ⟨b0, b1, b2, sub, b3, b4⟩
    · have hred : Redo f z n w x q.1.lasts := by rw [b3]; exact h.sub hx (fun _ h => fullC_off h)
      have hql := hred.len
      have hz : StA f z n (applyA x w) (applyA [((f : Int), [])] q.1.lasts) := by
       refine ⟨by rw [apply_len]; exact hql, ?_, fun i hi => ?_⟩
       · show (q.1.lasts.set (f : Int).toNat (fullE []))[f]? = _
         rw [Int.toNat_natCast, List.getElem?_set_self Z.W]; rfl
       · rw [apply_off _ _ _ (by intro d hd; rw [List.mem_singleton] at hd; subst hd; show (f : Int).toNat ≠ _; omega), b3, fullC_apply hd2]
         exact apply_at x _ _ i (by rw [hlen, hw]) (fun ho => h.out i hi ho)
      rw [thenE, if_neg (by rw [b1]; exact fun h => h rfl)]
      obtain ⟨k1, k2⟩ := make_law (x := [((f : Int), [])]) b2 a1 (by
       intro d hd; rw [List.mem_singleton] at hd; subst hd
       exact ⟨by show (0 : Int) ≤ (f : Int); omega, by show (f : Int) < _; omega, Nat.zero_le _⟩)
      have e3 : sayS q.1 (f : Int) [] = makeS q.1 [((f : Int), [])] := rfl
      rw [e3]
      rcases k2 with ⟨l1, l2, l3, l4⟩ | ⟨l0, l1, l2, sub, l3, l4⟩
      · exact ⟨k1, .inl ⟨l1, l2, by rw [l3]; exact hz, fun h => l4 (b4 h)⟩⟩
      · refine ⟨k1, .inr ⟨fun h => l0 (b4 h), l1, l2, ?_⟩⟩
        rw [l4]
        rcases sub_one l3 with rfl | rfl
        · exact .inr (.inr hred)
        · exact .inr (.inl hz)
    · rw [thenE, if_pos (by rw [b1]; decide)]
      refine ⟨a1, .inr ⟨b0, b1, b2, .inr (.inr ?_)⟩⟩
      rw [b4]
      exact h.sub hx (fun _ h => off_sub (fullC_off h) b3)
   have e : openE s (f : Int) (z : Int) = if p.2 ≠ 0 then (p.1, 0, p.2) else (p.1, x.length, 0) := by
    rw [openE, if_neg (by rw [fits12 hx.1.1 hlen]; exact fun h => h rfl), hsd, if_neg (fun h => h rfl), if_neg hnf, ← hp, hfl]
   rw [e]
   obtain ⟨k1, k2⟩ := key
   rcases k2 with ⟨l1, l2, l3, l4⟩ | ⟨l0, l1, l2, l3⟩
   · rw [if_neg (by rw [l1]; exact fun h => h rfl)]
     exact ⟨k1, .inl ⟨rfl, l2, .inr l3, l4, .inr rfl⟩⟩
   · rw [if_pos (by rw [l1]; decide)]
     exact ⟨k1, .inr ⟨l0, l1, l2, l3⟩⟩
end Go.Proofs.YtckokhdjeifomaaGreatDoor
namespace Go.Proofs.YtckokhdjeifomaaGreatDoor
open Go Go.SL
abbrev Tx := List UInt8
/-- What a file's entry says: which entry it is, how many bytes the file has, where they stand. -/
structure Ino where
 e : Nat
 n : Nat
 x : List Ext
def twoB (n : Nat) : Tx := [byteOf (n / 256), byteOf n]
def headF (n files : Nat) : Tx := fullE ([83, 70] ++ twoB n ++ twoB files)
def needsE (n : Nat) : Nat := (n + 511) / 512
def extB (x : Ext) : Tx := putE x.1 ++ putE x.2
def entB (name : Tx) (i : Ino) : Tx := joinE [name] ++ putE i.n ++ putE i.x.length ++ i.x.flatMap extB
def entryE (name : Tx) (i : Ino) : Tx := fullE (entB name i ++ le4 (sumE (entB name i)))
def GoodN (s : Tx) : Prop := 1 ≤ s.length ∧ s.length ≤ 80 ∧ ∀ c ∈ s, 33 ≤ c.toNat ∧ c.toNat ≤ 126
/-- What is so of a file's entry. -/
structure InoOk (files : Nat) (name : Tx) (i : Ino) : Prop where
 good : GoodN name
 e : i.e < files
 n : i.n ≤ 1048576
 len : i.x.length ≤ 64
 sum : sumX i.x = needsE i.n
 ext : ∀ x ∈ i.x, 1 ≤ x.2 ∧ x.1 + x.2 ≤ 4096
theorem put_len {n k : Nat} (h : n < 128 ^ (k + 1)) : (putE n).length ≤ k + 1 := by
 rw [putE_length]; have := more_lt.1 h; omega
theorem ext_len {x : Ext} (h : x.1 + x.2 ≤ 4096) : (extB x).length ≤ 4 := by
 have h1 := put_len (n := x.1) (k := 1) (Nat.lt_of_le_of_lt (by omega : x.1 ≤ 4096) (by decide))
 have h2 := put_len (n := x.2) (k := 1) (Nat.lt_of_le_of_lt (by omega : x.2 ≤ 4096) (by decide))
 unfold extB; rw [List.length_append]; omega
theorem exts_len : ∀ {xs : List Ext}, (∀ x ∈ xs, x.1 + x.2 ≤ 4096) → (xs.flatMap extB).length ≤ 4 * xs.length
 | [], _ => Nat.le_refl _
 | x :: r, h => by
   have h1 := exts_len (xs := r) (fun y hy => h y (List.mem_cons_of_mem _ hy))
   have h2 := ext_len (h x List.mem_cons_self)
   rw [List.flatMap_cons, List.length_append, List.length_cons]; omega
theorem join1 {name : Tx} (h : name.length ≤ 262144) : joinE [name] = putE name.length ++ name := by
 rw [joinE_cons, putI_len h]; simp [joinE]
theorem InoOk.ent {files : Nat} {name : Tx} {i : Ino} (h : InoOk files name i) : (entB name i).length ≤ 346 := by
 obtain ⟨g1, g2, _⟩ := h.good
 have h1 := put_len (n := name.length) (k := 0) Z.W
 have h2 := put_len (n := i.n) (k := 2) (Nat.lt_of_le_of_lt h.n (by decide))
 have h3 := put_len (n := i.x.length) (k := 0) (by have := h.len; omega)
 have h4 := exts_len (xs := i.x) (fun x hx => (h.ext x hx).2)
 have h5 := h.len
 unfold entB
 rw [join1 Z.W]
 simp only [List.length_append]
 omega
theorem InoOk.ent4 {files : Nat} {name : Tx} {i : Ino} (h : InoOk files name i) : (entB name i ++ le4 (sumE (entB name i))).length ≤ 350 := by
 have := h.ent
 rw [List.length_append]; show _ + 4 ≤ _; omega
theorem InoOk.entry {files : Nat} {name : Tx} {i : Ino} (h : InoOk files name i) : (entryE name i).length = 512 := full_len (by have := h.ent4; omega)
/-- An entry isn't one of no file. -/
theorem entry_ne {files : Nat} {name : Tx} {i : Ino} (h : InoOk files name i) : entryE name i ≠ zs512 := by
 obtain ⟨g1, g2, _⟩ := h.good
 intro he
 have h1 := put_len (n := name.length) (k := 0) Z.W
 have h0 : ∃ r, entryE name i = putE name.length ++ r := by
  refine ⟨name ++ putE i.n ++ putE i.x.length ++ i.x.flatMap extB ++ le4 (sumE (entB name i)) ++ List.replicate (512 - (entB name i ++ le4 (sumE (entB name i))).length) 0, ?_⟩
  unfold entryE fullE entB
  rw [join1 Z.W]
  simp only [List.append_assoc]
 obtain ⟨r, hr⟩ := h0
 have hg := getE_put (n := name.length) Z.W r
 rw [← hr, he] at hg
 have hz : (getE zs512).1 = 0 := by decide +kernel
 rw [hg] at hz
 have : (name.length : Int) = 0 := hz
 omega
/-- The units of extents, in order. -/
def unitsE (xs : List Ext) : List Nat := xs.flatMap fun x => (List.range x.2).map (x.1 + ·)
theorem units_len : ∀ (xs : List Ext), (unitsE xs).length = sumX xs
 | [] => rfl
 | x :: r => by
   have := units_len r
   unfold unitsE at this ⊢
   rw [List.flatMap_cons, List.length_append, this, sumX_cons]; simp
theorem units_app (xs ys : List Ext) : unitsE (xs ++ ys) = unitsE xs ++ unitsE ys := by unfold unitsE; rw [List.flatMap_append]
theorem mem_units {xs : List Ext} {i : Nat} : i ∈ unitsE xs ↔ InX xs i := by
 unfold unitsE InX
 rw [List.mem_flatMap]
 constructor
 · rintro ⟨x, hx, hm⟩
   obtain ⟨k, hk, rfl⟩ := List.mem_map.1 hm
   rw [List.mem_range] at hk
   exact ⟨x, hx, by omega, by omega⟩
 · rintro ⟨x, hx, h1, h2⟩
   exact ⟨x, hx, List.mem_map.2 ⟨i - x.1, by rw [List.mem_range]; omega, by omega⟩⟩
theorem units_nodup {n : Nat} {v : Bool} : ∀ {xs : List Ext} {f : Nat → Bool}, TurnOk n v f xs → (unitsE xs).Nodup
 | [], _, _ => List.nodup_nil
 | x :: r, f, h => by
   have ih := units_nodup h.2
   have e : unitsE (x :: r) = (List.range x.2).map (x.1 + ·) ++ unitsE r := by unfold unitsE; rw [List.flatMap_cons]
   rw [e, List.nodup_append]
   refine ⟨List.Pairwise.map _ (fun a b (hab : a ≠ b) => by simpa using hab) List.nodup_range, ih, fun a ha b hb hab => ?_⟩
   obtain ⟨k, hk, rfl⟩ := List.mem_map.1 ha
   rw [List.mem_range] at hk
   subst hab
   obtain ⟨y, hy, h1, h2⟩ := mem_units.1 hb
   have := (h.2.mem y hy).2.2 _ h1 h2
   unfold setR at this
   rw [if_pos ⟨by omega, by omega⟩] at this
   cases v <;> simp at this
/-- Units that may be given back may be taken where they are free. -/
theorem TurnOk.flip {n : Nat} {v : Bool} : ∀ {xs : List Ext} {f g : Nat → Bool}, TurnOk n v f xs → (∀ i, InX xs i → g i = v) → TurnOk n (!v) g xs
 | [], _, _, _, _ => trivial
 | x :: r, f, g, h, hg => by
   refine ⟨⟨h.1.1, h.1.2.1, fun i hi hj => by rw [Bool.not_not]; exact hg i ⟨x, List.mem_cons_self, hi, hj⟩⟩, h.2.flip fun i hi => ?_⟩
   obtain ⟨y, hy, h1, h2⟩ := hi
   unfold setR
   split
   · rename_i hc
     have := (h.2.mem y hy).2.2 i h1 h2
     unfold setR at this
     rw [if_pos hc] at this
     cases v <;> simp at this
   · exact hg i ⟨y, List.mem_cons_of_mem _ hy, h1, h2⟩
/-- Behind turning them all, units are turned. -/
theorem TurnOk.back {n : Nat} {v : Bool} {xs : List Ext} {f : Nat → Bool} (h : TurnOk n v f xs) : TurnOk n (!v) (turnF v f xs) xs :=
 h.flip fun i hi => by rw [turnF_at, inX_iff.2 hi, if_pos rfl]
abbrev FS := Tx → Option Ino
/-- What is so of files F and units sp that are taken, of un units, for so many files. -/
structure FOk (un files : Nat) (F : FS) (sp : Nat → Bool) : Prop where
 ok : ∀ name x, F name = some x → InoOk files name x
 inj : ∀ a b x y, F a = some x → F b = some y → x.e = y.e → a = b
 tk : ∀ name x, F name = some x → TurnOk un false sp x.x
 dis : ∀ a b x y i, F a = some x → F b = some y → InX x.x i → InX y.x i → a = b
 all : ∀ i, sp i = true → ∃ name x, F name = some x ∧ InX x.x i
theorem FOk.on {un files : Nat} {F : FS} {sp : Nat → Bool} (h : FOk un files F sp) {name : Tx} {x : Ino} (hx : F name = some x) {i : Nat} (hi : InX x.x i) : sp i = true ∧ i < un := by
 obtain ⟨y, hy, h1, h2⟩ := hi
 obtain ⟨_, g2, g3⟩ := (h.tk name x hx).mem y hy
 exact ⟨g3 i h1 h2, by omega⟩
theorem FOk.iff {un files : Nat} {F : FS} {sp : Nat → Bool} (h : FOk un files F sp) (i : Nat) : sp i = true ↔ ∃ name x, F name = some x ∧ InX x.x i :=
 ⟨h.all i, fun ⟨_, _, hx, hi⟩ => (h.on hx hi).1⟩
theorem FOk.out {un files : Nat} {F : FS} {sp : Nat → Bool} (h : FOk un files F sp) (i : Nat) (hi : un ≤ i) : sp i = false := by
 cases e : sp i with
 | false => rfl
 | true => obtain ⟨name, x, hx, hin⟩ := h.all i e; have := (h.on hx hin).2; omega
/-- What the i-th entry's sector says. -/
def EntIs (F : FS) (i : Nat) (l : Option Tx) : Prop := (∃ name x, F name = some x ∧ x.e = i ∧ l = some (entryE name x)) ∨ ((∀ name x, F name = some x → x.e ≠ i) ∧ l = some zs512)
/-- What is so of a store's sectors: of n sectors, for so many files; F: the files, sp: the units that are taken. -/
structure FInv (n files : Nat) (F : FS) (sp : Nat → Bool) (L : List Tx) : Prop where
 fok : FOk (n - (7 + files)) files F sp
 len : L.length = n
 w : ∀ l ∈ L, l.length = 512
 head : L[0]? = some (headF n files)
 bits : L[1]? = some (fullE (spB (n - (7 + files)) sp))
 ent : ∀ i, i < files → EntIs F i L[2 + i]?
/-- A file's bytes. -/
def contE (L : List Tx) (da : Nat) (i : Ino) : Tx := ((unitsE i.x).flatMap fun u => L[da + u]!).take i.n
def contF (L : List Tx) (da : Nat) (F : FS) (name : Tx) : Option Tx := (F name).map (contE L da)
/-- Only the sectors ahead of the log count. -/
theorem FInv.same {n files : Nat} {F : FS} {sp : Nat → Bool} {L M : List Tx} (h : FInv n files F sp L) (hl : M.length = n) (hw : ∀ l ∈ M, l.length = 512) (hs : ∀ i, i < 2 + files → M[i]? = L[i]?) : FInv n files F sp M :=
 ⟨h.fok, hl, hw, by rw [hs 0 Z.W]; exact h.head, by rw [hs 1 Z.W]; exact h.bits, fun i hi => by rw [hs (2 + i) Z.W]; exact h.ent i hi⟩
end Go.Proofs.YtckokhdjeifomaaGreatDoor
namespace Go.SL
open Go Go.RowKit
section ret
variable {P : Program} {fn : Func} {n : Sz} {L : Env} {R : List RO} {O : List Own} {post : Value → List RO → List Own → Prop}
theorem Ret.cellTmp {p t : Tmp} {ty : TypeId} {size b : Nat} {e : TypeId} {cs : List Value} {v : Value} (hr : fn.results = #[.cell p ty, .tmp t]) (ht : Env.find L p = some (.pointer (some ⟨b, 0, none⟩))) (h2 : Env.find L t = some v) (hp : rowC b e cs ∈ O) (hG : Agg P ty size) (hl : cs.length = size) (h : post (.tuple #[.agg cs.toArray, v]) R O) : retQ P fn n post .ret L R O :=
 ⟨_, fun a w _ hf ⟨_, hs⟩ => by
   have e1 := getD_of hf ht
   have e3 := getD_of hf h2
   have e2 := run_loadVar_agg hG hl (hs.see (List.mem_append_right _ hp))
   simp only [Array.getD_eq_getD_getElem?] at e1 e3
   simp [results, hr, e1, e3, asAddr, e2], h⟩
end ret
end Go.SL
namespace Go.SL
open Go Go.RowKit
theorem Ret.tmpCellTmp {P : Program} {fn : Func} {n : Sz} {L : Env} {R : List RO} {O : List Own} {post : Value → List RO → List Own → Prop} {p t q : Tmp} {ty : TypeId} {size b : Nat} {e : TypeId} {cs : List Value} {v u : Value} (hr : fn.results = #[.tmp q, .cell p ty, .tmp t]) (hq : Env.find L q = some u) (ht : Env.find L p = some (.pointer (some ⟨b, 0, none⟩))) (h2 : Env.find L t = some v) (hp : rowC b e cs ∈ O) (hG : Agg P ty size) (hl : cs.length = size)
 (h : post (.tuple #[u, .agg cs.toArray, v]) R O) : retQ P fn n post .ret L R O :=
 ⟨_, fun a w _ hf ⟨_, hs⟩ => by
   have e0 := getD_of hf hq
   have e1 := getD_of hf ht
   have e3 := getD_of hf h2
   have e2 := run_loadVar_agg hG hl (hs.see (List.mem_append_right _ hp))
   simp only [Array.getD_eq_getD_getElem?] at e0 e1 e3
   simp [results, hr, e0, e1, e3, asAddr, e2], h⟩
/-- What a call leaves with may be said otherwise. -/
theorem Fun.turn {P : Program} {f : FuncId} {args : Array Value} {R : List RO} {O : List Own} {POST : Value → List RO → List Own → Prop} (h : Fun P f args R O (fun v R' O' => ∃ R2 O2, POST v R2 O2 ∧ ∀ w, Sat R' O' w → Sat R2 O2 w)) : Fun P f args R O POST :=
 fun w hs => (h w hs).mono fun _ _ ⟨v, _, _, he, ⟨R2, O2, hp, hS⟩, hs'⟩ => ⟨v, R2, O2, he, hp, hS _ hs'⟩
end Go.SL
namespace Go.Proofs.YtckokhdjeifomaaGreatDoor
open Go Go.SL
def encX (x : Ext) : List Value := [.int .i64 (x.1 : Int), .int .i64 (x.2 : Int)]
abbrev spV (n : Nat) (f : Nat → Bool) : Value := .agg #[.int .i64 (n : Int), vs (spB n f)]
abbrev spCs (n : Nat) (f : Nat → Bool) : List Value := [.int .i64 (n : Int), vs (spB n f)]
abbrev noneF : Nat → Bool := fun _ => false
theorem spB_zero (n : Nat) : spB n noneF = List.replicate ((n + 7) / 8) 0 := by
 refine List.ext_getElem (by rw [spB_len, List.length_replicate]) (fun j h1 h2 => ?_)
 simp [spB, spY, spN, pk, b2n, noneF]
theorem bool_bit (b : Bool) : Value.bool (decide ((b2n b : Int) = 1)) = vbl b := by cases b <;> rfl
theorem spY_and (f : Nat → Bool) (i : Nat) : (spN f (i / 8) / 2 ^ (i % 8)) &&& 1 = b2n (f i) := by rw [Nat.and_one_is_mod, spN_at]
section
variable {R : List RO} {O : List Own} {POST : Value → List RO → List Own → Prop} {n : Nat} {f : Nat → Bool}
set_option maxRecDepth 20000 in
theorem spNew_spec (hn : n ≤ 4096) (hk : POST (.tuple #[spV n noneF, .int .i64 0]) R O) : Fun Tryz.prog 30 #[.int .i64 (n : Int)] R O POST := by
 refine Fun.turn ?_
 refine Fun.enter (l := [_]) Tryz.func30 rfl Tryz.ntmps30 rfl (L0 := [(0, _)]) rfl ?_
 refine WC.seq ?_
 refine WC.region ?_
 refine WL.op rfl ?_
 refine OpW.alloc rfl I63 rfl Z.N rfl rfl ?_; intro b2
 refine WL.rd rfl rfl rfl (Rd.assign rfl rfl) ?_
 refine WL.nil ?_
 refine thenQ.normal ?_
 refine WC.seq ?_
 refine WC.pick [0, 2] Z.P ?_
 refine WC.val 9 (.bool (decide ((n : Int) < 0 ∨ 4096 < (n : Int)))) ?_ ?_
 ·
  refine WC.region ?_
  refine WL.rd rfl rfl rfl (Rd.move rfl rfl) ?_
  refine WL.rd rfl rfl rfl (Rd.lss rfl rfl rfl) ?_
  refine WL.rd rfl rfl rfl (Rd.move rfl rfl) ?_
  refine WL.case 6 rfl (fun hg6 => ?_) (fun hg6 => ?_)
  ·
   refine WL.no rfl rfl rfl rfl rfl rfl ?_
   refine WL.no rfl rfl rfl rfl rfl rfl ?_
   refine WL.rd rfl rfl rfl (Rd.pick_t rfl rfl rfl) ?_
   refine WL.nil ?_
   exact ⟨by repeat (first | exact Sub.nil | refine Sub.cons rfl (by first | rfl | (exact vb_t Z.W)) ?_), by exact (fun _ h => h.thin (SubL.mem Z.S))⟩
  ·
   refine WL.rd_yes rfl rfl rfl rfl rfl rfl (Rd.move rfl rfl) ?_
   refine WL.rd_yes rfl rfl rfl rfl rfl rfl (Rd.gtr rfl rfl rfl) ?_
   refine WL.rd rfl rfl rfl (Rd.pick_f rfl rfl rfl) ?_
   refine WL.nil ?_
   exact ⟨by repeat (first | exact Sub.nil | refine Sub.cons rfl (by first | rfl | (exact vb Z.W)) ?_), by exact (fun _ h => h.thin (SubL.mem Z.S))⟩
 ·
  refine WC.ite rfl (fun hc1 => ?_) (fun hc1 => ?_)
  ·
   omega
  ·
   refine WC.skip ?_
   refine thenQ.normal ?_
   refine WC.seq ?_
   refine WC.region ?_
   refine WL.rd rfl rfl rfl (Rd.move rfl rfl) ?_
   refine WL.rd rfl rfl rfl (Rd.move rfl rfl) ?_
   refine WL.rd rfl rfl rfl (Rd.add rfl rfl rfl Z.W) ?_
   refine WL.rd rfl rfl rfl (Rd.quoI (a := n + 7) (b := 8) rfl rfl rfl Z.W rfl Z.W Z.W) ?_
   refine WL.op rfl ?_
   refine OpW.make1 (z0 := vy 0) (m := (n + 7) / 8) (c := (n + 7) / 8) rfl S70 rfl rfl rfl rfl rfl Z.W Z.W Z.W rfl rfl ?_; intro b15
   refine WL.rd rfl rfl rfl (Rd.strOfR (bs := spB n noneF) rfl Tryz.underlying70 Tryz.underlying9 Tryz.underlying5 rfl Z.M (by rw [spB_zero, List.map_replicate]) (spB_len n noneF) Z.W) ?_
   refine WL.rd rfl rfl rfl (Rd.buildN (ps := [(0, _), (1, _)]) rfl Bs63 I63 rfl Z.E Z.C (by apply NFo.mk; repeat (first | exact NF.nil | apply NF.cons))) ?_
   refine WL.op rfl ?_
   refine OpW.storeS rfl G63 rfl rfl Z.N Z.T rfl rfl Z.N rfl ?_
   refine WL.rd rfl rfl rfl (Rd.assign rfl rfl) ?_
   refine WL.nil ?_
   refine thenQ.normal ?_
   refine WC.ret (Ret.cellTmp Tryz.results30 rfl rfl Z.M G63 rfl ?_)
   exact ⟨_, _, hk, Z.F⟩
set_option maxRecDepth 20000 in
theorem spHas_spec {i : Nat} (hi : i < n) (hn : n ≤ 4096) (hk : POST (vbl (f i)) R O) : Fun Tryz.prog 101 #[spV n f, .int .i64 (i : Int)] R O POST := by
 have hj : i / 8 < (n + 7) / 8 := by omega
 refine Fun.turn ?_
 refine Fun.enter (l := [_, _]) Tryz.func101 rfl Tryz.ntmps101 rfl (L0 := [(0, _), (1, _)]) rfl ?_
 refine WC.seq ?_
 refine WC.region ?_
 refine WL.op rfl ?_
 refine OpW.box rfl rfl Z.N rfl rfl ?_; intro b2
 refine WL.rd rfl rfl rfl (Rd.assign rfl rfl) ?_
 refine WL.nil ?_
 refine thenQ.normal ?_
 refine WC.seq ?_
 refine WC.region ?_
 refine WL.rd rfl rfl rfl (Rd.move rfl rfl) ?_
 refine WL.rd rfl rfl rfl (Rd.geq rfl rfl rfl) ?_
 refine WL.rd rfl rfl rfl (Rd.move rfl rfl) ?_
 refine WL.case 7 rfl (fun hg7 => ?_) (fun hg7 => ?_)
 ·
  refine WL.rd_yes rfl rfl rfl rfl rfl rfl (Rd.move rfl rfl) ?_
  refine WL.rd_yes rfl rfl rfl rfl rfl rfl ((by exact Rd.field rfl F63_0 rfl rfl)) ?_
  refine WL.rd_yes rfl rfl rfl rfl rfl rfl ((by exact Rd.row1 rfl C3 rfl Z.M (by rfl))) ?_
  refine WL.rd_yes rfl rfl rfl rfl rfl rfl (Rd.lss rfl rfl rfl) ?_
  refine WL.rd rfl rfl rfl (Rd.pick_t rfl rfl rfl) ?_
  refine WL.rd rfl rfl rfl (Rd.move rfl rfl) ?_
  refine WL.case 13 rfl (fun hg13 => ?_) (fun hg13 => ?_)
  ·
   refine WL.rd_yes rfl rfl rfl rfl rfl rfl ((by exact Rd.field rfl F63_1 rfl rfl)) ?_
   refine WL.rd_yes rfl rfl rfl rfl rfl rfl ((by exact Rd.row1 rfl C9 rfl Z.M (by rfl))) ?_
   refine WL.rd_yes rfl rfl rfl rfl rfl rfl (Rd.move rfl rfl) ?_
   refine WL.rd_yes rfl rfl rfl rfl rfl rfl (Rd.quoI (a := i) (b := 8) rfl rfl rfl rfl rfl Z.W Z.W) ?_
   refine WL.rd_yes rfl rfl rfl rfl rfl rfl (Rd.sidx (k := i / 8) (b := spY f (i / 8)) rfl Tryz.underlying9 rfl rfl rfl (by rw [← spB_get hj]; exact get!_of_lt (by rw [spB_len]; exact hj))) ?_
   refine WL.rd_yes rfl rfl rfl rfl rfl rfl (Rd.move rfl rfl) ?_
   refine WL.rd_yes rfl rfl rfl rfl rfl rfl (Rd.remN (a := i) (b := 8) rfl rfl rfl rfl rfl Z.W) ?_
   refine WL.rd_yes rfl rfl rfl rfl rfl rfl (Rd.shrN (a := spN f (i / 8)) (n := i % 8) rfl rfl rfl (by rw [spY_nat]) rfl (by show i % 8 ≤ 8; omega)) ?_
   refine WL.rd_yes rfl rfl rfl rfl rfl rfl (Rd.andU rfl rfl rfl rfl rfl rfl (Nat.lt_of_le_of_lt (Nat.div_le_self _ _) (spN_lt _ _)) (by decide)) ?_
   refine WL.say 22 (u := .int .u8 (b2n (f i) : Nat)) rfl (by rw [spY_and]) ?_
   refine WL.rd_yes rfl rfl rfl rfl rfl rfl (Rd.eql rfl rfl rfl) ?_
   refine WL.say 23 (u := vbl (f i)) rfl (bool_bit _) ?_
   refine WL.rd rfl rfl rfl (Rd.pick_t rfl rfl rfl) ?_
   refine WL.rd rfl rfl rfl (Rd.assign rfl rfl) ?_
   refine WL.nil ?_
   refine thenQ.normal ?_
   refine WC.ret (Ret.one Tryz.results101 rfl ?_)
   refine ⟨_, _, hk, ?_⟩
   exact Z.F
  ·
   omega
 ·
  omega
set_option maxRecDepth 20000 in
theorem spBytes_spec (hk : POST (vs (spB n f)) R O) : Fun Tryz.prog 93 #[spV n f] R O POST := by
 refine Fun.turn ?_
 refine Fun.enter (l := [_]) Tryz.func93 rfl Tryz.ntmps93 rfl (L0 := [(0, _)]) rfl ?_
 refine WC.seq ?_
 refine WC.region ?_
 refine WL.op rfl ?_
 refine OpW.box rfl rfl Z.N rfl rfl ?_; intro b1
 refine WL.rd rfl rfl rfl (Rd.assign rfl rfl) ?_
 refine WL.nil ?_
 refine thenQ.normal ?_
 refine WC.seq ?_
 refine WC.region ?_
 refine WL.rd rfl rfl rfl ((by exact Rd.field rfl F63_1 rfl rfl)) ?_
 refine WL.rd rfl rfl rfl ((by exact Rd.row1 rfl C9 rfl Z.M (by rfl))) ?_
 refine WL.rd rfl rfl rfl (Rd.assign rfl rfl) ?_
 refine WL.nil ?_
 refine thenQ.normal ?_
 refine WC.ret (Ret.one Tryz.results93 rfl ?_)
 exact ⟨_, _, hk, Z.F⟩
theorem tk_bit (v : Bool) : (decide ((b2n (!v) : Int) = 1) == v) = false := by cases v <;> rfl
theorem set_byte (f : Nat → Bool) (i : Nat) : ((spN f (i / 8) ^^^ 1 * 2 ^ (i % 8) % 2 ^ IntKind.u8.bits : Nat) : Int) = ((UInt8.ofNat (spN f (i / 8) ^^^ 2 ^ (i % 8))).toNat : Int) := by
 have h1 : 2 ^ (i % 8) < 2 ^ 8 := Nat.pow_lt_pow_right (by decide) (Nat.mod_lt _ (by decide))
 rw [Nat.one_mul, show (2 : Nat) ^ IntKind.u8.bits = 2 ^ 8 from rfl, Nat.mod_eq_of_lt h1, spN_xor, UInt8.toNat_ofNat', Nat.mod_eq_of_lt (spN_lt _ _)]
set_option maxRecDepth 20000 in
set_option maxHeartbeats 2000000 in
theorem spTurn_spec {xs : List Ext} {xv : Value} {v : Bool} (hx : SlE encX xv xs ∈ R) (hn : n ≤ 4096) (ht : TurnOk n v f xs) (hl : xs.length ≤ 1000000) (hk : POST (.tuple #[spV n (turnF v f xs), .int .i64 0]) R O) : Fun Tryz.prog 69 #[spV n f, xv, vbl v] R O POST := by
 refine Fun.turn ?_
 have hbl : ∀ g, (spB n g).length = (n + 7) / 8 := spB_len n
 refine Fun.enter (l := [_, _, _]) Tryz.func69 rfl Tryz.ntmps69 rfl (L0 := [(0, _), (1, _), (2, _)]) rfl ?_
 refine WC.seq ?_
 refine WC.region ?_
 refine WL.op rfl ?_
 refine OpW.box rfl rfl Z.N rfl rfl ?_; intro b3
 refine WL.op rfl ?_
 refine OpW.alloc rfl I63 rfl Z.N rfl rfl ?_; intro b6
 refine WL.rd rfl rfl rfl (Rd.assign rfl rfl) ?_
 refine WL.nil ?_
 refine thenQ.normal ?_
 refine WC.seq ?_
 refine WC.region ?_
 refine WL.rd rfl rfl rfl ((by exact Rd.field rfl F63_1 rfl rfl)) ?_
 refine WL.rd rfl rfl rfl ((by exact Rd.row1 rfl C9 rfl Z.M (by rfl))) ?_
 refine WL.op rfl ?_
 refine OpW.bytesOf rfl Tryz.underlying9 Tryz.underlying70 Tryz.underlying5 rfl (by rw [hbl]; show _ ≤ 9223372036854775807; omega) rfl rfl ?_; intro b14 c14 hc14 hm14
 refine WL.rd rfl rfl rfl (Rd.assign rfl rfl) ?_
 refine WL.nil ?_
 refine thenQ.normal ?_
 refine WC.seq ?_
 refine WC.seq ?_
 refine WC.region ?_
 refine WL.rd rfl rfl rfl (Rd.move rfl rfl) ?_
 refine WL.rd rfl rfl rfl (Rd.lenE (enc := encX) (xs := xs) rfl rfl Tryz.underlying77 hx) ?_
 refine WL.rd rfl rfl rfl (Rd.move rfl rfl) ?_
 refine WL.nil ?_
 refine thenQ.normal ?_
 refine WC.block ?_
 refine WC.pick [17, 2, 3, 6, 8, 15, 16] Z.P ?_
 refine WC.loop1 1 (fun (j : Nat) => [(17, .int .i64 (j : Int))]) (fun (j : Nat) => byC b14 5 (spB n (turnF v f (xs.take j))) :: rowC b6 63 [.int .i64 0, vs []] :: rowC b3 63 (spCs n f) :: O) (fun (j : Nat) => j ≤ xs.length ∧ TurnOk n v (turnF v f (xs.take j)) (xs.drop j)) (fun (j : Nat) => xs.length - j) (0) Z.L ?hinv1 (by repeat (first | exact Sub.nil | refine Sub.cons rfl (by rfl) ?_)) (fun _ h => h) ?_
 case hinv1 =>
  exact ⟨Nat.zero_le _, ht⟩
 intro j
 rintro ⟨i1, i2⟩
 refine WC.seq ?_
 refine WC.region ?_
 refine WL.rd rfl rfl rfl (Rd.lss rfl rfl rfl) ?_
 refine WL.nil ?_
 refine thenQ.normal ?_
 refine WC.seq ?_
 refine WC.ite rfl (fun hc1 => ?_) (fun hc1 => ?_)
 ·
  have hd : xs.drop j = xs[j]! :: xs.drop (j + 1) := by rw [List.drop_eq_getElem_cons Z.W, getElem!_pos xs j Z.W]
  have htk : turnF v f (xs.take (j + 1)) = setR (turnF v f (xs.take j)) xs[j]!.1 xs[j]!.2 v := by
   rw [List.take_add_one, get!_of_lt Z.W, turnF_app]; rfl
  rw [hd] at i2
  obtain ⟨⟨x1, x2, x3⟩, x4⟩ := i2
  obtain ⟨g, hg⟩ : ∃ g, g = turnF v f (xs.take j) := ⟨_, rfl⟩
  obtain ⟨⟨a, k⟩, hak⟩ : ∃ q, q = xs[j]! := ⟨_, rfl⟩
  rw [← hg] at x3 x4 htk
  rw [← hak] at x1 x2 x3 x4 htk
  rw [← htk] at x4
  rw [← hg]
  simp only at x1 x2 x3
  refine WC.skip ?_
  refine thenQ.normal ?_
  refine WC.seq ?_
  refine WC.block ?_
  refine WC.seq ?_
  refine WC.region ?_
  refine WL.rd rfl rfl rfl (Rd.idx (enc := encX) (xs := xs) (k := j) rfl S77 rfl rfl rfl hx Z.W) ?_
  refine WL.rd rfl rfl rfl (Rd.getS (enc := encX) (xs := xs) (k := j) (a := (a, k)) (cs := [.int .i64 (a : Int), .int .i64 (k : Int)]) rfl G120 rfl hx (fun _ => rfl) (by rw [hak]; exact get!_of_lt Z.W) Z.N) ?_
  refine WL.op rfl ?_
  refine OpW.alloc rfl I120 rfl Z.N rfl rfl ?_; intro b10
  refine WL.op rfl ?_
  refine OpW.storeS rfl G120 rfl rfl Z.N Z.T rfl rfl Z.N rfl ?_
  refine WL.nil ?_
  refine thenQ.normal ?_
  refine WC.seq ?_
  refine WC.pick [2, 3, 6, 8, 10, 15, 16, 17] Z.P ?_
  refine WC.val 45 (.bool false) ?_ ?_
  ·
   refine WC.region ?_
   refine WL.rd rfl rfl rfl ((by exact Rd.field rfl F120_1 rfl rfl)) ?_
   refine WL.rd rfl rfl rfl ((by exact Rd.row1 rfl C3 rfl Z.M (by rfl))) ?_
   refine WL.rd rfl rfl rfl (Rd.lss rfl rfl rfl) ?_
   refine WL.rd rfl rfl rfl (Rd.move rfl rfl) ?_
   refine WL.case 24 rfl (fun hg24 => ?_) (fun hg24 => ?_)
   ·
    refine WL.no rfl rfl rfl rfl rfl rfl ?_
    refine WL.no rfl rfl rfl rfl rfl rfl ?_
    refine WL.no rfl rfl rfl rfl rfl rfl ?_
    refine WL.rd rfl rfl rfl (Rd.pick_t rfl rfl rfl) ?_
    refine WL.rd rfl rfl rfl (Rd.move rfl rfl) ?_
    refine WL.no rfl rfl rfl rfl rfl rfl ?_
    refine WL.no rfl rfl rfl rfl rfl rfl ?_
    refine WL.no rfl rfl rfl rfl rfl rfl ?_
    refine WL.no rfl rfl rfl rfl rfl rfl ?_
    refine WL.no rfl rfl rfl rfl rfl rfl ?_
    refine WL.rd rfl rfl rfl (Rd.pick_t rfl rfl rfl) ?_
    refine WL.rd rfl rfl rfl (Rd.move rfl rfl) ?_
    refine WL.no rfl rfl rfl rfl rfl rfl ?_
    refine WL.no rfl rfl rfl rfl rfl rfl ?_
    refine WL.no rfl rfl rfl rfl rfl rfl ?_
    refine WL.no rfl rfl rfl rfl rfl rfl ?_
    refine WL.no rfl rfl rfl rfl rfl rfl ?_
    refine WL.no rfl rfl rfl rfl rfl rfl ?_
    refine WL.no rfl rfl rfl rfl rfl rfl ?_
    refine WL.no rfl rfl rfl rfl rfl rfl ?_
    refine WL.rd rfl rfl rfl (Rd.pick_t rfl rfl rfl) ?_
    refine WL.nil ?_
    exact ⟨by repeat (first | exact Sub.nil | refine Sub.cons rfl (by first | rfl | ((exfalso; omega))) ?_), by exact (fun _ h => h.thin (SubL.mem Z.S))⟩
   ·
    refine WL.rd_yes rfl rfl rfl rfl rfl rfl ((by exact Rd.field rfl F120_0 rfl rfl)) ?_
    refine WL.rd_yes rfl rfl rfl rfl rfl rfl ((by exact Rd.row1 rfl C3 rfl Z.M (by rfl))) ?_
    refine WL.rd_yes rfl rfl rfl rfl rfl rfl (Rd.lss rfl rfl rfl) ?_
    refine WL.rd rfl rfl rfl (Rd.pick_f rfl rfl rfl) ?_
    refine WL.rd rfl rfl rfl (Rd.move rfl rfl) ?_
    refine WL.case 29 rfl (fun hg29 => ?_) (fun hg29 => ?_)
    ·
     refine WL.no rfl rfl rfl rfl rfl rfl ?_
     refine WL.no rfl rfl rfl rfl rfl rfl ?_
     refine WL.no rfl rfl rfl rfl rfl rfl ?_
     refine WL.no rfl rfl rfl rfl rfl rfl ?_
     refine WL.no rfl rfl rfl rfl rfl rfl ?_
     refine WL.rd rfl rfl rfl (Rd.pick_t rfl rfl rfl) ?_
     refine WL.rd rfl rfl rfl (Rd.move rfl rfl) ?_
     refine WL.no rfl rfl rfl rfl rfl rfl ?_
     refine WL.no rfl rfl rfl rfl rfl rfl ?_
     refine WL.no rfl rfl rfl rfl rfl rfl ?_
     refine WL.no rfl rfl rfl rfl rfl rfl ?_
     refine WL.no rfl rfl rfl rfl rfl rfl ?_
     refine WL.no rfl rfl rfl rfl rfl rfl ?_
     refine WL.no rfl rfl rfl rfl rfl rfl ?_
     refine WL.no rfl rfl rfl rfl rfl rfl ?_
     refine WL.rd rfl rfl rfl (Rd.pick_t rfl rfl rfl) ?_
     refine WL.nil ?_
     exact ⟨by repeat (first | exact Sub.nil | refine Sub.cons rfl (by first | rfl | ((exfalso; omega))) ?_), by exact (fun _ h => h.thin (SubL.mem Z.S))⟩
    ·
     refine WL.rd_yes rfl rfl rfl rfl rfl rfl ((by exact Rd.field rfl F120_0 rfl rfl)) ?_
     refine WL.rd_yes rfl rfl rfl rfl rfl rfl ((by exact Rd.row1 rfl C3 rfl Z.M (by rfl))) ?_
     refine WL.rd_yes rfl rfl rfl rfl rfl rfl ((by exact Rd.field rfl F63_0 rfl rfl)) ?_
     refine WL.rd_yes rfl rfl rfl rfl rfl rfl ((by exact Rd.row1 rfl C3 rfl Z.M (by rfl))) ?_
     refine WL.rd_yes rfl rfl rfl rfl rfl rfl (Rd.gtr rfl rfl rfl) ?_
     refine WL.rd rfl rfl rfl (Rd.pick_f rfl rfl rfl) ?_
     refine WL.rd rfl rfl rfl (Rd.move rfl rfl) ?_
     refine WL.case 36 rfl (fun hg36 => ?_) (fun hg36 => ?_)
     ·
      refine WL.no rfl rfl rfl rfl rfl rfl ?_
      refine WL.no rfl rfl rfl rfl rfl rfl ?_
      refine WL.no rfl rfl rfl rfl rfl rfl ?_
      refine WL.no rfl rfl rfl rfl rfl rfl ?_
      refine WL.no rfl rfl rfl rfl rfl rfl ?_
      refine WL.no rfl rfl rfl rfl rfl rfl ?_
      refine WL.no rfl rfl rfl rfl rfl rfl ?_
      refine WL.no rfl rfl rfl rfl rfl rfl ?_
      refine WL.rd rfl rfl rfl (Rd.pick_t rfl rfl rfl) ?_
      refine WL.nil ?_
      exact ⟨by repeat (first | exact Sub.nil | refine Sub.cons rfl (by first | rfl | ((exfalso; omega))) ?_), by exact (fun _ h => h.thin (SubL.mem Z.S))⟩
     ·
      refine WL.rd_yes rfl rfl rfl rfl rfl rfl ((by exact Rd.field rfl F120_1 rfl rfl)) ?_
      refine WL.rd_yes rfl rfl rfl rfl rfl rfl ((by exact Rd.row1 rfl C3 rfl Z.M (by rfl))) ?_
      refine WL.rd_yes rfl rfl rfl rfl rfl rfl ((by exact Rd.field rfl F63_0 rfl rfl)) ?_
      refine WL.rd_yes rfl rfl rfl rfl rfl rfl ((by exact Rd.row1 rfl C3 rfl Z.M (by rfl))) ?_
      refine WL.rd_yes rfl rfl rfl rfl rfl rfl ((by exact Rd.field rfl F120_0 rfl rfl)) ?_
      refine WL.rd_yes rfl rfl rfl rfl rfl rfl ((by exact Rd.row1 rfl C3 rfl Z.M (by rfl))) ?_
      refine WL.rd_yes rfl rfl rfl rfl rfl rfl (Rd.sub rfl rfl rfl Z.W) ?_
      refine WL.rd_yes rfl rfl rfl rfl rfl rfl (Rd.gtr rfl rfl rfl) ?_
      refine WL.rd rfl rfl rfl (Rd.pick_f rfl rfl rfl) ?_
      refine WL.nil ?_
      exact ⟨by repeat (first | exact Sub.nil | refine Sub.cons rfl (by first | rfl | (exact congrArg Value.bool (decide_eq_false Z.W))) ?_), by exact (fun _ h => h.thin (SubL.mem Z.S))⟩
  ·
   refine WC.cond rfl (fun hc2 => ?_) (fun hc2 => ?_)
   ·
    cases hc2
   ·
    refine WC.skip ?_
    refine thenQ.normal ?_
    refine WC.seq ?_
    refine WC.region ?_
    refine WL.rd rfl rfl rfl ((by exact Rd.field rfl F120_0 rfl rfl)) ?_
    refine WL.rd rfl rfl rfl ((by exact Rd.row1 rfl C3 rfl Z.M (by rfl))) ?_
    refine WL.rd rfl rfl rfl (Rd.assign rfl rfl) ?_
    refine WL.nil ?_
    refine thenQ.normal ?_
    refine WC.block ?_
    refine WC.pick [11, 2, 3, 6, 8, 10, 15, 16, 17] Z.P ?_
    refine WC.loop1 1 (fun (m : Nat) => [(11, .int .i64 ((a + m : Nat) : Int))]) (fun (m : Nat) => byC b14 5 (spB n (setR g a m v)) :: rowC b10 120 [.int .i64 (a : Int), .int .i64 (k : Int)] :: rowC b6 63 [.int .i64 0, vs []] :: rowC b3 63 (spCs n f) :: O) (fun (m : Nat) => m ≤ k) (fun (m : Nat) => k - m) (0) Z.L ?hinv2 (by repeat (first | exact Sub.nil | refine Sub.cons rfl (by rfl) ?_)) (fun w h => by rw [setR_zero]; exact Z.Fw h) ?_
    case hinv2 =>
     exact Nat.zero_le _
    intro m
    rintro m1
    refine WC.seq ?_
    refine WC.seq ?_
    refine WC.region ?_
    refine WL.rd rfl rfl rfl (Rd.move rfl rfl) ?_
    refine WL.rd rfl rfl rfl ((by exact Rd.field rfl F120_0 rfl rfl)) ?_
    refine WL.rd rfl rfl rfl ((by exact Rd.row1 rfl C3 rfl Z.M (by rfl))) ?_
    refine WL.rd rfl rfl rfl ((by exact Rd.field rfl F120_1 rfl rfl)) ?_
    refine WL.rd rfl rfl rfl ((by exact Rd.row1 rfl C3 rfl Z.M (by rfl))) ?_
    refine WL.rd rfl rfl rfl (Rd.add rfl rfl rfl Z.W) ?_
    refine WL.rd rfl rfl rfl (Rd.lss rfl rfl rfl) ?_
    refine WL.nil ?_
    refine thenQ.normal ?_
    refine WC.ite rfl (fun hc3 => ?_) (fun hc3 => ?_)
    ·
     have hnew : setR g a m v (a + m) = !v := by unfold setR; rw [if_neg Z.W]; exact x3 _ Z.W Z.W
     have hin : (a + m) / 8 < (n + 7) / 8 := by omega
     refine WC.skip ?_
     refine thenQ.normal ?_
     refine WC.seq ?_
     refine WC.block ?_
     refine WC.seq ?_
     refine WC.seq ?_
     refine WC.region ?_
     refine WL.rd rfl rfl rfl (Rd.move rfl rfl) ?_
     refine WL.rd rfl rfl rfl (Rd.move rfl rfl) ?_
     refine WL.rd rfl rfl rfl (Rd.quoI (a := a + m) (b := 8) rfl rfl rfl rfl rfl Z.W Z.W) ?_
     refine WL.rd rfl rfl rfl (Rd.idxR1 (k := (a + m) / 8) rfl S70 rfl rfl rfl (by rw [hbl f]; exact hin)) ?_
     refine WL.rd rfl rfl rfl (Rd.getBy (k := (a + m) / 8) (c := spY (setR g a m v) ((a + m) / 8)) rfl C5 rfl Z.M (by rw [← spB_get hin]; exact get!_of_lt (by rw [hbl]; exact hin))) ?_
     refine WL.rd rfl rfl rfl (Rd.move rfl rfl) ?_
     refine WL.rd rfl rfl rfl (Rd.remN (a := a + m) (b := 8) rfl rfl rfl rfl rfl Z.W) ?_
     refine WL.rd rfl rfl rfl (Rd.shrN (a := spN (setR g a m v) ((a + m) / 8)) (n := (a + m) % 8) rfl rfl rfl (by rw [spY_nat]) rfl (by show _ ≤ 8; omega)) ?_
     refine WL.rd rfl rfl rfl (Rd.andU rfl rfl rfl rfl rfl rfl (Nat.lt_of_le_of_lt (Nat.div_le_self _ _) (spN_lt _ _)) (by decide)) ?_
     refine WL.say 66 (u := .int .u8 (b2n (!v) : Nat)) rfl (by rw [spY_and, hnew]) ?_
     refine WL.rd rfl rfl rfl (Rd.eql rfl rfl rfl) ?_
     refine WL.rd rfl rfl rfl (Rd.move rfl rfl) ?_
     refine WL.rd rfl rfl rfl (Rd.beql rfl rfl rfl Tryz.underlying4) ?_
     refine WL.say 69 (u := .bool false) rfl (by rw [tk_bit]) ?_
     refine WL.nil ?_
     refine thenQ.normal ?_
     refine WC.cond rfl (fun hc4 => ?_) (fun hc4 => ?_)
     ·
      cases hc4
     ·
      refine WC.skip ?_
      refine thenQ.normal ?_
      refine WC.tail 10 mixed Z.K ?_
      refine WS.rd rfl rfl rfl (Rd.move rfl rfl) ?_
      refine WS.rd rfl rfl rfl (Rd.move rfl rfl) ?_
      refine WS.rd rfl rfl rfl (Rd.quoI (a := a + m) (b := 8) rfl rfl rfl rfl rfl Z.W Z.W) ?_
      refine WS.rd rfl rfl rfl (Rd.idxR1 (k := (a + m) / 8) rfl S70 rfl rfl rfl (by rw [hbl f]; exact hin)) ?_
      refine WS.rd rfl rfl rfl (Rd.getBy (k := (a + m) / 8) (c := spY (setR g a m v) ((a + m) / 8)) rfl C5 rfl Z.M (by rw [← spB_get hin]; exact get!_of_lt (by rw [hbl]; exact hin))) ?_
      refine WS.rd rfl rfl rfl (Rd.move rfl rfl) ?_
      refine WS.rd rfl rfl rfl (Rd.remN (a := a + m) (b := 8) rfl rfl rfl rfl rfl Z.W) ?_
      refine WS.rd rfl rfl rfl (Rd.shlN (a := 1) (n := (a + m) % 8) rfl rfl rfl rfl rfl (by show _ ≤ 8; omega) rfl) ?_
      refine WS.rd rfl rfl rfl (Rd.xorU (a := spN (setR g a m v) ((a + m) / 8)) (b := 1 * 2 ^ ((a + m) % 8) % 2 ^ IntKind.u8.bits) rfl rfl rfl rfl (by rw [spY_nat]) rfl (spN_lt _ _) (Nat.mod_lt _ (by decide))) ?_
      refine WS.say 79 (u := vy (UInt8.ofNat (spN (setR g a m v) ((a + m) / 8) ^^^ 2 ^ ((a + m) % 8)))) rfl (by rw [set_byte]) ?_
      refine WS.rd rfl rfl rfl (Rd.idxR1 (k := (a + m) / 8) rfl S70 rfl rfl rfl (by rw [hbl f]; exact hin)) ?_
      refine WS.switch ?_
      refine WL.op rfl ?_
      refine OpW.storeBy (k := (a + m) / 8) rfl Z5 rfl rfl Z.T (by rw [hbl]; exact hin) rfl ?_
      rw [spB_set, hnew, Bool.not_not, ← setR_succ]
      refine WL.nil ?_
      refine blockQ.normal ?_
      refine thenQ.normal ?_
      refine WC.region ?_
      refine WL.rd rfl rfl rfl (Rd.move rfl rfl) ?_
      refine WL.rd rfl rfl rfl (Rd.add rfl rfl rfl Z.W) ?_
      refine WL.rd rfl rfl rfl (Rd.assign rfl rfl) ?_
      refine WL.nil ?_
      exact loopQ1.mk (m + 1) Z.W Z.W (by repeat (first | exact Sub.nil | refine Sub.cons rfl (by rfl) ?_)) Z.F
    ·
     obtain rfl : m = k := by omega
     simp only at htk
     refine WC.exit ?_
     refine thenQ.exit ?_
     refine loopQ1.exit ?_
     refine blockQ.exit ?_
     refine blockQ.normal ?_
     refine thenQ.normal ?_
     refine WC.region ?_
     refine WL.rd rfl rfl rfl (Rd.add rfl rfl rfl Z.W) ?_
     refine WL.rd rfl rfl rfl (Rd.move rfl rfl) ?_
     refine WL.nil ?_
     exact loopQ1.mk (j + 1) ⟨by omega, x4⟩ Z.W (by repeat (first | exact Sub.nil | refine Sub.cons rfl (by rfl) ?_)) (fun w h => by rw [htk]; exact Z.Fw h)
 ·
  obtain rfl : j = xs.length := by omega
  rw [List.take_length]
  refine WC.exit ?_
  refine thenQ.exit ?_
  refine loopQ1.exit ?_
  refine blockQ.exit ?_
  refine thenQ.normal ?_
  refine WC.seq ?_
  refine WC.region ?_
  refine WL.rd rfl rfl rfl ((by exact Rd.field rfl F63_0 rfl rfl)) ?_
  refine WL.rd rfl rfl rfl ((by exact Rd.row1 rfl C3 rfl Z.M (by rfl))) ?_
  refine WL.rd rfl rfl rfl (Rd.move rfl rfl) ?_
  refine WL.rd rfl rfl rfl (Rd.strOfBy (m := (spB n f).length) rfl Tryz.underlying70 Tryz.underlying9 Tryz.underlying5 rfl Z.M (by rw [hbl, hbl]) (by rw [hbl, ← hbl f]; exact hc14) hm14) ?_
  refine WL.rd rfl rfl rfl (Rd.buildN (ps := [(0, _), (1, _)]) rfl Bs63 I63 rfl Z.E Z.C (by apply NFo.mk; repeat (first | exact NF.nil | apply NF.cons))) ?_
  refine WL.op rfl ?_
  refine OpW.storeS rfl G63 rfl rfl Z.N Z.T rfl rfl Z.N rfl ?_
  refine WL.rd rfl rfl rfl (Rd.assign rfl rfl) ?_
  refine WL.nil ?_
  refine thenQ.normal ?_
  refine WC.ret (Ret.cellTmp Tryz.results69 rfl rfl Z.M G63 rfl ?_)
  exact ⟨_, _, hk, Z.F⟩
end
end Go.Proofs.YtckokhdjeifomaaGreatDoor
namespace Go.SL
open Go Go.RowKit
def fw (ro : Option Nat) : Fence := { Fence.wide with round := ro }
theorem stepsIn_fw {P : Program} {ro : Option Nat} {m m' : Machine} : StepsIn (Machine.fenced P (fw ro)) P m m' ↔ Steps P m m' := stepsIn_wide
theorem callsIn_fw {P : Program} {ro : Option Nat} {k : Nat} {f : FuncId} {args : Array Value} {w : World} {R : Ending → World → Prop} : CallsIn (fw ro) k P f args w R ↔ Calls P f args w R := callsIn_wide (n := k)
def noDef (l : List Oper) : Bool := l.all fun o => match o.op with
 | .defer _ => false
 | _ => true
theorem noDef_spec {l : List Oper} (h : noDef l = true) {o : Oper} (ho : o ∈ l) : ∀ c, o.op ≠ .defer c := fun c e => by
 have := List.all_eq_true.1 h o ho
 rw [e] at this
 cases this
section
variable {P : Program} {ro : Option Nat} {o : Oper} {a : Act} {w : World} {K : Act → World → Prop} {Q : Exit → Act → World → Prop} {ops : Array Oper} {md : Region.Mode}
theorem wp_in (hd : ∀ c, o.op ≠ .defer c) (h : o.wp P a w K Q) : o.wpIn (fw ro) 0 P a w K Q := by
 refine ⟨fun _ _ => trivial, ?_⟩
 show o.uponIn _ _ _ _ _ _ ((o.semAt ro a.eval).run P w)
 rw [Oper.semAt_eq ro a.eval o hd]
 unfold Oper.wp at h
 generalize (execOp a.eval o).run P w = r at h ⊢
 have dep : (fw ro).depth.isSome = true → 1 ≤ 0 := fun hx => by cases hx
 cases r with
 | ok x w' =>
   cases x with
   | value v => exact h
   | skip => exact h
   | defer d => exact h
   | enter f args => exact ⟨dep, callsIn_fw.2 h⟩
   | row row args => exact ⟨dep, fun c cs _ => let ⟨v, w', r, s⟩ := h c cs; ⟨v, w', r, stepsIn_fw.2 s⟩⟩
   | round l f tmps assign body => exact h.elim
   | _ => exact h.elim
 | halt x w' => cases x <;> exact h
theorem wpOp_in {i : Nat} (hd : ∀ o ∈ ops.toList, ∀ c, o.op ≠ .defer c) (hQ : ¬ LetsOut Q) (h : wpOp P ops Q i K a w) : wpOpIn (fw ro) 0 P ops Q i K a w := by
 unfold wpOp at h
 unfold wpOpIn
 cases e : ops[i]? with
 | none => rw [e] at h; exact h
 | some o =>
   rw [e] at h
   simp only at h ⊢
   have hm : o ∈ ops.toList := Array.mem_toList_iff.2 (Array.mem_of_getElem? e)
   split
   · rename_i hw
     rw [if_pos hw] at h
     rcases h with h | h
     · exact wp_in (hd o hm) h
     · exact absurd h.2 hQ
   · rename_i hw
     rw [if_neg hw] at h
     exact ⟨fun _ _ => trivial, h⟩
theorem wpAny_in (hd : ∀ o ∈ ops.toList, ∀ c, o.op ≠ .defer c) (hQ : ¬ LetsOut Q) : ∀ (fuel : Nat) (listed : Array Bool) (a : Act) (w : World), wpAny P md ops Q fuel listed a w → wpAnyIn (fw ro) 0 P md ops Q fuel listed a w
 | 0, _, _, _, h => h
 | fuel + 1, listed, a, w, h => ⟨h.1, fun i hi => wpOpIn_mono (fun a w => wpAny_in hd hQ fuel _ a w) (wpOp_in hd hQ (h.2 i hi))⟩
theorem wpList_in (hQ : ¬ LetsOut Q) : ∀ (l : List Oper) (a : Act) (w : World), (∀ o ∈ l, ∀ c, o.op ≠ .defer c) → wpList P ops Q l a w → wpListIn (fw ro) 0 P ops Q l a w
 | [], _, _, _, h => h
 | o :: l, a, w, hd, h => by
   unfold wpList at h
   unfold wpListIn
   split
   · rename_i hw
     rw [if_pos hw] at h
     rcases h with h | h
     · exact Oper.wpIn_mono (fun a w => wpList_in hQ l a w (fun o ho => hd o (List.mem_cons_of_mem _ ho))) (wp_in (hd o List.mem_cons_self) h)
     · exact absurd h.2 hQ
   · rename_i hw
     rw [if_neg hw] at h
     exact ⟨fun _ _ => trivial, wpList_in hQ l _ w (fun o ho => hd o (List.mem_cons_of_mem _ ho)) h⟩
end
def WR (ro : Option Nat) (P : Program) (n : Sz) (c : Code) (Q : Post) (L : Env) (R : List RO) (O : List Own) : Prop :=
 ∀ a w, Fr n L a → Sat R O w → c.wpIn (fw ro) 0 P (lift n Q) a w
/-- The operations of a region of a function (not of a round), of which some may call yield. -/
def WY (P : Program) (n : Sz) (ops : Array Oper) (Q : Post) (rest : List Oper) (L : Env) (R : List RO) (O : List Own) : Prop :=
 ∀ a w, Fr n L a → Sat R O w → wpListIn (fw none) 0 P ops (lift n Q) rest a w
theorem lift_out {n : Sz} {Q : Post} : ¬ LetsOut (lift n Q) := fun ⟨_, _, h⟩ => h
section
variable {P : Program} {ro : Option Nat} {n : Sz} {ops : Array Oper} {Q : Post} {rest : List Oper} {o : Oper} {L : Env} {R : List RO} {O O' : List Own}
theorem WR.region {id : Nat} {l : List Oper} (h : WL P n l.toArray Q l L R O) (hd : noDef l = true := by kernel_rfl) : WR ro P n (.region id l.toArray false) Q L R O :=
 fun a w hf hs => wpIn_region_lit (wpList_in lift_out l a w (fun o ho => noDef_spec hd ho) (h a w hf hs))
theorem WR.regionY {id : Nat} {l : List Oper} (h : WY P n l.toArray Q l L R O) : WR none P n (.region id l.toArray false) Q L R O :=
 fun a w hf hs => wpIn_region_lit (h a w hf hs)
theorem WR.drawn {id : Nat} {l : List Oper} (T : List Own) (m : Nat) (hlen : l.length = m) (hm : P.follows .mixedOrders = true) (h : WD P n l.toArray Q R T m (Array.replicate m false) L R O) (hd : noDef l = true := by kernel_rfl) : WR ro P n (.region id l.toArray true) Q L R O := by
 subst hlen
 intro a w hf hs
 exact wpIn_region_any hm (wpAny_in (fun o ho => noDef_spec hd (by simpa using ho)) lift_out _ _ _ _ (wpAny_of_held _ _ _ _ (h a _ hf (hs.drew _))))
theorem WY.nil (h : Q .normal L R O) : WY P n ops Q [] L R O := fun _ _ hf hs => wpListIn_nil (lift_normal h hf hs)
theorem WY.op (hg : o.guard = none) (h : OpW P n o L R O (fun L' R' O' => WY P n ops Q rest L' R' O')) (hd : noDef [o] = true := by kernel_rfl) : WY P n ops Q (o :: rest) L R O := by
 intro a w hf hs
 refine wpListIn_plain hg fun K hK => wp_in (noDef_spec hd List.mem_cons_self) ?_
 exact Oper.wp_mono (fun a' w' ⟨L', R', O', hk, hf', hs'⟩ => hK _ _ (hk a' w' hf' hs')) (h a w hf hs _)
theorem WY.rd {v : Value} {d : Nat} (hg : o.guard = none) (hd : o.dst = some d) (hn : Nat.blt d n.n = true) (h : Rd P o L R O v) (k : WY P n ops Q rest ((d, v) :: L) R O) (hdf : noDef [o] = true := by kernel_rfl) : WY P n ops Q (o :: rest) L R O :=
 WY.op hg (OpW.rd hd hn h k) hdf
theorem WY.say (t : Nat) {v u : Value} (ht : Env.find L t = some v) (e : v = u) (k : WY P n ops Q rest ((t, u) :: L) R O) : WY P n ops Q rest L R O :=
 fun a w hf hs => k a w (hf.known ht e) hs
theorem WY.heap {R' : List RO} {O' : List Own} (hs : ∀ w, Sat R O w → Sat R' O' w) (k : WY P n ops Q rest L R' O') : WY P n ops Q rest L R O := fun a w hf h => k a w hf (hs w h)
def thenR (ro : Option Nat) (P : Program) (n : Sz) (y : Code) (Q : Post) : Post
 | .normal, L, R, O => WR ro P n y Q L R O
 | e, L, R, O => Q e L R O
theorem thenR.normal {y : Code} (h : WR ro P n y Q L R O) : thenR ro P n y Q .normal L R O := h
theorem thenR.exit {y : Code} {id : Nat} (h : Q (.exit id) L R O) : thenR ro P n y Q (.exit id) L R O := h
theorem WR.seq {x y : Code} (h : WR ro P n x (thenR ro P n y Q) L R O) : WR ro P n (.seq x y) Q L R O := by
 intro a w hf hs
 refine wpIn_seq (wpIn_mono (h a w hf hs) fun e a' w' hq => ?_)
 cases e with
 | normal => obtain ⟨L', R', O', hk, hf', hs'⟩ := hq; exact hk a' w' hf' hs'
 | exit id => exact hq
 | goto l => exact hq
 | ret => exact hq
 | panic c => exact hq
 | outgrown => exact hq
theorem WR.skip (h : Q .normal L R O) : WR ro P n .skip Q L R O := fun _ _ hf hs => wpIn_skip (lift_normal h hf hs)
theorem WR.exit {id : Nat} (h : Q (.exit id) L R O) : WR ro P n (.exit id) Q L R O := fun _ _ hf hs => wpIn_exit ⟨_, _, _, h, hf, hs⟩
theorem WR.retO {O' : List Own} (hF : FinO n.ds O O') (h : Q .ret L R O') : WR ro P n .ret Q L R O := fun _ _ hf hs => wpIn_ret ⟨_, _, _, h, hf.own, by rw [hf.defers]; exact hF.fin hs⟩
theorem WR.ret (h : Q .ret L R O) (hF : FinO n.ds O O := by exact FinO.nil) : WR ro P n .ret Q L R O := WR.retO hF h
theorem WR.block {id : Nat} {c : Code} (h : WR ro P n c (blockQ id Q) L R O) : WR ro P n (.block id c) Q L R O := by
 intro a w hf hs
 refine wpIn_block (wpIn_mono (h a w hf hs) fun e a' w' hq => ?_)
 cases e with
 | normal => exact hq
 | exit id' =>
   obtain ⟨L', R', O', hk, hf', hs'⟩ := hq
   by_cases e : id' = id
   · subst e
     simp only [blockQ, Nat.beq_refl] at hk
     simp only [Exit.inBlock, if_true]
     exact ⟨_, _, _, hk, hf', hs'⟩
   · simp only [blockQ, show Nat.beq id' id = false from by rw [← Bool.not_eq_true, Nat.beq_eq]; exact e] at hk
     simp only [Exit.inBlock, e, if_false]
     exact ⟨_, _, _, hk, hf', hs'⟩
 | goto l => exact hq
 | ret => exact hq
 | panic c => exact hq
 | outgrown => exact hq
theorem WR.cond {c : Operand} {x y : Code} {b : Bool} (hc : ev L c = some (.bool b)) (ht : b = true → WR ro P n x Q L R O) (hf : b = false → WR ro P n y Q L R O) : WR ro P n (.cond c x y) Q L R O := by
 intro a w hfr hs
 exact wpIn_cond_split (hfr.ev hc) (fun h => ht h a w hfr hs) (fun h => hf h a w hfr hs)
theorem WR.ite {c : Operand} {x y : Code} {p : Prop} [Decidable p] (hc : ev L c = some (.bool (decide p))) (ht : p → WR ro P n x Q L R O) (hf : ¬ p → WR ro P n y Q L R O) : WR ro P n (.cond c x y) Q L R O :=
 WR.cond hc (fun h => ht (of_decide_eq_true h)) (fun h => hf (of_decide_eq_false h))
theorem WR.yes {c : Operand} {x y : Code} (hc : ev L c = some (.bool true)) (ht : WR ro P n x Q L R O) : WR ro P n (.cond c x y) Q L R O :=
 WR.cond hc (fun _ => ht) (fun h => by cases h)
theorem WR.no {c : Operand} {x y : Code} (hc : ev L c = some (.bool false)) (hf : WR ro P n y Q L R O) : WR ro P n (.cond c x y) Q L R O :=
 WR.cond hc (fun h => by cases h) (fun _ => hf)
theorem WR.frame {c : Code} {L' : Env} (hs : Sub L' L) (k : WR ro P n c Q L' R O) : WR ro P n c Q L R O := fun a w hf h => k a w (hf.sub hs) h
theorem WR.pick {c : Code} (ks : List Nat) {L' : Env} (hp : Pick L ks L') (k : WR ro P n c Q L' R O) : WR ro P n c Q L R O := WR.frame hp.sub k
theorem WR.heap {c : Code} {R' : List RO} {O' : List Own} (hs : ∀ w, Sat R O w → Sat R' O' w) (k : WR ro P n c Q L R' O') : WR ro P n c Q L R O := fun a w hf h => k a w hf (hs w h)
theorem WR.loop {c : Code} {α : Type} (LF : α → Env) (RF : α → List RO) (OF : α → List Own) (I : α → Prop) (μ : α → Nat) (x0 : α) (h0 : I x0) (hL : Sub (LF x0) L) (hS : ∀ w, Sat R O w → Sat (RF x0) (OF x0) w)
 (round : ∀ x, I x → WR ro P n c (loopQ LF RF OF I μ (μ x) Q) (LF x) (RF x) (OF x)) : WR ro P n (.loop c) Q L R O := by
 intro a0 w0 hf0 hs0
 have hst : ∀ a w, (∃ x, I x ∧ Fr n (LF x) a ∧ Sat (RF x) (OF x) w) → ∃ x, (I x ∧ Fr n (LF x) a ∧ Sat (RF x) (OF x) w) ∧ ∀ y, I y → Fr n (LF y) a → Sat (RF y) (OF y) w → μ x ≤ μ y := fun a w ⟨x, hx⟩ => by
  have : ∀ m x, μ x ≤ m → (I x ∧ Fr n (LF x) a ∧ Sat (RF x) (OF x) w) → ∃ x, (I x ∧ Fr n (LF x) a ∧ Sat (RF x) (OF x) w) ∧ ∀ y, I y → Fr n (LF y) a → Sat (RF y) (OF y) w → μ x ≤ μ y := by
   intro m
   induction m with
   | zero => exact fun x hm hx => ⟨x, hx, fun y _ _ _ => by omega⟩
   | succ m ih =>
     intro x hm hx
     by_cases h : ∃ y, (I y ∧ Fr n (LF y) a ∧ Sat (RF y) (OF y) w) ∧ μ y ≤ m
     · obtain ⟨y, hy, hl⟩ := h; exact ih y hl hy
     · exact ⟨x, hx, fun y h1 h2 h3 => Nat.le_of_not_lt fun hlt => h ⟨y, ⟨h1, h2, h3⟩, by omega⟩⟩
  exact this _ x (Nat.le_refl _) hx
 haveI : ∀ (a : Act) (w : World), Decidable (∃ x, I x ∧ Fr n (LF x) a ∧ Sat (RF x) (OF x) w) := fun _ _ => Classical.propDecidable _
 let M : Act → World → Nat := fun a w => if h : ∃ x, I x ∧ Fr n (LF x) a ∧ Sat (RF x) (OF x) w then μ (hst a w h).choose else 0
 refine wpIn_loop (fun a w => ∃ x, I x ∧ Fr n (LF x) a ∧ Sat (RF x) (OF x) w) M ⟨x0, h0, hf0.sub hL, hS _ hs0⟩ fun a w hI => ?_
 have hM : M a w = μ (hst a w hI).choose := dif_pos hI
 obtain ⟨⟨h1, h2, h3⟩, h4⟩ := (hst a w hI).choose_spec
 refine wpIn_mono (round _ h1 a w h2 h3) fun e a' w' hq => ?_
 cases e with
 | normal =>
   obtain ⟨L', R', O', ⟨y, hy, hlt, hL', hS'⟩, hf', hs'⟩ := hq
   have hJ : ∃ x, I x ∧ Fr n (LF x) a' ∧ Sat (RF x) (OF x) w' := ⟨y, hy, hf'.sub hL', hS' _ hs'⟩
   refine ⟨hJ, ?_⟩
   have hM' : M a' w' = μ (hst a' w' hJ).choose := dif_pos hJ
   rw [hM, hM']
   exact Nat.lt_of_le_of_lt ((hst a' w' hJ).choose_spec.2 y hy (hf'.sub hL') (hS' _ hs')) hlt
 | exit id => exact hq
 | goto l => exact hq
 | ret => exact hq
 | panic c => exact hq
 | outgrown => exact hq
section
variable {c : Code} {α β γ : Type}
theorem WR.loop1o (m : Nat) (ch : α → Env) (I : α → Prop) (μ : α → Nat) (x0 : α) {pre Lc : Env} (_hs : Split m L pre Lc) (h0 : I x0) (hL : Sub (ch x0 ++ Lc) L) (hS : ∀ w, Sat R O w → Sat R O w)
 (round : ∀ x, I x → WR ro P n c (loopQ1 ch Lc (fun _ => R) (fun _ => O) I μ (μ x) Q) (ch x ++ Lc) R O) : WR ro P n (.loop c) Q L R O :=
 WR.loop (α := α) (fun q => ch q ++ Lc) (fun _ => R) (fun _ => O) I μ x0 h0 hL hS (fun q hq => round q hq)
theorem WR.loop1 (m : Nat) (ch : α → Env) (OF : α → List Own) (I : α → Prop) (μ : α → Nat) (x0 : α) {pre Lc : Env} (_hs : Split m L pre Lc) (h0 : I x0) (hL : Sub (ch x0 ++ Lc) L) (hS : ∀ w, Sat R O w → Sat R (OF x0) w)
 (round : ∀ x, I x → WR ro P n c (loopQ1 ch Lc (fun _ => R) OF I μ (μ x) Q) (ch x ++ Lc) R (OF x)) : WR ro P n (.loop c) Q L R O :=
 WR.loop (α := α) (fun q => ch q ++ Lc) (fun _ => R) OF I μ x0 h0 hL hS (fun q hq => round q hq)
theorem WR.loop2 (m : Nat) (ch : α → β → Env) (OF : α → β → List Own) (I : α → β → Prop) (μ : α → β → Nat) (x0 : α) (y0 : β) {pre Lc : Env} (_hs : Split m L pre Lc) (h0 : I x0 y0) (hL : Sub (ch x0 y0 ++ Lc) L) (hS : ∀ w, Sat R O w → Sat R (OF x0 y0) w)
 (round : ∀ x y, I x y → WR ro P n c (loopQ2 ch Lc (fun _ _ => R) OF I μ (μ x y) Q) (ch x y ++ Lc) R (OF x y)) : WR ro P n (.loop c) Q L R O :=
 WR.loop (α := α × β) (fun q => ch q.1 q.2 ++ Lc) (fun _ => R) (fun q => OF q.1 q.2) (fun q => I q.1 q.2) (fun q => μ q.1 q.2) (x0, y0) h0 hL hS (fun q hq => round q.1 q.2 hq)
end
theorem Fun.enterR {f : FuncId} {fn : Func} {n : Nat} {c : Code} {l : List Value} {post : Value → List RO → List Own → Prop} (hf : P.funcs[f]? = some fn) (hb : fn.body = some c) (hn : fn.ntmps = n) (hl : Nat.ble l.length n = true) {L0 : Env} (hL : argsEnv l 0 = L0)
 (h : WR none P ⟨n, []⟩ c (retQ P fn ⟨n, []⟩ post) L0 R O) : Fun P f l.toArray R O post := by
 intro w hs
 refine callsIn_fw.1 (callsIn_of_wp_marks (F := fw none) (n := 0) hf hb trivial ?_)
 have hl' : l.length ≤ n := Nat.le_of_ble_eq_true hl
 refine wpIn_mono (h _ w ⟨?_, rfl, ?_⟩ hs) fun e a' w' hq => ?_
 · simp [hn]; omega
 · intro t v ht
   rw [← hL] at ht
   obtain ⟨_, h2⟩ := argsEnv_find ht
   simp only [Nat.sub_zero] at h2
   have hlt : t < l.length := (List.getElem?_eq_some_iff.1 h2).1
   simp only [Array.getD_eq_getD_getElem?]
   rw [Array.getElem?_append_left (by simpa using hlt)]
   simp [h2]
 · cases e with
   | normal => obtain ⟨L', R', O', ⟨v, hr, hp⟩, hf', hs'⟩ := hq; exact Fin.leaves (f := f) hr hp hf'.own (.inl ⟨hf'.defers, hs'⟩)
   | ret => obtain ⟨L', R', O', ⟨v, hr, hp⟩, hf', hs'⟩ := hq; exact Fin.leaves (f := f) hr hp hf' hs'
   | exit id => obtain ⟨L', R', O', hk, _⟩ := hq; exact hk.elim
   | goto l => obtain ⟨L', R', O', hk, _⟩ := hq; exact hk.elim
   | panic c => exact hq.elim
   | outgrown => exact hq.elim
/-- What one call of yield does. -/
def Yld (P : Program) (l : Nat) (args : List Value) (R : List RO) (O : List Own) (K : Bool → List RO → List Own → Prop) : Prop :=
 ∀ w, Sat R O w → YieldAt (fw none) 0 P l args.toArray w fun e w' => ∃ b R' O', e = .returned (.bool b) ∧ K b R' O' ∧ Sat R' O' w'
theorem WY.yield {l : Nat} {x : Operand} {xs : List Operand} {azs : List Value} {ts : Array TypeId} {d : Nat} (hg : o.guard = none) (ho : o.op = .call { callee := .value x, args := xs.toArray, argTypes := ts })
 (hx : ev L x = some (.func (.yield l) #[] #[])) (has : Evs L xs azs) (hd : o.dst = some d) (hn : Nat.blt d n.n = true)
 (h : Yld P l azs R O (fun b R' O' => WY P n ops Q rest ((d, .bool b) :: L) R' O')) : WY P n ops Q (o :: rest) L R O := by
 intro a w hf hs
 refine wpListIn_plain hg fun K hK => ⟨fun _ _ => trivial, ?_⟩
 have e1 : a.eval x = _ := hf.ev hx
 have e2 := has.eval (ρ := a.eval) (fun x u hx => hf.ev hx)
 obtain ⟨fn, tmps, assign, body, hy, hR⟩ := h w hs
 have hr : (execOp a.eval o).run P w = .ok (.round l fn tmps assign body) w := by
  simp only [execOp, ho, resolve, e1, Deferred.ofValue, List.map_toArray, e2, Sem.run_bind, Sem.run_pure, Result.andThen_ok, invoke]
  simpa using hy
 show o.uponIn _ _ _ _ _ _ ((o.semAt none a.eval).run P w)
 rw [Oper.semAt_none, hr, Oper.uponIn_round]
 refine ⟨fun hx => Bool.noConfusion hx, hR.mono fun e w' hq => ?_⟩
 obtain ⟨b, R', O', he, hk, hs'⟩ := hq
 subst he
 rw [hd]
 exact hK _ _ (hk _ _ (hf.put hn _) hs')
def recC (l : Nat) (n : Sz) (L : Env) (D : Nat) (st : LoopState) (pe : Option Code) (ps : Array Tmp) (assign body : Code) : Own :=
 ⟨[l], fun w => ∃ f tmps, w.heap[l]? = some (.loop { state := st, pending := pe, fn := f, tmps, params := ps, assign, body, defers := D }) ∧ Fr ⟨n.n, []⟩ L { tmps := tmps, defers := [] }⟩
def paramsEnv : List Nat → List Value → Env → Env
 | p :: ps, v :: vs, L => paramsEnv ps vs ((p, v) :: L)
 | _, _, L => L
theorem Fr.params : ∀ (ps : List Nat) (vs : List Value) {L : Env} {m : Nat} {tmps : Array Value}, ps.all (fun p => Nat.blt p m) = true → Fr ⟨m, []⟩ L { tmps := tmps, defers := [] } →
 Fr ⟨m, []⟩ (paramsEnv ps vs L) { tmps := (ps.zip vs).foldl (fun t (p, v) => t.setIfInBounds p v) tmps, defers := [] }
 | [], _, _, _, _, _, h => by simpa [paramsEnv] using h
 | _ :: _, [], _, _, _, _, h => by simpa [paramsEnv] using h
 | p :: ps, v :: vs, L, m, tmps, hp, h => by
   simp only [List.all_cons, Bool.and_eq_true] at hp
   simp only [List.zip_cons_cons, List.foldl_cons, paramsEnv]
   exact Fr.params ps vs hp.2 (h.put hp.1 v)
theorem Sat.loopPut {l : Nat} {n : Sz} {L : Env} {D : Nat} {st st' : LoopState} {pe pe' : Option Code} {ps : Array Tmp} {assign body : Code} {w : World} {f : FuncId} {tmps : Array Value}
 (h : Sat R (recC l n L D st pe ps assign body :: O) w) (hf : Fr ⟨n.n, []⟩ L { tmps := tmps, defers := [] }) :
 Sat R (recC l n L D st' pe' ps assign body :: O) (w.putObj l (.loop { state := st', pending := pe', fn := f, tmps, params := ps, assign, body, defers := D })) := by
 have hlt : l < w.heap.size := h.lt l (by simp [owned, recC])
 refine h.update _ ⟨rfl, rfl, rfl, by simp [World.putObj], fun k _ hn => World.putObj_heap_other (fun e => hn (by rw [e]; exact List.mem_singleton.2 rfl))⟩
  (fun k hk => .inl hk) (fun k hk => by rw [List.mem_singleton.1 hk]; simpa [World.putObj] using hlt) (by simp [recC]) (fun w2 ha _ => ⟨f, tmps, ?_, hf⟩)
 rw [ha.2.2.2.2 l (by simpa [World.putObj] using hlt) (fun hn => hn (by simp [recC]))]
 exact World.putObj_heap_same hlt
/-- How a round may end: off its body's end, or by 'return'. -/
def roundQ (l : Nat) (n : Sz) (L : Env) (D : Nat) (ps : Array Tmp) (assign body : Code) (K : Bool → List RO → List Own → Prop) : Post
 | .normal, _, R, O => ∃ O2, Take (recC l n L D .busy none ps assign body) O O2 ∧ K true R (recC l n L D .ready none ps assign body :: O2)
 | .ret, _, R, O => ∃ O2, Take (recC l n L D .busy none ps assign body) O O2 ∧ K false R (recC l n L D .done (some .ret) ps assign body :: O2)
 | _, _, _, _ => False
def assignQ (l : Nat) (P : Program) (n : Sz) (L : Env) (D : Nat) (ps : Array Tmp) (assign body : Code) (K : Bool → List RO → List Own → Prop) : Post
 | .normal, L', R, O => ∃ O2, Take (recC l n L D .ready none ps assign body) O O2 ∧ WR (some l) P ⟨n.n, []⟩ body (roundQ l n L D ps assign body K) L' R (recC l n L D .busy none ps assign body :: O2)
 | _, _, _, _ => False
theorem assignQ.mk {l : Nat} {Lr L' : Env} {D : Nat} {ps : Array Tmp} {assign body : Code} {K : Bool → List RO → List Own → Prop} {O2 : List Own} (hT : Take (recC l n Lr D .ready none ps assign body) O O2)
 (h : WR (some l) P ⟨n.n, []⟩ body (roundQ l n Lr D ps assign body K) L' R (recC l n Lr D .busy none ps assign body :: O2)) : assignQ l P n Lr D ps assign body K .normal L' R O := ⟨O2, hT, h⟩
theorem roundQ.on {l : Nat} {Lr L' : Env} {D : Nat} {ps : Array Tmp} {assign body : Code} {K : Bool → List RO → List Own → Prop} {O2 : List Own} (hT : Take (recC l n Lr D .busy none ps assign body) O O2)
 (h : K true R (recC l n Lr D .ready none ps assign body :: O2)) : roundQ l n Lr D ps assign body K .normal L' R O := ⟨O2, hT, h⟩
theorem Yld.round {l : Nat} {Lr : Env} {D : Nat} {ps : List Nat} {assign body : Code} {args : List Value} {K : Bool → List RO → List Own → Prop} {L0 : Env}
 (hT : Take (recC l n Lr D .ready none ps.toArray assign body) O O') (hsz : args.length = ps.length) (hps : ps.all (fun p => Nat.blt p n.n) = true) (hL0 : paramsEnv ps args Lr = L0)
 (h : WR (some l) P ⟨n.n, []⟩ assign (assignQ l P n Lr D ps.toArray assign body K) L0 R (recC l n Lr D .ready none ps.toArray assign body :: O')) : Yld P l args R O K := by
 intro w hs
 have hs1 := hs.perm hT.perm
 obtain ⟨f, tmps, hl, hf⟩ := hs1.see List.mem_cons_self
 have hy := run_yield (P := P) (args := args.toArray) hl (by simpa using hsz)
 refine ⟨f, _, assign, body, hy, ?_⟩
 refine roundIn_of_wpIn trivial ?_
 have hzip : (ps.toArray.zip args.toArray).foldl (fun t (p, v) => t.setIfInBounds p v) tmps = (ps.zip args).foldl (fun t (p, v) => t.setIfInBounds p v) tmps := by
  rw [← Array.foldl_toList]; simp
 have hf0 : Fr ⟨n.n, []⟩ L0 { tmps := (ps.toArray.zip args.toArray).foldl (fun t (p, v) => t.setIfInBounds p v) tmps, defers := [] } := by
  rw [hzip, ← hL0]; exact Fr.params ps args hps hf
 refine wpIn_mono (h _ w hf0 hs1) fun e a1 w1 hq => ?_
 cases e with
 | normal =>
   obtain ⟨L1, R1, O1, ⟨O2, hT1, hb⟩, hf1, hs1⟩ := hq
   have hs2 := hs1.perm hT1.perm
   obtain ⟨f1, tmps1, hl1, hfr1⟩ := hs2.see List.mem_cons_self
   refine ⟨_, run_beginRound hl1 rfl, ?_⟩
   refine wpIn_mono (hb a1 _ hf1 (hs2.loopPut hfr1)) fun e a2 w2 hq => ?_
   cases e with
   | normal =>
     obtain ⟨L2, R2, O3, ⟨O4, hT2, hk⟩, _, hs3⟩ := hq
     have hs4 := hs3.perm hT2.perm
     obtain ⟨f2, tmps2, hl2, hfr2⟩ := hs4.see List.mem_cons_self
     exact ⟨_, _, run_endRound none hl2, true, _, _, rfl, hk, hs4.loopPut hfr2⟩
   | ret =>
     obtain ⟨L2, R2, O3, ⟨O4, hT2, hk⟩, hfr, hfin⟩ := hq
     rcases hfin with ⟨_, hs3⟩ | ⟨D', _, hs3⟩
     · have hs4 := hs3.perm hT2.perm
       obtain ⟨f2, tmps2, hl2, hfr2⟩ := hs4.see List.mem_cons_self
       exact ⟨_, _, run_endRound (some .ret) hl2, false, _, _, rfl, hk, hs4.loopPut hfr2⟩
     · have hs4 := hs3.drop.perm hT2.perm
       obtain ⟨f2, tmps2, hl2, hfr2⟩ := hs4.see List.mem_cons_self
       exact ⟨_, _, run_endRound (some .ret) hl2, false, _, _, rfl, hk, hs4.loopPut hfr2⟩
   | exit id => obtain ⟨_, _, _, hk, _⟩ := hq; exact hk.elim
   | goto t => obtain ⟨_, _, _, hk, _⟩ := hq; exact hk.elim
   | panic c => exact hq.elim
   | outgrown => exact hq.elim
 | ret => obtain ⟨_, _, _, hk, _⟩ := hq; exact hk.elim
 | exit id => obtain ⟨_, _, _, hk, _⟩ := hq; exact hk.elim
 | goto t => obtain ⟨_, _, _, hk, _⟩ := hq; exact hk.elim
 | panic c => exact hq.elim
 | outgrown => exact hq.elim
theorem Yld.mono {l : Nat} {args : List Value} {K K' : Bool → List RO → List Own → Prop} (h : Yld P l args R O K) (hk : ∀ b R O, K b R O → K' b R O) : Yld P l args R O K' := fun w hs => by
 obtain ⟨fn, tmps, assign, body, hy, hR⟩ := h w hs
 exact ⟨fn, tmps, assign, body, hy, hR.mono fun e w' ⟨b, R', O', he, hK, hs'⟩ => ⟨b, R', O', he, hk _ _ _ hK, hs'⟩⟩
theorem Yld.heap {l : Nat} {args : List Value} {K : Bool → List RO → List Own → Prop} {R' : List RO} (hs : ∀ w, Sat R O w → Sat R' O' w) (h : Yld P l args R' O' K) : Yld P l args R O K := fun w h0 => h w (hs w h0)
/-- Only a return is taken. -/
def onlyRet (Q : Post) : Post
 | .ret, L, R, O => Q .ret L R O
 | _, _, _, _ => False
theorem onlyRet.mk {Q : Post} (h : Q .ret L R O) : onlyRet Q .ret L R O := h
abbrev markOf (D : Nat) : List Deferred := [{ target := .collected D, args := #[] }]
/-- What the statement asks, with what stands behind it in the function. -/
def RangeOk (P : Program) (n : Sz) (g : Operand) (ps : List Nat) (assign body y : Code) (Q : Post) (L : Env) (R : List RO) (O : List Own) : Prop :=
 ∃ gf lb, ev L g = some (.func (.func gf) #[] (List.toArray lb)) ∧ hasBody P gf = true ∧
  ∀ l D, Fun P gf (.func (.yield l) #[] #[] :: lb).toArray R (recC l n L D .ready none ps.toArray assign body :: dfC D :: O) (fun _ R' O' => ∃ O2, Take (recC l n L D .ready none ps.toArray assign body) O' O2 ∧ WC P ⟨n.n, markOf D⟩ y (onlyRet Q) L R' O2)
theorem RangeOk.mk {g : Operand} {ps : List Nat} {assign body y : Code} {gf : Nat} {lb : List Value} (hg : ev L g = some (.func (.func gf) #[] lb.toArray)) (hb : hasBody P gf = true)
 (h : ∀ l D, Fun P gf (.func (.yield l) #[] #[] :: lb).toArray R (recC l n L D .ready none ps.toArray assign body :: dfC D :: O) (fun _ R' O' => ∃ O2, Take (recC l n L D .ready none ps.toArray assign body) O' O2 ∧ WC P ⟨n.n, markOf D⟩ y (onlyRet Q) L R' O2)) :
 RangeOk P n g ps assign body y Q L R O := ⟨gf, lb, hg, hb, h⟩
theorem RangeOk.core {g : Operand} {ps : List Nat} {assign body y : Code} {id : Nat} {a : Act} {w : World} (hds : n.ds = []) (hr : RangeOk P n g ps assign body y Q L R O) (hf : Fr n L a) (hs : Sat R O w) :
 (Code.block id (.rangeFunc g ps.toArray assign body)).wpIn Fence.wide 0 P (Exit.then (y.wpIn Fence.wide 0 P (lift n Q)) (lift n Q)) a w := by
 obtain ⟨gf, lb, hg, hb, h⟩ := hr
 refine wpIn_block ?_
 refine wpIn_rangeFunc fun fn _ => ?_
 have hsD : Sat R (dfC w.heap.size :: O) (w.alloc (.deferred (some []))) := hs.alloc _ _ rfl (fun w' h _ => h)
 have hsz : (w.alloc (.deferred (some []))).heap.size = w.heap.size + 1 := by simp
 have hfr : Fr ⟨n.n, []⟩ L { tmps := a.tmps, defers := [] } := ⟨hf.size, rfl, fun t v ht => hf.get t v ht⟩
 have hsL : Sat R (recC (w.heap.size + 1) n L w.heap.size .ready none ps.toArray assign body :: dfC w.heap.size :: O) ((w.alloc (.deferred (some []))).alloc (.loop { state := .ready, pending := none, fn, tmps := a.tmps, params := ps.toArray, assign, body, defers := w.heap.size })) :=
  hsD.alloc _ _ (by rw [hsz]; rfl) (fun w' h _ => ⟨fn, a.tmps, by rw [hsz] at h; exact h, hfr⟩)
 have e1 : a.eval g = _ := hf.ev hg
 have hc := h (w.heap.size + 1) w.heap.size _ hsL
 obtain ⟨W1, hW1⟩ : ∃ W1, (w.alloc (.deferred (some []))).alloc (.loop { state := .ready, pending := none, fn, tmps := a.tmps, params := ps.toArray, assign, body, defers := w.heap.size }) = W1 := ⟨_, rfl⟩
 rw [hW1] at hc
 refine ⟨w.heap.size + 1, markOf w.heap.size, W1, { target := .fn (.func gf) lb.toArray, args := #[.func (.yield (w.heap.size + 1)) #[] #[]] }, W1, gf, (.func (.yield (w.heap.size + 1)) #[] #[] :: lb).toArray, W1,
  hW1 ▸ run_enterLoop_outer fn a.tmps ps.toArray assign body, ?_, fun _ _ => trivial, ?_, fun hx => Bool.noConfusion hx, (callsIn_wide (n := 0)).2 (hc.mono ?_)⟩
 · simp only [resolve, e1]
   simp [go_sem, Deferred.ofValue]
 · simp [invoke, go_sem, run_callFunc hb]
 · rintro e w2 ⟨v, R', O', rfl, ⟨O2, hT, hy⟩, hs2⟩
   have hs3 := hs2.perm hT.perm
   obtain ⟨f2, tmps2, hl2, hfr2⟩ := hs3.see List.mem_cons_self
   refine ⟨none, _, run_endLoop hl2 (by simp), ?_⟩
   have hs4 := (hs3.loopPut (st' := .exhausted) (pe' := none) (f := f2) hfr2).drop
   have hf2 : Fr ⟨n.n, markOf w.heap.size⟩ L { a with defers := markOf w.heap.size ++ a.defers } := ⟨hf.size, by show _ ++ a.defers = _; rw [hf.defers, hds]; rfl, fun t v ht => hf.get t v ht⟩
   have hy' := hy _ _ hf2 hs4
   show Code.wpIn Fence.wide 0 P y (lift n Q) _ _
   refine wpIn_wide.2 (wp_mono hy' fun e a' w' hq => ?_)
   cases e with
   | ret => obtain ⟨L', R', O', h1, h2, h3⟩ := hq; exact ⟨L', R', O', h1, h2, h3⟩
   | normal => obtain ⟨_, _, _, hk, _⟩ := hq; exact hk.elim
   | exit id => obtain ⟨_, _, _, hk, _⟩ := hq; exact hk.elim
   | goto t => obtain ⟨_, _, _, hk, _⟩ := hq; exact hk.elim
   | panic c => exact hq.elim
   | outgrown => exact hq.elim
def rangeQ (P : Program) (n : Sz) (g : Operand) (ps : List Nat) (assign body y : Code) (Q : Post) : Post
 | .normal, L, R, O => RangeOk P n g ps assign body y Q L R O
 | e, L, R, O => Q e L R O
theorem rangeQ.normal {g : Operand} {ps : List Nat} {assign body y : Code} (h : RangeOk P n g ps assign body y Q L R O) : rangeQ P n g ps assign body y Q .normal L R O := h
theorem WC.rangeSeq {g : Operand} {ps : List Nat} {assign body x y : Code} {id : Nat} (hds : n.ds = []) (h : WC P n x (rangeQ P n g ps assign body y Q) L R O) :
 WC P n (.seq (.seq x (.block id (.rangeFunc g ps.toArray assign body))) y) Q L R O := by
 intro a w hf hs
 refine wpIn_wide.1 (wpIn_seq (F := Fence.wide) (n := 0) (wpIn_seq (wpIn_wide.2 (wp_mono (h a w hf hs) fun e a' w' hq => ?_))))
 cases e with
 | normal => obtain ⟨L', R', O', hk, hf', hs'⟩ := hq; exact RangeOk.core hds hk hf' hs'
 | exit id => exact hq
 | goto l => exact hq
 | ret => exact hq
 | panic c => exact hq
 | outgrown => exact hq
end
end Go.SL
