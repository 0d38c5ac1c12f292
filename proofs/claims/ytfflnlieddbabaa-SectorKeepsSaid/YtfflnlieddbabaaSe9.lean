/-
  Layer 4: acts of a script, two disks that are alike, speaks, SectorNil.
-/
import Derived.Test.YtfflnlieddbabaaSe8
import Derived.Test.YtfflnlieddbabaaOpw
namespace Go.Proofs.Ytfflnlieddbabaa
open Go Go.SL

/-- An act: what, which sector, data, what is kept. -/
abbrev Act := Int × Int × List UInt8 × (Value × List Int)
def encA (a : Act) : List Value := [.int .i64 a.1, .int .i64 a.2.1, vs a.2.2.1, a.2.2.2.1]
def QA (w : World) (a : Act) : Prop := QInt w a.1 ∧ QInt w a.2.1 ∧ QStr w a.2.2.1 ∧ SlE (one vi) a.2.2.2.1 a.2.2.2.2 w ∧ a.2.2.2.2.length ≤ 17592186043904
theorem elsA : ElsW Try.prog 31 encA QA := by
  have h4 := elsW_slice Try.underlying23 (size := 1) (by kernel_rfl) (by decide) (elsW_int Try.underlying3) (fun _ => rfl)
  have h := elsW_struct (m := 4) Try.underlying31 (by kernel_rfl) (elsSeq_cons (elsW_int Try.underlying3) rfl (by kernel_rfl) (elsSeq_cons (elsW_int Try.underlying3) rfl (by kernel_rfl) (elsSeq_cons (elsW_string Try.underlying9) rfl (by kernel_rfl) (elsSeq_cons h4 rfl (by kernel_rfl) elsSeq_nil))))
  refine elsW_map (fun x => (x.1, x.2.1, x.2.2.1, x.2.2.2.1)) h (fun _ => rfl) (fun w a ⟨q1, q2, q3, ⟨q4, q5, _⟩, _⟩ => ⟨q1, q2, q3, q4, ?_⟩)
  rw [show Try.prog.bytesOf 3 = 8 from by kernel_rfl] at q5
  show a.2.2.2.1.2.length ≤ _
  omega
theorem QA.stable {W : World} {a : Act} (w' : World) (h : QA W a) (ha : Agree (· ∈ owned []) W w') : QA w' a := ⟨h.1, h.2.1, h.2.2.1, h.2.2.2.1.stable w' ha, h.2.2.2.2⟩
theorem put_keep (s : DSt) (i : Int) (d : List UInt8) : (putS s i d).keep = s.keep := by
  unfold putS
  split
  · rfl
  · split
    · exact step_keep s
    · exact step_keep s
theorem sync_keep (s : DSt) : (syncS s).keep = s.keep := by
  unfold syncS
  split
  · exact step_keep s
  · exact step_keep s
theorem spoil_keep (s : DSt) (i : Int) (d : List UInt8) : (spoilS s i d).keep = s.keep := by
  unfold spoilS
  split <;> rfl
section
variable {R : List RO} {O : List Own} {POST : Value → List RO → List Own → Prop}
def sSp : DSt := syncS (putS (newS 2) 1 [97])
theorem sp0 : stepE (putS (newS 2) 1 [97]) = 0 := by decide +kernel
theorem sp1 : (readE (crashS (putS sSp 1 [98]) []) 1).2 = 0 ∧ (readE (crashS (putS sSp 1 [98]) []) 1).1.length = 512 ∧ (readE (crashS (putS sSp 1 [98]) []) 1).1.take 2 = [97, 0] := by decide +kernel
set_option maxHeartbeats 1000000 in
set_option maxRecDepth 20000 in
theorem speaks_spec (hk : POST (.bool true) R O) : Fun Try.prog 7 #[] R O POST := by
  have k0 : DOk (newS 2) 0 := DOk.new (by omega)
  have k1 : DOk (putS (newS 2) 1 [97]) 1 := k0.put _ _
  have k2 : DOk sSp 2 := k1.sync
  have k3 : DOk (putS sSp 1 [98]) 3 := k2.put _ _
  have k4 : DOk (crashS (putS sSp 1 [98]) []) 3 := k3.crash _
  obtain ⟨r1, r2, r3⟩ := sp1
  refine Fun.enter (l := []) Try.func7 rfl Try.ntmps7 rfl (L0 := []) rfl ?_
  refine WC.seq ?_
  refine WC.region ?_
  refine WL.rd rfl rfl rfl (Rd.assign rfl rfl) ?_
  refine WL.nil ?_
  refine thenQ.normal ?_
  refine WC.seq ?_
  refine WC.region ?_
  refine WL.op rfl ?_
  refine OpW.call rfl rfl (by repeat (first | exact Evs.nil | apply Evs.cons rfl)) (by kernel_rfl) rfl rfl rfl ?_
  refine new_spec (fun h => by exfalso; omega) (fun n hn _ _ d V hv => ?_); obtain rfl : n = 2 := by omega
  refine WL.rd rfl rfl rfl (Rd.move rfl rfl) ?_
  refine WL.rd rfl rfl rfl (Rd.extract rfl rfl rfl) ?_
  refine WL.rd rfl rfl rfl (Rd.extract rfl rfl rfl) ?_
  refine WL.rd rfl rfl rfl (Rd.assign rfl rfl) ?_
  refine WL.rd rfl rfl rfl (Rd.assign rfl rfl) ?_
  refine WL.nil ?_
  refine thenQ.normal ?_
  refine WC.seq ?_
  refine WC.seq ?_
  refine WC.region ?_
  refine WL.rd rfl rfl rfl (Rd.move rfl rfl) ?_
  refine WL.rd rfl rfl rfl (Rd.neq rfl rfl rfl) ?_
  refine WL.nil ?_
  refine thenQ.normal ?_
  first | refine WC.ite rfl (fun hc1 => ?_) (fun hc1 => ?_) | refine WC.cond rfl (fun hc1 => ?_) (fun hc1 => ?_)
  · skip
    exact absurd rfl hc1
  · skip
    refine WC.skip ?_
    refine thenQ.normal ?_
    refine WC.seq ?_
    refine WC.region ?_
    refine WL.rd rfl rfl rfl (Rd.move rfl rfl) ?_
    refine WL.op rfl ?_
    refine OpW.call rfl rfl (by repeat (first | exact Evs.nil | apply Evs.cons rfl)) (by kernel_rfl) rfl rfl rfl ?_
    refine write_spec k0 (by omega) hv List.mem_cons_self ?_; intro V1 hv1 hkv1
    refine WL.nil ?_
    refine thenQ.normal ?_
    refine WC.seq ?_
    refine WC.region ?_
    refine WL.rd rfl rfl rfl (Rd.move rfl rfl) ?_
    refine WL.op rfl ?_
    refine OpW.call rfl rfl (by repeat (first | exact Evs.nil | apply Evs.cons rfl)) (by kernel_rfl) rfl rfl rfl ?_
    refine sync_spec (s := putS (newS 2) 1 [97]) k1 (by omega) hv1 (by rw [hkv1, put_keep]; exact List.mem_cons_self) ?_; intro V2 hv2 hkv2
    refine WL.say 15 (u := .int .i64 0) rfl (by rw [sp0]; rfl) ?_
    refine WL.rd rfl rfl rfl (Rd.assign rfl rfl) ?_
    refine WL.nil ?_
    refine thenQ.normal ?_
    refine WC.seq ?_
    refine WC.region ?_
    refine WL.rd rfl rfl rfl (Rd.move rfl rfl) ?_
    refine WL.op rfl ?_
    refine OpW.call rfl rfl (by repeat (first | exact Evs.nil | apply Evs.cons rfl)) (by kernel_rfl) rfl rfl rfl ?_
    refine write_spec (s := sSp) k2 (by omega) hv2 (by unfold sSp; rw [hkv2, hkv1, sync_keep, put_keep]; exact List.mem_cons_self) ?_; intro V3 hv3 hkv3
    refine WL.nil ?_
    refine thenQ.normal ?_
    refine WC.seq ?_
    refine WC.region ?_
    refine WL.rd rfl rfl rfl (Rd.move rfl rfl) ?_
    refine WL.heap (fun w h => Sat.nilE (α := Int) (enc := one vi) h) ?_
    refine WL.op rfl ?_
    refine OpW.call rfl rfl (by repeat (first | exact Evs.nil | apply Evs.cons rfl)) (by kernel_rfl) rfl rfl rfl ?_
    refine crash_spec (keep := []) k3 (by omega) hv3 List.mem_cons_self ?_; intro hv4
    refine WL.nil ?_
    refine thenQ.normal ?_
    refine WC.seq ?_
    refine WC.region ?_
    refine WL.rd rfl rfl rfl (Rd.move rfl rfl) ?_
    refine WL.op rfl ?_
    refine OpW.call rfl rfl (by repeat (first | exact Evs.nil | apply Evs.cons rfl)) (by kernel_rfl) rfl rfl rfl ?_
    refine read_spec (s := crashS (putS sSp 1 [98]) []) (k4.mono (by omega)) ?_
    refine WL.rd rfl rfl rfl (Rd.move rfl rfl) ?_
    refine WL.rd rfl rfl rfl (Rd.extract rfl rfl rfl) ?_
    refine WL.rd rfl rfl rfl (Rd.extract rfl rfl rfl) ?_
    refine WL.say 24 (u := .int .i64 0) rfl (by rw [r1]; rfl) ?_
    refine WL.rd rfl rfl rfl (Rd.assign rfl rfl) ?_
    refine WL.rd rfl rfl rfl (Rd.assign rfl rfl) ?_
    refine WL.nil ?_
    refine thenQ.normal ?_
    refine WC.seq ?_
    refine WC.region ?_
    refine WL.rd rfl rfl rfl (Rd.move rfl rfl) ?_
    refine WL.rd rfl rfl rfl (Rd.eql rfl rfl rfl) ?_
    refine WL.rd rfl rfl rfl (Rd.move rfl rfl) ?_
    refine WL.case 27 rfl (fun hg27 => ?_) (fun hg27 => ?_)
    · skip
      refine WL.rd_yes rfl rfl rfl rfl rfl rfl (Rd.move rfl rfl) ?_
      refine WL.rd_yes rfl rfl rfl rfl rfl rfl (Rd.eql rfl rfl rfl) ?_
      refine WL.rd rfl rfl rfl (Rd.pick_t rfl rfl rfl) ?_
      refine WL.rd rfl rfl rfl (Rd.move rfl rfl) ?_
      refine WL.case 31 rfl (fun hg31 => ?_) (fun hg31 => ?_)
      · skip
        refine WL.rd_yes rfl rfl rfl rfl rfl rfl (Rd.move rfl rfl) ?_
        refine WL.rd_yes rfl rfl rfl rfl rfl rfl (Rd.slen (ts := #[]) (ty := 0) rfl rfl Try.underlying9) ?_
        refine WL.say 33 (u := .int .i64 512) rfl (by rw [r2]; rfl) ?_
        refine WL.rd_yes rfl rfl rfl rfl rfl rfl (Rd.eql rfl rfl rfl) ?_
        refine WL.rd rfl rfl rfl (Rd.pick_t rfl rfl rfl) ?_
        refine WL.rd rfl rfl rfl (Rd.move rfl rfl) ?_
        refine WL.case 36 rfl (fun hg36 => ?_) (fun hg36 => ?_)
        · skip
          refine WL.rd_yes rfl rfl rfl rfl rfl rfl (Rd.move rfl rfl) ?_
          refine WL.rd_yes rfl rfl rfl rfl rfl rfl (Rd.scut_h (hi := 2) rfl Try.underlying9 rfl rfl rfl (by rw [r2]; omega)) ?_
          refine WL.rd_yes rfl rfl rfl rfl rfl rfl (Rd.seql rfl rfl rfl) ?_
          refine WL.say 39 (u := .bool true) rfl (by rw [r3]; rfl) ?_
          refine WL.rd rfl rfl rfl (Rd.pick_t rfl rfl rfl) ?_
          refine WL.rd rfl rfl rfl (Rd.assign rfl rfl) ?_
          refine WL.nil ?_
          refine thenQ.normal ?_
          -- ret_1
          refine WC.heap (R' := R) (O' := O) (fun w h => OwnL.sat (by repeat (first | exact OwnL.refl | apply OwnL.take (by repeat (first | exact Take.head _ | apply Take.tail)) | apply OwnL.drop)) w (h.thin (SubL.mem (by repeat (first | exact SubL.refl | refine SubL.cons (by repeat (first | assumption | exact List.mem_cons_self | refine List.mem_cons_of_mem _ ?_)) ?_ | refine SubL.skip ?_))))) ?_
          refine WC.ret (Ret.one Try.results7 rfl ?_)
          exact hk
        · skip
          exact absurd rfl hg36
      · skip
        exact absurd rfl hg31
    · skip
      exact absurd rfl hg27
set_option maxHeartbeats 1000000 in
set_option maxRecDepth 20000 in
theorem nil_spec {i : Int} {x : List UInt8} (hk : POST (.bool true) R O) : Fun Try.prog 6 #[.int .i64 i, vs x] R O POST := by
  have k0 : DOk (newS 3) 0 := DOk.new (by omega)
  have hl := land_le .i64 i 1
  obtain ⟨c, hc⟩ : ∃ c : Nat, c = land .i64 i 1 := ⟨_, rfl⟩
  rw [← hc] at hl
  obtain ⟨s1, hs1⟩ : ∃ s, s = cutS (newS 3) (c : Int) [] := ⟨_, rfl⟩
  have hk1 : DOk s1 0 := by rw [hs1]; exact k0.cut _ (by omega) _
  have hleft : s1.left = 1 := by rw [hs1]; show (max (c : Int) 1).toNat = 1; omega
  have hon : ¬ s1.off = true := by rw [hs1]; exact Bool.false_ne_true
  have hput : putE s1 1 [120] = 7 ∧ putS s1 1 [120] = failS s1 s1.keep := by
    have hb : badB s1 1 [120] = false := by rw [hs1]; rfl
    have h := stepE_fail hon hleft
    unfold putE putS
    rw [hb, h.1, h.2]; exact ⟨rfl, rfl⟩
  obtain ⟨s2, hs2⟩ : ∃ s, s = putS s1 1 [120] := ⟨_, rfl⟩
  have hk2 : DOk s2 1 := by rw [hs2]; exact hk1.put _ _
  have hoff : s2.off = true := by rw [hs2, hput.2]; rfl
  have hh : hasB s2 1 = true := by rw [hs2, hput.2]; unfold hasB failS; simp only; rw [failN_len, hs1]; rfl
  have hr : (readE s2 1).2 = 7 := by unfold readE; rw [hh, hoff]; rfl
  have hs3 := stepE_off hoff
  have hs4 : (syncS s2).off = true := by unfold syncS; rw [hs3.1, hs3.2]; exact hoff
  refine Fun.enter (l := [_, _]) Try.func6 rfl Try.ntmps6 rfl (L0 := [(0, _), (1, _)]) rfl ?_
  refine WC.seq ?_
  refine WC.region ?_
  refine WL.rd rfl rfl rfl (Rd.assign rfl rfl) ?_
  refine WL.nil ?_
  refine thenQ.normal ?_
  refine WC.seq ?_
  refine WC.seq ?_
  refine WC.region ?_
  refine WL.op rfl ?_
  refine OpW.call rfl rfl (by repeat (first | exact Evs.nil | apply Evs.cons rfl)) (by kernel_rfl) rfl rfl rfl ?_
  refine speaks_spec ?_
  refine WL.say 15 (u := .bool (decide True)) rfl (by simp) ?_
  refine WL.rd rfl rfl rfl ((by first | exact Rd.notd rfl rfl | exact Rd.not rfl rfl)) ?_
  refine WL.nil ?_
  refine thenQ.normal ?_
  first | refine WC.ite rfl (fun hc1 => ?_) (fun hc1 => ?_) | refine WC.cond rfl (fun hc1 => ?_) (fun hc1 => ?_)
  · skip
    exact absurd trivial hc1
  · skip
    refine WC.skip ?_
    refine thenQ.normal ?_
    refine WC.seq ?_
    refine WC.region ?_
    refine WL.rd rfl rfl rfl (Rd.assign rfl rfl) ?_
    refine WL.nil ?_
    refine thenQ.normal ?_
    refine WC.seq ?_
    refine WC.region ?_
    refine WL.rd rfl rfl rfl (Rd.move rfl rfl) ?_
    refine WL.rd rfl rfl rfl (Rd.move rfl rfl) ?_
    refine WL.op rfl ?_
    refine OpW.call rfl rfl (by repeat (first | exact Evs.nil | apply Evs.cons rfl)) (by kernel_rfl) rfl rfl rfl ?_
    refine read_nil ?_
    refine WL.rd rfl rfl rfl (Rd.move rfl rfl) ?_
    refine WL.rd rfl rfl rfl (Rd.extract rfl rfl rfl) ?_
    refine WL.rd rfl rfl rfl (Rd.extract rfl rfl rfl) ?_
    refine WL.rd rfl rfl rfl (Rd.assign rfl rfl) ?_
    refine WL.rd rfl rfl rfl (Rd.assign rfl rfl) ?_
    refine WL.nil ?_
    refine thenQ.normal ?_
    refine WC.seq ?_
    refine WC.region ?_
    refine WL.rd rfl rfl rfl (Rd.move rfl rfl) ?_
    refine WL.rd rfl rfl rfl (Rd.move rfl rfl) ?_
    refine WL.op rfl ?_
    refine OpW.call rfl rfl (by repeat (first | exact Evs.nil | apply Evs.cons rfl)) (by kernel_rfl) rfl rfl rfl ?_
    refine cut_nil ?_
    refine WL.nil ?_
    refine thenQ.normal ?_
    refine WC.seq ?_
    refine WC.region ?_
    refine WL.rd rfl rfl rfl (Rd.move rfl rfl) ?_
    refine WL.rd rfl rfl rfl (Rd.move rfl rfl) ?_
    refine WL.op rfl ?_
    refine OpW.buildSl (ps := [(0, _)]) rfl S23 (by repeat (first | exact Evs.nil | apply Evs.cons rfl)) rfl rfl (by repeat (first | exact CellsOf.nil | apply CellsOf.cons rfl)) (by kernel_rfl) rfl rfl rfl ?_; intro b28
    refine WL.op rfl ?_
    refine OpW.call rfl rfl (by repeat (first | exact Evs.nil | apply Evs.cons rfl)) (by kernel_rfl) rfl rfl rfl ?_
    refine crash_nil ?_
    refine WL.nil ?_
    refine thenQ.normal ?_
    refine WC.seq ?_
    refine WC.region ?_
    refine WL.rd rfl rfl rfl (Rd.move rfl rfl) ?_
    refine WL.op rfl ?_
    refine OpW.call rfl rfl (by repeat (first | exact Evs.nil | apply Evs.cons rfl)) (by kernel_rfl) rfl rfl rfl ?_
    refine on_nil ?_
    refine WL.nil ?_
    refine thenQ.normal ?_
    refine WC.seq ?_
    refine WC.region ?_
    refine WL.rd rfl rfl rfl (Rd.move rfl rfl) ?_
    refine WL.op rfl ?_
    refine OpW.call rfl rfl (by repeat (first | exact Evs.nil | apply Evs.cons rfl)) (by kernel_rfl) rfl rfl rfl ?_
    refine counts_nil ?_
    refine WL.rd rfl rfl rfl (Rd.move rfl rfl) ?_
    refine WL.rd rfl rfl rfl (Rd.extract rfl rfl rfl) ?_
    refine WL.rd rfl rfl rfl (Rd.extract rfl rfl rfl) ?_
    refine WL.rd rfl rfl rfl (Rd.assign rfl rfl) ?_
    refine WL.rd rfl rfl rfl (Rd.assign rfl rfl) ?_
    refine WL.nil ?_
    refine thenQ.normal ?_
    refine WC.seq ?_
    refine WC.seq ?_
    refine WC.region ?_
    refine WL.rd rfl rfl rfl (Rd.move rfl rfl) ?_
    refine WL.rd rfl rfl rfl (Rd.sneq rfl rfl rfl) ?_
    refine WL.rd rfl rfl rfl (Rd.move rfl rfl) ?_
    refine WL.case 39 rfl (fun hg39 => ?_) (fun hg39 => ?_)
    · skip
      exact absurd rfl hg39
    · skip
      refine WL.rd_yes rfl rfl rfl rfl rfl rfl (Rd.move rfl rfl) ?_
      refine WL.rd_yes rfl rfl rfl rfl rfl rfl (Rd.neq rfl rfl rfl) ?_
      refine WL.rd rfl rfl rfl (Rd.pick_f rfl rfl rfl) ?_
      refine WL.rd rfl rfl rfl (Rd.move rfl rfl) ?_
      refine WL.case 43 rfl (fun hg43 => ?_) (fun hg43 => ?_)
      · skip
        exact absurd rfl hg43
      · skip
        refine WL.rd_yes rfl rfl rfl rfl rfl rfl (Rd.move rfl rfl) ?_
        refine WL.rd_yes rfl rfl rfl rfl rfl rfl (Rd.move rfl rfl) ?_
        refine WL.rd_yes rfl rfl rfl rfl rfl rfl (Rd.move rfl rfl) ?_
        refine WL.op_yes rfl rfl rfl rfl ?_
        refine OpW.call rfl rfl (by repeat (first | exact Evs.nil | apply Evs.cons rfl)) (by kernel_rfl) rfl rfl rfl ?_
        refine write_nil ?_
        refine WL.rd_yes rfl rfl rfl rfl rfl rfl (Rd.neq rfl rfl rfl) ?_
        refine WL.rd rfl rfl rfl (Rd.pick_f rfl rfl rfl) ?_
        refine WL.rd rfl rfl rfl (Rd.move rfl rfl) ?_
        refine WL.case 50 rfl (fun hg50 => ?_) (fun hg50 => ?_)
        · skip
          exact absurd rfl hg50
        · skip
          refine WL.rd_yes rfl rfl rfl rfl rfl rfl (Rd.move rfl rfl) ?_
          refine WL.op_yes rfl rfl rfl rfl ?_
          refine OpW.call rfl rfl (by repeat (first | exact Evs.nil | apply Evs.cons rfl)) (by kernel_rfl) rfl rfl rfl ?_
          refine sync_nil ?_
          refine WL.rd_yes rfl rfl rfl rfl rfl rfl (Rd.neq rfl rfl rfl) ?_
          refine WL.rd rfl rfl rfl (Rd.pick_f rfl rfl rfl) ?_
          refine WL.rd rfl rfl rfl (Rd.move rfl rfl) ?_
          refine WL.case 55 rfl (fun hg55 => ?_) (fun hg55 => ?_)
          · skip
            exact absurd rfl hg55
          · skip
            refine WL.rd_yes rfl rfl rfl rfl rfl rfl (Rd.move rfl rfl) ?_
            refine WL.rd_yes rfl rfl rfl rfl rfl rfl (Rd.move rfl rfl) ?_
            refine WL.rd_yes rfl rfl rfl rfl rfl rfl (Rd.move rfl rfl) ?_
            refine WL.op_yes rfl rfl rfl rfl ?_
            refine OpW.call rfl rfl (by repeat (first | exact Evs.nil | apply Evs.cons rfl)) (by kernel_rfl) rfl rfl rfl ?_
            refine spoil_nil ?_
            refine WL.rd_yes rfl rfl rfl rfl rfl rfl (Rd.neq rfl rfl rfl) ?_
            refine WL.rd rfl rfl rfl (Rd.pick_f rfl rfl rfl) ?_
            refine WL.rd rfl rfl rfl (Rd.move rfl rfl) ?_
            refine WL.case 62 rfl (fun hg62 => ?_) (fun hg62 => ?_)
            · skip
              exact absurd rfl hg62
            · skip
              refine WL.rd_yes rfl rfl rfl rfl rfl rfl (Rd.move rfl rfl) ?_
              refine WL.op_yes rfl rfl rfl rfl ?_
              refine OpW.call rfl rfl (by repeat (first | exact Evs.nil | apply Evs.cons rfl)) (by kernel_rfl) rfl rfl rfl ?_
              refine off_nil ?_
              refine WL.say 64 (u := .bool (decide False)) rfl (by simp) ?_
              refine WL.rd rfl rfl rfl (Rd.pick_f rfl rfl rfl) ?_
              refine WL.rd rfl rfl rfl (Rd.move rfl rfl) ?_
              refine WL.case 66 rfl (fun hg66 => ?_) (fun hg66 => ?_)
              · skip
                exact hg66.elim
              · skip
                refine WL.rd_yes rfl rfl rfl rfl rfl rfl (Rd.move rfl rfl) ?_
                refine WL.op_yes rfl rfl rfl rfl ?_
                refine OpW.call rfl rfl (by repeat (first | exact Evs.nil | apply Evs.cons rfl)) (by kernel_rfl) rfl rfl rfl ?_
                refine size_nil ?_
                refine WL.rd_yes rfl rfl rfl rfl rfl rfl (Rd.neq rfl rfl rfl) ?_
                refine WL.rd rfl rfl rfl (Rd.pick_f rfl rfl rfl) ?_
                refine WL.rd rfl rfl rfl (Rd.move rfl rfl) ?_
                refine WL.case 71 rfl (fun hg71 => ?_) (fun hg71 => ?_)
                · skip
                  exact absurd rfl hg71
                · skip
                  refine WL.rd_yes rfl rfl rfl rfl rfl rfl (Rd.move rfl rfl) ?_
                  refine WL.rd_yes rfl rfl rfl rfl rfl rfl (Rd.move rfl rfl) ?_
                  refine WL.rd_yes rfl rfl rfl rfl rfl rfl (Rd.add rfl rfl rfl (by omega)) ?_
                  refine WL.rd_yes rfl rfl rfl rfl rfl rfl (Rd.neq rfl rfl rfl) ?_
                  refine WL.rd rfl rfl rfl (Rd.pick_f rfl rfl rfl) ?_
                  refine WL.nil ?_
                  refine thenQ.normal ?_
                  first | refine WC.ite rfl (fun hc2 => ?_) (fun hc2 => ?_) | refine WC.cond rfl (fun hc2 => ?_) (fun hc2 => ?_)
                  · skip
                    exact absurd hc2 (by decide)
                  · skip
                    refine WC.skip ?_
                    refine thenQ.normal ?_
                    refine WC.seq ?_
                    refine WC.region ?_
                    refine WL.op rfl ?_
                    refine OpW.call rfl rfl (by repeat (first | exact Evs.nil | apply Evs.cons rfl)) (by kernel_rfl) rfl rfl rfl ?_
                    refine new_spec (fun h => by exfalso; omega) (fun n hn _ _ d V hv => ?_); obtain rfl : n = 3 := by omega
                    refine WL.rd rfl rfl rfl (Rd.move rfl rfl) ?_
                    refine WL.rd rfl rfl rfl (Rd.extract rfl rfl rfl) ?_
                    refine WL.rd rfl rfl rfl (Rd.extract rfl rfl rfl) ?_
                    refine WL.rd rfl rfl rfl (Rd.assign rfl rfl) ?_
                    refine WL.rd rfl rfl rfl (Rd.assign rfl rfl) ?_
                    refine WL.nil ?_
                    refine thenQ.normal ?_
                    refine WC.seq ?_
                    refine WC.region ?_
                    refine WL.rd rfl rfl rfl (Rd.move rfl rfl) ?_
                    refine WL.rd rfl rfl rfl (Rd.move rfl rfl) ?_
                    refine WL.rd rfl rfl rfl (Rd.andm (m := 1) rfl rfl rfl rfl (by decide)) ?_
                    refine WL.say 83 (u := .int .i64 (c : Int)) rfl (by rw [hc]) ?_
                    refine WL.heap (fun w h => Sat.nilE (α := Int) (enc := one vi) h) ?_
                    refine WL.op rfl ?_
                    refine OpW.call rfl rfl (by repeat (first | exact Evs.nil | apply Evs.cons rfl)) (by kernel_rfl) rfl rfl rfl ?_
                    refine cut_spec (keep := []) hv List.mem_cons_self (by simp) ?_; intro V1 hv1; rw [← hs1] at hv1; rw [← hs1]
                    refine WL.nil ?_
                    refine thenQ.normal ?_
                    refine WC.seq ?_
                    refine WC.region ?_
                    refine WL.rd rfl rfl rfl (Rd.move rfl rfl) ?_
                    refine WL.op rfl ?_
                    refine OpW.call rfl rfl (by repeat (first | exact Evs.nil | apply Evs.cons rfl)) (by kernel_rfl) rfl rfl rfl ?_
                    refine write_spec hk1 (by omega) hv1 (by rw [hs1]; exact List.mem_cons_self) ?_; intro V2 hv2 hkv2; rw [← hs2] at hv2; rw [← hs2, hput.1]
                    refine WL.rd rfl rfl rfl (Rd.assign rfl rfl) ?_
                    refine WL.nil ?_
                    refine thenQ.normal ?_
                    refine WC.seq ?_
                    refine WC.region ?_
                    refine WL.rd rfl rfl rfl (Rd.move rfl rfl) ?_
                    refine WL.op rfl ?_
                    refine OpW.call rfl rfl (by repeat (first | exact Evs.nil | apply Evs.cons rfl)) (by kernel_rfl) rfl rfl rfl ?_
                    refine read_spec (s := s2) (hk2.mono (by omega)) ?_
                    refine WL.rd rfl rfl rfl (Rd.move rfl rfl) ?_
                    refine WL.rd rfl rfl rfl (Rd.extract rfl rfl rfl) ?_
                    refine WL.rd rfl rfl rfl (Rd.extract rfl rfl rfl) ?_
                    refine WL.say 91 (u := .int .i64 7) rfl (by rw [hr]; rfl) ?_
                    refine WL.rd rfl rfl rfl (Rd.assign rfl rfl) ?_
                    refine WL.rd rfl rfl rfl (Rd.assign rfl rfl) ?_
                    refine WL.nil ?_
                    refine thenQ.normal ?_
                    refine WC.seq ?_
                    refine WC.region ?_
                    refine WL.rd rfl rfl rfl (Rd.move rfl rfl) ?_
                    refine WL.rd rfl rfl rfl (Rd.eql rfl rfl rfl) ?_
                    refine WL.rd rfl rfl rfl (Rd.move rfl rfl) ?_
                    refine WL.case 94 rfl (fun hg94 => ?_) (fun hg94 => ?_)
                    · skip
                      refine WL.rd_yes rfl rfl rfl rfl rfl rfl (Rd.move rfl rfl) ?_
                      refine WL.rd_yes rfl rfl rfl rfl rfl rfl (Rd.eql rfl rfl rfl) ?_
                      refine WL.rd rfl rfl rfl (Rd.pick_t rfl rfl rfl) ?_
                      refine WL.rd rfl rfl rfl (Rd.move rfl rfl) ?_
                      refine WL.case 98 rfl (fun hg98 => ?_) (fun hg98 => ?_)
                      · skip
                        refine WL.rd_yes rfl rfl rfl rfl rfl rfl (Rd.move rfl rfl) ?_
                        refine WL.op_yes rfl rfl rfl rfl ?_
                        refine OpW.call rfl rfl (by repeat (first | exact Evs.nil | apply Evs.cons rfl)) (by kernel_rfl) rfl rfl rfl ?_
                        refine sync_spec (s := s2) hk2 (by omega) hv2 (by rw [hs2, put_keep, hkv2, hs1]; exact List.mem_cons_self) ?_; intro V3 hv3 hkv3; rw [hs3.1]
                        refine WL.rd_yes rfl rfl rfl rfl rfl rfl (Rd.eql rfl rfl rfl) ?_
                        refine WL.rd rfl rfl rfl (Rd.pick_t rfl rfl rfl) ?_
                        refine WL.rd rfl rfl rfl (Rd.move rfl rfl) ?_
                        refine WL.case 103 rfl (fun hg103 => ?_) (fun hg103 => ?_)
                        · skip
                          refine WL.rd_yes rfl rfl rfl rfl rfl rfl (Rd.move rfl rfl) ?_
                          refine WL.op_yes rfl rfl rfl rfl ?_
                          refine OpW.call rfl rfl (by repeat (first | exact Evs.nil | apply Evs.cons rfl)) (by kernel_rfl) rfl rfl rfl ?_
                          refine off_spec ?_
                          refine WL.say 105 (u := .bool true) rfl (by rw [hs4]) ?_
                          refine WL.rd rfl rfl rfl (Rd.pick_t rfl rfl rfl) ?_
                          refine WL.rd rfl rfl rfl (Rd.assign rfl rfl) ?_
                          refine WL.nil ?_
                          refine thenQ.normal ?_
                          -- ret_1
                          refine WC.heap (R' := R) (O' := O) (fun w h => OwnL.sat (by repeat (first | exact OwnL.refl | apply OwnL.take (by repeat (first | exact Take.head _ | apply Take.tail)) | apply OwnL.drop)) w (h.thin (SubL.mem (by repeat (first | exact SubL.refl | refine SubL.cons (by repeat (first | assumption | exact List.mem_cons_self | refine List.mem_cons_of_mem _ ?_)) ?_ | refine SubL.skip ?_))))) ?_
                          refine WC.ret (Ret.one Try.results6 rfl ?_)
                          exact hk
                        · skip
                          exact absurd rfl hg103
                      · skip
                        exact absurd rfl hg98
                    · skip
                      exact absurd rfl hg94
set_option maxHeartbeats 1000000 in
set_option maxRecDepth 20000 in
theorem same_spec {d w : Nat} {V V2 : DV} {s : DSt} (ok : DOk s 4294967296) (hk : POST (.bool true) R (dO d V s (rO w V2 s O))) : Fun Try.prog 23 #[dp d, dp w] R (dO d V s (rO w V2 s O)) POST := by
  have hll := ok.lasts
  have hsl := ok.since
  refine Fun.enter (l := [_, _]) Try.func23 rfl Try.ntmps23 rfl (L0 := [(0, _), (1, _)]) rfl ?_
  refine WC.seq ?_
  refine WC.region ?_
  refine WL.rd rfl rfl rfl (Rd.assign rfl rfl) ?_
  refine WL.nil ?_
  refine thenQ.normal ?_
  refine WC.seq ?_
  refine WC.region ?_
  refine WL.rd rfl rfl rfl (Rd.move rfl rfl) ?_
  refine WL.op rfl ?_
  refine OpW.call rfl rfl (by repeat (first | exact Evs.nil | apply Evs.cons rfl)) (by kernel_rfl) rfl rfl rfl ?_
  refine counts_spec ?_
  refine WL.rd rfl rfl rfl (Rd.move rfl rfl) ?_
  refine WL.rd rfl rfl rfl (Rd.extract rfl rfl rfl) ?_
  refine WL.rd rfl rfl rfl (Rd.extract rfl rfl rfl) ?_
  refine WL.rd rfl rfl rfl (Rd.assign rfl rfl) ?_
  refine WL.rd rfl rfl rfl (Rd.assign rfl rfl) ?_
  refine WL.nil ?_
  refine thenQ.normal ?_
  refine WC.seq ?_
  refine WC.seq ?_
  refine WC.drawnA 34 rfl mixed ?_
  refine WD.take 0 rfl (by kernel_rfl) (Held.mk' (by repeat (first | exact SubL.refl | refine SubL.cons (by repeat (first | assumption | exact List.mem_cons_self | refine List.mem_cons_of_mem _ ?_)) ?_ | refine SubL.skip ?_)) (by repeat (first | exact OwnL.refl | apply OwnL.take (by repeat (first | exact Take.head _ | apply Take.tail)) | apply OwnL.drop))) rfl rfl rfl (Rd.move rfl rfl) ?_
  refine WD.take 1 rfl (by kernel_rfl) (Held.mk' (by repeat (first | exact SubL.refl | refine SubL.cons (by repeat (first | assumption | exact List.mem_cons_self | refine List.mem_cons_of_mem _ ?_)) ?_ | refine SubL.skip ?_)) (by repeat (first | exact OwnL.refl | apply OwnL.take (by repeat (first | exact Take.head _ | apply Take.tail)) | apply OwnL.drop))) rfl rfl rfl (Rd.move rfl rfl) ?_
  refine WD.take 2 rfl (by kernel_rfl) (Held.mk' (by repeat (first | exact SubL.refl | refine SubL.cons (by repeat (first | assumption | exact List.mem_cons_self | refine List.mem_cons_of_mem _ ?_)) ?_ | refine SubL.skip ?_)) (by repeat (first | exact OwnL.refl | apply OwnL.take (by repeat (first | exact Take.head _ | apply Take.tail)) | apply OwnL.drop))) rfl rfl rfl (Rd.nilc rfl rfl) ?_
  refine WD.take 3 rfl (by kernel_rfl) (Held.mk' (by repeat (first | exact SubL.refl | refine SubL.cons (by repeat (first | assumption | exact List.mem_cons_self | refine List.mem_cons_of_mem _ ?_)) ?_ | refine SubL.skip ?_)) (by repeat (first | exact OwnL.refl | apply OwnL.take (by repeat (first | exact Take.head _ | apply Take.tail)) | apply OwnL.drop))) rfl rfl rfl ((by first | exact Rd.field rfl F50_5 rfl rfl | exact Rd.fieldE rfl F50_5 rfl (by repeat (first | assumption | exact List.mem_cons_self | refine List.mem_cons_of_mem _ ?_)) (by omega) | exact Rd.fieldA rfl F50_5 rfl (by repeat (first | assumption | exact List.mem_cons_self | refine List.mem_cons_of_mem _ ?_)) (by omega))) ?_
  refine WD.take 4 rfl (by kernel_rfl) (Held.mk' (by repeat (first | exact SubL.refl | refine SubL.cons (by repeat (first | assumption | exact List.mem_cons_self | refine List.mem_cons_of_mem _ ?_)) ?_ | refine SubL.skip ?_)) (by repeat (first | exact OwnL.refl | apply OwnL.take (by repeat (first | exact Take.head _ | apply Take.tail)) | apply OwnL.drop))) rfl rfl rfl (Rd.row1 (off := 5) (u := .int .i64 (s.done : Int)) rfl C3 rfl (by repeat (first | assumption | exact List.mem_cons_self | refine List.mem_cons_of_mem _ ?_)) rfl) ?_
  refine WD.take 5 rfl (by kernel_rfl) (Held.mk' (by repeat (first | exact SubL.refl | refine SubL.cons (by repeat (first | assumption | exact List.mem_cons_self | refine List.mem_cons_of_mem _ ?_)) ?_ | refine SubL.skip ?_)) (by repeat (first | exact OwnL.refl | apply OwnL.take (by repeat (first | exact Take.head _ | apply Take.tail)) | apply OwnL.drop))) rfl rfl rfl (Rd.neq rfl rfl rfl) ?_
  refine WD.take 6 rfl (by kernel_rfl) (Held.mk' (by repeat (first | exact SubL.refl | refine SubL.cons (by repeat (first | assumption | exact List.mem_cons_self | refine List.mem_cons_of_mem _ ?_)) ?_ | refine SubL.skip ?_)) (by repeat (first | exact OwnL.refl | apply OwnL.take (by repeat (first | exact Take.head _ | apply Take.tail)) | apply OwnL.drop))) rfl rfl rfl (Rd.move rfl rfl) ?_
  refine WD.case 23 rfl (fun hg23 => ?_) (fun hg23 => ?_)
  · skip
    exact absurd rfl hg23
  · skip
    refine WD.take_yes 7 rfl (by kernel_rfl) (Held.mk' (by repeat (first | exact SubL.refl | refine SubL.cons (by repeat (first | assumption | exact List.mem_cons_self | refine List.mem_cons_of_mem _ ?_)) ?_ | refine SubL.skip ?_)) (by repeat (first | exact OwnL.refl | apply OwnL.take (by repeat (first | exact Take.head _ | apply Take.tail)) | apply OwnL.drop))) rfl rfl rfl rfl rfl rfl (Rd.move rfl rfl) ?_
    refine WD.take_yes 8 rfl (by kernel_rfl) (Held.mk' (by repeat (first | exact SubL.refl | refine SubL.cons (by repeat (first | assumption | exact List.mem_cons_self | refine List.mem_cons_of_mem _ ?_)) ?_ | refine SubL.skip ?_)) (by repeat (first | exact OwnL.refl | apply OwnL.take (by repeat (first | exact Take.head _ | apply Take.tail)) | apply OwnL.drop))) rfl rfl rfl rfl rfl rfl (Rd.move rfl rfl) ?_
    refine WD.take_yes 9 rfl (by kernel_rfl) (Held.mk' (by repeat (first | exact SubL.refl | refine SubL.cons (by repeat (first | assumption | exact List.mem_cons_self | refine List.mem_cons_of_mem _ ?_)) ?_ | refine SubL.skip ?_)) (by repeat (first | exact OwnL.refl | apply OwnL.take (by repeat (first | exact Take.head _ | apply Take.tail)) | apply OwnL.drop))) rfl rfl rfl rfl rfl rfl (Rd.nilc rfl rfl) ?_
    refine WD.take_yes 10 rfl (by kernel_rfl) (Held.mk' (by repeat (first | exact SubL.refl | refine SubL.cons (by repeat (first | assumption | exact List.mem_cons_self | refine List.mem_cons_of_mem _ ?_)) ?_ | refine SubL.skip ?_)) (by repeat (first | exact OwnL.refl | apply OwnL.take (by repeat (first | exact Take.head _ | apply Take.tail)) | apply OwnL.drop))) rfl rfl rfl rfl rfl rfl ((by first | exact Rd.field rfl F50_1 rfl rfl | exact Rd.fieldE rfl F50_1 rfl (by repeat (first | assumption | exact List.mem_cons_self | refine List.mem_cons_of_mem _ ?_)) (by omega) | exact Rd.fieldA rfl F50_1 rfl (by repeat (first | assumption | exact List.mem_cons_self | refine List.mem_cons_of_mem _ ?_)) (by omega))) ?_
    refine WD.take_yes 11 rfl (by kernel_rfl) (Held.mk' (by repeat (first | exact SubL.refl | refine SubL.cons (by repeat (first | assumption | exact List.mem_cons_self | refine List.mem_cons_of_mem _ ?_)) ?_ | refine SubL.skip ?_)) (by repeat (first | exact OwnL.refl | apply OwnL.take (by repeat (first | exact Take.head _ | apply Take.tail)) | apply OwnL.drop))) rfl rfl rfl rfl rfl rfl (Rd.row1 (off := 1) (u := V2.sv) rfl C48 rfl (by repeat (first | assumption | exact List.mem_cons_self | refine List.mem_cons_of_mem _ ?_)) rfl) ?_
    refine WD.take_yes 12 rfl (by kernel_rfl) (Held.mk' (by repeat (first | exact SubL.refl | refine SubL.cons (by repeat (first | assumption | exact List.mem_cons_self | refine List.mem_cons_of_mem _ ?_)) ?_ | refine SubL.skip ?_)) (by repeat (first | exact OwnL.refl | apply OwnL.take (by repeat (first | exact Take.head _ | apply Take.tail)) | apply OwnL.drop))) rfl rfl rfl rfl rfl rfl (Rd.lenA (enc := encW) rfl rfl Try.underlying48 (xs := s.since) (e' := 74) (by repeat (first | assumption | exact List.mem_cons_self | refine List.mem_cons_of_mem _ ?_))) ?_
    refine WD.take_yes 13 rfl (by kernel_rfl) (Held.mk' (by repeat (first | exact SubL.refl | refine SubL.cons (by repeat (first | assumption | exact List.mem_cons_self | refine List.mem_cons_of_mem _ ?_)) ?_ | refine SubL.skip ?_)) (by repeat (first | exact OwnL.refl | apply OwnL.take (by repeat (first | exact Take.head _ | apply Take.tail)) | apply OwnL.drop))) rfl rfl rfl rfl rfl rfl (Rd.neq rfl rfl rfl) ?_
    refine WD.take 14 rfl (by kernel_rfl) (Held.mk' (by repeat (first | exact SubL.refl | refine SubL.cons (by repeat (first | assumption | exact List.mem_cons_self | refine List.mem_cons_of_mem _ ?_)) ?_ | refine SubL.skip ?_)) (by repeat (first | exact OwnL.refl | apply OwnL.take (by repeat (first | exact Take.head _ | apply Take.tail)) | apply OwnL.drop))) rfl rfl rfl (Rd.pick_f rfl rfl rfl) ?_
    refine WD.take 15 rfl (by kernel_rfl) (Held.mk' (by repeat (first | exact SubL.refl | refine SubL.cons (by repeat (first | assumption | exact List.mem_cons_self | refine List.mem_cons_of_mem _ ?_)) ?_ | refine SubL.skip ?_)) (by repeat (first | exact OwnL.refl | apply OwnL.take (by repeat (first | exact Take.head _ | apply Take.tail)) | apply OwnL.drop))) rfl rfl rfl (Rd.move rfl rfl) ?_
    refine WD.case 32 rfl (fun hg32 => ?_) (fun hg32 => ?_)
    · skip
      exact absurd rfl hg32
    · skip
      refine WD.take_yes 16 rfl (by kernel_rfl) (Held.mk' (by repeat (first | exact SubL.refl | refine SubL.cons (by repeat (first | assumption | exact List.mem_cons_self | refine List.mem_cons_of_mem _ ?_)) ?_ | refine SubL.skip ?_)) (by repeat (first | exact OwnL.refl | apply OwnL.take (by repeat (first | exact Take.head _ | apply Take.tail)) | apply OwnL.drop))) rfl rfl rfl rfl rfl rfl (Rd.move rfl rfl) ?_
      refine WD.take_yes 18 rfl (by kernel_rfl) (Held.mk' (by repeat (first | exact SubL.refl | refine SubL.cons (by repeat (first | assumption | exact List.mem_cons_self | refine List.mem_cons_of_mem _ ?_)) ?_ | refine SubL.skip ?_)) (by repeat (first | exact OwnL.refl | apply OwnL.take (by repeat (first | exact Take.head _ | apply Take.tail)) | apply OwnL.drop))) rfl rfl rfl rfl rfl rfl (Rd.move rfl rfl) ?_
      refine WD.take_yes 19 rfl (by kernel_rfl) (Held.mk' (by repeat (first | exact SubL.refl | refine SubL.cons (by repeat (first | assumption | exact List.mem_cons_self | refine List.mem_cons_of_mem _ ?_)) ?_ | refine SubL.skip ?_)) (by repeat (first | exact OwnL.refl | apply OwnL.take (by repeat (first | exact Take.head _ | apply Take.tail)) | apply OwnL.drop))) rfl rfl rfl rfl rfl rfl (Rd.nilc rfl rfl) ?_
      refine WD.take_yes 20 rfl (by kernel_rfl) (Held.mk' (by repeat (first | exact SubL.refl | refine SubL.cons (by repeat (first | assumption | exact List.mem_cons_self | refine List.mem_cons_of_mem _ ?_)) ?_ | refine SubL.skip ?_)) (by repeat (first | exact OwnL.refl | apply OwnL.take (by repeat (first | exact Take.head _ | apply Take.tail)) | apply OwnL.drop))) rfl rfl rfl rfl rfl rfl ((by first | exact Rd.field rfl F50_4 rfl rfl | exact Rd.fieldE rfl F50_4 rfl (by repeat (first | assumption | exact List.mem_cons_self | refine List.mem_cons_of_mem _ ?_)) (by omega) | exact Rd.fieldA rfl F50_4 rfl (by repeat (first | assumption | exact List.mem_cons_self | refine List.mem_cons_of_mem _ ?_)) (by omega))) ?_
      refine WD.take_yes 21 rfl (by kernel_rfl) (Held.mk' (by repeat (first | exact SubL.refl | refine SubL.cons (by repeat (first | assumption | exact List.mem_cons_self | refine List.mem_cons_of_mem _ ?_)) ?_ | refine SubL.skip ?_)) (by repeat (first | exact OwnL.refl | apply OwnL.take (by repeat (first | exact Take.head _ | apply Take.tail)) | apply OwnL.drop))) rfl rfl rfl rfl rfl rfl (Rd.row1 (off := 4) (u := .bool s.off) rfl C4 rfl (by repeat (first | assumption | exact List.mem_cons_self | refine List.mem_cons_of_mem _ ?_)) rfl) ?_
      refine WD.one_yes 17 rfl (by kernel_rfl) rfl rfl rfl rfl ?_
      refine OpW.call rfl rfl (by repeat (first | exact Evs.nil | apply Evs.cons rfl)) (by kernel_rfl) rfl rfl rfl ?_
      refine off_spec ?_
      refine ⟨(Held.mk' (by repeat (first | exact SubL.refl | refine SubL.cons (by repeat (first | assumption | exact List.mem_cons_self | refine List.mem_cons_of_mem _ ?_)) ?_ | refine SubL.skip ?_)) (by repeat (first | exact OwnL.refl | apply OwnL.take (by repeat (first | exact Take.head _ | apply Take.tail)) | apply OwnL.drop))), ?_⟩
      refine WD.take_yes 22 rfl (by kernel_rfl) (Held.mk' (by repeat (first | exact SubL.refl | refine SubL.cons (by repeat (first | assumption | exact List.mem_cons_self | refine List.mem_cons_of_mem _ ?_)) ?_ | refine SubL.skip ?_)) (by repeat (first | exact OwnL.refl | apply OwnL.take (by repeat (first | exact Take.head _ | apply Take.tail)) | apply OwnL.drop))) rfl rfl rfl rfl rfl rfl (Rd.bneq rfl rfl rfl Try.underlying4) ?_
      refine WD.say 39 (u := .bool (decide False)) rfl (by simp) ?_
      refine WD.take 23 rfl (by kernel_rfl) (Held.mk' (by repeat (first | exact SubL.refl | refine SubL.cons (by repeat (first | assumption | exact List.mem_cons_self | refine List.mem_cons_of_mem _ ?_)) ?_ | refine SubL.skip ?_)) (by repeat (first | exact OwnL.refl | apply OwnL.take (by repeat (first | exact Take.head _ | apply Take.tail)) | apply OwnL.drop))) rfl rfl rfl (Rd.pick_f rfl rfl rfl) ?_
      refine WD.take 24 rfl (by kernel_rfl) (Held.mk' (by repeat (first | exact SubL.refl | refine SubL.cons (by repeat (first | assumption | exact List.mem_cons_self | refine List.mem_cons_of_mem _ ?_)) ?_ | refine SubL.skip ?_)) (by repeat (first | exact OwnL.refl | apply OwnL.take (by repeat (first | exact Take.head _ | apply Take.tail)) | apply OwnL.drop))) rfl rfl rfl (Rd.move rfl rfl) ?_
      refine WD.case 41 rfl (fun hg41 => ?_) (fun hg41 => ?_)
      · skip
        exact hg41.elim
      · skip
        refine WD.take_yes 25 rfl (by kernel_rfl) (Held.mk' (by repeat (first | exact SubL.refl | refine SubL.cons (by repeat (first | assumption | exact List.mem_cons_self | refine List.mem_cons_of_mem _ ?_)) ?_ | refine SubL.skip ?_)) (by repeat (first | exact OwnL.refl | apply OwnL.take (by repeat (first | exact Take.head _ | apply Take.tail)) | apply OwnL.drop))) rfl rfl rfl rfl rfl rfl (Rd.move rfl rfl) ?_
        refine WD.take_yes 27 rfl (by kernel_rfl) (Held.mk' (by repeat (first | exact SubL.refl | refine SubL.cons (by repeat (first | assumption | exact List.mem_cons_self | refine List.mem_cons_of_mem _ ?_)) ?_ | refine SubL.skip ?_)) (by repeat (first | exact OwnL.refl | apply OwnL.take (by repeat (first | exact Take.head _ | apply Take.tail)) | apply OwnL.drop))) rfl rfl rfl rfl rfl rfl (Rd.move rfl rfl) ?_
        refine WD.take_yes 28 rfl (by kernel_rfl) (Held.mk' (by repeat (first | exact SubL.refl | refine SubL.cons (by repeat (first | assumption | exact List.mem_cons_self | refine List.mem_cons_of_mem _ ?_)) ?_ | refine SubL.skip ?_)) (by repeat (first | exact OwnL.refl | apply OwnL.take (by repeat (first | exact Take.head _ | apply Take.tail)) | apply OwnL.drop))) rfl rfl rfl rfl rfl rfl (Rd.nilc rfl rfl) ?_
        refine WD.take_yes 29 rfl (by kernel_rfl) (Held.mk' (by repeat (first | exact SubL.refl | refine SubL.cons (by repeat (first | assumption | exact List.mem_cons_self | refine List.mem_cons_of_mem _ ?_)) ?_ | refine SubL.skip ?_)) (by repeat (first | exact OwnL.refl | apply OwnL.take (by repeat (first | exact Take.head _ | apply Take.tail)) | apply OwnL.drop))) rfl rfl rfl rfl rfl rfl ((by first | exact Rd.field rfl F50_0 rfl rfl | exact Rd.fieldE rfl F50_0 rfl (by repeat (first | assumption | exact List.mem_cons_self | refine List.mem_cons_of_mem _ ?_)) (by omega) | exact Rd.fieldA rfl F50_0 rfl (by repeat (first | assumption | exact List.mem_cons_self | refine List.mem_cons_of_mem _ ?_)) (by omega))) ?_
        refine WD.take_yes 30 rfl (by kernel_rfl) (Held.mk' (by repeat (first | exact SubL.refl | refine SubL.cons (by repeat (first | assumption | exact List.mem_cons_self | refine List.mem_cons_of_mem _ ?_)) ?_ | refine SubL.skip ?_)) (by repeat (first | exact OwnL.refl | apply OwnL.take (by repeat (first | exact Take.head _ | apply Take.tail)) | apply OwnL.drop))) rfl rfl rfl rfl rfl rfl (Rd.row1 (off := 0) (u := V2.lv) rfl C34 rfl (by repeat (first | assumption | exact List.mem_cons_self | refine List.mem_cons_of_mem _ ?_)) rfl) ?_
        refine WD.take_yes 31 rfl (by kernel_rfl) (Held.mk' (by repeat (first | exact SubL.refl | refine SubL.cons (by repeat (first | assumption | exact List.mem_cons_self | refine List.mem_cons_of_mem _ ?_)) ?_ | refine SubL.skip ?_)) (by repeat (first | exact OwnL.refl | apply OwnL.take (by repeat (first | exact Take.head _ | apply Take.tail)) | apply OwnL.drop))) rfl rfl rfl rfl rfl rfl (Rd.lenA (enc := one vs) rfl rfl Try.underlying34 (xs := s.lasts) (e' := 9) (by repeat (first | assumption | exact List.mem_cons_self | refine List.mem_cons_of_mem _ ?_))) ?_
        refine WD.one_yes 26 rfl (by kernel_rfl) rfl rfl rfl rfl ?_
        refine OpW.call rfl rfl (by repeat (first | exact Evs.nil | apply Evs.cons rfl)) (by kernel_rfl) rfl rfl rfl ?_
        refine size_spec ?_
        refine ⟨(Held.mk' (by repeat (first | exact SubL.refl | refine SubL.cons (by repeat (first | assumption | exact List.mem_cons_self | refine List.mem_cons_of_mem _ ?_)) ?_ | refine SubL.skip ?_)) (by repeat (first | exact OwnL.refl | apply OwnL.take (by repeat (first | exact Take.head _ | apply Take.tail)) | apply OwnL.drop))), ?_⟩
        refine WD.take_yes 32 rfl (by kernel_rfl) (Held.mk' (by repeat (first | exact SubL.refl | refine SubL.cons (by repeat (first | assumption | exact List.mem_cons_self | refine List.mem_cons_of_mem _ ?_)) ?_ | refine SubL.skip ?_)) (by repeat (first | exact OwnL.refl | apply OwnL.take (by repeat (first | exact Take.head _ | apply Take.tail)) | apply OwnL.drop))) rfl rfl rfl rfl rfl rfl (Rd.neq rfl rfl rfl) ?_
        refine WD.take 33 rfl (by kernel_rfl) (Held.mk' (by repeat (first | exact SubL.refl | refine SubL.cons (by repeat (first | assumption | exact List.mem_cons_self | refine List.mem_cons_of_mem _ ?_)) ?_ | refine SubL.skip ?_)) (by repeat (first | exact OwnL.refl | apply OwnL.take (by repeat (first | exact Take.head _ | apply Take.tail)) | apply OwnL.drop))) rfl rfl rfl (Rd.pick_f rfl rfl rfl) ?_
        refine WD.done (by kernel_rfl) ?_
        refine thenQ.normal ?_
        first | refine WC.ite rfl (fun hc1 => ?_) (fun hc1 => ?_) | refine WC.cond rfl (fun hc1 => ?_) (fun hc1 => ?_)
        · skip
          exact absurd rfl hc1
        · skip
          refine WC.skip ?_
          refine thenQ.normal ?_
          refine WC.seq ?_
          refine WC.seq ?_
          refine WC.region ?_
          refine WL.rd rfl rfl rfl (Rd.assign rfl rfl) ?_
          refine WL.nil ?_
          refine thenQ.normal ?_
          refine WC.block ?_
          refine WC.pick [7, 0, 1] (by repeat (first | exact Pick.nil | apply Pick.cons rfl)) ?_
          refine WC.loop1o 1 (fun (j : Nat) => [(7, .int .i64 ((j : Int) - 1))]) (fun (j : Nat) => j ≤ s.lasts.length + 2) (fun (j : Nat) => s.lasts.length + 2 - j) (0) (by repeat (first | exact Split.zero | apply Split.succ)) ?hinv1 (by repeat (first | exact Sub.nil | refine Sub.cons rfl (by first | rfl | (congr 1; omega) | assumption) ?_)) (fun _ h => h) ?_
          case hinv1 =>
            exact Nat.zero_le _
          intro j
          rintro i1
          refine WC.seq ?_
          refine WC.seq ?_
          refine WC.region ?_
          refine WL.rd rfl rfl rfl (Rd.move rfl rfl) ?_
          refine WL.rd rfl rfl rfl (Rd.move rfl rfl) ?_
          refine WL.rd rfl rfl rfl (Rd.nilc rfl rfl) ?_
          refine WL.rd rfl rfl rfl ((by first | exact Rd.field rfl F50_0 rfl rfl | exact Rd.fieldE rfl F50_0 rfl (by repeat (first | assumption | exact List.mem_cons_self | refine List.mem_cons_of_mem _ ?_)) (by omega) | exact Rd.fieldA rfl F50_0 rfl (by repeat (first | assumption | exact List.mem_cons_self | refine List.mem_cons_of_mem _ ?_)) (by omega))) ?_
          refine WL.rd rfl rfl rfl (Rd.row1 (off := 0) (u := V2.lv) rfl C34 rfl (by repeat (first | assumption | exact List.mem_cons_self | refine List.mem_cons_of_mem _ ?_)) rfl) ?_
          refine WL.rd rfl rfl rfl (Rd.lenA (enc := one vs) rfl rfl Try.underlying34 (xs := s.lasts) (e' := 9) (by repeat (first | assumption | exact List.mem_cons_self | refine List.mem_cons_of_mem _ ?_))) ?_
          refine WL.rd rfl rfl rfl (Rd.leq rfl rfl rfl) ?_
          refine WL.nil ?_
          refine thenQ.normal ?_
          first | refine WC.ite rfl (fun hc2 => ?_) (fun hc2 => ?_) | refine WC.cond rfl (fun hc2 => ?_) (fun hc2 => ?_)
          · skip
            refine WC.skip ?_
            refine thenQ.normal ?_
            refine WC.seq ?_
            refine WC.block ?_
            refine WC.seq ?_
            refine WC.region ?_
            refine WL.rd rfl rfl rfl (Rd.move rfl rfl) ?_
            refine WL.rd rfl rfl rfl (Rd.move rfl rfl) ?_
            refine WL.op rfl ?_
            refine OpW.call rfl rfl (by repeat (first | exact Evs.nil | apply Evs.cons rfl)) (by kernel_rfl) rfl rfl rfl ?_
            refine read_spec ok ?_
            refine WL.rd rfl rfl rfl (Rd.move rfl rfl) ?_
            refine WL.rd rfl rfl rfl (Rd.extract rfl rfl rfl) ?_
            refine WL.rd rfl rfl rfl (Rd.extract rfl rfl rfl) ?_
            refine WL.rd rfl rfl rfl (Rd.assign rfl rfl) ?_
            refine WL.rd rfl rfl rfl (Rd.assign rfl rfl) ?_
            refine WL.nil ?_
            refine thenQ.normal ?_
            refine WC.seq ?_
            refine WC.region ?_
            refine WL.rd rfl rfl rfl (Rd.move rfl rfl) ?_
            refine WL.rd rfl rfl rfl (Rd.move rfl rfl) ?_
            refine WL.op rfl ?_
            refine OpW.call rfl rfl (by repeat (first | exact Evs.nil | apply Evs.cons rfl)) (by kernel_rfl) rfl rfl rfl ?_
            refine Fun.heap (R' := R) (O' := rO w V2 s (dO d V s O)) (fun w h => OwnL.sat (by repeat (first | exact OwnL.refl | apply OwnL.take (by repeat (first | exact Take.head _ | apply Take.tail)) | apply OwnL.drop)) w (h.thin (SubL.mem (by repeat (first | exact SubL.refl | refine SubL.cons (by repeat (first | assumption | exact List.mem_cons_self | refine List.mem_cons_of_mem _ ?_)) ?_ | refine SubL.skip ?_))))) ?_
            refine refRead_spec ok ?_
            refine WL.heap (R' := R) (O' := dO d V s (rO w V2 s O)) (fun w h => OwnL.sat (by repeat (first | exact OwnL.refl | apply OwnL.take (by repeat (first | exact Take.head _ | apply Take.tail)) | apply OwnL.drop)) w (h.thin (SubL.mem (by repeat (first | exact SubL.refl | refine SubL.cons (by repeat (first | assumption | exact List.mem_cons_self | refine List.mem_cons_of_mem _ ?_)) ?_ | refine SubL.skip ?_))))) ?_
            refine WL.rd rfl rfl rfl (Rd.move rfl rfl) ?_
            refine WL.rd rfl rfl rfl (Rd.extract rfl rfl rfl) ?_
            refine WL.rd rfl rfl rfl (Rd.extract rfl rfl rfl) ?_
            refine WL.rd rfl rfl rfl (Rd.assign rfl rfl) ?_
            refine WL.rd rfl rfl rfl (Rd.assign rfl rfl) ?_
            refine WL.nil ?_
            refine thenQ.normal ?_
            refine WC.seq ?_
            refine WC.region ?_
            refine WL.rd rfl rfl rfl (Rd.move rfl rfl) ?_
            refine WL.rd rfl rfl rfl (Rd.move rfl rfl) ?_
            refine WL.rd rfl rfl rfl (Rd.sneq rfl rfl rfl) ?_
            refine WL.rd rfl rfl rfl (Rd.move rfl rfl) ?_
            refine WL.case 75 rfl (fun hg75 => ?_) (fun hg75 => ?_)
            · skip
              exact absurd rfl hg75
            · skip
              refine WL.rd_yes rfl rfl rfl rfl rfl rfl (Rd.move rfl rfl) ?_
              refine WL.rd_yes rfl rfl rfl rfl rfl rfl (Rd.move rfl rfl) ?_
              refine WL.rd_yes rfl rfl rfl rfl rfl rfl (Rd.neq rfl rfl rfl) ?_
              refine WL.rd rfl rfl rfl (Rd.pick_f rfl rfl rfl) ?_
              refine WL.nil ?_
              refine thenQ.normal ?_
              first | refine WC.ite rfl (fun hc3 => ?_) (fun hc3 => ?_) | refine WC.cond rfl (fun hc3 => ?_) (fun hc3 => ?_)
              · skip
                exact absurd rfl hc3
              · skip
                refine WC.skip ?_
                refine blockQ.normal ?_
                refine thenQ.normal ?_
                refine WC.region ?_
                refine WL.rd rfl rfl rfl (Rd.move rfl rfl) ?_
                refine WL.rd rfl rfl rfl (Rd.add rfl rfl rfl (by omega)) ?_
                refine WL.rd rfl rfl rfl (Rd.assign rfl rfl) ?_
                refine WL.nil ?_
                -- next1_1
                exact loopQ1.mk (j + 1) (by omega) (by omega) (by repeat (first | exact Sub.nil | refine Sub.cons rfl (by first | rfl | (congr 1; omega) | assumption) ?_)) (fun w h => OwnL.sat (by repeat (first | exact OwnL.refl | apply OwnL.take (by repeat (first | exact Take.head _ | apply Take.tail)) | apply OwnL.drop)) w (h.thin (SubL.mem (by repeat (first | exact SubL.refl | refine SubL.cons (by repeat (first | assumption | exact List.mem_cons_self | refine List.mem_cons_of_mem _ ?_)) ?_ | refine SubL.skip ?_)))))
          · skip
            refine WC.exit ?_
            refine thenQ.exit ?_
            refine loopQ1.exit ?_
            refine blockQ.exit ?_
            refine thenQ.normal ?_
            refine WC.seq ?_
            refine WC.region ?_
            refine WL.rd rfl rfl rfl (Rd.assign rfl rfl) ?_
            refine WL.nil ?_
            refine thenQ.normal ?_
            -- ret_1
            refine WC.ret (Ret.one Try.results23 rfl ?_)
            exact hk
end
end Go.Proofs.Ytfflnlieddbabaa
