/-
  Part 7 of the texts that the law TopWhole is proved with: Tw8, Tw9. No premise.
-/
import Derived.Test.YtckokhdjeifomaaGreatDoorZ6
namespace Go.Proofs.YtckokhdjeifomaaGreatDoor
open Go Go.SL
/-- A store in memory, and its disk. -/
structure SG where
 s : Nat
 l : Nat
 mb : Nat
 sp : Nat → Bool
 m : GoMap Tx MI
 V : DV
 D : DSt
abbrev sgO (d : Nat) (q : SG) (O : List Own) : List Own := stO q.s d q.l q.mb 67 6 q.sp false q.m q.V q.D O
structure SI (k : Nat) (C : CF) (q : SG) : Prop where
 st : Stt 80 6 C (fsOf q.m) q.sp q.D
 dk : Dk q.D k
 v : VOk q.V q.D
theorem SI.env {R : List RO} {d k i : Nat} {C : CF} {q : SG} (h : SI k C q) (hP : PC i C) (hi : i < 16) (hm : k ≤ 4294700000) (ht : tabR ∈ R) (h1 : logR q.l d ((2 + 6 : Nat) : Int) 5 ∈ R) (h2 : allM q.m ∈ R) (h3 : SlE (SL.one vi) q.V.kv q.D.keep ∈ R) : Env1 R d q.l 67 80 6 k i C q.m q.sp q.V q.D :=
 ⟨h.st, hP, hi, rfl, by omega, by omega, by omega, ht, h1, h2, h.dk, hm, h.v, h3⟩
theorem Stt.lasts {n files : Nat} {C : CF} {F : FS} {sp : Nat → Bool} {D E : DSt} (h : Stt n files C F sp D) (h1 : E.lasts = D.lasts) (h2 : E.off = false) (h3 : E.since = []) : Stt n files C F sp E :=
 ⟨⟨by rw [h1]; exact h.mnt.inv, h2, h3, by rw [h1]; exact h.mnt.cl.len, by rw [h1]; exact h.mnt.cl.zero⟩, by rw [h1]; exact h.cont, h.cnt⟩
theorem Stt.cut {n files : Nat} {C : CF} {F : FS} {sp : Nat → Bool} {D : DSt} (h : Stt n files C F sp D) (j : Int) (keep : List Int) : Stt n files C F sp (cutS D j keep) := h.lasts rfl h.mnt.cl.off h.mnt.cl.since
theorem Stt.on {n files : Nat} {C : CF} {F : FS} {sp : Nat → Bool} {D : DSt} (h : Stt n files C F sp D) : Stt n files C F sp (onS D) := h.lasts rfl rfl h.mnt.cl.since
theorem Dk.cut {D : DSt} {k : Nat} (h : Dk D k) {j : Int} (hj : j ≤ 100) (keep : List Int) : Dk (cutS D j keep) k := ⟨h.ok.cut _ Z.W _, h.w.cut _ _⟩
theorem Dk.on {D : DSt} {k : Nat} (h : Dk D k) : Dk (onS D) k := ⟨h.ok.on, h.w.on⟩
theorem deed_err (i : Nat) (x : Deed) (C : CF) : (deedR i x C).1 ≠ 7 := by
 unfold deedR resC
 repeat' split
 all_goals (dsimp only; decide)
section
variable {R : List RO} {O : List Own} {POST : Value → List RO → List Own → Prop}
theorem deed_done {d k i : Nat} {C : CF} {q : SG} {x : Deed} (h : SI k C q) (hl : q.D.left = 0) (hP : PC i C) (hi : i < 16) (hm : k ≤ 4294700000) (ht : tabR ∈ R) (h1 : logR q.l d ((2 + 6 : Nat) : Int) 5 ∈ R) (h2 : allM q.m ∈ R) (h3 : SlE (SL.one vi) q.V.kv q.D.keep ∈ R)
 (hk : ∀ sp' m' V' D', V'.kv = q.V.kv → D'.keep = q.D.keep → SI (k + 2400) (deedR i x C).2 ⟨q.s, q.l, q.mb, sp', m', V', D'⟩ → D'.left = 0 → POST (.int .i64 ((deedR i x C).1 : Nat)) (allM m' :: R) (stO q.s d q.l q.mb 67 6 sp' false m' V' D' O)) :
 Fun Tryz.prog 9 #[dp q.s, deedV x, .int .i64 (i : Int)] R (sgO d q O) POST := by
 refine deed_spec (h.env hP hi hm ht h1 h2 h3) ?_
 intro V' D' m' sp' off e hd hdk hv' hkv'
 rcases hd.res with ⟨r1, r2, r3, r4⟩ | r
 · subst r1 r2
   exact hk sp' m' V' D' hkv' hd.keep ⟨r3, hdk, hv'⟩ (r4 hl)
 · exact absurd hl r.1
set_option maxRecDepth 20000 in
set_option maxHeartbeats 16000000 in
theorem whole_spec {L : List Deed} {cuts keep : List Int} {lv cv kv : Value} (ht : tabR ∈ R) (hr : rootsR ∈ R) (hL : SlE encD lv L ∈ R) (hcu : SlE (SL.one vi) cv cuts ∈ R) (hke : SlE (SL.one vi) kv keep ∈ R) (hkl : keep.length ≤ 17592186043904) (hk : POST (.bool true) R O) :
 Fun Tryz.prog 3 #[lv, cv, kv] R O POST := by
 obtain ⟨E, hE⟩ : ∃ E, E = (makeS (newS 80) (fmtL 80 6)).1 := ⟨_, rfl⟩
 obtain ⟨on0, k0, hm0, hl0, kE, hkE⟩ := newM (n := 80) (files := 6) hE Z.W Z.W Z.W
 have hop := openM hm0 Z.W Z.W
 have hS0 : Stt 80 6 (fun _ => none) (fun _ => none) noneF E := ⟨hm0, fun _ => rfl, by decide⟩
 refine Fun.turn ?_
 refine Fun.enter (l := [_, _, _]) Tryz.func3 rfl Tryz.ntmps3 rfl (L0 := [(0, _), (1, _), (2, _)]) rfl ?_
 refine WC.seq ?_
 refine WC.region ?_
 refine WL.rd rfl rfl rfl (Rd.assign rfl rfl) ?_
 refine WL.nil ?_
 refine thenQ.normal ?_
 refine WC.seq ?_
 refine WC.seq ?_
 refine WC.region ?_
 refine WL.op rfl ?_
 refine OpW.call rfl rfl Z.E Z.K rfl rfl rfl ?_
 refine stores_spec ht hr ?_
 refine WL.say 20 (u := .bool (decide True)) rfl (by simp) ?_
 refine WL.rd rfl rfl rfl ((by exact Rd.notd rfl rfl)) ?_
 refine WL.nil ?_
 refine thenQ.normal ?_
 refine WC.ite rfl (fun hc1 => ?_) (fun hc1 => ?_)
 ·
  exact absurd trivial hc1
 ·
  refine WC.skip ?_
  refine thenQ.normal ?_
  refine WC.seq ?_
  refine WC.region ?_
  refine WL.op rfl ?_
  refine OpW.call rfl rfl Z.E Z.K rfl rfl rfl ?_
  refine new_spec (fun h => by exfalso; omega) (fun n hn _ _ d V hv => ?_); obtain rfl : n = 80 := by omega
  refine WL.rd rfl rfl rfl (Rd.move rfl rfl) ?_
  refine WL.rd rfl rfl rfl (Rd.extract rfl rfl rfl) ?_
  refine WL.rd rfl rfl rfl (Rd.extract rfl rfl rfl) ?_
  refine WL.rd rfl rfl rfl (Rd.assign rfl rfl) ?_
  refine WL.rd rfl rfl rfl (Rd.assign rfl rfl) ?_
  refine WL.nil ?_
  refine thenQ.normal ?_
  refine WC.seq ?_
  refine WC.region ?_
  refine WL.op rfl ?_
  refine OpW.call rfl rfl Z.E Z.K rfl rfl rfl ?_
  refine new_spec (fun h => by exfalso; omega) (fun n hn _ _ c Vc hvc => ?_); obtain rfl : n = 80 := by omega
  refine WL.rd rfl rfl rfl (Rd.move rfl rfl) ?_
  refine WL.rd rfl rfl rfl (Rd.extract rfl rfl rfl) ?_
  refine WL.rd rfl rfl rfl (Rd.extract rfl rfl rfl) ?_
  refine WL.rd rfl rfl rfl (Rd.assign rfl rfl) ?_
  refine WL.rd rfl rfl rfl (Rd.assign rfl rfl) ?_
  refine WL.nil ?_
  refine thenQ.normal ?_
  refine WC.seq ?_
  refine WC.seq ?_
  refine WC.region ?_
  refine WL.rd rfl rfl rfl (Rd.move rfl rfl) ?_
  refine WL.op rfl ?_
  refine OpW.call rfl rfl Z.E Z.K rfl rfl rfl ?_
  refine Fun.heap (O' := dO d V (newS 80) (dO c Vc (newS 80) O)) Z.F ?_
  refine format_spec (n := 80) (files := 6) on0 Z.W Z.W k0 Z.W hv Z.M ?_; rw [← hE]; intro V1 hv1 hkv1
  refine WL.rd rfl rfl rfl (Rd.neq rfl rfl rfl) ?_
  refine WL.rd rfl rfl rfl (Rd.move rfl rfl) ?_
  refine WL.case 33 rfl (fun hg33 => ?_) (fun hg33 => ?_)
  ·
   exact absurd rfl hg33
  ·
   refine WL.rd_yes rfl rfl rfl rfl rfl rfl (Rd.move rfl rfl) ?_
   refine WL.op_yes rfl rfl rfl rfl ?_
   refine OpW.call rfl rfl Z.E Z.K rfl rfl rfl ?_
   refine Fun.heap (O' := dO c Vc (newS 80) (dO d V1 E O)) Z.F ?_
   refine format_spec (n := 80) (files := 6) on0 Z.W Z.W k0 Z.W hvc Z.M ?_; rw [← hE]; intro Vc1 hvc1 hkvc1
   refine WL.rd_yes rfl rfl rfl rfl rfl rfl (Rd.neq rfl rfl rfl) ?_
   refine WL.rd rfl rfl rfl (Rd.pick_f rfl rfl rfl) ?_
   refine WL.nil ?_
   refine thenQ.normal ?_
   refine WC.ite rfl (fun hc2 => ?_) (fun hc2 => ?_)
   ·
    exact absurd rfl hc2
   ·
    refine WC.skip ?_
    refine thenQ.normal ?_
    refine WC.seq ?_
    refine WC.region ?_
    refine WL.rd rfl rfl rfl (Rd.move rfl rfl) ?_
    refine WL.op rfl ?_
    refine OpW.call rfl rfl Z.E Z.K rfl rfl rfl ?_
    refine Fun.heap (O' := dO d V1 E (dO c Vc1 E O)) Z.F ?_
    refine mount_spec (n := 80) (files := 6) (F := fun _ => none) (sp := noneF) Z.M (readM hm0 Z.W) hm0.cl.len (by rw [hop]) (by rw [hop]; exact hm0) Z.W Z.W kE Z.W hv1 (by rw [hkE, hkv1]; exact Z.M) ?_
    rw [hop]
    intro V2 s l mb m hfm hv2 hkv2
    refine WL.rd rfl rfl rfl (Rd.move rfl rfl) ?_
    refine WL.rd rfl rfl rfl (Rd.extract rfl rfl rfl) ?_
    refine WL.rd rfl rfl rfl (Rd.extract rfl rfl rfl) ?_
    refine WL.rd rfl rfl rfl (Rd.assign rfl rfl) ?_
    refine WL.rd rfl rfl rfl (Rd.assign rfl rfl) ?_
    refine WL.nil ?_
    refine thenQ.normal ?_
    refine WC.seq ?_
    refine WC.region ?_
    refine WL.rd rfl rfl rfl (Rd.move rfl rfl) ?_
    refine WL.op rfl ?_
    refine OpW.call rfl rfl Z.E Z.K rfl rfl rfl ?_
    refine Fun.heap (O' := dO c Vc1 E (stO s d l mb 67 6 noneF false m V2 E O)) Z.F ?_
    refine mount_spec (n := 80) (files := 6) (F := fun _ => none) (sp := noneF) Z.M (readM hm0 Z.W) hm0.cl.len (by rw [hop]) (by rw [hop]; exact hm0) Z.W Z.W kE Z.W hvc1 (by rw [hkE, hkvc1]; exact Z.M) ?_
    rw [hop]
    intro V3 t l3 mb3 m3 hfm3 hv3 hkv3
    refine WL.rd rfl rfl rfl (Rd.move rfl rfl) ?_
    refine WL.rd rfl rfl rfl (Rd.extract rfl rfl rfl) ?_
    refine WL.rd rfl rfl rfl (Rd.extract rfl rfl rfl) ?_
    refine WL.rd rfl rfl rfl (Rd.assign rfl rfl) ?_
    refine WL.rd rfl rfl rfl (Rd.assign rfl rfl) ?_
    refine WL.nil ?_
    refine thenQ.normal ?_
    refine WC.seq ?_
    refine WC.seq ?_
    refine WC.region ?_
    refine WL.rd rfl rfl rfl (Rd.move rfl rfl) ?_
    refine WL.rd rfl rfl rfl (Rd.neq rfl rfl rfl) ?_
    refine WL.rd rfl rfl rfl (Rd.move rfl rfl) ?_
    refine WL.case 50 rfl (fun hg50 => ?_) (fun hg50 => ?_)
    ·
     exact absurd rfl hg50
    ·
     refine WL.rd_yes rfl rfl rfl rfl rfl rfl (Rd.move rfl rfl) ?_
     refine WL.rd_yes rfl rfl rfl rfl rfl rfl (Rd.neq rfl rfl rfl) ?_
     refine WL.rd rfl rfl rfl (Rd.pick_f rfl rfl rfl) ?_
     refine WL.nil ?_
     refine thenQ.normal ?_
     refine WC.ite rfl (fun hc3 => ?_) (fun hc3 => ?_)
     ·
      exact absurd rfl hc3
     ·
      refine WC.skip ?_
      refine thenQ.normal ?_
      refine WC.seq ?_
      refine WC.seq ?_
      have hI1 : SI 20 (fun _ => none) ⟨s, l, mb, noneF, m, V2, E⟩ := ⟨by show Stt 80 6 _ (fsOf m) _ _; rw [hfm]; exact hS0, kE.mono Z.W, hv2⟩
      have hI2 : SI 20 (fun _ => none) ⟨t, l3, mb3, noneF, m3, V3, E⟩ := ⟨by show Stt 80 6 _ (fsOf m3) _ _; rw [hfm3]; exact hS0, kE.mono Z.W, hv3⟩
      refine WC.region ?_
      refine WL.rd rfl rfl rfl (Rd.assign rfl rfl) ?_
      refine WL.nil ?_
      refine thenQ.normal ?_
      refine WC.block ?_
      refine WC.pick [11, 12, 13, 15, 0, 1, 2, 7] Z.P ?_
      refine WC.loop4r 4 (fun (i : Nat) (C : CF) (q : SG) (r : SG) => [(11, dp q.s), (12, .int .i64 0), (13, dp r.s), (15, .int .i64 (i : Int))]) (fun (i : Nat) (C : CF) (q : SG) (r : SG) => allM q.m :: logR q.l d ((2 + 6 : Nat) : Int) 5 :: SlE (SL.one vi) q.V.kv q.D.keep :: allM r.m :: logR r.l c ((2 + 6 : Nat) : Int) 5 :: SlE (SL.one vi) r.V.kv r.D.keep :: R) (fun (i : Nat) (C : CF) (q : SG) (r : SG) => sgO d q (sgO c r O)) (fun (i : Nat) (C : CF) (q : SG) (r : SG) => i ≤ 16 ∧ i ≤ L.length ∧ PC i C ∧ SI (6000 * i + 20) C q ∧ SI (6000 * i + 20) C r ∧ q.D.left = 0 ∧ r.D.left = 0) (fun (i : Nat) (C : CF) (q : SG) (r : SG) => 16 - i) (0) ((fun _ => none)) (⟨s, l, mb, noneF, m, V2, E⟩) (⟨t, l3, mb3, noneF, m3, V3, E⟩) Z.L ?hinv1 (by repeat (first | exact Sub.nil | refine Sub.cons rfl (by rfl) ?_)) (fun w h => by show Sat (allM m :: logR l d ((2 + 6 : Nat) : Int) 5 :: SlE (SL.one vi) V2.kv E.keep :: allM m3 :: logR l3 c ((2 + 6 : Nat) : Int) 5 :: SlE (SL.one vi) V3.kv E.keep :: R) _ w; rw [hkE, hkv2, hkv1, hkv3, hkvc1]; exact Z.Fw h) ?_
      case hinv1 =>
       exact ⟨Nat.zero_le _, Nat.zero_le _, PC.zero, hI1, hI2, hl0, hl0⟩
      intro i C q r
      rintro ⟨i1, i2, iP, iQ, iR, iql, irl⟩
      refine WC.seq ?_
      refine WC.seq ?_
      refine WC.region ?_
      refine WL.rd rfl rfl rfl (Rd.move rfl rfl) ?_
      refine WL.rd rfl rfl rfl (Rd.move rfl rfl) ?_
      refine WL.rd rfl rfl rfl ((by exact Rd.lenE rfl rfl Tryz.underlying22 Z.M)) ?_
      refine WL.rd rfl rfl rfl (Rd.lss rfl rfl rfl) ?_
      refine WL.rd rfl rfl rfl (Rd.move rfl rfl) ?_
      refine WL.case 58 rfl (fun hg58 => ?_) (fun hg58 => ?_)
      ·
       refine WL.rd_yes rfl rfl rfl rfl rfl rfl (Rd.move rfl rfl) ?_
       refine WL.rd_yes rfl rfl rfl rfl rfl rfl (Rd.lss rfl rfl rfl) ?_
       refine WL.rd rfl rfl rfl (Rd.pick_t rfl rfl rfl) ?_
       refine WL.nil ?_
       refine thenQ.normal ?_
       refine WC.ite rfl (fun hc4 => ?_) (fun hc4 => ?_)
       ·
        have hi16 : i < 16 := by omega
        have hil : i < L.length := by omega
        obtain ⟨x, hx⟩ : ∃ x, x = L[i]! := ⟨_, rfl⟩
        have hPn : PC (i + 1) (deedR i x C).2 := res_pc iP (nmB_ok _) (nmB_ok _) (by rw [data_len]; exact land_le .i64 _ 2047)
        obtain ⟨k, hkk⟩ : ∃ k, k = 6000 * i + 20 := ⟨_, rfl⟩
        rw [← hkk] at iQ iR
        have hkb : k ≤ 100000 := by omega
        refine WC.skip ?_
        refine thenQ.normal ?_
        refine WC.seq ?_
        refine WC.block ?_
        refine WC.seq ?_
        refine WC.region ?_
        refine WL.rd rfl rfl rfl (Rd.move rfl rfl) ?_
        refine WL.op rfl ?_
        refine OpW.call rfl rfl Z.E Z.K rfl rfl rfl ?_
        refine Fun.heap (O' := sgO c r (sgO d q O)) Z.F ?_
        refine shows_spec (i := i) (n := 80) iR.st iP Z.W Z.W iR.dk Z.W Z.M ?_
        refine WL.rd rfl rfl rfl (Rd.assign rfl rfl) ?_
        refine WL.nil ?_
        refine thenQ.normal ?_
        refine WC.seq ?_
        refine WC.region ?_
        refine WL.rd rfl rfl rfl (Rd.move rfl rfl) ?_
        refine WL.rd rfl rfl rfl (Rd.move rfl rfl) ?_
        refine WL.rd rfl rfl rfl (Rd.move rfl rfl) ?_
        refine WL.rd rfl rfl rfl (Rd.idx (k := i) rfl S22 rfl rfl rfl (enc := encD) (xs := L) Z.M hil) ?_
        refine WL.rd rfl rfl rfl (Rd.getS (k := i) (a := x) (cs := encD x) (enc := encD) (xs := L) rfl G36 rfl Z.M (fun _ => rfl) (by rw [hx]; exact get!_of_lt hil) Z.N) ?_
        refine WL.rd rfl rfl rfl (Rd.move rfl rfl) ?_
        refine WL.op rfl ?_
        refine OpW.call rfl rfl Z.E Z.K rfl rfl rfl ?_
        refine Fun.heap (O' := sgO c r (sgO d q O)) Z.F ?_
        refine deed_done (x := x) iR irl iP hi16 Z.W Z.M Z.M Z.M Z.M ?_
        intro sp4 m4 V4 D4 hkv4 hke4 hI4 hl4
        have e4 : SlE (SL.one vi) V4.kv D4.keep = SlE (SL.one vi) r.V.kv r.D.keep := by rw [hkv4, hke4]
        refine WL.rd rfl rfl rfl (Rd.assign rfl rfl) ?_
        refine WL.nil ?_
        refine thenQ.normal ?_
        refine WC.cut (α := DV × DSt) (fun _ => [(0, lv), (1, cv), (2, kv), (7, dp d), (11, dp q.s), (12, .int .i64 0), (13, dp r.s), (15, .int .i64 (i : Int)), (16, vs (showC C)), (17, .int .i64 ((deedR i x C).1 : Nat))]) (fun y => SlE (SL.one vi) y.1.kv y.2.keep :: allM q.m :: logR q.l d ((2 + 6 : Nat) : Int) 5 :: allM m4 :: logR r.l c ((2 + 6 : Nat) : Int) 5 :: SlE (SL.one vi) V4.kv D4.keep :: R) (fun y => stO q.s d q.l q.mb 67 6 q.sp false q.m y.1 y.2 (stO r.s c r.l r.mb 67 6 sp4 false m4 V4 D4 O)) (fun y => SI k C ⟨q.s, q.l, q.mb, q.sp, q.m, y.1, y.2⟩) ?_ ?_
        ·
         refine WC.seq ?_
         refine WC.region ?_
         refine WL.rd rfl rfl rfl (Rd.move rfl rfl) ?_
         refine WL.rd rfl rfl rfl (Rd.move rfl rfl) ?_
         refine WL.rd rfl rfl rfl ((by exact Rd.lenE rfl rfl Tryz.underlying23 Z.M)) ?_
         refine WL.rd rfl rfl rfl (Rd.lss rfl rfl rfl) ?_
         refine WL.nil ?_
         refine thenQ.normal ?_
         refine WC.ite rfl (fun hc5 => ?_) (fun hc5 => ?_)
         ·
          refine WC.drawn (stRow q.s d q.l q.mb 67 6 q.sp false :: mapC vs miV q.mb q.m :: stO r.s c r.l r.mb 67 6 sp4 false m4 V4 D4 O) 11 rfl mixed ?_
          refine WD.take 0 rfl Z.K Z.H rfl rfl rfl (Rd.move rfl rfl) ?_
          refine WD.take 1 rfl Z.K Z.H rfl rfl rfl (Rd.move rfl rfl) ?_
          refine WD.take 2 rfl Z.K Z.H rfl rfl rfl (Rd.move rfl rfl) ?_
          refine WD.take 3 rfl Z.K Z.H rfl rfl rfl (Rd.idx1 (enc := SL.one vi) (xs := cuts) (k := i) rfl S23 rfl rfl rfl Z.M Z.W) ?_
          refine WD.take 4 rfl Z.K Z.H rfl rfl rfl (Rd.get (k := i) (g := vi) (a := cuts[i]!) (xs := cuts) rfl C3 rfl Z.M (get!_of_lt Z.W)) ?_
          refine WD.take 5 rfl Z.K Z.H rfl rfl rfl (Rd.andm (m := 15) rfl rfl rfl rfl (by decide)) ?_
          have hl15 := land_le .i64 cuts[i]! 15
          refine WD.take 6 rfl Z.K Z.H rfl rfl rfl (Rd.add rfl rfl rfl Z.W) ?_
          refine WD.take 8 rfl Z.K Z.H rfl rfl rfl (Rd.move rfl rfl) ?_
          refine WD.one 7 rfl Z.K rfl ?_
          refine OpW.buildSl (ps := []) rfl S23 Z.E rfl rfl Z.C Z.K rfl rfl rfl ?_; intro b84
          refine ⟨Z.H, ?_⟩
          refine WD.heap (fun w h => Sat.accRow (α := Int) (b := b84) (enc := SL.one vi) (xs := []) Z.T rfl rfl (fun _ => rfl) (Nat.zero_le _) h) ?_
          refine WD.one 9 rfl Z.K rfl ?_
          refine OpW.appendE (enc := SL.one vi) (ys := keep) (xs := []) rfl S23 Tryz.underlying23 rfl rfl Z.T Z.M (by intro x; rfl) (by intro x; rfl) (by exact ⟨by simp only [maxLen, List.length_append, List.length_nil, List.length_cons, List.length_drop, List.length_take, List.length_map]; omega, by (simp only [List.length_append, List.length_nil, List.length_cons, List.length_drop, List.length_take, List.length_map]; omega)⟩) rfl rfl ?_; intro v86 hv86
          refine ⟨Z.H, ?_⟩
          rw [List.nil_append]
          refine WD.heap (fun w h => Sat.shareA (xs := keep) Z.T h) ?_
          refine WD.one 10 rfl Z.K rfl ?_
          refine OpW.call rfl rfl Z.E Z.K rfl rfl rfl ?_
          refine Fun.heap (O' := sgO d q (stO r.s c r.l r.mb 67 6 sp4 false m4 V4 D4 O)) Z.F ?_
          refine cut_spec (keep := keep) iQ.v Z.M hkl ?_; intro V5 hv5
          refine ⟨Z.H, ?_⟩
          refine WD.done Z.K ?_
          exact ⟨(V5, cutS q.D (1 + ((land .i64 cuts[i]! 15 : Nat) : Int)) keep), ⟨iQ.st.cut _ _, iQ.dk.cut Z.W _, hv5⟩, (by repeat (first | exact Sub.nil | refine Sub.cons rfl (by rfl) ?_)), fun w h => by simp only [e4]; exact Z.Fw h⟩
         ·
          refine WC.skip ?_
          exact ⟨(q.V, q.D), iQ, (by repeat (first | exact Sub.nil | refine Sub.cons rfl (by rfl) ?_)), fun w h => by simp only [e4]; exact Z.Fw h⟩
        ·
         rintro ⟨V5, D5⟩ iQ5
         dsimp only at iQ5 ⊢
         refine WC.seq ?_
         refine WC.region ?_
         refine WL.rd rfl rfl rfl (Rd.move rfl rfl) ?_
         refine WL.rd rfl rfl rfl (Rd.move rfl rfl) ?_
         refine WL.rd rfl rfl rfl (Rd.move rfl rfl) ?_
         refine WL.rd rfl rfl rfl (Rd.idx (k := i) rfl S22 rfl rfl rfl (enc := encD) (xs := L) Z.M hil) ?_
         refine WL.rd rfl rfl rfl (Rd.getS (k := i) (a := x) (cs := encD x) (enc := encD) (xs := L) rfl G36 rfl Z.M (fun _ => rfl) (by rw [hx]; exact get!_of_lt hil) Z.N) ?_
         refine WL.rd rfl rfl rfl (Rd.move rfl rfl) ?_
         refine WL.op rfl ?_
         refine OpW.call rfl rfl Z.E Z.K rfl rfl rfl ?_
         refine deed_spec (x := x) (iQ5.env (d := d) iP hi16 Z.W Z.M Z.M Z.M Z.M) ?_
         intro V6 D6 m6 sp6 off6 e6 hd hdk6 hv6 hkv6
         have e6k : SlE (SL.one vi) V6.kv D6.keep = SlE (SL.one vi) V5.kv D5.keep := by rw [hkv6, hd.keep]
         refine WL.rd rfl rfl rfl (Rd.assign rfl rfl) ?_
         refine WL.nil ?_
         refine thenQ.normal ?_
         refine WC.cut (α := SG) (fun y => [(0, lv), (1, cv), (2, kv), (7, dp d), (11, dp y.s), (12, .int .i64 0), (13, dp r.s), (15, .int .i64 (i : Int)), (17, .int .i64 ((deedR i x C).1 : Nat)), (18, .int .i64 ((deedR i x C).1 : Nat))]) (fun y => SlE (SL.one vi) y.V.kv y.D.keep :: allM y.m :: logR y.l d ((2 + 6 : Nat) : Int) 5 :: allM m4 :: logR r.l c ((2 + 6 : Nat) : Int) 5 :: SlE (SL.one vi) V4.kv D4.keep :: R) (fun y => sgO d y (stO r.s c r.l r.mb 67 6 sp4 false m4 V4 D4 O)) (fun y => SI (k + 5500) (deedR i x C).2 y) ?_ ?_
         ·
          refine WC.seq ?_
          refine WC.region ?_
          refine WL.rd rfl rfl rfl (Rd.move rfl rfl) ?_
          refine WL.rd rfl rfl rfl (Rd.eql rfl rfl rfl) ?_
          refine WL.nil ?_
          refine thenQ.normal ?_
          refine WC.ite rfl (fun hc6 => ?_) (fun hc6 => ?_)
          ·
           obtain ⟨r0, r1, rlen, rrd, ropen, rleft, F2, sp2, rst⟩ := hd.res.resolve_left (fun h => deed_err i x C (by have := h.1; omega))
           obtain ⟨Cx, hCx, hSx⟩ : ∃ Cx, (Cx = C ∨ Cx = (deedR i x C).2) ∧ Stt 80 6 Cx F2 sp2 (openE (onS D6) ((2 + 6 : Nat) : Int) 5).1 := by
            rcases rst with h | h
            · exact ⟨_, .inl rfl, h⟩
            · exact ⟨_, .inr rfl, h⟩
           have hPx : PC (i + 1) Cx := by
            rcases hCx with h | h
            · rw [h]; exact iP.mono Z.W
            · rw [h]; exact hPn
           obtain ⟨g1, _, g3⟩ := open_dk hdk6.on ((2 + 6 : Nat) : Int) 5
           obtain ⟨G, hG⟩ : ∃ G, G = (openE (onS D6) ((2 + 6 : Nat) : Int) 5).1 := ⟨_, rfl⟩
           rw [← hG] at hSx rleft g1 g3
           have g3' : G.keep = D6.keep := g3
           refine WC.seq ?_
           refine WC.region ?_
           refine WL.rd rfl rfl rfl (Rd.move rfl rfl) ?_
           refine WL.op rfl ?_
           refine OpW.call rfl rfl Z.E Z.K rfl rfl rfl ?_
           refine on_spec hv6 ?_; intro hv7
           refine WL.nil ?_
           refine thenQ.normal ?_
           refine WC.seq ?_
           refine WC.seq ?_
           refine WC.region ?_
           refine WL.rd rfl rfl rfl (Rd.move rfl rfl) ?_
           refine WL.op rfl ?_
           refine OpW.call rfl rfl Z.E Z.K rfl rfl rfl ?_
           refine Fun.heap (R' := SlE (SL.one vi) V6.kv D6.keep :: allM m4 :: logR r.l c ((2 + 6 : Nat) : Int) 5 :: SlE (SL.one vi) V4.kv D4.keep :: R) (O' := dO d ⟨V6.lv, V6.sv, V6.kv, none⟩ (onS D6) (stO r.s c r.l r.mb 67 6 sp4 false m4 V4 D4 O)) (fun w h => by rw [e6k]; exact Z.Fw h) ?_
           refine mount_spec (n := 80) (files := 6) (F := F2) (sp := sp2) Z.M rrd rlen ropen (by rw [← hG]; exact hSx.mnt) Z.W Z.W hdk6.on Z.W hv7 (show SlE (SL.one vi) V6.kv D6.keep ∈ _ from List.mem_cons_self) ?_
           rw [← hG]
           intro V8 s8 l8 mb8 m8 hfm8 hv8 hkv8
           have hkv8' : V8.kv = V6.kv := hkv8
           have e8k : SlE (SL.one vi) V8.kv G.keep = SlE (SL.one vi) V6.kv D6.keep := by rw [hkv8', g3']
           have hI8 : SI (k + 2700) Cx ⟨s8, l8, mb8, sp2, m8, V8, G⟩ := ⟨by show Stt 80 6 _ (fsOf m8) _ _; rw [hfm8]; exact hSx, g1.mono Z.W, hv8⟩
           refine WL.rd rfl rfl rfl (Rd.move rfl rfl) ?_
           refine WL.rd rfl rfl rfl (Rd.extract rfl rfl rfl) ?_
           refine WL.rd rfl rfl rfl (Rd.extract rfl rfl rfl) ?_
           refine WL.rd rfl rfl rfl (Rd.assign rfl rfl) ?_
           refine WL.rd rfl rfl rfl (Rd.assign rfl rfl) ?_
           refine WL.nil ?_
           refine thenQ.normal ?_
           refine WC.seq ?_
           refine WC.region ?_
           refine WL.rd rfl rfl rfl (Rd.move rfl rfl) ?_
           refine WL.rd rfl rfl rfl (Rd.neq rfl rfl rfl) ?_
           refine WL.nil ?_
           refine thenQ.normal ?_
           refine WC.ite rfl (fun hc7 => ?_) (fun hc7 => ?_)
           ·
            exact absurd rfl hc7
           ·
            refine WC.skip ?_
            refine thenQ.normal ?_
            refine WC.seq ?_
            refine WC.region ?_
            refine WL.rd rfl rfl rfl (Rd.move rfl rfl) ?_
            refine WL.op rfl ?_
            refine OpW.call rfl rfl Z.E Z.K rfl rfl rfl ?_
            refine shows_spec (i := i + 1) (n := 80) hI8.st hPx Z.W Z.W hI8.dk Z.W Z.M ?_
            refine WL.rd rfl rfl rfl (Rd.assign rfl rfl) ?_
            refine WL.nil ?_
            refine thenQ.normal ?_
            refine WC.seq ?_
            refine WC.cut (α := Unit) (fun _ => [(0, lv), (1, cv), (2, kv), (7, dp d), (11, dp s8), (12, .int .i64 0), (13, dp r.s), (15, .int .i64 (i : Int)), (16, vs (showC C)), (17, .int .i64 ((deedR i x C).1 : Nat)), (19, vs (showC Cx)), (116, .bool (decide False))]) (fun _ => allM m8 :: logR l8 d ((2 + 6 : Nat) : Int) 5 :: SlE (SL.one vi) V8.kv G.keep :: allM m4 :: logR r.l c ((2 + 6 : Nat) : Int) 5 :: SlE (SL.one vi) V4.kv D4.keep :: R) (fun _ => stO s8 d l8 mb8 67 6 sp2 false m8 V8 G (stO r.s c r.l r.mb 67 6 sp4 false m4 V4 D4 O)) (fun _ => True) ?_ ?_
            ·
             refine WC.region ?_
             refine WL.rd rfl rfl rfl (Rd.move rfl rfl) ?_
             refine WL.rd rfl rfl rfl (Rd.move rfl rfl) ?_
             refine WL.rd rfl rfl rfl (Rd.sneq rfl rfl rfl) ?_
             refine WL.rd rfl rfl rfl (Rd.move rfl rfl) ?_
             refine WL.case 111 rfl (fun hg111 => ?_) (fun hg111 => ?_)
             ·
              refine WL.rd_yes rfl rfl rfl rfl rfl rfl (Rd.move rfl rfl) ?_
              refine WL.rd_yes rfl rfl rfl rfl rfl rfl (Rd.move rfl rfl) ?_
              refine WL.op_yes rfl rfl rfl rfl ?_
              refine OpW.call rfl rfl Z.E Z.K rfl rfl rfl ?_
              refine Fun.heap (O' := stO r.s c r.l r.mb 67 6 sp4 false m4 V4 D4 (stO s8 d l8 mb8 67 6 sp2 false m8 V8 G O)) Z.F ?_
              refine shows_spec (i := i + 1) (n := 80) hI4.st hPn Z.W Z.W hI4.dk Z.W Z.M ?_
              refine WL.rd_yes rfl rfl rfl rfl rfl rfl (Rd.sneq rfl rfl rfl) ?_
              refine WL.say 115 (u := .bool (decide False)) rfl (by rw [decide_eq_false]; rfl; rcases hCx with h | h; exact absurd (by rw [h]) hg111; rw [h]; simp) ?_
              refine WL.rd rfl rfl rfl (Rd.pick_t rfl rfl rfl) ?_
              refine WL.nil ?_
              exact ⟨(), trivial, (by repeat (first | exact Sub.nil | refine Sub.cons rfl (by rfl) ?_)), fun w h => by simp only [e8k]; exact Z.Fw h⟩
             ·
              refine WL.no rfl rfl rfl rfl rfl rfl ?_
              refine WL.no rfl rfl rfl rfl rfl rfl ?_
              refine WL.no rfl rfl rfl rfl rfl rfl ?_
              refine WL.no rfl rfl rfl rfl rfl rfl ?_
              refine WL.rd rfl rfl rfl (Rd.pick_f rfl rfl rfl) ?_
              refine WL.nil ?_
              exact ⟨(), trivial, (by repeat (first | exact Sub.nil | refine Sub.cons rfl (by rfl) ?_)), fun w h => by simp only [e8k]; exact Z.Fw h⟩
            ·
             rintro ⟨⟩ -
             refine WC.ite rfl (fun hc8 => ?_) (fun hc8 => ?_)
             ·
              exact hc8.elim
             ·
              refine WC.skip ?_
              refine thenQ.normal ?_
              refine WC.seq ?_
              refine WC.region ?_
              refine WL.rd rfl rfl rfl (Rd.move rfl rfl) ?_
              refine WL.rd rfl rfl rfl (Rd.move rfl rfl) ?_
              refine WL.rd rfl rfl rfl (Rd.seql rfl rfl rfl) ?_
              refine WL.nil ?_
              refine thenQ.normal ?_
              refine WC.ite rfl (fun hc9 => ?_) (fun hc9 => ?_)
              ·
               have hCC : Cx = C := by
                rcases hCx with h | h
                · exact h
                · rw [h] at hc9; exact h.trans (res_same (nmB_ok _) (nmB_ok _) hc9)
               subst hCC
               refine WC.region ?_
               refine WL.rd rfl rfl rfl (Rd.move rfl rfl) ?_
               refine WL.rd rfl rfl rfl (Rd.move rfl rfl) ?_
               refine WL.rd rfl rfl rfl (Rd.move rfl rfl) ?_
               refine WL.rd rfl rfl rfl (Rd.idx (k := i) rfl S22 rfl rfl rfl (enc := encD) (xs := L) Z.M hil) ?_
               refine WL.rd rfl rfl rfl (Rd.getS (k := i) (a := x) (cs := encD x) (enc := encD) (xs := L) rfl G36 rfl Z.M (fun _ => rfl) (by rw [hx]; exact get!_of_lt hil) Z.N) ?_
               refine WL.rd rfl rfl rfl (Rd.move rfl rfl) ?_
               refine WL.op rfl ?_
               refine OpW.call rfl rfl Z.E Z.K rfl rfl rfl ?_
               refine deed_done (d := d) (x := x) hI8 rleft iP hi16 Z.W Z.M Z.M Z.M Z.M ?_
               intro sp9 m9 V9 D9 hkv9 hke9 hI9 hl9
               have hkv9' : V9.kv = V8.kv := hkv9
               have hke9' : D9.keep = G.keep := hke9
               have e9k : SlE (SL.one vi) V9.kv D9.keep = SlE (SL.one vi) V8.kv G.keep := by rw [hkv9', hke9']
               refine WL.rd rfl rfl rfl (Rd.assign rfl rfl) ?_
               refine WL.nil ?_
               exact ⟨⟨s8, l8, mb8, sp9, m9, V9, D9⟩, ⟨hI9.st, hI9.dk.mono Z.W, hI9.v⟩, (by repeat (first | exact Sub.nil | refine Sub.cons rfl (by rfl) ?_)), fun w h => by simp only [e9k]; exact Z.Fw h⟩
              ·
               have hCC : Cx = (deedR i x C).2 := hCx.resolve_left (fun h => hc9 (by rw [h]))
               subst hCC
               refine WC.region ?_
               refine WL.rd rfl rfl rfl (Rd.move rfl rfl) ?_
               refine WL.rd rfl rfl rfl (Rd.assign rfl rfl) ?_
               refine WL.nil ?_
               exact ⟨⟨s8, l8, mb8, sp2, m8, V8, G⟩, ⟨hI8.st, hI8.dk.mono Z.W, hI8.v⟩, (by repeat (first | exact Sub.nil | refine Sub.cons rfl (by rfl) ?_)), Z.F⟩
          ·
           obtain ⟨r1, r2, r3, r4⟩ := hd.res.resolve_right (fun h => hc6 (by rw [h.2.1]; rfl))
           subst r1 r2
           refine WC.skip ?_
           exact ⟨⟨q.s, q.l, q.mb, sp6, m6, V6, D6⟩, ⟨r3, hdk6.mono Z.W, hv6⟩, (by repeat (first | exact Sub.nil | refine Sub.cons rfl (by rfl) ?_)), fun w h => by simp only [e6k]; exact Z.Fw h⟩
         ·
          rintro ⟨s9, l9, mb9, sp9, m9, V9, D9⟩ hI9
          dsimp only at hI9 ⊢
          refine WC.seq ?_
          refine WC.region ?_
          refine WL.rd rfl rfl rfl (Rd.move rfl rfl) ?_
          refine WL.op rfl ?_
          refine OpW.call rfl rfl Z.E Z.K rfl rfl rfl ?_
          refine on_spec hI9.v ?_; intro hv10
          refine WL.nil ?_
          refine thenQ.normal ?_
          refine WC.seq ?_
          refine WC.region ?_
          refine WL.rd rfl rfl rfl (Rd.move rfl rfl) ?_
          refine WL.rd rfl rfl rfl (Rd.move rfl rfl) ?_
          refine WL.rd rfl rfl rfl (Rd.neq rfl rfl rfl) ?_
          refine WL.rd rfl rfl rfl (Rd.move rfl rfl) ?_
          refine WL.case 133 rfl (fun hg133 => ?_) (fun hg133 => ?_)
          ·
           exact absurd rfl hg133
          ·
           refine WL.rd_yes rfl rfl rfl rfl rfl rfl (Rd.move rfl rfl) ?_
           refine WL.op_yes rfl rfl rfl rfl ?_
           refine OpW.call rfl rfl Z.E Z.K rfl rfl rfl ?_
           refine shows_spec (i := i + 1) (n := 80) hI9.st.on hPn Z.W Z.W hI9.dk.on Z.W Z.M ?_
           refine WL.rd_yes rfl rfl rfl rfl rfl rfl (Rd.move rfl rfl) ?_
           refine WL.op_yes rfl rfl rfl rfl ?_
           refine OpW.call rfl rfl Z.E Z.K rfl rfl rfl ?_
           refine Fun.heap (O' := stO r.s c r.l r.mb 67 6 sp4 false m4 V4 D4 (stO s9 d l9 mb9 67 6 sp9 false m9 ⟨V9.lv, V9.sv, V9.kv, none⟩ (onS D9) O)) Z.F ?_
           refine shows_spec (i := i + 1) (n := 80) hI4.st hPn Z.W Z.W hI4.dk Z.W Z.M ?_
           refine WL.rd_yes rfl rfl rfl rfl rfl rfl (Rd.sneq rfl rfl rfl) ?_
           refine WL.rd rfl rfl rfl (Rd.pick_f rfl rfl rfl) ?_
           refine WL.nil ?_
           refine thenQ.normal ?_
           refine WC.ite rfl (fun hc10 => ?_) (fun hc10 => ?_)
           ·
            exact absurd rfl hc10
           ·
            refine WC.skip ?_
            refine blockQ.normal ?_
            refine thenQ.normal ?_
            refine WC.region ?_
            refine WL.rd rfl rfl rfl (Rd.move rfl rfl) ?_
            refine WL.rd rfl rfl rfl (Rd.add rfl rfl rfl Z.W) ?_
            refine WL.rd rfl rfl rfl (Rd.assign rfl rfl) ?_
            refine WL.nil ?_
            exact loopQ4.mk (i + 1) (deedR i x C).2 ⟨s9, l9, mb9, sp9, m9, ⟨V9.lv, V9.sv, V9.kv, none⟩, onS D9⟩ ⟨r.s, r.l, r.mb, sp4, m4, V4, D4⟩ ⟨by omega, by omega, hPn, ⟨hI9.st.on, hI9.dk.on.mono Z.W, hv10⟩, ⟨hI4.st, hI4.dk.mono Z.W, hI4.v⟩, rfl, hl4⟩ Z.W (by repeat (first | exact Sub.nil | refine Sub.cons rfl (by rfl) ?_)) Z.F
       ·
        refine WC.exit ?_
        refine thenQ.exit ?_
        refine loopQ4.exit ?_
        refine blockQ.exit ?_
        refine thenQ.normal ?_
        refine WC.seq ?_
        refine WC.region ?_
        refine WL.rd rfl rfl rfl (Rd.assign rfl rfl) ?_
        refine WL.nil ?_
        refine thenQ.normal ?_
        refine WC.ret (Ret.one Tryz.results3 rfl ?_)
        exact ⟨_, _, hk, Z.F⟩
      ·
       refine WL.no rfl rfl rfl rfl rfl rfl ?_
       refine WL.no rfl rfl rfl rfl rfl rfl ?_
       refine WL.rd rfl rfl rfl (Rd.pick_f rfl rfl rfl) ?_
       refine WL.nil ?_
       refine thenQ.normal ?_
       refine WC.no rfl ?_
       refine WC.exit ?_
       refine thenQ.exit ?_
       refine loopQ4.exit ?_
       refine blockQ.exit ?_
       refine thenQ.normal ?_
       refine WC.seq ?_
       refine WC.region ?_
       refine WL.rd rfl rfl rfl (Rd.assign rfl rfl) ?_
       refine WL.nil ?_
       refine thenQ.normal ?_
       refine WC.ret (Ret.one Tryz.results3 rfl ?_)
       exact ⟨_, _, hk, Z.F⟩
end
end Go.Proofs.YtckokhdjeifomaaGreatDoor
namespace Go.Proofs.YtckokhdjeifomaaGreatDoor
open Go Go.SL
theorem elsD : ElsW Tryz.prog 36 encD (fun _ _ => True) := by
 have h := elsW_struct (m := 4) Tryz.underlying36 Z.K (elsSeq_cons (elsW_int Tryz.underlying3) rfl Z.K (elsSeq_cons (elsW_int Tryz.underlying3) rfl Z.K (elsSeq_cons (elsW_int Tryz.underlying3) rfl Z.K (elsSeq_cons (elsW_int Tryz.underlying3) rfl Z.K elsSeq_nil))))
 exact elsW_map (fun x => (x.1, x.2.1, x.2.2.1, x.2.2.2.1)) h (fun _ => rfl) (fun _ _ _ => trivial)
end Go.Proofs.YtckokhdjeifomaaGreatDoor
