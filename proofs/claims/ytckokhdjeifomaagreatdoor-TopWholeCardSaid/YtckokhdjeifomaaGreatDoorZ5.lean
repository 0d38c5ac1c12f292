/-
  Part 5 of the texts that the law TopWhole is proved with: Fw5, Rno, Iter, Fw6, Fw7, Fw8, Fw9, Fwa, Fwb, Fwc, Fwd. No premise.
-/
import Derived.Test.YtckokhdjeifomaaGreatDoorZ4
import Derived.Shelf.SlGeneric
import Derived.Shelf.SlIter.Nil
import Derived.Shelf.SortM.Plain
import Derived.Shelf.SortM.SortNone
import Derived.Ground.GgzProg
import Derived.Ground.SlgmProg
import Derived.Test.YtckokhdjeifomaaGreatDoorProg
namespace Go.Proofs.YtckokhdjeifomaaGreatDoor
open Go Go.SL
theorem take_min (e : Tx) : e.take (min e.length 512) = e.take 512 := by
 rcases Nat.le_total e.length 512 with h | h
 · rw [Nat.min_eq_left h, List.take_length, List.take_of_length_le h]
 · rw [Nat.min_eq_right h]
theorem drop_min (e : Tx) : e.drop (min e.length 512) = e.drop 512 := by
 rcases Nat.le_total e.length 512 with h | h
 · rw [Nat.min_eq_left h, List.drop_length, List.drop_eq_nil_of_le h]
 · rw [Nat.min_eq_right h]
theorem chunks_at {l : List Nat} {j : Nat} (h : j < l.length) (e : Tx) : chunksE (l.drop j) e = ((l[j]! : Int), e.take 512) :: chunksE (l.drop (j + 1)) (e.drop 512) := by
 rw [List.drop_eq_getElem_cons h, chunksE, getElem!_pos l j h]
section
variable {R : List RO} {O : List Own} {POST : Value → List RO → List Own → Prop} {s d l mb un files k : Nat} {sp : Nat → Bool} {m : GoMap Tx MI} {V : DV} {D : DSt}
set_option maxRecDepth 20000 in
set_option maxHeartbeats 2000000 in
theorem lay_spec {L : List Nat} {lv : Value} {data : Tx} {cs : List Value} (hl : SlE (SL.one vi) lv (secI L) ∈ R) (hcs : cs[0]? = some (dp d)) (dk : Dk D k) (hm : k + L.length ≤ 4294967280) (hv : VOk V D) (hkeep : SlE (SL.one vi) V.kv D.keep ∈ R) (hdl : data.length ≤ 20000000)
 (hk : ∀ V', VOk V' (layS D L data).1 → V'.kv = V.kv → POST (.int .i64 ((layS D L data).2 : Nat)) R (dO d V' (layS D L data).1 (rowC s 65 cs :: O))) : Fun Tryz.prog 70 #[dp s, lv, vs data] R (dO d V D (rowC s 65 cs :: O)) POST := by
 refine Fun.turn ?_
 refine Fun.len hl fun hxl => ?_
 rw [secI_len] at hxl
 obtain ⟨dk1, _, hkp1⟩ := run_dk (x := chunksE L data) dk
 rw [chunks_len] at dk1
 refine Fun.enter (l := [_, _, _]) Tryz.func70 rfl Tryz.ntmps70 rfl (L0 := [(0, _), (1, _), (2, _)]) rfl ?_
 refine WC.seq ?_
 refine WC.region ?_
 refine WL.rd rfl rfl rfl (Rd.assign rfl rfl) ?_
 refine WL.nil ?_
 refine thenQ.normal ?_
 refine WC.seq ?_
 refine WC.seq ?_
 refine WC.region ?_
 refine WL.rd rfl rfl rfl (Rd.move rfl rfl) ?_
 refine WL.rd rfl rfl rfl (Rd.lenE (enc := SL.one vi) (xs := secI L) rfl rfl Tryz.underlying23 hl) ?_
 refine WL.say 12 (u := .int .i64 (L.length : Int)) rfl (by rw [secI_len]) ?_
 refine WL.rd rfl rfl rfl (Rd.move rfl rfl) ?_
 refine WL.nil ?_
 refine thenQ.normal ?_
 refine WC.block ?_
 refine WC.pick [13, 2, 0, 1, 11, 12] Z.P ?_
 refine WC.loop4 2 (fun (j : Nat) (t : DSt) (U : DV) (e : Tx) => [(13, .int .i64 (j : Int)), (2, vs e)]) (fun (j : Nat) (t : DSt) (U : DV) (e : Tx) => dO d U t (rowC s 65 cs :: O)) (fun (j : Nat) (t : DSt) (U : DV) (e : Tx) => j ≤ L.length ∧ Dk t (k + j) ∧ VOk U t ∧ U.kv = V.kv ∧ t.keep = D.keep ∧ e.length ≤ data.length ∧ runP D (chunksE L data) = runP t (chunksE (L.drop j) e)) (fun (j : Nat) (t : DSt) (U : DV) (e : Tx) => L.length - j) (0) (D) (V) (data) Z.L ?hinv1 (by repeat (first | exact Sub.nil | refine Sub.cons rfl (by rfl) ?_)) (fun _ h => h) ?_
 case hinv1 =>
  exact ⟨Nat.zero_le _, dk, hv, rfl, rfl, Nat.le_refl _, rfl⟩
 intro j t U e
 rintro ⟨j1, dkt, hu, hkv, hkp, hel, hrun⟩
 refine WC.seq ?_
 refine WC.region ?_
 refine WL.rd rfl rfl rfl (Rd.lss rfl rfl rfl) ?_
 refine WL.nil ?_
 refine thenQ.normal ?_
 refine WC.seq ?_
 refine WC.ite rfl (fun hc1 => ?_) (fun hc1 => ?_)
 ·
  have hat := hrun
  rw [chunks_at Z.W, runP] at hat
  dsimp only at hat
  refine WC.skip ?_
  refine thenQ.normal ?_
  refine WC.seq ?_
  refine WC.block ?_
  refine WC.seq ?_
  refine WC.region ?_
  refine WL.rd rfl rfl rfl (Rd.idx1 (enc := SL.one vi) (xs := secI L) (k := j) rfl S23 rfl rfl rfl hl (by rw [secI_len]; omega)) ?_
  refine WL.rd rfl rfl rfl (Rd.get (g := vi) (xs := secI L) (k := j) (a := ((L[j]! : Nat) : Int)) rfl C3 rfl hl (secI_get Z.W)) ?_
  refine WL.rd rfl rfl rfl (Rd.assign rfl rfl) ?_
  refine WL.nil ?_
  refine thenQ.normal ?_
  refine WC.seq ?_
  refine WC.region ?_
  refine WL.rd rfl rfl rfl (Rd.move rfl rfl) ?_
  refine WL.rd rfl rfl rfl (Rd.slen (ts := #[]) (ty := 0) rfl rfl Tryz.underlying9) ?_
  refine WL.rd rfl rfl rfl (Rd.min2 rfl rfl rfl) ?_
  refine WL.say 19 (u := .int .i64 ((min e.length 512 : Nat) : Int)) rfl (by split <;> (congr 1; omega)) ?_
  refine WL.rd rfl rfl rfl (Rd.assign rfl rfl) ?_
  refine WL.nil ?_
  refine thenQ.normal ?_
  refine WC.seq ?_
  refine WC.seq ?_
  refine WC.tail 8 mixed Z.K ?_
  refine WS.rd rfl rfl rfl (Rd.move rfl rfl) ?_
  refine WS.rd rfl rfl rfl (Rd.nilc rfl rfl) ?_
  refine WS.rd rfl rfl rfl ((by exact Rd.field rfl F65_0 rfl rfl)) ?_
  refine WS.rd rfl rfl rfl (Rd.row1 (off := 0) (u := dp d) rfl C25 rfl Z.M hcs) ?_
  refine WS.rd rfl rfl rfl (Rd.move rfl rfl) ?_
  refine WS.rd rfl rfl rfl (Rd.move rfl rfl) ?_
  refine WS.rd rfl rfl rfl (Rd.move rfl rfl) ?_
  refine WS.rd rfl rfl rfl (Rd.scut_h (hi := min e.length 512) rfl Tryz.underlying9 rfl rfl rfl Z.W) ?_
  refine WS.say 27 (u := vs (e.take 512)) rfl (by rw [take_min]) ?_
  refine WS.switch ?_
  refine WL.op rfl ?_
  refine OpW.call rfl rfl Z.E Z.K rfl rfl rfl ?_
  refine write_spec dkt.ok Z.W hu (by rw [hkv, hkp]; exact hkeep) ?_; intro U1 hu1 hku1
  refine WL.rd rfl rfl rfl (Rd.assign rfl rfl) ?_
  refine WL.nil ?_
  refine thenQ.normal ?_
  refine WC.seq ?_
  refine WC.region ?_
  refine WL.rd rfl rfl rfl (Rd.move rfl rfl) ?_
  refine WL.rd rfl rfl rfl (Rd.neq rfl rfl rfl) ?_
  refine WL.nil ?_
  refine thenQ.normal ?_
  refine WC.ite rfl (fun hc2 => ?_) (fun hc2 => ?_)
  ·
   rw [if_pos Z.W] at hat
   have hfin : layS D L data = (putS t (L[j]! : Int) (e.take 512), dputE t (L[j]! : Int) (e.take 512)) := by
    unfold layS
    rw [if_neg (by rintro rfl; exact absurd hc1 (by simp))]
    unfold makeS thenE; rw [hat, if_pos (by show dputE t _ _ ≠ 0; omega)]
   rw [hfin] at hk
   refine WC.seq ?_
   refine WC.region ?_
   refine WL.rd rfl rfl rfl (Rd.move rfl rfl) ?_
   refine WL.rd rfl rfl rfl (Rd.assign rfl rfl) ?_
   refine WL.nil ?_
   refine thenQ.normal ?_
   refine WC.ret (thenQ.retR (blockQ.retR (thenQ.retR (loopQ4.retR (blockQ.retR (thenQ.retR (Ret.one Tryz.results70 rfl ?_)))))))
   exact ⟨_, _, hk U1 hu1 (hku1.trans hkv), Z.F⟩
  ·
   rw [if_neg Z.W] at hat
   refine WC.skip ?_
   refine thenQ.normal ?_
   refine WC.region ?_
   refine WL.rd rfl rfl rfl (Rd.move rfl rfl) ?_
   refine WL.rd rfl rfl rfl (Rd.move rfl rfl) ?_
   refine WL.rd rfl rfl rfl (Rd.scut_l (lo := min e.length 512) rfl Tryz.underlying9 rfl rfl rfl Z.W) ?_
   refine WL.say 34 (u := vs (e.drop 512)) rfl (by rw [drop_min]) ?_
   refine WL.rd rfl rfl rfl (Rd.assign rfl rfl) ?_
   refine WL.nil ?_
   refine blockQ.normal ?_
   refine thenQ.normal ?_
   refine WC.region ?_
   refine WL.rd rfl rfl rfl (Rd.add rfl rfl rfl Z.W) ?_
   refine WL.rd rfl rfl rfl (Rd.move rfl rfl) ?_
   refine WL.nil ?_
   exact loopQ4.mk (j + 1) (putS t (L[j]! : Int) (e.take 512)) U1 (e.drop 512) ⟨by omega, (dkt.put _ _).mono Z.W, hu1, hku1.trans hkv, (put_keepW _ _ _).trans hkp, by rw [List.length_drop]; omega, hat⟩ Z.W (by repeat (first | exact Sub.nil | refine Sub.cons rfl (by rfl) ?_)) Z.F
 ·
  obtain rfl : j = L.length := by omega
  have hr0 : runP D (chunksE L data) = (t, 0) := by rw [hrun, List.drop_length]; rfl
  refine WC.exit ?_
  refine thenQ.exit ?_
  refine loopQ4.exit ?_
  refine blockQ.exit ?_
  refine thenQ.normal ?_
  refine WC.seq ?_
  refine WC.seq ?_
  refine WC.region ?_
  refine WL.rd rfl rfl rfl (Rd.move rfl rfl) ?_
  refine WL.rd rfl rfl rfl (Rd.lenE (enc := SL.one vi) (xs := secI L) rfl rfl Tryz.underlying23 hl) ?_
  refine WL.say 37 (u := .int .i64 (L.length : Int)) rfl (by rw [secI_len]) ?_
  refine WL.rd rfl rfl rfl (Rd.eql rfl rfl rfl) ?_
  refine WL.nil ?_
  refine thenQ.normal ?_
  refine WC.ite rfl (fun hc3 => ?_) (fun hc3 => ?_)
  ·
   obtain rfl : L = [] := List.length_eq_zero_iff.1 Z.W
   have e1 : (D, 0) = (t, 0) := hr0
   have hfin : layS D [] data = (t, 0) := by rw [← e1]; rfl
   rw [hfin] at hk
   refine WC.seq ?_
   refine WC.region ?_
   refine WL.rd rfl rfl rfl (Rd.assign rfl rfl) ?_
   refine WL.nil ?_
   refine thenQ.normal ?_
   refine WC.ret (thenQ.retR (Ret.one Tryz.results70 rfl ?_))
   exact ⟨_, _, hk U hu hkv, Z.F⟩
  ·
   have hfin : layS D L data = (syncS t, stepE t) := by
    unfold layS
    rw [if_neg (by rintro rfl; exact hc3 rfl)]
    unfold makeS thenE; rw [hr0, if_neg (fun h => h rfl)]
   rw [hfin] at hk
   refine WC.skip ?_
   refine thenQ.normal ?_
   refine WC.seq ?_
   refine WC.region ?_
   refine WL.rd rfl rfl rfl (Rd.move rfl rfl) ?_
   refine WL.rd rfl rfl rfl (Rd.nilc rfl rfl) ?_
   refine WL.rd rfl rfl rfl ((by exact Rd.field rfl F65_0 rfl rfl)) ?_
   refine WL.rd rfl rfl rfl (Rd.row1 (off := 0) (u := dp d) rfl C25 rfl Z.M hcs) ?_
   refine WL.op rfl ?_
   refine OpW.call rfl rfl Z.E Z.K rfl rfl rfl ?_
   refine sync_spec dkt.ok Z.W hu (by rw [hkv, hkp]; exact hkeep) ?_; intro U1 hu1 hku1
   refine WL.rd rfl rfl rfl (Rd.assign rfl rfl) ?_
   refine WL.nil ?_
   refine thenQ.normal ?_
   refine WC.ret (Ret.one Tryz.results70 rfl ?_)
   exact ⟨_, _, hk U1 hu1 (hku1.trans hkv), Z.F⟩
set_option maxRecDepth 20000 in
theorem ready_spec (ho : D.off = false) (hk : POST (.int .i64 0) R (stO s d l mb un files sp false m V D O)) : Fun Tryz.prog 59 #[dp s] R (stO s d l mb un files sp false m V D O) POST := by
 refine Fun.turn ?_
 refine Fun.enter (l := [_]) Tryz.func59 rfl Tryz.ntmps59 rfl (L0 := [(0, _)]) rfl ?_
 refine WC.seq ?_
 refine WC.region ?_
 refine WL.rd rfl rfl rfl (Rd.assign rfl rfl) ?_
 refine WL.nil ?_
 refine thenQ.normal ?_
 refine WC.seq ?_
 refine WC.block ?_
 refine WC.seq ?_
 refine WC.region ?_
 refine WL.rd rfl rfl rfl (Rd.move rfl rfl) ?_
 refine WL.rd rfl rfl rfl (Rd.peqN rfl Tryz.underlying30 rfl rfl) ?_
 refine WL.say 5 (u := .bool (decide False)) rfl (by simp) ?_
 refine WL.rd rfl rfl rfl (Rd.assign rfl rfl) ?_
 refine WL.nil ?_
 refine thenQ.normal ?_
 refine WC.ite rfl (fun hc1 => ?_) (fun hc1 => ?_)
 ·
  exact hc1.elim
 ·
  refine WC.seq ?_
  refine WC.region ?_
  refine WL.rd rfl rfl rfl (Rd.move rfl rfl) ?_
  refine WL.rd rfl rfl rfl (Rd.nilc rfl rfl) ?_
  refine WL.rd rfl rfl rfl ((by exact Rd.field rfl F65_5 rfl rfl)) ?_
  refine WL.rd rfl rfl rfl (Rd.row1 (off := 6) (u := .bool (decide False)) rfl C4 rfl Z.M rfl) ?_
  refine WL.rd rfl rfl rfl (Rd.move rfl rfl) ?_
  refine WL.case 11 rfl (fun hg11 => ?_) (fun hg11 => ?_)
  ·
   exact hg11.elim
  ·
   refine WL.rd_yes rfl rfl rfl rfl rfl rfl (Rd.move rfl rfl) ?_
   refine WL.rd_yes rfl rfl rfl rfl rfl rfl (Rd.nilc rfl rfl) ?_
   refine WL.rd_yes rfl rfl rfl rfl rfl rfl ((by exact Rd.field rfl F65_0 rfl rfl)) ?_
   refine WL.rd_yes rfl rfl rfl rfl rfl rfl (Rd.row1 (off := 0) (u := dp d) rfl C25 rfl Z.M rfl) ?_
   refine WL.op_yes rfl rfl rfl rfl ?_
   refine OpW.call rfl rfl Z.E Z.K rfl rfl rfl ?_
   refine off_spec ?_
   refine WL.say 16 (u := .bool false) rfl (by rw [ho]) ?_
   refine WL.rd rfl rfl rfl (Rd.pick_f rfl rfl rfl) ?_
   refine WL.rd rfl rfl rfl (Rd.assign rfl rfl) ?_
   refine WL.nil ?_
   refine thenQ.normal ?_
   refine WC.cond rfl (fun hc2 => ?_) (fun hc2 => ?_)
   ·
    cases hc2
   ·
    refine WC.skip ?_
    refine blockQ.normal ?_
    refine thenQ.normal ?_
    refine WC.seq ?_
    refine WC.region ?_
    refine WL.rd rfl rfl rfl (Rd.assign rfl rfl) ?_
    refine WL.nil ?_
    refine thenQ.normal ?_
    refine WC.ret (Ret.one Tryz.results59 rfl ?_)
    exact ⟨_, _, hk, Z.F⟩
set_option maxRecDepth 20000 in
theorem find_some {name : Tx} {q : MI} (hmg : m.get name = some q) (hg : GoodN name) (ho : D.off = false) (hall : allM m ∈ R) 
 (hk : POST (.tuple #[miV q, .int .i64 0]) (SlE encX q.2.2.1 q.2.2.2 :: R) (stO s d l mb un files sp false m V D O)) :
 Fun Tryz.prog 34 #[dp s, vs name] R (stO s d l mb un files sp false m V D O) POST := by
 refine Fun.turn ?_
 refine Fun.heap (R' := SlE encX q.2.2.1 q.2.2.2 :: R) (fun w h => h.derive fun w hw => hw _ hall name q hmg) ?_
 refine Fun.oneV (xs := q.2.2.2) (enc := encX) (v := q.2.2.1) List.mem_cons_self fun hqv => ?_
 refine Fun.enter (l := [_, _]) Tryz.func34 rfl Tryz.ntmps34 rfl (L0 := [(0, _), (1, _)]) rfl ?_
 refine WC.seq ?_
 refine WC.region ?_
 refine WL.op rfl ?_
 refine OpW.alloc rfl I79 rfl Z.N rfl rfl ?_; intro b4
 refine WL.rd rfl rfl rfl (Rd.assign rfl rfl) ?_
 refine WL.nil ?_
 refine thenQ.normal ?_
 refine WC.seq ?_
 refine WC.seq ?_
 refine WC.region ?_
 refine WL.rd rfl rfl rfl (Rd.move rfl rfl) ?_
 refine WL.op rfl ?_
 refine OpW.call rfl rfl Z.E Z.K rfl rfl rfl ?_
 refine Fun.heap (R' := SlE encX q.2.2.1 q.2.2.2 :: R) (O' := stO s d l mb un files sp false m V D (rowC b4 79 (inoCs 0 0 (.slice none 0 0)) :: O)) Z.F ?_
 refine ready_spec ho ?_
 refine WL.rd rfl rfl rfl (Rd.assign rfl rfl) ?_
 refine WL.nil ?_
 refine thenQ.normal ?_
 refine WC.seq ?_
 refine WC.region ?_
 refine WL.rd rfl rfl rfl (Rd.move rfl rfl) ?_
 refine WL.rd rfl rfl rfl (Rd.neq rfl rfl rfl) ?_
 refine WL.nil ?_
 refine thenQ.normal ?_
 refine WC.ite rfl (fun hc1 => ?_) (fun hc1 => ?_)
 ·
  exact absurd hc1 (by decide)
 ·
  refine WC.skip ?_
  refine thenQ.normal ?_
  refine WC.seq ?_
  refine WC.seq ?_
  refine WC.region ?_
  refine WL.rd rfl rfl rfl (Rd.move rfl rfl) ?_
  refine WL.op rfl ?_
  refine OpW.call rfl rfl Z.E Z.K rfl rfl rfl ?_
  refine good_spec hg ?_
  refine WL.rd rfl rfl rfl ((by exact Rd.not rfl rfl)) ?_
  refine WL.say 17 (u := .bool (decide False)) rfl rfl ?_
  refine WL.nil ?_
  refine thenQ.normal ?_
  refine WC.ite rfl (fun hc2 => ?_) (fun hc2 => ?_)
  ·
   exact hc2.elim
  ·
   refine WC.skip ?_
   refine thenQ.normal ?_
   refine WC.seq ?_
   refine WC.region ?_
   refine WL.rd rfl rfl rfl (Rd.move rfl rfl) ?_
   refine WL.rd rfl rfl rfl (Rd.nilc rfl rfl) ?_
   refine WL.rd rfl rfl rfl ((by exact Rd.field rfl F65_3 rfl rfl)) ?_
   refine WL.rd rfl rfl rfl (Rd.row1 (off := 4) (u := .map (some mb)) rfl C60 rfl Z.M rfl) ?_
   refine WL.rd rfl rfl rfl (Rd.move rfl rfl) ?_
   refine WL.rd rfl rfl rfl (Rd.lookup2 (kenc := vs) (venc := miV) (m := m) M60 K9 rfl rfl rfl Z.M rfl) ?_
   refine WL.say 25 (u := .tuple #[miV q, .bool (decide True)]) rfl (by rw [hmg]; rfl) ?_
   refine WL.rd rfl rfl rfl (Rd.move rfl rfl) ?_
   refine WL.rd rfl rfl rfl (Rd.extract rfl rfl rfl) ?_
   refine WL.rd rfl rfl rfl (Rd.extract rfl rfl rfl) ?_
   refine WL.op rfl ?_
   refine OpW.alloc rfl I79 rfl Z.N rfl rfl ?_; intro b7
   refine WL.op rfl ?_
   refine OpW.storeS (h1 := by simp only [List.all_cons, List.all_nil, hqv.one]; rfl) rfl G79 rfl rfl Z.N Z.T rfl rfl Z.N rfl ?_
   refine WL.rd rfl rfl rfl (Rd.assign rfl rfl) ?_
   refine WL.nil ?_
   refine thenQ.normal ?_
   refine WC.seq ?_
   refine WC.seq ?_
   refine WC.region ?_
   refine WL.rd rfl rfl rfl (Rd.move rfl rfl) ?_
   refine WL.rd rfl rfl rfl ((by exact Rd.notd rfl rfl)) ?_
   refine WL.nil ?_
   refine thenQ.normal ?_
   refine WC.ite rfl (fun hc3 => ?_) (fun hc3 => ?_)
   ·
    exact (hc3 trivial).elim
   ·
    refine WC.skip ?_
    refine thenQ.normal ?_
    refine WC.seq ?_
    refine WC.region ?_
    refine WL.rd rfl rfl rfl ((by exact Rd.rowS rfl G79 rfl Z.M Z.N rfl)) ?_
    refine WL.op rfl ?_
    refine OpW.storeS (h1 := by simp only [List.all_cons, List.all_nil, hqv.one]; rfl) rfl G79 rfl rfl Z.N Z.T rfl rfl Z.N rfl ?_
    refine WL.rd rfl rfl rfl (Rd.assign rfl rfl) ?_
    refine WL.nil ?_
    refine thenQ.normal ?_
    refine WC.ret (Ret.cellTmp (b := b4) Tryz.results34 rfl rfl Z.M G79 rfl ?_)
    exact ⟨_, _, hk, Z.F⟩
set_option maxRecDepth 20000 in
theorem find_none {name : Tx} (hmg : m.get name = none) (hg : GoodN name) (ho : D.off = false) 
 (hk : POST (.tuple #[inoV 0 0 (.slice none 0 0), .int .i64 9]) R (stO s d l mb un files sp false m V D O)) :
 Fun Tryz.prog 34 #[dp s, vs name] R (stO s d l mb un files sp false m V D O) POST := by
 refine Fun.turn ?_
 refine Fun.enter (l := [_, _]) Tryz.func34 rfl Tryz.ntmps34 rfl (L0 := [(0, _), (1, _)]) rfl ?_
 refine WC.seq ?_
 refine WC.region ?_
 refine WL.op rfl ?_
 refine OpW.alloc rfl I79 rfl Z.N rfl rfl ?_; intro b4
 refine WL.rd rfl rfl rfl (Rd.assign rfl rfl) ?_
 refine WL.nil ?_
 refine thenQ.normal ?_
 refine WC.seq ?_
 refine WC.seq ?_
 refine WC.region ?_
 refine WL.rd rfl rfl rfl (Rd.move rfl rfl) ?_
 refine WL.op rfl ?_
 refine OpW.call rfl rfl Z.E Z.K rfl rfl rfl ?_
 refine Fun.heap (R' := R) (O' := stO s d l mb un files sp false m V D (rowC b4 79 (inoCs 0 0 (.slice none 0 0)) :: O)) Z.F ?_
 refine ready_spec ho ?_
 refine WL.rd rfl rfl rfl (Rd.assign rfl rfl) ?_
 refine WL.nil ?_
 refine thenQ.normal ?_
 refine WC.seq ?_
 refine WC.region ?_
 refine WL.rd rfl rfl rfl (Rd.move rfl rfl) ?_
 refine WL.rd rfl rfl rfl (Rd.neq rfl rfl rfl) ?_
 refine WL.nil ?_
 refine thenQ.normal ?_
 refine WC.ite rfl (fun hc1 => ?_) (fun hc1 => ?_)
 ·
  exact absurd hc1 (by decide)
 ·
  refine WC.skip ?_
  refine thenQ.normal ?_
  refine WC.seq ?_
  refine WC.seq ?_
  refine WC.region ?_
  refine WL.rd rfl rfl rfl (Rd.move rfl rfl) ?_
  refine WL.op rfl ?_
  refine OpW.call rfl rfl Z.E Z.K rfl rfl rfl ?_
  refine good_spec hg ?_
  refine WL.rd rfl rfl rfl ((by exact Rd.not rfl rfl)) ?_
  refine WL.say 17 (u := .bool (decide False)) rfl rfl ?_
  refine WL.nil ?_
  refine thenQ.normal ?_
  refine WC.ite rfl (fun hc2 => ?_) (fun hc2 => ?_)
  ·
   exact hc2.elim
  ·
   refine WC.skip ?_
   refine thenQ.normal ?_
   refine WC.seq ?_
   refine WC.region ?_
   refine WL.rd rfl rfl rfl (Rd.move rfl rfl) ?_
   refine WL.rd rfl rfl rfl (Rd.nilc rfl rfl) ?_
   refine WL.rd rfl rfl rfl ((by exact Rd.field rfl F65_3 rfl rfl)) ?_
   refine WL.rd rfl rfl rfl (Rd.row1 (off := 4) (u := .map (some mb)) rfl C60 rfl Z.M rfl) ?_
   refine WL.rd rfl rfl rfl (Rd.move rfl rfl) ?_
   refine WL.rd rfl rfl rfl (Rd.lookup2 (kenc := vs) (venc := miV) (m := m) M60 K9 rfl rfl rfl Z.M rfl) ?_
   refine WL.say 25 (u := .tuple #[inoV 0 0 (.slice none 0 0), .bool (decide False)]) rfl (by rw [hmg]; rfl) ?_
   refine WL.rd rfl rfl rfl (Rd.move rfl rfl) ?_
   refine WL.rd rfl rfl rfl (Rd.extract rfl rfl rfl) ?_
   refine WL.rd rfl rfl rfl (Rd.extract rfl rfl rfl) ?_
   refine WL.op rfl ?_
   refine OpW.alloc rfl I79 rfl Z.N rfl rfl ?_; intro b7
   refine WL.op rfl ?_
   refine OpW.storeS rfl G79 rfl rfl Z.N Z.T rfl rfl Z.N rfl ?_
   refine WL.rd rfl rfl rfl (Rd.assign rfl rfl) ?_
   refine WL.nil ?_
   refine thenQ.normal ?_
   refine WC.seq ?_
   refine WC.seq ?_
   refine WC.region ?_
   refine WL.rd rfl rfl rfl (Rd.move rfl rfl) ?_
   refine WL.rd rfl rfl rfl ((by exact Rd.notd rfl rfl)) ?_
   refine WL.nil ?_
   refine thenQ.normal ?_
   refine WC.ite rfl (fun hc3 => ?_) (fun hc3 => ?_)
   ·
    refine WC.seq ?_
    refine WC.region ?_
    refine WL.rd rfl rfl rfl (Rd.buildN (ps := []) rfl Bs79 I79 rfl Z.E Z.C (by apply NFo.mk; repeat (first | exact NF.nil | apply NF.cons))) ?_
    refine WL.op rfl ?_
    refine OpW.storeS rfl G79 rfl rfl Z.N Z.T rfl rfl Z.N rfl ?_
    refine WL.rd rfl rfl rfl (Rd.assign rfl rfl) ?_
    refine WL.nil ?_
    refine thenQ.normal ?_
    refine WC.ret (thenQ.retR (Ret.cellTmp (b := b4) Tryz.results34 rfl rfl Z.M G79 rfl ?_))
    exact ⟨_, _, hk, Z.F⟩
   ·
    exact (hc3 id).elim
end
end Go.Proofs.YtckokhdjeifomaaGreatDoor
namespace Go.SL
open Go Go.RowKit Go.MapKept Go.ChangeMaps
section
variable {κ β : Type} {kenc : κ → Value} {venc : β → Value}
variable {P : Program} {n : Sz} {o : Oper} {L : Env} {R : List RO} {O O' : List Own} {K : Env → List RO → List Own → Prop} {t kt et : TypeId} {z : Value} {x y : Operand} {m : GoMap κ β} {b d it : Nat} {seen seen1 : List Nat}
theorem OpW.rangeMO (T : MapT P t kt et z) (ho : o.op = .range t x) (hx : ev L x = some (.map (some b))) (hp : mapC kenc venc b m ∈ O) (hd : o.dst = some d) (hn : Nat.blt d n.n = true)
 (k : ∀ it, K ((d, .pointer (some ⟨it, 0, none⟩)) :: L) R (iterC it b m.clock [] :: O)) : OpW P n o L R O K := by
 intro a w hf hs Q
 have h : mapP kenc venc b m w := hs.see hp
 unfold Oper.wp
 have hr : (execOp a.eval o).run P w = .ok (.value (.pointer (some ⟨w.heap.size, 0, none⟩))) (w.alloc (.mapIter (some b) m.clock #[] m.clock)) := by
  simp only [execOp, ho, Sem.run_bind, hf.ev hx, run_range_map w t kt et b _ _ T.und h, Result.andThen_ok, Sem.run_pure]
 rw [hr, Oper.upon_value, hd]
 exact ⟨_, _, _, k _, hf.put hn _, hs.alloc _ _ rfl fun w' h _ => h⟩
theorem OpW.nextMO (ho : o.op = .next x false) (hx : ev L x = some (.pointer (some ⟨it, 0, none⟩))) (hp : mapC kenc venc b m ∈ O) (hT : Take (iterC it b m.clock seen) O O') (hd : o.dst = some d) (hn : Nat.blt d n.n = true)
 (k : ∀ r, StepOk m seen r → K ((d, stepV kenc venc r) :: L) R (iterC it b m.clock (seenOf seen r) :: O')) : OpW P n o L R O K := by
 intro a w hf hs Q
 have h : mapP kenc venc b m w := hs.see hp
 have hs' := hs.perm hT.perm
 have hi : w.heap[it]? = some (.mapIter (some b) m.clock seen.toArray m.clock) := hs'.see List.mem_cons_self
 unfold Oper.wp
 rcases run_next_at (P := P) w o.type it b m.clock m.clock seen.toArray _ _ hi h (by
  intro e he
  simp only [List.mem_map] at he
  obtain ⟨q, hq, rfl⟩ := he
  exact m.lt q hq) (Nat.le_refl _) with ⟨h0, hr⟩ | ⟨e, he, w1, hw1, hr⟩
 · have hr' : (execOp a.eval o).run P w = .ok (.value (.tuple #[.bool false])) w := by
    simp only [execOp, ho, Sem.run_bind, hf.ev hx, hr, Result.andThen_ok, Sem.run_pure]
   rw [hr', Oper.upon_value, hd]
   refine ⟨_, _, _, k none ?_, hf.put hn _, hs'⟩
   intro q hq
   have h1 : leftOf (m.l.map (ent kenc venc)).toArray seen.toArray = #[] := Array.eq_empty_of_size_eq_zero h0
   unfold leftOf at h1
   rw [Array.filter_eq_empty_iff] at h1
   have := h1 (ent kenc venc q) (by simpa using ⟨q.1, q.2.1, q.2.2, hq, rfl⟩)
   simpa [ent] using this
 · have hr' : (execOp a.eval o).run P w = .ok (.value (.tuple #[.bool true, e.key, e.val])) (setBlock w1 it (.mapIter (some b) m.clock (seen.toArray.push e.born) m.clock)) := by
    simp only [execOp, ho, Sem.run_bind, hf.ev hx, hr, Result.andThen_ok, Sem.run_pure]
   rw [hr', Oper.upon_value, hd]
   simp only [leftOf, Array.toList_filter, List.mem_filter, List.mem_map] at he
   obtain ⟨⟨q, hq, rfl⟩, hns⟩ := he
   have hs1 : Sat R (iterC it b m.clock seen :: O') w1 := by
    rcases hw1 with rfl | rfl
    · exact hs'
    · exact hs'.drew _
   have hi1 : w1.heap[it]? = some (.mapIter (some b) m.clock seen.toArray m.clock) := hs1.see List.mem_cons_self
   have hlt : it < w1.heap.size := (Array.getElem?_eq_some_iff.1 hi1).1
   refine ⟨_, _, _, k (some q) ⟨hq, by simpa [ent] using hns⟩, hf.put hn _, ?_⟩
   refine hs1.update (iterC it b m.clock (seen ++ [q.2.2])) ⟨rfl, rfl, rfl, by simp [setBlock], fun j hj hn => ?_⟩ (fun j hj => .inl hj) (fun j hj => ?_) (by simp [iterC]) (fun w'' ha _ => ?_)
   · have : j ≠ it := fun e => hn (by simp [iterC, e])
     exact (heap_set hi1).2 j this
   · simp only [iterC, List.mem_singleton] at hj; subst hj; simpa [setBlock] using hlt
   · show w''.heap[it]? = _
     rw [ha.2.2.2.2 it (by simpa [setBlock] using hlt) (fun h => h (by simp [iterC]))]
     refine (heap_set hi1).1.trans ?_
     simp [ent]
theorem Rd.entryMO {q : κ × β × Nat} (ho : o.op = .entry x) (hx : ev L x = some (.pointer (some ⟨it, 0, none⟩))) (hp : mapC kenc venc b m ∈ O) (hi : iterC it b m.clock seen1 ∈ O) (hq : q ∈ m.l) (hs : seen1 = seen ++ [q.2.2]) : Rd P o L R O (.tuple #[kenc q.1, venc q.2.1]) := fun ρ w hρ hR hO => by
 have h : w.heap[b]? = _ := hO _ hp
 have h2 : w.heap[it]? = _ := hO _ hi
 subst hs
 have h3 : w.heap[it]? = some (.mapIter (some b) m.clock (seen.toArray.push (ent kenc venc q).born) m.clock) := h2.trans (by simp [ent])
 have := run_entry_at (P := P) w it b m.clock seen.toArray _ _ (ent kenc venc q) h3 h (by simpa using ⟨q.1, q.2.1, q.2.2, hq, rfl⟩) (by
  show ((m.l.map (ent kenc venc)).map (·.born)).Nodup
  rw [ent_born]; exact m.born)
 simp only [execOp, ho, Sem.run_bind, hρ _ _ hx, this, Result.andThen_ok, Sem.run_pure]
 rfl
end
end Go.SL
namespace Go.Proofs
open Go.Shelf
def Tryz.sort85_ren : Go.Shelf.Ren := ⟨fun | 6 => 85 | 8 => 110 | 9 => 109 | 19 => 130 | 20 => 131 | 21 => 121 | 22 => 122 | 23 => 123 | 24 => 124 | 25 => 125 | 26 => 126 | 27 => 127 | 28 => 128 | 29 => 129 | 36 => 136 | 31 => 137 | 32 => 138 | 37 => 139 | 38 => 140 | 39 => 141 | 41 => 152 | n => n, fun | 27 => 40 | 29 => 9 | 3 => 3 | 32 => 59 | 26 => 40 | 0 => 0 | 44 => 134 | 46 => 137 | 4 => 4 | 36 => 188 | 35 => 187 | 41 => 82 | 5 => 5 | 9 => 9 | 53 => 200 | 57 => 204 | 63 => 212 | 64 => 213 | n => n, fun | n => n⟩
theorem Tryz.sort85 : Go.Proofs.SlLaysM.n6 Tryz.prog Tryz.sort85_ren := {
 mixed := by kernel_rfl
 f6 := ⟨Tryz.f85.name, by decide, Tryz.func85.trans (congrArg some (by kernel_rfl))⟩
 f8 := Tryz.func110.trans (congrArg some (by kernel_rfl))
 f9 := ⟨Tryz.f109.name, by decide, Tryz.func109.trans (congrArg some (by kernel_rfl))⟩
 f19 := Tryz.func130.trans (congrArg some (by kernel_rfl))
 f20 := Tryz.func131.trans (congrArg some (by kernel_rfl))
 f21 := ⟨Tryz.f121.name, by decide, Tryz.func121.trans (congrArg some (by kernel_rfl))⟩
 f22 := ⟨Tryz.f122.name, by decide, Tryz.func122.trans (congrArg some (by kernel_rfl))⟩
 f23 := ⟨Tryz.f123.name, by decide, Tryz.func123.trans (congrArg some (by kernel_rfl))⟩
 f24 := ⟨Tryz.f124.name, by decide, Tryz.func124.trans (congrArg some (by kernel_rfl))⟩
 f25 := ⟨Tryz.f125.name, by decide, Tryz.func125.trans (congrArg some (by kernel_rfl))⟩
 f26 := ⟨Tryz.f126.name, by decide, Tryz.func126.trans (congrArg some (by kernel_rfl))⟩
 f27 := ⟨Tryz.f127.name, by decide, Tryz.func127.trans (congrArg some (by kernel_rfl))⟩
 f28 := ⟨Tryz.f128.name, by decide, Tryz.func128.trans (congrArg some (by kernel_rfl))⟩
 f29 := ⟨Tryz.f129.name, by decide, Tryz.func129.trans (congrArg some (by kernel_rfl))⟩
 f31 := Tryz.func137.trans (congrArg some (by kernel_rfl))
 f32 := Tryz.func138.trans (congrArg some (by kernel_rfl))
 f36 := ⟨Tryz.f136.name, by decide, Tryz.func136.trans (congrArg some (by kernel_rfl))⟩
 f37 := ⟨Tryz.f139.name, by decide, Tryz.func139.trans (congrArg some (by kernel_rfl))⟩
 f38 := ⟨Tryz.f140.name, by decide, Tryz.func140.trans (congrArg some (by kernel_rfl))⟩
 f39 := ⟨Tryz.f141.name, by decide, Tryz.func141.trans (congrArg some (by kernel_rfl))⟩
 f41 := ⟨Tryz.f152.name, by decide, Tryz.func152.trans (congrArg some (by kernel_rfl))⟩
 t0 := Tryz.underlying0
 a0 := Tryz.isAgg0
 z0 := Tryz.sizeOf0
 v0 := Tryz.zeroValue0
 t3 := Tryz.underlying3
 a3 := Tryz.isAgg3
 z3 := Tryz.sizeOf3
 v3 := Tryz.zeroValue3
 t4 := Tryz.underlying4
 a4 := Tryz.isAgg4
 z4 := Tryz.sizeOf4
 v4 := Tryz.zeroValue4
 t5 := Tryz.underlying5
 a5 := Tryz.isAgg5
 z5 := Tryz.sizeOf5
 v5 := Tryz.zeroValue5
 t9 := Tryz.underlying9
 a9 := Tryz.isAgg9
 z9 := Tryz.sizeOf9
 v9 := Tryz.zeroValue9
 t26 := Tryz.underlying40
 a26 := Tryz.isAgg40
 z26 := Tryz.sizeOf40
 v26 := Tryz.zeroValue40
 t27 := Tryz.underlying40
 a27 := Tryz.isAgg40
 z27 := Tryz.sizeOf40
 v27 := Tryz.zeroValue40
 t29 := Tryz.underlying9
 a29 := Tryz.isAgg9
 z29 := Tryz.sizeOf9
 v29 := Tryz.zeroValue9
 t32 := Tryz.underlying59
 a32 := Tryz.isAgg59
 z32 := Tryz.sizeOf59
 v32 := Tryz.zeroValue59
 t35 := Tryz.underlying187
 a35 := Tryz.isAgg187
 z35 := Tryz.sizeOf187
 v35 := Tryz.zeroValue187
 t36 := Tryz.underlying188
 a36 := Tryz.isAgg188
 z36 := Tryz.sizeOf188
 v36 := Tryz.zeroValue188
 t41 := Tryz.underlying82
 a41 := Tryz.isAgg82
 z41 := Tryz.sizeOf82
 v41 := Tryz.zeroValue82
 t44 := Tryz.underlying134
 a44 := Tryz.isAgg134
 z44 := Tryz.sizeOf134
 v44 := Tryz.zeroValue134
 t46 := Tryz.underlying137
 a46 := Tryz.isAgg137
 z46 := Tryz.sizeOf137
 v46 := Tryz.zeroValue137
 t53 := Tryz.underlying200
 a53 := Tryz.isAgg200
 z53 := Tryz.sizeOf200
 v53 := Tryz.zeroValue200
 t57 := Tryz.underlying204
 a57 := Tryz.isAgg204
 z57 := Tryz.sizeOf204
 v57 := Tryz.zeroValue204
 t63 := Tryz.underlying212
 a63 := Tryz.isAgg212
 z63 := Tryz.sizeOf212
 v63 := Tryz.zeroValue212
 t64 := Tryz.underlying213
 a64 := Tryz.isAgg213
 z64 := Tryz.sizeOf213
 v64 := Tryz.zeroValue213 }
def Tryz.sorted54_ren : Go.Shelf.Ren := ⟨fun | 6 => 54 | 8 => 84 | 9 => 85 | 11 => 108 | 13 => 110 | 12 => 109 | 23 => 130 | 24 => 131 | 14 => 121 | 15 => 122 | 16 => 123 | 17 => 124 | 18 => 125 | 19 => 126 | 20 => 127 | 21 => 128 | 22 => 129 | 25 => 136 | 26 => 137 | 27 => 138 | 28 => 139 | 29 => 140 | 30 => 141 | 31 => 152 | n => n, fun | 26 => 9 | 28 => 109 | 24 => 40 | 0 => 0 | 3 => 3 | 37 => 59 | 48 => 134 | 50 => 137 | 4 => 4 | 40 => 188 | 39 => 187 | 45 => 82 | 5 => 5 | 9 => 9 | 51 => 200 | 55 => 204 | 57 => 212 | 58 => 213 | 33 => 121 | n => n, fun | n => n⟩
theorem Tryz.sorted54 : Go.Proofs.SlLaysZ.n6 Tryz.prog Tryz.sorted54_ren := {
 mixed := by kernel_rfl
 f6 := ⟨Tryz.f54.name, by decide, Tryz.func54.trans (congrArg some (by kernel_rfl))⟩
 f8 := ⟨Tryz.f84.name, by decide, Tryz.func84.trans (congrArg some (by kernel_rfl))⟩
 f11 := ⟨Tryz.f108.name, by decide, Tryz.func108.trans (congrArg some (by kernel_rfl))⟩
 t0 := Tryz.underlying0
 a0 := Tryz.isAgg0
 z0 := Tryz.sizeOf0
 v0 := Tryz.zeroValue0
 t24 := Tryz.underlying40
 a24 := Tryz.isAgg40
 z24 := Tryz.sizeOf40
 v24 := Tryz.zeroValue40
 t26 := Tryz.underlying9
 a26 := Tryz.isAgg9
 z26 := Tryz.sizeOf9
 v26 := Tryz.zeroValue9
 t28 := Tryz.underlying109
 a28 := Tryz.isAgg109
 z28 := Tryz.sizeOf109
 v28 := Tryz.zeroValue109
 i26 := by kernel_rfl }
def Tryz.keys55_ren : Go.Shelf.Ren := ⟨fun | 7 => 55 | 10 => 86 | n => n, fun | 23 => 60 | 26 => 9 | 3 => 79 | 28 => 109 | 0 => 0 | 27 => 108 | 33 => 121 | 4 => 4 | n => n, fun | n => n⟩
theorem Tryz.keys55 : Go.Proofs.SlLaysZ.n7 Tryz.prog Tryz.keys55_ren := {
 mixed := by kernel_rfl
 f7 := ⟨Tryz.f55.name, by decide, Tryz.func55.trans (congrArg some (by kernel_rfl))⟩
 f10 := ⟨Tryz.f86.name, by decide, Tryz.func86.trans (congrArg some (by kernel_rfl))⟩
 t0 := Tryz.underlying0
 a0 := Tryz.isAgg0
 z0 := Tryz.sizeOf0
 v0 := Tryz.zeroValue0
 t4 := Tryz.underlying4
 a4 := Tryz.isAgg4
 z4 := Tryz.sizeOf4
 v4 := Tryz.zeroValue4
 t23 := Tryz.underlying60
 a23 := Tryz.isAgg60
 z23 := Tryz.sizeOf60
 v23 := Tryz.zeroValue60
 t26 := Tryz.underlying9
 a26 := Tryz.isAgg9
 z26 := Tryz.sizeOf9
 v26 := Tryz.zeroValue9
 t27 := Tryz.underlying108
 a27 := Tryz.isAgg108
 z27 := Tryz.sizeOf108
 v27 := Tryz.zeroValue108
 t28 := Tryz.underlying109
 a28 := Tryz.isAgg109
 z28 := Tryz.sizeOf109
 v28 := Tryz.zeroValue109
 t33 := Tryz.underlying121
 a33 := Tryz.isAgg121
 z33 := Tryz.sizeOf121
 v33 := Tryz.zeroValue121 }
end Go.Proofs
namespace Go.Proofs.YtckokhdjeifomaaGreatDoor
open Go Go.SL
section
variable {R : List RO} {O : List Own} {POST : Value → List RO → List Own → Prop} {s d l mb un files k : Nat} {sp : Nat → Bool} {m : GoMap Tx MI} {V : DV} {D : DSt}
set_option maxRecDepth 20000 in
/-- The first place that is false. -/
theorem indexB_spec {v : Value} {bs : List Bool} (hO : accC 4 1 (SL.one vbl) v bs ∈ O) (hl : bs.length ≤ 100000) (hk1 : ∀ e : Nat, e < bs.length → bs[e]! = false → POST (.int .i64 (e : Int)) R O) (hk2 : (∀ e, e < bs.length → bs[e]! = true) → POST (.int .i64 (-1)) R O) :
 Fun Tryz.prog 67 #[v, .bool false] R O POST := by
 refine Fun.turn ?_
 refine Fun.enter (l := [_, _]) Tryz.func67 rfl Tryz.ntmps67 rfl (L0 := [(0, _), (1, _)]) rfl ?_
 refine WC.seq ?_
 refine WC.region ?_
 refine WL.rd rfl rfl rfl (Rd.assign rfl rfl) ?_
 refine WL.nil ?_
 refine thenQ.normal ?_
 refine WC.seq ?_
 refine WC.seq ?_
 refine WC.region ?_
 refine WL.rd rfl rfl rfl (Rd.move rfl rfl) ?_
 refine WL.rd rfl rfl rfl (Rd.lenA (enc := SL.one vbl) (xs := bs) rfl rfl Tryz.underlying129 hO) ?_
 refine WL.rd rfl rfl rfl (Rd.move rfl rfl) ?_
 refine WL.nil ?_
 refine thenQ.normal ?_
 refine WC.block ?_
 refine WC.pick [8, 0, 1, 7] Z.P ?_
 refine WC.loop1o 1 (fun (j : Nat) => [(8, .int .i64 (j : Int))]) (fun (j : Nat) => j ≤ bs.length ∧ ∀ e, e < j → bs[e]! = true) (fun (j : Nat) => bs.length - j) (0) Z.L ?hinv1 (by repeat (first | exact Sub.nil | refine Sub.cons rfl (by rfl) ?_)) (fun _ h => h) ?_
 case hinv1 =>
  exact ⟨Nat.zero_le _, fun e h => absurd h (Nat.not_lt_zero _)⟩
 intro j
 rintro ⟨j1, j2⟩
 refine WC.seq ?_
 refine WC.region ?_
 refine WL.rd rfl rfl rfl (Rd.lss rfl rfl rfl) ?_
 refine WL.nil ?_
 refine thenQ.normal ?_
 refine WC.seq ?_
 refine WC.ite rfl (fun hc1 => ?_) (fun hc1 => ?_)
 ·
  refine WC.skip ?_
  refine thenQ.normal ?_
  refine WC.seq ?_
  refine WC.block ?_
  refine WC.seq ?_
  refine WC.region ?_
  refine WL.rd rfl rfl rfl (Rd.move rfl rfl) ?_
  refine WL.rd rfl rfl rfl (Rd.assign rfl rfl) ?_
  refine WL.nil ?_
  refine thenQ.normal ?_
  refine WC.seq ?_
  refine WC.region ?_
  refine WL.rd rfl rfl rfl (Rd.move rfl rfl) ?_
  refine WL.rd rfl rfl rfl (Rd.move rfl rfl) ?_
  refine WL.rd rfl rfl rfl (Rd.move rfl rfl) ?_
  refine WL.rd rfl rfl rfl (Rd.idxA1 (enc := SL.one vbl) (xs := bs) (k := j) rfl S129 rfl rfl rfl hO Z.W) ?_
  refine WL.rd rfl rfl rfl (Rd.getA (g := vbl) (xs := bs) (k := j) (a := bs[j]!) rfl C4 rfl hO (get!_of_lt Z.W)) ?_
  refine WL.rd rfl rfl rfl (Rd.beql rfl rfl rfl Tryz.underlying4) ?_
  refine WL.say 16 (u := .bool (decide (bs[j]! = false))) rfl (by cases bs[j]! <;> rfl) ?_
  refine WL.nil ?_
  refine thenQ.normal ?_
  refine WC.ite rfl (fun hc2 => ?_) (fun hc2 => ?_)
  ·
   refine WC.seq ?_
   refine WC.region ?_
   refine WL.rd rfl rfl rfl (Rd.move rfl rfl) ?_
   refine WL.rd rfl rfl rfl (Rd.assign rfl rfl) ?_
   refine WL.nil ?_
   refine thenQ.normal ?_
   refine WC.ret (blockQ.retR (thenQ.retR (loopQ1.retR (blockQ.retR (thenQ.retR (Ret.one Tryz.results67 rfl ?_))))))
   exact ⟨_, _, hk1 j Z.W hc2, Z.F⟩
  ·
   refine WC.skip ?_
   refine blockQ.normal ?_
   refine thenQ.normal ?_
   refine WC.region ?_
   refine WL.rd rfl rfl rfl (Rd.add rfl rfl rfl Z.W) ?_
   refine WL.rd rfl rfl rfl (Rd.move rfl rfl) ?_
   refine WL.nil ?_
   exact loopQ1.mk (j + 1) ⟨by omega, fun e he => by
   rcases Nat.lt_or_ge e j with h | h
   · exact j2 e h
   · obtain rfl : e = j := by omega
     simpa using hc2⟩ Z.W (by repeat (first | exact Sub.nil | refine Sub.cons rfl (by rfl) ?_)) (fun _ h => h)
 ·
  refine WC.exit ?_
  refine thenQ.exit ?_
  refine loopQ1.exit ?_
  refine blockQ.exit ?_
  refine thenQ.normal ?_
  refine WC.seq ?_
  refine WC.region ?_
  refine WL.rd rfl rfl rfl (Rd.assign rfl rfl) ?_
  refine WL.nil ?_
  refine thenQ.normal ?_
  refine WC.ret (Ret.one Tryz.results67 rfl ?_)
  exact ⟨_, _, hk2 (fun e he => j2 e Z.W), Z.F⟩
theorem mem_get {m : GoMap Tx MI} {x : Tx × MI × Nat} (h : x ∈ m.l) : m.get x.1 = some x.2.1 := GoMap.get_iff.2 ⟨x.2.2, h⟩
/-- Which entries were found taken. -/
structure Vac (m : GoMap Tx MI) (files : Nat) (bs : List Bool) (seen : List Nat) : Prop where
 len : bs.length = files
 nd : seen.Nodup
 sub : ∀ t ∈ seen, t ∈ m.l.map (·.2.2)
 yes : ∀ x ∈ m.l, x.2.2 ∈ seen → bs[x.2.1.1]! = true
 of : ∀ e, e < files → bs[e]! = true → ∃ b q, m.get b = some q ∧ q.1 = e
theorem set_at {bs : List Bool} {m j : Nat} (hj : j < bs.length) : (bs.set m true)[j]! = if m = j then true else bs[j]! := by
 rw [getElem!_pos _ j (by rw [List.length_set]; exact hj), List.getElem_set, ← getElem!_pos bs j hj]
theorem set_true {bs : List Bool} {m j : Nat} (h : bs[j]! = true) : (bs.set m true)[j]! = true := by
 rcases Nat.lt_or_ge j bs.length with hj | hj
 · rw [set_at hj, h]; split <;> rfl
 · rw [List.getElem!_eq_getElem?_getD, List.getElem?_eq_none hj] at h; cases h
theorem Vac.lt {m : GoMap Tx MI} {bs : List Bool} {seen : List Nat} (h : Vac m files bs seen) {x : Tx × MI × Nat} (h1 : x ∈ m.l) (h2 : x.2.2 ∉ seen) : seen.length < m.l.length := by
 have hn : (seen ++ [x.2.2]).Nodup := by
  rw [List.nodup_append]
  exact ⟨h.nd, by simp, fun a ha b hb e => by rw [List.mem_singleton.1 hb] at e; exact h2 (e ▸ ha)⟩
 have := nodup_len hn (l' := m.l.map (·.2.2)) (fun t ht => by
  rcases List.mem_append.1 ht with ht | ht
  · exact h.sub t ht
  · rw [List.mem_singleton.1 ht]; exact List.mem_map_of_mem h1)
 rw [List.length_append, List.length_map] at this
 simp at this; omega
theorem Vac.step {m : GoMap Tx MI} {bs : List Bool} {seen : List Nat} (h : Vac m files bs seen) {x : Tx × MI × Nat} (h1 : x ∈ m.l) (h2 : x.2.2 ∉ seen) (hx : x.2.1.1 < files) : Vac m files (bs.set x.2.1.1 true) (seen ++ [x.2.2]) where
 len := by rw [List.length_set]; exact h.len
 nd := by
  rw [List.nodup_append]
  exact ⟨h.nd, by simp, fun a ha b hb e => by rw [List.mem_singleton.1 hb] at e; exact h2 (e ▸ ha)⟩
 sub := fun t ht => by
  rcases List.mem_append.1 ht with ht | ht
  · exact h.sub t ht
  · rw [List.mem_singleton.1 ht]; exact List.mem_map_of_mem h1
 yes := fun y hy hs => by
  rcases List.mem_append.1 hs with hs | hs
  · exact set_true (h.yes y hy hs)
  · have := GoMap.nodup_inj (f := fun x : Tx × MI × Nat => x.2.2) m.born hy h1 (List.mem_singleton.1 hs)
    subst this
    rw [set_at (by rw [h.len]; exact hx), if_pos rfl]
 of := fun e he hb => by
  by_cases hxe : x.2.1.1 = e
  · exact ⟨x.1, x.2.1, mem_get h1, hxe⟩
  · rw [set_at (by rw [h.len]; exact he), if_neg hxe] at hb
    exact h.of e he hb
set_option maxRecDepth 20000 in
set_option maxHeartbeats 1000000 in
theorem vacant_spec (hall : allM m ∈ R) (hf : files ≤ 1000) (hlt : ∀ b q, m.get b = some q → q.1 < files) (hfree : ∃ e, e < files ∧ ∀ b q, m.get b = some q → q.1 ≠ e)
 (hk : ∀ e : Nat, e < files → (∀ b q, m.get b = some q → q.1 ≠ e) → POST (.tuple #[.int .i64 (e : Int), .bool true]) R (stO s d l mb un files sp false m V D O)) :
 Fun Tryz.prog 35 #[dp s] R (stO s d l mb un files sp false m V D O) POST := by
 refine Fun.turn ?_
 refine Fun.know (φ := ∀ b q, m.get b = some q → OneV q.2.2.1) hall (fun w h b q hq => SlE.oneV (h b q hq)) fun hone => ?_
 refine Fun.enter (l := [_]) Tryz.func35 rfl Tryz.ntmps35 rfl (L0 := [(0, _)]) rfl ?_
 refine WC.seq ?_
 refine WC.region ?_
 refine WL.rd rfl rfl rfl (Rd.assign rfl rfl) ?_
 refine WL.rd rfl rfl rfl (Rd.assign rfl rfl) ?_
 refine WL.nil ?_
 refine thenQ.normal ?_
 refine WC.seq ?_
 refine WC.region ?_
 refine WL.rd rfl rfl rfl (Rd.move rfl rfl) ?_
 refine WL.rd rfl rfl rfl (Rd.nilc rfl rfl) ?_
 refine WL.rd rfl rfl rfl ((by exact Rd.field rfl F65_4 rfl rfl)) ?_
 refine WL.rd rfl rfl rfl (Rd.row1 (off := 5) (u := .int .i64 (files : Int)) rfl C3 rfl Z.M rfl) ?_
 refine WL.op rfl ?_
 refine OpW.make1 (z0 := vbl false) (m := files) (c := files) rfl S129 rfl rfl rfl rfl rfl (Nat.le_refl _) Z.W Z.W rfl rfl ?_; intro b12
 refine WL.heap (fun w h => Sat.accRow (enc := SL.one vbl) (size := 1) (m := files) (xs := List.replicate files false) Z.T (by rw [flat_one, List.map_replicate]) (by simp) (fun _ => rfl) Z.W h) ?_
 refine WL.rd rfl rfl rfl (Rd.assign rfl rfl) ?_
 refine WL.nil ?_
 refine thenQ.normal ?_
 refine WC.seq ?_
 refine WC.seq ?_
 refine WC.region ?_
 refine WL.rd rfl rfl rfl (Rd.move rfl rfl) ?_
 refine WL.rd rfl rfl rfl (Rd.nilc rfl rfl) ?_
 refine WL.rd rfl rfl rfl ((by exact Rd.field rfl F65_3 rfl rfl)) ?_
 refine WL.rd rfl rfl rfl (Rd.row1 (off := 4) (u := .map (some mb)) rfl C60 rfl Z.M rfl) ?_
 refine WL.op rfl ?_
 refine OpW.rangeMO (kenc := vs) (venc := miV) (m := m) M60 rfl rfl Z.M rfl rfl ?_; intro it
 refine WL.nil ?_
 refine thenQ.normal ?_
 refine WC.block ?_
 refine WC.pick [4, 17] Z.P ?_
 refine WC.loop2 0 (fun (bs : List Bool) (seen : List Nat) => []) (fun (bs : List Bool) (seen : List Nat) => iterC it mb m.clock seen :: accC 4 1 (SL.one vbl) (.slice (some ⟨b12, 0, none⟩) files files) bs :: stO s d l mb un files sp false m V D O) (fun (bs : List Bool) (seen : List Nat) => Vac m files bs seen) (fun (bs : List Bool) (seen : List Nat) => m.l.length - seen.length) (List.replicate files false) ([]) Z.L ?hinv1 (by repeat (first | exact Sub.nil | refine Sub.cons rfl (by rfl) ?_)) (fun _ h => h) ?_
 case hinv1 =>
  exact ⟨by simp, List.nodup_nil, fun t h => (by cases h), fun x _ h => (by cases h), fun e he h => by simp [he] at h⟩
 intro bs seen
 rintro ⟨i1, i2, i3, i4, i5⟩
 refine WC.seq ?_
 refine WC.region ?_
 refine WL.op rfl ?_
 refine OpW.nextMO (kenc := vs) (venc := miV) (m := m) (seen := seen) rfl rfl Z.M Z.T rfl rfl ?_; intro r hr
 refine WL.rd rfl rfl rfl (Rd.stepOn rfl rfl) ?_
 refine WL.nil ?_
 refine thenQ.normal ?_
 refine WC.seq ?_
 refine WC.ite rfl (fun hc1 => ?_) (fun hc1 => ?_)
 ·
  obtain ⟨x, rfl⟩ := Option.isSome_iff_exists.1 hc1
  refine WC.skip ?_
  refine thenQ.normal ?_
  refine WC.block ?_
  refine WC.seq ?_
  refine WC.region ?_
  refine WL.op rfl ?_
  refine OpW.rd rfl rfl (Rd.entryMO (kenc := vs) (venc := miV) (m := m) (q := x) (seen := seen) rfl rfl Z.M Z.M hr.1 rfl) ?_
  have hxg := mem_get hr.1
  have hx1 := hone _ _ hxg
  have hxe := hlt _ _ hxg
  refine WL.rd rfl rfl rfl (Rd.extract rfl rfl rfl) ?_
  refine WL.op rfl ?_
  refine OpW.alloc rfl I79 rfl Z.N rfl rfl ?_; intro b6
  refine WL.op rfl ?_
  refine OpW.storeS (h1 := by simp only [List.all_cons, List.all_nil, hx1.one]; rfl) rfl G79 rfl rfl Z.N Z.T rfl rfl Z.N rfl ?_
  refine WL.nil ?_
  refine thenQ.normal ?_
  refine WC.region ?_
  refine WL.rd rfl rfl rfl (Rd.move rfl rfl) ?_
  refine WL.rd rfl rfl rfl ((by exact Rd.field rfl F79_0 rfl rfl)) ?_
  refine WL.rd rfl rfl rfl ((by exact Rd.row1 rfl C3 rfl Z.M (by rfl))) ?_
  refine WL.rd rfl rfl rfl (Rd.idxA1 (enc := SL.one vbl) (xs := bs) (k := x.2.1.1) rfl S129 rfl rfl rfl Z.M Z.W) ?_
  refine WL.op rfl ?_
  refine OpW.storeAcc (k := x.2.1.1) (a := true) rfl Z4 rfl rfl rfl rfl Z.T Z.W rfl ?_
  refine WL.nil ?_
  refine blockQ.normal ?_
  exact loopQ2.mk (bs.set x.2.1.1 true) (seen ++ [x.2.2]) (Vac.step ⟨i1, i2, i3, i4, i5⟩ hr.1 hr.2 hxe) (by have := Vac.lt ⟨i1, i2, i3, i4, i5⟩ hr.1 hr.2; rw [List.length_append]; simp; omega) (by repeat (first | exact Sub.nil | refine Sub.cons rfl (by rfl) ?_)) Z.F
 ·
  obtain rfl : r = none := by
   cases r with
   | some x => exact absurd rfl hc1
   | none => rfl
  have hall2 : ∀ x ∈ m.l, x.2.2 ∈ seen := hr
  refine WC.exit ?_
  refine thenQ.exit ?_
  refine loopQ2.exit ?_
  refine blockQ.exit ?_
  refine thenQ.normal ?_
  refine WC.seq ?_
  refine WC.region ?_
  refine WL.rd rfl rfl rfl (Rd.move rfl rfl) ?_
  refine WL.op rfl ?_
  refine OpW.call rfl rfl Z.E Z.K rfl rfl rfl ?_
  refine indexB_spec (bs := bs) Z.M Z.W (fun e he hb => ?_) (fun h => (by
   obtain ⟨e, h1, h2⟩ := hfree
   obtain ⟨b, q, h3, h4⟩ := i5 e h1 (h e Z.W)
   exact absurd h4 (h2 b q h3)))
  refine WL.rd rfl rfl rfl (Rd.assign rfl rfl) ?_
  refine WL.nil ?_
  refine thenQ.normal ?_
  refine WC.seq ?_
  refine WC.region ?_
  refine WL.rd rfl rfl rfl (Rd.move rfl rfl) ?_
  refine WL.rd rfl rfl rfl (Rd.move rfl rfl) ?_
  refine WL.rd rfl rfl rfl (Rd.geq rfl rfl rfl) ?_
  refine WL.rd rfl rfl rfl (Rd.assign rfl rfl) ?_
  refine WL.rd rfl rfl rfl (Rd.assign rfl rfl) ?_
  refine WL.nil ?_
  refine thenQ.normal ?_
  refine WC.ret (Ret.two Tryz.results35 rfl rfl ?_)
  refine ⟨_, _, hk e Z.W (fun b q hq hqe => ?_), ?_⟩
  · obtain ⟨n', hn'⟩ := GoMap.get_iff.1 hq
    have := i4 _ hn' (hall2 _ hn')
    simp only at this
    rw [hqe, hb] at this
    cases this
  · exact Z.F
end
end Go.Proofs.YtckokhdjeifomaaGreatDoor
namespace Go.Proofs.YtckokhdjeifomaaGreatDoor
open Go Go.SL
section
variable {R : List RO} {O : List Own} {POST : Value → List RO → List Own → Prop} {s d l mb un files k : Nat} {sp : Nat → Bool} {m : GoMap Tx MI} {V : DV} {D : DSt}
set_option maxRecDepth 20000 in
theorem keysF_spec {b : Nat} (hk : ∀ cb, POST (.func (.func 86) #[] #[.pointer (some ⟨cb, 0, none⟩)]) R (rowC cb 60 [.map (some b)] :: O)) : Fun Tryz.prog 55 #[.map (some b)] R O POST := by
 refine Fun.enter (l := [_]) Tryz.func55 rfl Tryz.ntmps55 rfl (L0 := [(0, _)]) rfl ?_
 refine WC.seq ?_
 refine WC.region ?_
 refine WL.op rfl ?_
 refine OpW.box1 rfl rfl (by exact ⟨rfl, rfl⟩) rfl rfl ?_; intro b1
 refine WL.rd rfl rfl rfl (Rd.assign rfl rfl) ?_
 refine WL.nil ?_
 refine thenQ.normal ?_
 refine WC.seq ?_
 refine WC.region ?_
 refine WL.rd rfl rfl rfl (Rd.func rfl Z.E Z.E ⟨_, rfl⟩) ?_
 refine WL.rd rfl rfl rfl (Rd.assign rfl rfl) ?_
 refine WL.nil ?_
 refine thenQ.normal ?_
 refine WC.ret (Ret.one Tryz.results55 rfl ?_)
 exact hk b1
theorem sorts_at (m : Nat) : AnyZ.SortsIn Tryz.prog Tryz.sorted54_ren Fence.wide m :=
 ⟨fun blk off cap ss W hH hblk hsz => callsIn_wide.2 (AnyM.slices_Sort_string Tryz.sort85 blk off cap ss W hH hblk hsz),
  fun p cap W => callsIn_wide.2 (AnyM.slices_Sort_string_none Tryz.sort85 p cap W)⟩
theorem sortedKeys_at (b nn cb : Nat) (D0 : DataW Unit) (w : World) (hcb : cb < w.heap.size) (hm : w.cell? ⟨cb, 0, none⟩ = some (.map (some b))) (hown : w.ownsMap Tryz.prog 9 constR b nn D0) (hmax : Go.Maps.size D0 ≤ maxLen) (hbytes : Go.Maps.size D0 * 16 ≤ 140737488355328) :
 Calls Tryz.prog 54 #[.func (.func 86) #[] #[.pointer (some ⟨cb, 0, none⟩)]] w fun e w' => ∃ (v : Value) (ss : List (List UInt8)), e = .returned v ∧ ss.Perm (strKeys D0) ∧
  w'.ownsRow w.heap.size 9 1 v ss.length ((ss.mergeSort (fun x y => decide (x ≤ y))).map encStr) ∧ (v = .slice none 0 0 ↔ ss = []) ∧ Go.RowKit.Below w.heap.size w w' := by
 have hseq : SeqGives Fence.wide 2 Tryz.prog 86 #[.pointer (some ⟨cb, 0, none⟩)] encStr (fun ss => ss.Perm (strKeys D0)) (Go.Maps.size D0) w :=
  AnyZ.keys_gives (ρ := Tryz.keys55_ren) { Tryz.keys55 with } Fence.wide _ trivial rfl Z.W cb b nn D0 w hcb hm hown
 exact callsIn_wide.1 (AnyZ.sorted_in Tryz.sorted54 Fence.wide 5 trivial trivial trivial trivial rfl Z.W (sorts_at _) (enters_of Tryz.func85 Z.K rfl) 86 #[.pointer (some ⟨cb, 0, none⟩)] trivial (enters_of Tryz.func86 Z.K rfl) _ _ hmax hbytes _ hseq)
theorem sortedF_spec {b cb : Nat} {m : GoMap (List UInt8) MI} (hm : mapC vs miV b m ∈ O) (hc : rowC cb 60 [.map (some b)] ∈ O) (hsz : m.l.length ≤ 1000000) (hl : ∀ k ∈ m.ks, k.length ≤ maxLen)
 (hk : ∀ v ks, Asc ks → (∀ k, k ∈ ks ↔ k ∈ m.ks) → ks.length = m.l.length → POST v R (accC 9 1 (SL.one vs) v ks :: O)) : Fun Tryz.prog 54 #[.func (.func 86) #[] #[.pointer (some ⟨cb, 0, none⟩)]] R O POST := by
 refine Fun.sortedKeys (venc := miV) (m := m) (fun w hs => ?_) Tryz.underlying9 hl hk
 have hcell := row_cell (hs.see hc) (j := 0) rfl
 have h1 : m.l.length ≤ maxLen := by show _ ≤ 9223372036854775807; omega
 exact sortedKeys_at b _ cb _ w (World.block_lt_of_cell? w _ hcell) hcell (ownsMap_of Tryz.underlying9 (show mapP vs miV b m w from hs.see hm) h1 hl) (by rw [mapD_size]; exact h1) (by rw [mapD_size]; omega)
set_option maxRecDepth 20000 in
theorem names_spec (hsz : m.l.length ≤ 1000000) (hl : ∀ k ∈ m.ks, k.length ≤ maxLen)
 (hk : ∀ v ks, Asc ks → (∀ k, k ∈ ks ↔ k ∈ m.ks) → ks.length = m.l.length → POST v (SlE (SL.one vs) v ks :: R) (stO s d l mb un files sp false m V D O)) :
 Fun Tryz.prog 24 #[dp s] R (stO s d l mb un files sp false m V D O) POST := by
 refine Fun.turn ?_
 refine Fun.enter (l := [_]) Tryz.func24 rfl Tryz.ntmps24 rfl (L0 := [(0, _)]) rfl ?_
 refine WC.seq ?_
 refine WC.region ?_
 refine WL.rd rfl rfl rfl (Rd.assign rfl rfl) ?_
 refine WL.nil ?_
 refine thenQ.normal ?_
 refine WC.seq ?_
 refine WC.seq ?_
 refine WC.region ?_
 refine WL.rd rfl rfl rfl (Rd.move rfl rfl) ?_
 refine WL.rd rfl rfl rfl (Rd.peqN rfl Tryz.underlying30 rfl rfl) ?_
 refine WL.say 4 (u := .bool (decide False)) rfl (by simp) ?_
 refine WL.nil ?_
 refine thenQ.normal ?_
 refine WC.ite rfl (fun hc1 => ?_) (fun hc1 => ?_)
 ·
  exact hc1.elim
 ·
  refine WC.skip ?_
  refine thenQ.normal ?_
  refine WC.seq ?_
  refine WC.region ?_
  refine WL.rd rfl rfl rfl (Rd.move rfl rfl) ?_
  refine WL.rd rfl rfl rfl (Rd.nilc rfl rfl) ?_
  refine WL.rd rfl rfl rfl ((by exact Rd.field rfl F65_3 rfl rfl)) ?_
  refine WL.rd rfl rfl rfl (Rd.row1 (off := 4) (u := .map (some mb)) rfl C60 rfl Z.M rfl) ?_
  refine WL.op rfl ?_
  refine OpW.call rfl rfl Z.E Z.K rfl rfl rfl ?_
  refine keysF_spec ?_; intro b9
  refine WL.op rfl ?_
  refine OpW.call rfl rfl Z.E Z.K rfl rfl rfl ?_
  refine sortedF_spec (b := mb) (cb := b9) (m := m) Z.M Z.M hsz hl ?_; intro v10 ks h1 h2 h3
  refine WL.rd rfl rfl rfl (Rd.assign rfl rfl) ?_
  refine WL.nil ?_
  refine thenQ.normal ?_
  refine WC.heap (fun w h => Sat.shareA (e := 9) (size := 1) (enc := SL.one vs) (xs := ks) (v := v10) Z.T h) ?_
  refine WC.ret (Ret.one Tryz.results24 rfl ?_)
  exact ⟨_, _, hk v10 ks h1 h2 h3, Z.F⟩
theorem readS_take {L : List Tx} {l : List Nat} {j : Nat} (h : j < l.length) : readS L (l.take (j + 1)) = readS L (l.take j) ++ L[l[j]!]! := by
 rw [List.take_add_one, get!_of_lt h, readS_app]
 show _ ++ readS L [l[j]!] = _
 rw [readS_one]
set_option maxRecDepth 20000 in
set_option maxHeartbeats 2000000 in
theorem read_file {n : Nat} {name : Tx} {q : MI} (hmg : m.get name = some q) (hi : Mnt n files (fsOf m) sp D) (hfs : files ≤ 256) (dk : Dk D k) (hk0 : k ≤ 4294967296) (hall : allM m ∈ R)
 (hk : POST (.tuple #[vs (contE D.lasts (7 + files) (miI q)), .int .i64 0]) R (stO s d l mb un files sp false m V D O)) :
 Fun Tryz.prog 25 #[dp s, vs name] R (stO s d l mb un files sp false m V D O) POST := by
 refine Fun.turn ?_
 rw [contE_eq] at hk
 have hF : fsOf m name = some (miI q) := by unfold fsOf; rw [hmg]; rfl
 have hio := hi.inv.fok.ok name _ hF
 have hn := hio.n
 have hxl := hio.len
 have hsec : ∀ i ∈ secE (7 + files) q.2.2.2, 7 + files ≤ i ∧ i < D.lasts.length := sec_lt hi.inv hF
 have hlen := hi.inv.len
 have hsl : (secE (7 + files) q.2.2.2).length = needsE q.2.1 := by rw [sec_len]; exact hio.sum
 have hn' : q.2.1 ≤ 1048576 := hn
 have hlen2 : ∀ j, j ≤ (secE (7 + files) q.2.2.2).length → (readS D.lasts ((secE (7 + files) q.2.2.2).take j)).length = 512 * j := fun j hj => by
  rw [readS_len hi.inv.w (fun i h => (hsec i (List.mem_of_mem_take h)).2), List.length_take, Nat.min_eq_left hj]
 refine Fun.enter (l := [_, _]) Tryz.func25 rfl Tryz.ntmps25 rfl (L0 := [(0, _), (1, _)]) rfl ?_
 refine WC.seq ?_
 refine WC.region ?_
 refine WL.rd rfl rfl rfl (Rd.assign rfl rfl) ?_
 refine WL.rd rfl rfl rfl (Rd.assign rfl rfl) ?_
 refine WL.nil ?_
 refine thenQ.normal ?_
 refine WC.seq ?_
 refine WC.know (p := allM m) hall (φ := OneV q.2.2.1) (fun w h => SlE.oneV (h name q hmg)) ?_
 intro hone
 refine WC.region ?_
 refine WL.rd rfl rfl rfl (Rd.move rfl rfl) ?_
 refine WL.rd rfl rfl rfl (Rd.move rfl rfl) ?_
 refine WL.op rfl ?_
 refine OpW.call rfl rfl Z.E Z.K rfl rfl rfl ?_
 refine find_some hmg hio.good hi.cl.off hall ?_
 refine WL.rd rfl rfl rfl (Rd.move rfl rfl) ?_
 refine WL.rd rfl rfl rfl (Rd.extract rfl rfl rfl) ?_
 refine WL.rd rfl rfl rfl (Rd.extract rfl rfl rfl) ?_
 refine WL.op rfl ?_
 refine OpW.alloc rfl I79 rfl Z.N rfl rfl ?_; intro b6
 refine WL.op rfl ?_
 refine OpW.storeS (h1 := by simp only [List.all_cons, List.all_nil, hone.one]; rfl) rfl G79 rfl rfl Z.N Z.T rfl rfl Z.N rfl ?_
 refine WL.rd rfl rfl rfl (Rd.assign rfl rfl) ?_
 refine WL.nil ?_
 refine thenQ.normal ?_
 refine WC.seq ?_
 refine WC.seq ?_
 refine WC.region ?_
 refine WL.rd rfl rfl rfl (Rd.move rfl rfl) ?_
 refine WL.rd rfl rfl rfl (Rd.neq rfl rfl rfl) ?_
 refine WL.nil ?_
 refine thenQ.normal ?_
 refine WC.ite rfl (fun hc1 => ?_) (fun hc1 => ?_)
 ·
  exact absurd rfl hc1
 ·
  refine WC.skip ?_
  refine thenQ.normal ?_
  refine WC.seq ?_
  refine WC.region ?_
  refine WL.op rfl ?_
  refine OpW.alloc rfl I113 rfl Z.N rfl rfl ?_; intro b8
  refine WL.nil ?_
  refine thenQ.normal ?_
  refine WC.seq ?_
  refine WC.seq ?_
  refine WC.region ?_
  refine WL.rd rfl rfl rfl (Rd.move rfl rfl) ?_
  refine WL.rd rfl rfl rfl ((by exact Rd.field rfl F79_2 rfl rfl)) ?_
  refine WL.rd rfl rfl rfl ((by exact Rd.row1 rfl C77 rfl Z.M (by rfl))) ?_
  refine WL.op rfl ?_
  refine OpW.call rfl rfl Z.E Z.K rfl rfl rfl ?_
  refine sectors_spec (files := files) (xs := q.2.2.2) Z.M Z.M rfl Z.W (by have : q.2.2.2.length ≤ 64 := hxl; omega) (fun x hx => (hio.ext x hx).2) ?_; intro v25
  refine WL.rd rfl rfl rfl (Rd.lenE (enc := SL.one vi) (xs := secI (secE (7 + files) q.2.2.2)) rfl rfl Tryz.underlying23 Z.M) ?_
  refine WL.say 26 (u := .int .i64 ((secE (7 + files) q.2.2.2).length : Int)) rfl (by rw [secI_len]) ?_
  refine WL.rd rfl rfl rfl (Rd.move rfl rfl) ?_
  refine WL.heap (fun w h => (h.accNil (α := UInt8) (e := 5) (size := 1) (enc := SL.one vy))) ?_
  refine WL.nil ?_
  refine thenQ.normal ?_
  refine WC.block ?_
  refine WC.pick [27, 0, 6, 8, 25, 26] Z.P ?_
  refine WC.loop3 1 (fun (j : Nat) (p : Value) (v : Value) => [(27, .int .i64 (j : Int))]) (fun (j : Nat) (p : Value) (v : Value) => rowC b8 113 [p, v] :: accC 5 1 (SL.one vy) v (readS D.lasts ((secE (7 + files) q.2.2.2).take j)) :: rowC b6 79 (inoCs q.1 q.2.1 q.2.2.1) :: stO s d l mb un files sp false m V D O) (fun (j : Nat) (p : Value) (v : Value) => j ≤ (secE (7 + files) q.2.2.2).length ∧ (p = .pointer none ∨ p = pself b8 0)) (fun (j : Nat) (p : Value) (v : Value) => (secE (7 + files) q.2.2.2).length - j) (0) (.pointer none) (.slice none 0 0) Z.L ?hinv1 (by repeat (first | exact Sub.nil | refine Sub.cons rfl (by rfl) ?_)) (fun w h => by rw [show readS D.lasts ((secE (7 + files) q.2.2.2).take 0) = [] from rfl]; exact Z.Fw h) ?_
  case hinv1 =>
   exact ⟨Nat.zero_le _, .inl rfl⟩
  intro j p v
  rintro ⟨j1, j2⟩
  refine WC.seq ?_
  refine WC.region ?_
  refine WL.rd rfl rfl rfl (Rd.lss rfl rfl rfl) ?_
  refine WL.nil ?_
  refine thenQ.normal ?_
  refine WC.seq ?_
  refine WC.ite rfl (fun hc2 => ?_) (fun hc2 => ?_)
  ·
   have hnx := readS_take (L := D.lasts) (l := secE (7 + files) q.2.2.2) (j := j) Z.W
   have hsj := hsec _ (get!_mem (l := secE (7 + files) q.2.2.2) (i := j) Z.W)
   have hra := read_at hi.cl.off hi.cl.since hsj.2
   have hlj := hlen2 j j1
   have hwj : (D.lasts[(secE (7 + files) q.2.2.2)[j]!]!).length = 512 := by rw [getElem!_pos D.lasts _ hsj.2]; exact hi.inv.w _ (List.getElem_mem _)
   have hnl : needsE q.2.1 ≤ 2048 := by unfold needsE; omega
   refine WC.skip ?_
   refine thenQ.normal ?_
   refine WC.seq ?_
   refine WC.block ?_
   refine WC.seq ?_
   refine WC.region ?_
   refine WL.rd rfl rfl rfl (Rd.idx1 (enc := SL.one vi) (xs := secI (secE (7 + files) q.2.2.2)) (k := j) rfl S23 rfl rfl rfl Z.M (by rw [secI_len]; omega)) ?_
   refine WL.rd rfl rfl rfl (Rd.get (g := vi) (xs := secI (secE (7 + files) q.2.2.2)) (k := j) (a := (((secE (7 + files) q.2.2.2)[j]! : Nat) : Int)) rfl C3 rfl Z.M (secI_get Z.W)) ?_
   refine WL.rd rfl rfl rfl (Rd.assign rfl rfl) ?_
   refine WL.nil ?_
   refine thenQ.normal ?_
   refine WC.seq ?_
   refine WC.region ?_
   refine WL.rd rfl rfl rfl (Rd.move rfl rfl) ?_
   refine WL.rd rfl rfl rfl (Rd.nilc rfl rfl) ?_
   refine WL.rd rfl rfl rfl ((by exact Rd.field rfl F65_0 rfl rfl)) ?_
   refine WL.rd rfl rfl rfl (Rd.row1 (off := 0) (u := dp d) rfl C25 rfl (b := s) Z.M rfl) ?_
   refine WL.rd rfl rfl rfl (Rd.move rfl rfl) ?_
   refine WL.op rfl ?_
   refine OpW.call rfl rfl Z.E Z.K rfl rfl rfl ?_
   refine Fun.heap (R' := SlE (SL.one vi) v25 (secI (secE (7 + files) q.2.2.2)) :: SlE encX q.2.2.1 q.2.2.2 :: R) (O' := dO d V D (rowC b8 113 [p, v] :: accC 5 1 (SL.one vy) v (readS D.lasts ((secE (7 + files) q.2.2.2).take j)) :: rowC b6 79 (inoCs q.1 q.2.1 q.2.2.1) :: stRow s d l mb un files sp false :: mapC vs miV mb m :: O)) Z.F ?_
   refine read_spec (dk.ok.mono Z.W) ?_
   rw [hra]
   dsimp only
   refine WL.rd rfl rfl rfl (Rd.move rfl rfl) ?_
   refine WL.rd rfl rfl rfl (Rd.extract rfl rfl rfl) ?_
   refine WL.rd rfl rfl rfl (Rd.extract rfl rfl rfl) ?_
   refine WL.rd rfl rfl rfl (Rd.assign rfl rfl) ?_
   refine WL.rd rfl rfl rfl (Rd.assign rfl rfl) ?_
   refine WL.nil ?_
   refine thenQ.normal ?_
   refine WC.seq ?_
   refine WC.seq ?_
   refine WC.region ?_
   refine WL.rd rfl rfl rfl (Rd.move rfl rfl) ?_
   refine WL.rd rfl rfl rfl (Rd.neq rfl rfl rfl) ?_
   refine WL.nil ?_
   refine thenQ.normal ?_
   refine WC.ite rfl (fun hc3 => ?_) (fun hc3 => ?_)
   ·
    exact absurd rfl hc3
   ·
    refine WC.skip ?_
    refine thenQ.normal ?_
    refine WC.region ?_
    refine WL.rd rfl rfl rfl (Rd.move rfl rfl) ?_
    refine WL.op rfl ?_
    refine OpW.call rfl rfl Z.E Z.K rfl rfl rfl ?_
    refine Fun.heap (R' := SlE (SL.one vi) v25 (secI (secE (7 + files) q.2.2.2)) :: SlE encX q.2.2.1 q.2.2.2 :: R) (O' := rowC b8 113 [p, v] :: accC 5 1 (SL.one vy) v (readS D.lasts ((secE (7 + files) q.2.2.2).take j)) :: rowC b6 79 (inoCs q.1 q.2.1 q.2.2.1) :: stO s d l mb un files sp false m V D O) Z.F ?_
    refine bws_spec (off := 0) j2 rfl rfl Z.K Z.W ?_; intro v44 hv44
    refine WL.nil ?_
    refine blockQ.normal ?_
    refine thenQ.normal ?_
    refine WC.region ?_
    refine WL.rd rfl rfl rfl (Rd.add rfl rfl rfl Z.W) ?_
    refine WL.rd rfl rfl rfl (Rd.move rfl rfl) ?_
    refine WL.heap (fun w h => (h.accNil (α := UInt8) (e := 5) (size := 1) (enc := SL.one vy))) ?_
    refine WL.nil ?_
    exact loopQ3.mk (j + 1) (pself b8 0) v44 ⟨by omega, .inr rfl⟩ Z.W (by repeat (first | exact Sub.nil | refine Sub.cons rfl (by rfl) ?_)) (fun w h => by rw [hnx]; exact Z.Fw h)
  ·
   obtain rfl : j = (secE (7 + files) q.2.2.2).length := by omega
   have hlj := hlen2 _ (Nat.le_refl (secE (7 + files) q.2.2.2).length)
   rw [List.take_length] at hlj ⊢
   have hnl : q.2.1 ≤ 512 * needsE q.2.1 := by unfold needsE; omega
   refine WC.exit ?_
   refine thenQ.exit ?_
   refine loopQ3.exit ?_
   refine blockQ.exit ?_
   refine thenQ.normal ?_
   refine WC.seq ?_
   refine WC.drawn (rowC b6 79 (inoCs q.1 q.2.1 q.2.2.1) :: O) 6 rfl mixed ?_
   refine WD.take 1 rfl Z.K Z.H rfl rfl rfl ((by exact Rd.field rfl F79_1 rfl rfl)) ?_
   refine WD.take 2 rfl Z.K Z.H rfl rfl rfl ((by exact Rd.row1 rfl C3 rfl Z.M (by rfl))) ?_
   refine WD.one 0 rfl Z.K rfl ?_
   refine OpW.call rfl rfl Z.E Z.K rfl rfl rfl ?_
   refine bstr_spec (off := 0) rfl ?_
   refine ⟨Z.H, ?_⟩
   refine WD.take 3 rfl Z.K Z.H rfl rfl rfl (Rd.scut_h (hi := q.2.1) rfl Tryz.underlying9 rfl rfl rfl Z.W) ?_
   refine WD.take 4 rfl Z.K Z.H rfl rfl rfl (Rd.assign rfl rfl) ?_
   refine WD.take 5 rfl Z.K Z.H rfl rfl rfl (Rd.assign rfl rfl) ?_
   refine WD.done Z.K ?_
   refine thenQ.normal ?_
   refine WC.ret (Ret.two Tryz.results25 rfl rfl ?_)
   exact ⟨_, _, hk, Z.F⟩
end
end Go.Proofs.YtckokhdjeifomaaGreatDoor
namespace Go.SL
open Go Go.MapKept
theorem OpW.insertM {κ β : Type} [DecidableEq κ] {kenc : κ → Value} {venc : β → Value} {P : Program} {n : Sz} {o : Oper} {L : Env} {R : List RO} {O O' : List Own} {K : Env → List RO → List Own → Prop} {t kt et : TypeId} {z : Value} {x y u : Operand} {m : GoMap κ β} {b : Nat} {k : κ} {kv : Value} {v : β} {vv : Value} (T : MapT P t kt et z) (KT : KeyT P kt kenc) (ho : o.op = .insert t x y u) (hx : ev L x = some (.map (some b))) (hy : ev L y = some kv) (hu : ev L u = some vv) (hT : Take (mapC kenc venc b m) O O') (hk : kenc k = kv) (hv : venc v = vv) (hd : o.dst = none)
 (c : K L R (mapC kenc venc b (m.set k v) :: O')) : OpW P n o L R O K := by
 intro a w hf hs Q
 have hs' := hs.perm hT.perm
 have hp : mapP kenc venc b m w := hs'.see List.mem_cons_self
 unfold Oper.wp
 have hr : (execOp a.eval o).run P w = .ok .skip { w with heap := w.heap.setIfInBounds b (.map ((m.set k v).l.map (ent kenc venc)).toArray (m.set k v).clock) } := by
  simp only [execOp, ho, Sem.run_bind, hf.ev hx, hf.ev hy, hf.ev hu, ← hk, ← hv, run_update T KT hp, Result.andThen_ok, Sem.run_pure]
 rw [hr, Oper.upon_skip, hd]
 exact ⟨_, _, _, c, hf.none _, map_put hs' _ hp⟩
end Go.SL
namespace Go.Proofs.YtckokhdjeifomaaGreatDoor
open Go Go.SL
/-- The entries that a map says, in the order of some keys. -/
def chOf (cm : GoMap Int Tx) (ks : List Int) : List (Nat × Tx) := ks.map fun k => (k.toNat, (cm.get k).getD [])
theorem chOf_next {cm : GoMap Int Tx} {ks : List Int} {j : Nat} (h : j < ks.length) : chOf cm (ks.take (j + 1)) = chOf cm (ks.take j) ++ [(ks[j]!.toNat, (cm.get ks[j]!).getD [])] := by
 rw [List.take_add_one, get!_of_lt h]; unfold chOf; rw [List.map_append]; rfl
theorem setlC_next {bs : Tx} {ch : List (Nat × Tx)} {c : Nat × Tx} : setlC bs (ch ++ [c]) = setlC bs ch ++ [entC c] := by
 unfold setlC; rw [List.map_append]; rfl
theorem setlC_len (bs : Tx) (ch : List (Nat × Tx)) : (setlC bs ch).length = ch.length + 1 := by unfold setlC; rw [List.length_cons, List.length_map]
theorem Room1 {n bytes : Nat} (h : n ≤ 100000 ∧ bytes ≤ 100000) : Room (n + 1) bytes := ⟨by show _ ≤ 9223372036854775807; omega, by have : (n + 1) * bytes ≤ 100001 * 100000 := Nat.mul_le_mul Z.W h.2; omega⟩
section
variable {R : List RO} {O : List Own} {POST : Value → List RO → List Own → Prop} {s d l mb un files k : Nat} {sp : Nat → Bool} {m : GoMap Tx MI} {V : DV} {D : DSt}
set_option maxRecDepth 20000 in
set_option maxHeartbeats 4000000 in
theorem settle_spec {cb : Nat} {cm : GoMap Int Tx} {sp' : Nat → Bool} (ht : tabR ∈ R) (hlog : logR l d ((2 + files : Nat) : Int) 5 ∈ R) (hcm : mapP kI vs cb cm ∈ R) (hc1 : 1 ≤ cm.l.length ∧ cm.l.length ≤ 3) (hck : ∀ x ∈ cm.ks, 0 ≤ x ∧ x < 5000)
 (hfit : fitsB D ((2 + files : Nat) : Int) 5 = true) (dk : Dk D k) (hm : k ≤ 4294950000) (hv : VOk V D) (hkeep : SlE (SL.one vi) V.kv D.keep ∈ R)
 (hk0 : ∀ ks V', ks.Perm cm.ks → (commitE D ((2 + files : Nat) : Int) 5 (setlC (spB un sp') (chOf cm ks))).2 = 0 → VOk V' (commitE D ((2 + files : Nat) : Int) 5 (setlC (spB un sp') (chOf cm ks))).1 → V'.kv = V.kv → POST (.int .i64 0) R (stO s d l mb un files sp' false m V' (commitE D ((2 + files : Nat) : Int) 5 (setlC (spB un sp') (chOf cm ks))).1 O))
 (hk1 : ∀ ks V', ks.Perm cm.ks → (commitE D ((2 + files : Nat) : Int) 5 (setlC (spB un sp') (chOf cm ks))).2 ≠ 0 → VOk V' (commitE D ((2 + files : Nat) : Int) 5 (setlC (spB un sp') (chOf cm ks))).1 → V'.kv = V.kv → POST (.int .i64 ((commitE D ((2 + files : Nat) : Int) 5 (setlC (spB un sp') (chOf cm ks))).2 : Nat)) R (stO s d l mb un files sp true m V' (commitE D ((2 + files : Nat) : Int) 5 (setlC (spB un sp') (chOf cm ks))).1 O)) :
 Fun Tryz.prog 62 #[dp s, spV un sp', .map (some cb)] R (stO s d l mb un files sp false m V D O) POST := by
 refine Fun.turn ?_
 have hnil : ∀ xs : List Int, xs.Perm cm.ks → xs.length = cm.l.length := fun xs h => by rw [h.length_eq]; simp [GoMap.ks]
 refine Fun.enter (l := [_, _, _]) Tryz.func62 rfl Tryz.ntmps62 rfl (L0 := [(0, _), (1, _), (2, _)]) rfl ?_
 refine WC.seq ?_
 refine WC.region ?_
 refine WL.op rfl ?_
 refine OpW.box rfl rfl Z.N rfl rfl ?_; intro b4
 refine WL.rd rfl rfl rfl (Rd.assign rfl rfl) ?_
 refine WL.nil ?_
 refine thenQ.normal ?_
 refine WC.seq ?_
 refine WC.region ?_
 refine WL.rd rfl rfl rfl ((by exact Rd.rowS rfl G63 rfl Z.M Z.N rfl)) ?_
 refine WL.op rfl ?_
 refine OpW.call rfl rfl Z.E Z.K rfl rfl rfl ?_
 refine spBytes_spec ?_
 refine WL.rd rfl rfl rfl (Rd.buildN (ps := [(0, _), (1, _)]) rfl Bs145 I145 rfl Z.E Z.C (by apply NFo.mk; repeat (first | exact NF.nil | apply NF.cons))) ?_
 refine WL.op rfl ?_
 refine OpW.buildSl (ps := [(0, _)]) rfl S99 Z.E rfl rfl Z.C Z.K rfl rfl rfl ?_; intro b14
 refine WL.heap (fun w h => Sat.accRow (enc := encC) (size := 2) (m := 1) (xs := [((1 : Int), spB un sp')]) Z.T rfl rfl (fun _ => rfl) Z.W h) ?_
 refine WL.rd rfl rfl rfl (Rd.assign rfl rfl) ?_
 refine WL.nil ?_
 refine thenQ.normal ?_
 refine WC.seq ?_
 refine WC.seq ?_
 refine WC.region ?_
 refine WL.rd rfl rfl rfl (Rd.move rfl rfl) ?_
 refine WL.op rfl ?_
 refine OpW.call rfl rfl Z.E Z.K rfl rfl rfl ?_
 refine keysI_spec ?_; intro b16
 refine WL.op rfl ?_
 refine OpW.call rfl rfl Z.E Z.K rfl rfl rfl ?_
 refine sorted_it (keysI_it (cb := b16) hcm) Z.K Z.W (fun xs h => ⟨by rintro rfl; have := hnil [] h; simp at this; omega, by rw [hnil xs h]; omega⟩) (fun c hc => by rw [List.mem_singleton] at hc; subst hc; exact Z.M) ?_; intro v17 xs hxs
 have hksp : (srt xs).Perm cm.ks := (List.mergeSort_perm _ _).trans hxs
 have hksl := hnil _ hksp
 have hmem : ∀ x ∈ srt xs, x ∈ cm.ks := fun x hx => hksp.mem_iff.1 hx
 obtain ⟨ks, hks⟩ : ∃ ks, ks = srt xs := ⟨_, rfl⟩
 rw [← hks] at hksp hksl hmem ⊢
 refine WL.rd rfl rfl rfl (Rd.lenA (enc := SL.one vi) (xs := ks) rfl rfl Tryz.underlying23 Z.M) ?_
 refine WL.rd rfl rfl rfl (Rd.move rfl rfl) ?_
 refine WL.nil ?_
 refine thenQ.normal ?_
 refine WC.block ?_
 refine WC.pick [19, 7, 0, 2, 4, 17, 18] Z.P ?_
 refine WC.loop2 2 (fun (j : Nat) (v : Value) => [(19, .int .i64 (j : Int)), (7, v)]) (fun (j : Nat) (v : Value) => accC 145 2 encC v (setlC (spB un sp') (chOf cm (ks.take j))) :: accI v17 ks :: rowC b4 63 (spCs un sp') :: stO s d l mb un files sp false m V D O) (fun (j : Nat) (v : Value) => j ≤ ks.length ∧ OneV v) (fun (j : Nat) (v : Value) => ks.length - j) (0) (.slice (some ⟨b14, 0, none⟩) 1 1) Z.L ?hinv1 (by repeat (first | exact Sub.nil | refine Sub.cons rfl (by rfl) ?_)) Z.F ?_
 case hinv1 =>
  exact ⟨Nat.zero_le _, OneV.sl⟩
 intro j v
 rintro ⟨j1, j2⟩
 refine WC.seq ?_
 refine WC.region ?_
 refine WL.rd rfl rfl rfl (Rd.lss rfl rfl rfl) ?_
 refine WL.nil ?_
 refine thenQ.normal ?_
 refine WC.seq ?_
 refine WC.ite rfl (fun hc1 => ?_) (fun hc1 => ?_)
 ·
  have hnx := chOf_next (cm := cm) (ks := ks) (j := j) Z.W
  obtain ⟨hx0, hx1⟩ := hck _ (hmem _ (get!_mem (l := ks) (i := j) Z.W))
  have hcl : (setlC (spB un sp') (chOf cm (ks.take j))).length ≤ 4 := by rw [setlC_len]; unfold chOf; rw [List.length_map, List.length_take]; omega
  have hroom : Room ((setlC (spB un sp') (chOf cm (ks.take j))).length + 1) 24 := Room1 Z.W
  refine WC.skip ?_
  refine thenQ.normal ?_
  refine WC.seq ?_
  refine WC.block ?_
  refine WC.seq ?_
  refine WC.region ?_
  refine WL.rd rfl rfl rfl (Rd.idxA1 (enc := SL.one vi) (xs := ks) (k := j) rfl S23 rfl rfl rfl Z.M Z.W) ?_
  refine WL.rd rfl rfl rfl (Rd.getA (g := vi) (xs := ks) (k := j) (a := ks[j]!) rfl C3 rfl Z.M (get!_of_lt Z.W)) ?_
  refine WL.rd rfl rfl rfl (Rd.assign rfl rfl) ?_
  refine WL.nil ?_
  refine thenQ.normal ?_
  refine WC.region ?_
  refine WL.rd rfl rfl rfl (Rd.move rfl rfl) ?_
  refine WL.rd rfl rfl rfl (Rd.move rfl rfl) ?_
  refine WL.rd rfl rfl rfl (Rd.add rfl rfl rfl Z.W) ?_
  refine WL.say 25 (u := .int .i64 ((2 + ks[j]!.toNat : Nat) : Int)) rfl (by congr 1; omega) ?_
  refine WL.rd rfl rfl rfl (Rd.move rfl rfl) ?_
  refine WL.rd rfl rfl rfl (Rd.move rfl rfl) ?_
  refine WL.rd rfl rfl rfl (Rd.lookupR (kenc := kI) (venc := vs) (m := cm) (k := ks[j]!) M123 K3 rfl rfl rfl hcm rfl) ?_
  refine WL.say 28 (u := vs ((cm.get ks[j]!).getD [])) rfl (by cases cm.get ks[j]! <;> rfl) ?_
  refine WL.rd rfl rfl rfl (Rd.buildN (ps := [(0, _), (1, _)]) rfl Bs145 I145 rfl Z.E Z.C (by apply NFo.mk; repeat (first | exact NF.nil | apply NF.cons))) ?_
  refine WL.op rfl ?_
  refine OpW.buildSl (ps := [(0, _)]) rfl S99 Z.E rfl rfl Z.C Z.K rfl rfl rfl ?_; intro b30
  refine WL.op rfl ?_
  refine OpW.appendRow (enc := encC) rfl S99 rfl rfl Z.T Z.T [entC (ks[j]!.toNat, (cm.get ks[j]!).getD [])] rfl (by rfl) rfl (by intro x; rfl) (by intro x; rfl) (by assumption) rfl rfl ?_; intro v31 hv31
  refine WL.rd rfl rfl rfl (Rd.assign rfl rfl) ?_
  refine WL.nil ?_
  refine blockQ.normal ?_
  refine thenQ.normal ?_
  refine WC.region ?_
  refine WL.rd rfl rfl rfl (Rd.add rfl rfl rfl Z.W) ?_
  refine WL.rd rfl rfl rfl (Rd.move rfl rfl) ?_
  refine WL.nil ?_
  exact loopQ2.mk (j + 1) v31 ⟨by omega, hv31⟩ Z.W (by repeat (first | exact Sub.nil | refine Sub.cons rfl (by rfl) ?_)) (fun w h => by rw [hnx, setlC_next]; exact Z.Fw h)
 ·
  obtain rfl : j = ks.length := by omega
  rw [List.take_length]
  refine WC.heap (fun w h => Sat.shareA (e := 145) (size := 2) (enc := encC) (xs := setlC (spB un sp') (chOf cm ks)) (v := v) Z.T h) ?_
  have hk0 := fun V' => hk0 ks V' hksp
  have hk1 := fun V' => hk1 ks V' hksp
  obtain ⟨C, hC⟩ : ∃ C, C = commitE D ((2 + files : Nat) : Int) 5 (setlC (spB un sp') (chOf cm ks)) := ⟨_, rfl⟩
  rw [← hC] at hk0 hk1
  refine WC.exit ?_
  refine thenQ.exit ?_
  refine loopQ2.exit ?_
  refine blockQ.exit ?_
  refine thenQ.normal ?_
  refine WC.seq ?_
  refine WC.seq ?_
  refine WC.region ?_
  refine WL.rd rfl rfl rfl (Rd.move rfl rfl) ?_
  refine WL.rd rfl rfl rfl (Rd.nilc rfl rfl) ?_
  refine WL.rd rfl rfl rfl ((by exact Rd.field rfl F65_1 rfl rfl)) ?_
  refine WL.rd rfl rfl rfl (Rd.row1 (off := 1) (u := dp l) rfl C61 rfl (b := s) Z.M rfl) ?_
  refine WL.rd rfl rfl rfl (Rd.move rfl rfl) ?_
  refine WL.op rfl ?_
  refine OpW.call rfl rfl Z.E Z.K rfl rfl rfl ?_
  refine Fun.heap (R' := SlE encC v (setlC (spB un sp') (chOf cm ks)) :: R) (O' := dO d V D (rowC b4 63 (spCs un sp') :: stRow s d l mb un files sp false :: mapC vs miV mb m :: O)) Z.F ?_
  refine commit_spec (f := ((2 + files : Nat) : Int)) (z := 5) (List.mem_cons_of_mem _ ht) (List.mem_cons_of_mem _ hlog) hfit List.mem_cons_self dk Z.W hv (List.mem_cons_of_mem _ hkeep) ?_
  rw [← hC]
  intro V' hv' hkv'
  refine WL.rd rfl rfl rfl (Rd.assign rfl rfl) ?_
  refine WL.nil ?_
  refine thenQ.normal ?_
  refine WC.seq ?_
  refine WC.region ?_
  refine WL.rd rfl rfl rfl (Rd.move rfl rfl) ?_
  refine WL.rd rfl rfl rfl (Rd.neq rfl rfl rfl) ?_
  refine WL.nil ?_
  refine thenQ.normal ?_
  refine WC.ite rfl (fun hc2 => ?_) (fun hc2 => ?_)
  ·
   have hne : C.2 ≠ 0 := by omega
   refine WC.seq ?_
   refine WC.region ?_
   refine WL.rd rfl rfl rfl (Rd.move rfl rfl) ?_
   refine WL.rd rfl rfl rfl (Rd.nilc rfl rfl) ?_
   refine WL.rd rfl rfl rfl ((by exact Rd.field rfl F65_5 rfl rfl)) ?_
   refine WL.op rfl ?_
   refine OpW.store1 rfl Z4 rfl rfl (by exact ⟨rfl, rfl⟩) Z.T (by (simp; done)) rfl ?_
   refine WL.nil ?_
   refine thenQ.normal ?_
   refine WC.seq ?_
   refine WC.region ?_
   refine WL.rd rfl rfl rfl (Rd.move rfl rfl) ?_
   refine WL.rd rfl rfl rfl (Rd.assign rfl rfl) ?_
   refine WL.nil ?_
   refine thenQ.normal ?_
   refine WC.ret (thenQ.retR (Ret.one Tryz.results62 rfl ?_))
   exact ⟨_, _, hk1 V' hne hv' hkv', Z.F⟩
  ·
   have heq : C.2 = 0 := by omega
   refine WC.skip ?_
   refine thenQ.normal ?_
   refine WC.seq ?_
   refine WC.region ?_
   refine WL.rd rfl rfl rfl (Rd.move rfl rfl) ?_
   refine WL.rd rfl rfl rfl ((by exact Rd.rowS rfl G63 rfl Z.M Z.N rfl)) ?_
   refine WL.rd rfl rfl rfl (Rd.nilc rfl rfl) ?_
   refine WL.rd rfl rfl rfl ((by exact Rd.field rfl F65_2 rfl rfl)) ?_
   refine WL.op rfl ?_
   refine OpW.storeS rfl G63 rfl rfl Z.N Z.T rfl rfl Z.N rfl ?_
   refine WL.nil ?_
   refine thenQ.normal ?_
   refine WC.seq ?_
   refine WC.region ?_
   refine WL.rd rfl rfl rfl (Rd.assign rfl rfl) ?_
   refine WL.nil ?_
   refine thenQ.normal ?_
   refine WC.ret (Ret.one Tryz.results62 rfl ?_)
   exact ⟨_, _, hk0 V' heq hv' hkv', Z.F⟩
theorem fits_len {s t : DSt} (h : t.lasts.length = s.lasts.length) (f z : Int) : fitsB t f z = fitsB s f z := by unfold fitsB; rw [h]
theorem settle2_spec {cb : Nat} {cm : GoMap Int Tx} {sp' : Nat → Bool} (ht : tabR ∈ R) (hlog : logR l d ((2 + files : Nat) : Int) 5 ∈ R) (hcm : mapP kI vs cb cm ∈ R) (hc1 : 1 ≤ cm.l.length ∧ cm.l.length ≤ 3) (hck : ∀ x ∈ cm.ks, 0 ≤ x ∧ x < 5000)
 (hfit : fitsB D ((2 + files : Nat) : Int) 5 = true) (dk : Dk D k) (hm : k ≤ 4294950000) (hv : VOk V D) (hkeep : SlE (SL.one vi) V.kv D.keep ∈ R)
 (hk : ∀ ks V' C, ks.Perm cm.ks → C = commitE D ((2 + files : Nat) : Int) 5 (setlC (spB un sp') (chOf cm ks)) → VOk V' C.1 → V'.kv = V.kv → POST (.int .i64 (C.2 : Nat)) R (stO s d l mb un files (if C.2 = 0 then sp' else sp) (decide (C.2 ≠ 0)) m V' C.1 O)) :
 Fun Tryz.prog 62 #[dp s, spV un sp', .map (some cb)] R (stO s d l mb un files sp false m V D O) POST := by
 refine settle_spec ht hlog hcm hc1 hck hfit dk hm hv hkeep (fun ks V' h1 h2 h3 h4 => ?_) (fun ks V' h1 h2 h3 h4 => ?_)
 · have := hk ks V' _ h1 rfl h3 h4
   rw [if_pos h2, h2] at this
   exact this
 · have := hk ks V' _ h1 rfl h3 h4
   rw [if_neg h2, decide_eq_true h2] at this
   exact this
theorem allM_set {name : Tx} {q : MI} {w : World} (h : allM m w) (hq : SlE encX q.2.2.1 q.2.2.2 w) : allM (m.set name q) w := fun b u hb => by
 rw [GoMap.get_set] at hb
 split at hb
 · cases hb; exact hq
 · exact h b u hb
theorem lay_dk (dk : Dk D k) (L : List Nat) (data : Tx) : Dk (layS D L data).1 (k + L.length + 1) ∧ (layS D L data).1.lasts.length = D.lasts.length ∧ (layS D L data).1.keep = D.keep := by
 unfold layS
 split
 · exact ⟨dk.mono Z.W, rfl, rfl⟩
 · have := make_dk (x := chunksE L data) dk
   rw [chunks_len] at this
   exact this
theorem one_map {ks : List Int} {e : Nat} {t : Tx} (h : ks.Perm ((GoMap.empty : GoMap Int Tx).set (e : Int) t).ks) : chOf ((GoMap.empty : GoMap Int Tx).set (e : Int) t) ks = [(e, t)] := by
 have h1 : ((GoMap.empty : GoMap Int Tx).set (e : Int) t).ks = [(e : Int)] := rfl
 rw [h1] at h
 obtain rfl := List.perm_singleton.1 h
 unfold chOf
 simp
set_option maxRecDepth 20000 in
set_option maxHeartbeats 4000000 in
theorem filePut_spec {name : Tx} {q : MI} {L : List Nat} {lv : Value} {data : Tx} {sp' : Nat → Bool} (ht : tabR ∈ R) (hlog : logR l d ((2 + files : Nat) : Int) 5 ∈ R) (hall : allM m ∈ R) (hx : SlE encX q.2.2.1 q.2.2.2 ∈ R) (hio : InoOk files name (miI q)) (hfs : files ≤ 256)
 (hl : SlE (SL.one vi) lv (secI L) ∈ R) (hll : L.length ≤ 100000) (hfit : fitsB D ((2 + files : Nat) : Int) 5 = true) (dk : Dk D k) (hm : k ≤ 4294800000) (hv : VOk V D) (hkeep : SlE (SL.one vi) V.kv D.keep ∈ R) (hdl : data.length ≤ 20000000)
 (hk0 : ∀ V', (opS D ((2 + files : Nat) : Int) 5 L data (spB un sp') [(q.1, entryE name (miI q))]).2 = 0 → VOk V' (opS D ((2 + files : Nat) : Int) 5 L data (spB un sp') [(q.1, entryE name (miI q))]).1 → V'.kv = V.kv → POST (.int .i64 0) (allM (m.set name q) :: R) (stO s d l mb un files sp' false (m.set name q) V' (opS D ((2 + files : Nat) : Int) 5 L data (spB un sp') [(q.1, entryE name (miI q))]).1 O))
 (hk1 : ∀ V', (opS D ((2 + files : Nat) : Int) 5 L data (spB un sp') [(q.1, entryE name (miI q))]).2 ≠ 0 → VOk V' (opS D ((2 + files : Nat) : Int) 5 L data (spB un sp') [(q.1, entryE name (miI q))]).1 → V'.kv = V.kv → POST (.int .i64 ((opS D ((2 + files : Nat) : Int) 5 L data (spB un sp') [(q.1, entryE name (miI q))]).2 : Nat)) R (stO s d l mb un files sp true m V' (opS D ((2 + files : Nat) : Int) 5 L data (spB un sp') [(q.1, entryE name (miI q))]).1 O)) :
 Fun Tryz.prog 39 #[dp s, vs name, miV q, spV un sp', lv, vs data] R (stO s d l mb un files sp false m V D O) POST := by
 refine Fun.turn ?_
 refine Fun.oneV hx fun hone => ?_
 obtain ⟨dk1, hln1, hkp1⟩ := lay_dk dk L data
 have hqe : q.1 < files := hio.e
 obtain ⟨A, hA⟩ : ∃ A, A = layS D L data := ⟨_, rfl⟩
 have hop : opS D ((2 + files : Nat) : Int) 5 L data (spB un sp') [(q.1, entryE name (miI q))] = if A.2 ≠ 0 then A else commitE A.1 ((2 + files : Nat) : Int) 5 (setlC (spB un sp') [(q.1, entryE name (miI q))]) := by
  unfold opS thenE; rw [← hA]
 rw [hop] at hk0 hk1
 rw [← hA] at dk1 hln1 hkp1
 refine Fun.enter (l := [_, _, _, _, _, _]) Tryz.func39 rfl Tryz.ntmps39 rfl (L0 := [(0, _), (1, _), (2, _), (3, _), (4, _), (5, _)]) rfl ?_
 refine WC.seq ?_
 refine WC.region ?_
 refine WL.op rfl ?_
 refine OpW.box rfl rfl Z.N rfl rfl ?_; intro b8
 refine WL.op rfl ?_
 refine OpW.box rfl rfl Z.N rfl rfl ?_; intro b9
 refine WL.rd rfl rfl rfl (Rd.assign rfl rfl) ?_
 refine WL.nil ?_
 refine thenQ.normal ?_
 refine WC.seq ?_
 refine WC.seq ?_
 refine WC.region ?_
 refine WL.rd rfl rfl rfl (Rd.move rfl rfl) ?_
 refine WL.rd rfl rfl rfl (Rd.move rfl rfl) ?_
 refine WL.rd rfl rfl rfl (Rd.move rfl rfl) ?_
 refine WL.op rfl ?_
 refine OpW.call rfl rfl Z.E Z.K rfl rfl rfl ?_
 refine Fun.heap (R' := R) (O' := dO d V D (stRow s d l mb un files sp false :: mapC vs miV mb m :: rowC b8 79 (inoCs q.1 q.2.1 q.2.2.1) :: rowC b9 63 (spCs un sp') :: O)) Z.F ?_
 refine lay_spec hl rfl dk Z.W hv hkeep hdl ?_
 rw [← hA]
 intro U hu hku
 refine WL.rd rfl rfl rfl (Rd.assign rfl rfl) ?_
 refine WL.nil ?_
 refine thenQ.normal ?_
 refine WC.seq ?_
 refine WC.region ?_
 refine WL.rd rfl rfl rfl (Rd.move rfl rfl) ?_
 refine WL.rd rfl rfl rfl (Rd.neq rfl rfl rfl) ?_
 refine WL.nil ?_
 refine thenQ.normal ?_
 refine WC.ite rfl (fun hc1 => ?_) (fun hc1 => ?_)
 ·
  have hne : A.2 ≠ 0 := by omega
  rw [if_pos hne] at hk0 hk1
  refine WC.seq ?_
  refine WC.region ?_
  refine WL.rd rfl rfl rfl (Rd.move rfl rfl) ?_
  refine WL.rd rfl rfl rfl (Rd.nilc rfl rfl) ?_
  refine WL.rd rfl rfl rfl ((by exact Rd.field rfl F65_5 rfl rfl)) ?_
  refine WL.op rfl ?_
  refine OpW.store1 rfl Z4 rfl rfl (by exact ⟨rfl, rfl⟩) Z.T (by (simp; done)) rfl ?_
  refine WL.nil ?_
  refine thenQ.normal ?_
  refine WC.seq ?_
  refine WC.region ?_
  refine WL.rd rfl rfl rfl (Rd.move rfl rfl) ?_
  refine WL.rd rfl rfl rfl (Rd.assign rfl rfl) ?_
  refine WL.nil ?_
  refine thenQ.normal ?_
  refine WC.ret (thenQ.retR (Ret.one Tryz.results39 rfl ?_))
  exact ⟨_, _, hk1 U hne hu hku, Z.F⟩
 ·
  have heq : ¬ A.2 ≠ 0 := by omega
  rw [if_neg heq] at hk0 hk1
  refine WC.skip ?_
  refine thenQ.normal ?_
  refine WC.seq ?_
  refine WC.seq ?_
  refine WC.drawn (rowC b8 79 (inoCs q.1 q.2.1 q.2.2.1) :: rowC b9 63 (spCs un sp') :: O) 12 rfl mixed ?_
  refine WD.take 0 rfl Z.K Z.H rfl rfl rfl (Rd.move rfl rfl) ?_
  refine WD.take 1 rfl Z.K Z.H rfl rfl rfl ((by exact Rd.rowS rfl G63 rfl Z.M Z.N rfl)) ?_
  refine WD.take 3 rfl Z.K Z.H rfl rfl rfl ((by exact Rd.field rfl F79_0 rfl rfl)) ?_
  refine WD.take 4 rfl Z.K Z.H rfl rfl rfl ((by exact Rd.row1 rfl C3 rfl Z.M (by rfl))) ?_
  refine WD.take 5 rfl Z.K Z.H rfl rfl rfl (Rd.move rfl rfl) ?_
  refine WD.take 6 rfl Z.K Z.H rfl rfl rfl ((by exact Rd.rowS rfl G79 rfl Z.M Z.N rfl)) ?_
  refine WD.two 2 7 rfl rfl Z.K rfl rfl ?_ ?_
  ·
   refine OpW.makeMap kI SL.vs rfl rfl rfl ?_; intro b27
   refine ⟨Z.H, ?_⟩
   refine WD.one 7 rfl Z.K rfl ?_
   refine OpW.call rfl rfl Z.E Z.K rfl rfl rfl ?_
   refine entry_spec (files := files) (e := q.1) (i := miI q) Z.M Z.M hio ?_
   refine ⟨Z.H, ?_⟩
   refine WD.one 8 rfl Z.K rfl ?_
   refine OpW.insertM (kenc := kI) (venc := vs) (m := GoMap.empty) (k := (q.1 : Int)) (v := entryE name (miI q)) M123 K3 rfl rfl rfl rfl Z.T rfl rfl rfl ?_
   refine ⟨Z.H, ?_⟩
   refine WD.heap (fun w h => Sat.shareM (kenc := kI) (venc := SL.vs) (b := b27) (m := (GoMap.empty : GoMap Int Tx).set (q.1 : Int) (entryE name (miI q))) Z.T h) ?_
   refine WD.take 9 rfl Z.K Z.H rfl rfl rfl (Rd.move rfl rfl) ?_
   refine WD.one 10 rfl Z.K rfl ?_
   refine OpW.call rfl rfl Z.E Z.K rfl rfl rfl ?_
   refine Fun.heap (R' := mapP kI SL.vs b27 ((GoMap.empty : GoMap Int Tx).set (q.1 : Int) (entryE name (miI q))) :: R) (O' := stO s d l mb un files sp false m U A.1 (rowC b8 79 (inoCs q.1 q.2.1 q.2.2.1) :: rowC b9 63 (spCs un sp') :: O)) Z.F ?_
   refine settle2_spec (List.mem_cons_of_mem _ ht) (List.mem_cons_of_mem _ hlog) List.mem_cons_self ⟨Nat.le_refl 1, (by show 1 ≤ 3; omega)⟩ (fun x hx => by rw [show ((GoMap.empty : GoMap Int Tx).set (q.1 : Int) (entryE name (miI q))).ks = [(q.1 : Int)] from rfl, List.mem_singleton] at hx; omega) (by rw [fits_len hln1]; exact hfit) dk1 Z.W hu (by rw [hku, hkp1]; exact List.mem_cons_of_mem _ hkeep) ?_
   intro ks U1 C hks hC hu1 hku1
   rw [one_map hks] at hC
   rw [← hC] at hk0 hk1
   refine ⟨Z.H, ?_⟩
   refine WD.take 11 rfl Z.K Z.H rfl rfl rfl (Rd.assign rfl rfl) ?_
   refine WD.done Z.K ?_
   refine thenQ.normal ?_
   refine WC.seq ?_
   refine WC.region ?_
   refine WL.rd rfl rfl rfl (Rd.move rfl rfl) ?_
   refine WL.rd rfl rfl rfl (Rd.neq rfl rfl rfl) ?_
   refine WL.nil ?_
   refine thenQ.normal ?_
   refine WC.ite rfl (fun hc2 => ?_) (fun hc2 => ?_)
   ·
    have hne : C.2 ≠ 0 := by omega
    rw [if_neg hne, decide_eq_true hne]
    refine WC.seq ?_
    refine WC.region ?_
    refine WL.rd rfl rfl rfl (Rd.move rfl rfl) ?_
    refine WL.rd rfl rfl rfl (Rd.assign rfl rfl) ?_
    refine WL.nil ?_
    refine thenQ.normal ?_
    refine WC.ret (thenQ.retR (Ret.one Tryz.results39 rfl ?_))
    exact ⟨_, _, hk1 U1 hne hu1 (hku1.trans hku), Z.F⟩
   ·
    have heq : C.2 = 0 := by omega
    rw [if_pos heq, decide_eq_false (by omega : ¬ C.2 ≠ 0)]
    refine WC.skip ?_
    refine thenQ.normal ?_
    refine WC.seq ?_
    refine WC.tail 6 mixed Z.K ?_
    refine WS.rd rfl rfl rfl (Rd.move rfl rfl) ?_
    refine WS.rd rfl rfl rfl (Rd.nilc rfl rfl) ?_
    refine WS.rd rfl rfl rfl ((by exact Rd.field rfl F65_3 rfl rfl)) ?_
    refine WS.rd rfl rfl rfl (Rd.row1 (off := 4) (u := .map (some mb)) rfl C60 rfl (b := s) Z.M rfl) ?_
    refine WS.rd rfl rfl rfl (Rd.move rfl rfl) ?_
    refine WS.rd rfl rfl rfl ((by exact Rd.rowS rfl G79 rfl Z.M Z.N rfl)) ?_
    refine WS.switch ?_
    refine WL.op rfl ?_
    refine OpW.mapUpdate (kenc := vs) (venc := miV) (m := m) (k := name) (v := q) M60 K9 rfl rfl rfl rfl Z.T rfl rfl rfl ?_
    refine WL.nil ?_
    refine thenQ.normal ?_
    refine WC.seq ?_
    refine WC.region ?_
    refine WL.rd rfl rfl rfl (Rd.assign rfl rfl) ?_
    refine WL.nil ?_
    refine thenQ.normal ?_
    refine WC.heap (R' := allM (m.set name q) :: R) (O' := stO s d l mb un files sp' false (m.set name q) U1 C.1 O) (fun w h => by
    have h2 : Sat (allM (m.set name q) :: R) _ w := (h.thin (R' := R) (SubL.mem Z.S)).derive (fun w hw => allM_set (hw _ hall) (hw _ hx))
    exact Z.Fw h2) ?_
    refine WC.ret (Ret.one Tryz.results39 rfl ?_)
    exact ⟨_, _, hk0 U1 heq hu1 (hku1.trans hku), fun w h => h⟩
  ·
   refine OpW.call rfl rfl Z.E Z.K rfl rfl rfl ?_
   refine entry_spec (files := files) (e := q.1) (i := miI q) Z.M Z.M hio ?_
   refine ⟨Z.H, ?_⟩
   refine WD.one 2 rfl Z.K rfl ?_
   refine OpW.makeMap kI SL.vs rfl rfl rfl ?_; intro b27
   refine ⟨Z.H, ?_⟩
   refine WD.one 8 rfl Z.K rfl ?_
   refine OpW.insertM (kenc := kI) (venc := vs) (m := GoMap.empty) (k := (q.1 : Int)) (v := entryE name (miI q)) M123 K3 rfl rfl rfl rfl Z.T rfl rfl rfl ?_
   refine ⟨Z.H, ?_⟩
   refine WD.heap (fun w h => Sat.shareM (kenc := kI) (venc := SL.vs) (b := b27) (m := (GoMap.empty : GoMap Int Tx).set (q.1 : Int) (entryE name (miI q))) Z.T h) ?_
   refine WD.take 9 rfl Z.K Z.H rfl rfl rfl (Rd.move rfl rfl) ?_
   refine WD.one 10 rfl Z.K rfl ?_
   refine OpW.call rfl rfl Z.E Z.K rfl rfl rfl ?_
   refine Fun.heap (R' := mapP kI SL.vs b27 ((GoMap.empty : GoMap Int Tx).set (q.1 : Int) (entryE name (miI q))) :: R) (O' := stO s d l mb un files sp false m U A.1 (rowC b8 79 (inoCs q.1 q.2.1 q.2.2.1) :: rowC b9 63 (spCs un sp') :: O)) Z.F ?_
   refine settle2_spec (List.mem_cons_of_mem _ ht) (List.mem_cons_of_mem _ hlog) List.mem_cons_self ⟨Nat.le_refl 1, (by show 1 ≤ 3; omega)⟩ (fun x hx => by rw [show ((GoMap.empty : GoMap Int Tx).set (q.1 : Int) (entryE name (miI q))).ks = [(q.1 : Int)] from rfl, List.mem_singleton] at hx; omega) (by rw [fits_len hln1]; exact hfit) dk1 Z.W hu (by rw [hku, hkp1]; exact List.mem_cons_of_mem _ hkeep) ?_
   intro ks U1 C hks hC hu1 hku1
   rw [one_map hks] at hC
   rw [← hC] at hk0 hk1
   refine ⟨Z.H, ?_⟩
   refine WD.take 11 rfl Z.K Z.H rfl rfl rfl (Rd.assign rfl rfl) ?_
   refine WD.done Z.K ?_
   refine thenQ.normal ?_
   refine WC.seq ?_
   refine WC.region ?_
   refine WL.rd rfl rfl rfl (Rd.move rfl rfl) ?_
   refine WL.rd rfl rfl rfl (Rd.neq rfl rfl rfl) ?_
   refine WL.nil ?_
   refine thenQ.normal ?_
   refine WC.ite rfl (fun hc2 => ?_) (fun hc2 => ?_)
   ·
    have hne : C.2 ≠ 0 := by omega
    rw [if_neg hne, decide_eq_true hne]
    refine WC.seq ?_
    refine WC.region ?_
    refine WL.rd rfl rfl rfl (Rd.move rfl rfl) ?_
    refine WL.rd rfl rfl rfl (Rd.assign rfl rfl) ?_
    refine WL.nil ?_
    refine thenQ.normal ?_
    refine WC.ret (thenQ.retR (Ret.one Tryz.results39 rfl ?_))
    exact ⟨_, _, hk1 U1 hne hu1 (hku1.trans hku), Z.F⟩
   ·
    have heq : C.2 = 0 := by omega
    rw [if_pos heq, decide_eq_false (by omega : ¬ C.2 ≠ 0)]
    refine WC.skip ?_
    refine thenQ.normal ?_
    refine WC.seq ?_
    refine WC.tail 6 mixed Z.K ?_
    refine WS.rd rfl rfl rfl (Rd.move rfl rfl) ?_
    refine WS.rd rfl rfl rfl (Rd.nilc rfl rfl) ?_
    refine WS.rd rfl rfl rfl ((by exact Rd.field rfl F65_3 rfl rfl)) ?_
    refine WS.rd rfl rfl rfl (Rd.row1 (off := 4) (u := .map (some mb)) rfl C60 rfl (b := s) Z.M rfl) ?_
    refine WS.rd rfl rfl rfl (Rd.move rfl rfl) ?_
    refine WS.rd rfl rfl rfl ((by exact Rd.rowS rfl G79 rfl Z.M Z.N rfl)) ?_
    refine WS.switch ?_
    refine WL.op rfl ?_
    refine OpW.mapUpdate (kenc := vs) (venc := miV) (m := m) (k := name) (v := q) M60 K9 rfl rfl rfl rfl Z.T rfl rfl rfl ?_
    refine WL.nil ?_
    refine thenQ.normal ?_
    refine WC.seq ?_
    refine WC.region ?_
    refine WL.rd rfl rfl rfl (Rd.assign rfl rfl) ?_
    refine WL.nil ?_
    refine thenQ.normal ?_
    refine WC.heap (R' := allM (m.set name q) :: R) (O' := stO s d l mb un files sp' false (m.set name q) U1 C.1 O) (fun w h => by
    have h2 : Sat (allM (m.set name q) :: R) _ w := (h.thin (R' := R) (SubL.mem Z.S)).derive (fun w hw => allM_set (hw _ hall) (hw _ hx))
    exact Z.Fw h2) ?_
    refine WC.ret (Ret.one Tryz.results39 rfl ?_)
    exact ⟨_, _, hk0 U1 heq hu1 (hku1.trans hku), fun w h => h⟩
theorem filePut2_spec {name : Tx} {q : MI} {L : List Nat} {lv : Value} {data : Tx} {sp' : Nat → Bool} (ht : tabR ∈ R) (hlog : logR l d ((2 + files : Nat) : Int) 5 ∈ R) (hall : allM m ∈ R) (hx : SlE encX q.2.2.1 q.2.2.2 ∈ R) (hio : InoOk files name (miI q)) (hfs : files ≤ 256)
 (hl : SlE (SL.one vi) lv (secI L) ∈ R) (hll : L.length ≤ 100000) (hfit : fitsB D ((2 + files : Nat) : Int) 5 = true) (dk : Dk D k) (hm : k ≤ 4294800000) (hv : VOk V D) (hkeep : SlE (SL.one vi) V.kv D.keep ∈ R) (hdl : data.length ≤ 20000000)
 (hk : ∀ V' p, p = opS D ((2 + files : Nat) : Int) 5 L data (spB un sp') [(q.1, entryE name (miI q))] → VOk V' p.1 → V'.kv = V.kv → POST (.int .i64 (p.2 : Nat)) (allM (if p.2 = 0 then m.set name q else m) :: R) (stO s d l mb un files (if p.2 = 0 then sp' else sp) (decide (p.2 ≠ 0)) (if p.2 = 0 then m.set name q else m) V' p.1 O)) :
 Fun Tryz.prog 39 #[dp s, vs name, miV q, spV un sp', lv, vs data] R (stO s d l mb un files sp false m V D O) POST := by
 refine Fun.turn (filePut_spec ht hlog hall hx hio hfs hl hll hfit dk hm hv hkeep hdl (fun V' h2 h3 h4 => ?_) (fun V' h2 h3 h4 => ?_))
 · have := hk V' _ rfl h3 h4
   rw [if_pos h2, if_pos h2, h2] at this
   exact ⟨_, _, this, fun w h => h⟩
 · have := hk V' _ rfl h3 h4
   rw [if_neg h2, if_neg h2, decide_eq_true h2] at this
   exact ⟨_, _, this, fun w h => h.derive fun w hw => hw _ hall⟩
end
end Go.Proofs.YtckokhdjeifomaaGreatDoor
namespace Go.Proofs.YtckokhdjeifomaaGreatDoor
open Go Go.SL
theorem fs_get {m : GoMap Tx MI} {b : Tx} {y : Ino} (h : fsOf m b = some y) : ∃ q, m.get b = some q ∧ miI q = y := by
 unfold fsOf at h
 exact Option.map_eq_some_iff.1 h
theorem fs_some {m : GoMap Tx MI} {b : Tx} {q : MI} (h : m.get b = some q) : fsOf m b = some (miI q) := by unfold fsOf; rw [h]; rfl
theorem fs_none {m : GoMap Tx MI} {b : Tx} (h : m.get b = none) : fsOf m b = none := by unfold fsOf; rw [h]; rfl
theorem fs_set (m : GoMap Tx MI) (name : Tx) (q : MI) : fsOf (m.set name q) = updS (fsOf m) name (some (miI q)) := by
 funext b
 unfold fsOf updS
 rw [GoMap.get_set]
 split <;> rfl
theorem fs_del (m : GoMap Tx MI) (name : Tx) : fsOf (m.del name) = updS (fsOf m) name none := by
 funext b
 unfold fsOf updS
 rw [GoMap.get_del]
 split <;> rfl
theorem Mnt.fits {n files : Nat} {F : FS} {sp : Nat → Bool} {D : DSt} (h : Mnt n files F sp D) (hn : 7 + files ≤ n) : fitsB D ((2 + files : Nat) : Int) 5 = true := by
 have := h.inv.len
 unfold fitsB
 rw [decide_eq_true_eq, this]
 omega
section
variable {R : List RO} {O : List Own} {POST : Value → List RO → List Own → Prop} {s d l mb un files k : Nat} {sp : Nat → Bool} {m : GoMap Tx MI} {V : DV} {D : DSt}
/-- What a Write leaves. -/
def WrPost (POST : Value → List RO → List Own → Prop) (R : List RO) (O : List Own) (s d l mb un files n : Nat) (sp : Nat → Bool) (m : GoMap Tx MI) (V : DV) (D : DSt) (name data : Tx) : Prop :=
 ∀ V' p e v xs, WriteP n files (fsOf m) sp name data e xs → p = opS D ((2 + files : Nat) : Int) 5 (secE (7 + files) xs) data (spB un (freeO (turnF true sp xs) (fsOf m name))) [(e, entryE name ⟨e, data.length, xs⟩)] → VOk V' p.1 → V'.kv = V.kv →
  POST (.int .i64 (p.2 : Nat)) (allM (if p.2 = 0 then m.set name (e, data.length, v, xs) else m) :: R) (stO s d l mb un files (if p.2 = 0 then freeO (turnF true sp xs) (fsOf m name) else sp) (decide (p.2 ≠ 0)) (if p.2 = 0 then m.set name (e, data.length, v, xs) else m) V' p.1 O)
set_option maxRecDepth 20000 in
set_option maxHeartbeats 8000000 in
theorem write_none {n : Nat} {name data : Tx} (hmg : m.get name = none) (hg : GoodN name) (hi : Mnt n files (fsOf m) sp D) (hun : un = n - (7 + files)) (hn : 7 + files < n ∧ n ≤ 4096) (hfs : files ≤ 256) (hdl : data.length ≤ 1048576) (hneed : needsE data.length ≤ cntF sp un ∧ needsE data.length ≤ 64) (hfree : ∃ e, e < files ∧ ∀ b q, m.get b = some q → q.1 ≠ e) (ht : tabR ∈ R) (hlog : logR l d ((2 + files : Nat) : Int) 5 ∈ R) (hall : allM m ∈ R)
 (dk : Dk D k) (hm : k ≤ 4294700000) (hv : VOk V D) (hkeep : SlE (SL.one vi) V.kv D.keep ∈ R) (hk : WrPost POST R O s d l mb un files n sp m V D name data) :
 Fun Tryz.prog 13 #[dp s, vs name, vs data] R (stO s d l mb un files sp false m V D O) POST := by
 refine Fun.turn ?_
 have hfn := fs_none hmg
 refine Fun.enter (l := [_, _, _]) Tryz.func13 rfl Tryz.ntmps13 rfl (L0 := [(0, _), (1, _), (2, _)]) rfl ?_
 refine WC.seq ?_
 refine WC.region ?_
 refine WL.rd rfl rfl rfl (Rd.assign rfl rfl) ?_
 refine WL.nil ?_
 refine thenQ.normal ?_
 refine WC.seq ?_
 refine WC.region ?_
 refine WL.rd rfl rfl rfl (Rd.move rfl rfl) ?_
 refine WL.rd rfl rfl rfl (Rd.move rfl rfl) ?_
 refine WL.op rfl ?_
 refine OpW.call rfl rfl Z.E Z.K rfl rfl rfl ?_
 refine find_none hmg hg hi.cl.off ?_
 refine WL.rd rfl rfl rfl (Rd.move rfl rfl) ?_
 refine WL.rd rfl rfl rfl (Rd.extract rfl rfl rfl) ?_
 refine WL.rd rfl rfl rfl (Rd.extract rfl rfl rfl) ?_
 refine WL.op rfl ?_
 refine OpW.alloc rfl I79 rfl Z.N rfl rfl ?_; intro b7
 refine WL.op rfl ?_
 refine OpW.storeS rfl G79 rfl rfl Z.N Z.T rfl rfl Z.N rfl ?_
 refine WL.rd rfl rfl rfl (Rd.assign rfl rfl) ?_
 refine WL.nil ?_
 refine thenQ.normal ?_
 refine WC.seq ?_
 refine WC.seq ?_
 refine WC.region ?_
 refine WL.rd rfl rfl rfl (Rd.move rfl rfl) ?_
 refine WL.rd rfl rfl rfl (Rd.neq rfl rfl rfl) ?_
 refine WL.rd rfl rfl rfl (Rd.move rfl rfl) ?_
 refine WL.case 20 rfl (fun hg20 => ?_) (fun hg20 => ?_)
 ·
  refine WL.rd_yes rfl rfl rfl rfl rfl rfl (Rd.move rfl rfl) ?_
  refine WL.rd_yes rfl rfl rfl rfl rfl rfl (Rd.neq rfl rfl rfl) ?_
  refine WL.rd rfl rfl rfl (Rd.pick_t rfl rfl rfl) ?_
  refine WL.nil ?_
  refine thenQ.normal ?_
  refine WC.ite rfl (fun hc1 => ?_) (fun hc1 => ?_)
  ·
   (exact absurd rfl hc1)
  ·
   refine WC.skip ?_
   refine thenQ.normal ?_
   refine WC.seq ?_
   refine WC.seq ?_
   refine WC.region ?_
   refine WL.rd rfl rfl rfl (Rd.move rfl rfl) ?_
   refine WL.rd rfl rfl rfl (Rd.slen (ts := #[]) (ty := 0) rfl rfl Tryz.underlying9) ?_
   refine WL.rd rfl rfl rfl (Rd.gtr rfl rfl rfl) ?_
   refine WL.nil ?_
   refine thenQ.normal ?_
   refine WC.ite rfl (fun hc2 => ?_) (fun hc2 => ?_)
   ·
    omega
   ·
    refine WC.skip ?_
    refine thenQ.normal ?_
    refine WC.seq ?_
    refine WC.region ?_
    refine WL.rd rfl rfl rfl ((by exact Rd.field rfl F79_0 rfl rfl)) ?_
    refine WL.rd rfl rfl rfl ((by exact Rd.row1 rfl C3 rfl Z.M (by rfl))) ?_
    refine WL.rd rfl rfl rfl (Rd.move rfl rfl) ?_
    refine WL.rd rfl rfl rfl (Rd.slen (ts := #[]) (ty := 0) rfl rfl Tryz.underlying9) ?_
    refine WL.rd rfl rfl rfl (Rd.buildN (ps := [(0, _), (1, _)]) rfl Bs79 I79 rfl Z.E Z.C (by apply NFo.mk; repeat (first | exact NF.nil | apply NF.cons))) ?_
    refine WL.op rfl ?_
    refine OpW.alloc rfl I79 rfl Z.N rfl rfl ?_; intro b9
    refine WL.op rfl ?_
    refine OpW.storeS rfl G79 rfl rfl Z.N Z.T rfl rfl Z.N rfl ?_
    refine WL.nil ?_
    refine thenQ.normal ?_
    refine WC.seq ?_
    refine WC.seq ?_
    refine WC.region ?_
    refine WL.rd rfl rfl rfl (Rd.move rfl rfl) ?_
    refine WL.rd rfl rfl rfl (Rd.eql rfl rfl rfl) ?_
    refine WL.nil ?_
    refine thenQ.normal ?_
    refine WC.ite rfl (fun hc3 => ?_) (fun hc3 => ?_)
    ·
     refine WC.seq ?_
     refine WC.region ?_
     refine WL.rd rfl rfl rfl (Rd.assign rfl rfl) ?_
     refine WL.nil ?_
     refine thenQ.normal ?_
     refine WC.seq ?_
     refine WC.region ?_
     refine WL.rd rfl rfl rfl (Rd.move rfl rfl) ?_
     refine WL.op rfl ?_
     refine OpW.call rfl rfl Z.E Z.K rfl rfl rfl ?_
     refine Fun.heap (R' := R) (O' := stO s d l mb un files sp false m V D (rowC b7 79 (inoCs 0 0 (.slice none 0 0)) :: rowC b9 79 (inoCs 0 data.length (.slice none 0 0)) :: O)) Z.F ?_
     refine vacant_spec hall Z.W (fun b q hb => (hi.inv.fok.ok b _ (fs_some hb)).e) hfree ?_; intro e he hee
     refine WL.rd rfl rfl rfl (Rd.move rfl rfl) ?_
     refine WL.rd rfl rfl rfl (Rd.extract rfl rfl rfl) ?_
     refine WL.rd rfl rfl rfl (Rd.extract rfl rfl rfl) ?_
     refine WL.rd rfl rfl rfl ((by exact Rd.field rfl F79_0 rfl rfl)) ?_
     refine WL.op rfl ?_
     refine OpW.store1 rfl Z3 rfl rfl (by exact ⟨rfl, rfl⟩) Z.T (by (simp; done)) rfl ?_
     refine WL.rd rfl rfl rfl (Rd.assign rfl rfl) ?_
     refine WL.nil ?_
     refine thenQ.normal ?_
     refine WC.seq ?_
     refine WC.region ?_
     refine WL.rd rfl rfl rfl (Rd.move rfl rfl) ?_
     refine WL.rd rfl rfl rfl ((by exact Rd.not rfl rfl)) ?_
     refine WL.say 42 (u := .bool (decide False)) rfl rfl ?_
     refine WL.nil ?_
     refine thenQ.normal ?_
     refine WC.ite rfl (fun hc4 => ?_) (fun hc4 => ?_)
     ·
      exact hc4.elim
     ·
      refine WC.skip ?_
      refine thenQ.normal ?_
      refine WC.seq ?_
      refine WC.region ?_
      refine WL.rd rfl rfl rfl (Rd.move rfl rfl) ?_
      refine WL.rd rfl rfl rfl (Rd.nilc rfl rfl) ?_
      refine WL.rd rfl rfl rfl ((by exact Rd.field rfl F65_2 rfl rfl)) ?_
      refine WL.rd rfl rfl rfl (Rd.rowS (b := s) rfl G63 rfl Z.M Z.N rfl) ?_
      refine WL.op rfl ?_
      refine OpW.alloc rfl I63 rfl Z.N rfl rfl ?_; intro b11
      refine WL.op rfl ?_
      refine OpW.storeS rfl G63 rfl rfl Z.N Z.T rfl rfl Z.N rfl ?_
      refine WL.nil ?_
      refine thenQ.normal ?_
      refine WC.seq ?_
      refine WC.seq ?_
      refine WC.drawnU (O) ([(10, rowC b9 79 (inoCs e data.length (.slice none 0 0))), (11, rowC b11 63 (spCs un sp))]) 13 rfl mixed ?_
      refine WE.take 0 [(10, rowC b9 79 (inoCs e data.length (.slice none 0 0))), (11, rowC b11 63 (spCs un sp))] rfl Z.K (by repeat (first | exact List.Sublist.refl _ | exact List.nil_sublist _ | apply List.Sublist.cons_cons | apply List.Sublist.cons)) (HeldL.mk2 [rowC b9 79 (inoCs e data.length (.slice none 0 0)), rowC b11 63 (spCs un sp)] Z.K Z.S Z.O (by repeat (first | exact Mems.nil | refine Mems.cons Z.M ?_))) rfl rfl rfl ((by exact Rd.rowS rfl G63 rfl Z.M Z.N rfl)) ?_
      refine WE.take 1 [] rfl Z.K (by repeat (first | exact List.Sublist.refl _ | exact List.nil_sublist _ | apply List.Sublist.cons_cons | apply List.Sublist.cons)) (HeldL.mk2 [rowC b9 79 (inoCs e data.length (.slice none 0 0)), rowC b11 63 (spCs un sp)] Z.K Z.S Z.O (by repeat (first | exact Mems.nil | refine Mems.cons Z.M ?_))) rfl rfl rfl ((by exact Rd.field rfl F79_1 rfl rfl)) ?_
      refine WE.take 2 [(10, rowC b9 79 (inoCs e data.length (.slice none 0 0))), (11, rowC b11 63 (spCs un sp))] rfl Z.K (by repeat (first | exact List.Sublist.refl _ | exact List.nil_sublist _ | apply List.Sublist.cons_cons | apply List.Sublist.cons)) (HeldL.mk2 [rowC b9 79 (inoCs e data.length (.slice none 0 0)), rowC b11 63 (spCs un sp)] Z.K Z.S Z.O (by repeat (first | exact Mems.nil | refine Mems.cons Z.M ?_))) rfl rfl rfl ((by exact Rd.row1 rfl C3 rfl Z.M (by rfl))) ?_
      refine WE.one 3 rfl Z.K rfl ?_
      refine OpW.call rfl rfl Z.E Z.K rfl rfl rfl ?_
      refine needs_spec Z.W ?_
      refine ⟨(HeldL.mk2 [rowC b9 79 (inoCs e data.length (.slice none 0 0)), rowC b11 63 (spCs un sp)] Z.K Z.S Z.O (by repeat (first | exact Mems.nil | refine Mems.cons Z.M ?_))), ?_⟩
      refine WE.one 4 rfl Z.K rfl ?_
      refine OpW.call rfl rfl Z.E Z.K rfl rfl rfl ?_
      refine spTake_spec (n := un) (f := sp) (k := needsE data.length) (most := 64) Z.W hneed.1 hneed.2 Z.W ?_; intro v xs hvo hT hS
      refine ⟨(HeldL.mk2 [rowC b9 79 (inoCs e data.length (.slice none 0 0)), rowC b11 63 (spCs un sp)] Z.K Z.S Z.O (by repeat (first | exact Mems.nil | refine Mems.cons Z.M ?_))), ?_⟩
      refine WE.take 5 [] rfl Z.K (by repeat (first | exact List.Sublist.refl _ | exact List.nil_sublist _ | apply List.Sublist.cons_cons | apply List.Sublist.cons)) (HeldL.mk2 [rowC b9 79 (inoCs e data.length (.slice none 0 0)), rowC b11 63 (spCs un sp)] Z.K Z.S Z.O (by repeat (first | exact Mems.nil | refine Mems.cons Z.M ?_))) rfl rfl rfl (Rd.move rfl rfl) ?_
      refine WE.take 6 [] rfl Z.K (by repeat (first | exact List.Sublist.refl _ | exact List.nil_sublist _ | apply List.Sublist.cons_cons | apply List.Sublist.cons)) (HeldL.mk2 [rowC b9 79 (inoCs e data.length (.slice none 0 0)), rowC b11 63 (spCs un sp)] Z.K Z.S Z.O (by repeat (first | exact Mems.nil | refine Mems.cons Z.M ?_))) rfl rfl rfl (Rd.extract rfl rfl rfl) ?_
      refine WE.take 7 [] rfl Z.K (by repeat (first | exact List.Sublist.refl _ | exact List.nil_sublist _ | apply List.Sublist.cons_cons | apply List.Sublist.cons)) (HeldL.mk2 [rowC b9 79 (inoCs e data.length (.slice none 0 0)), rowC b11 63 (spCs un sp)] Z.K Z.S Z.O (by repeat (first | exact Mems.nil | refine Mems.cons Z.M ?_))) rfl rfl rfl (Rd.extract rfl rfl rfl) ?_
      refine WE.take 8 [] rfl Z.K (by repeat (first | exact List.Sublist.refl _ | exact List.nil_sublist _ | apply List.Sublist.cons_cons | apply List.Sublist.cons)) (HeldL.mk2 [rowC b9 79 (inoCs e data.length (.slice none 0 0)), rowC b11 63 (spCs un sp)] Z.K Z.S Z.O (by repeat (first | exact Mems.nil | refine Mems.cons Z.M ?_))) rfl rfl rfl (Rd.extract rfl rfl rfl) ?_
      refine WE.take 9 [] rfl Z.K (by repeat (first | exact List.Sublist.refl _ | exact List.nil_sublist _ | apply List.Sublist.cons_cons | apply List.Sublist.cons)) (HeldL.mk2 [rowC b9 79 (inoCs e data.length (.slice none 0 0)), rowC b11 63 (spCs un sp)] Z.K Z.S Z.O (by repeat (first | exact Mems.nil | refine Mems.cons Z.M ?_))) rfl rfl rfl ((by exact Rd.field rfl F79_2 rfl rfl)) ?_
      refine WE.one 10 rfl Z.K rfl ?_
      refine OpW.store1 rfl Z77 rfl rfl hvo Z.T (by show 2 < 3; omega) rfl ?_
      refine ⟨(HeldL.mk2 [rowC b11 63 (spCs un sp)] Z.K Z.S Z.O (by repeat (first | exact Mems.nil | refine Mems.cons Z.M ?_))), ?_⟩
      refine WE.one 11 rfl Z.K rfl ?_
      refine OpW.storeS rfl G63 rfl rfl Z.N Z.T rfl rfl Z.N rfl ?_
      refine ⟨(HeldL.mk2 [] Z.K Z.S Z.O (by repeat (first | exact Mems.nil | refine Mems.cons Z.M ?_))), ?_⟩
      refine WE.take 12 [] rfl Z.K (by repeat (first | exact List.Sublist.refl _ | exact List.nil_sublist _ | apply List.Sublist.cons_cons | apply List.Sublist.cons)) (HeldL.mk2 [] Z.K Z.S Z.O (by repeat (first | exact Mems.nil | refine Mems.cons Z.M ?_))) rfl rfl rfl (Rd.assign rfl rfl) ?_
      refine WE.done Z.K ?_
      refine thenQ.normal ?_
      refine WC.seq ?_
      refine WC.region ?_
      refine WL.rd rfl rfl rfl (Rd.move rfl rfl) ?_
      refine WL.rd rfl rfl rfl (Rd.neq rfl rfl rfl) ?_
      refine WL.nil ?_
      refine thenQ.normal ?_
      refine WC.ite rfl (fun hc5 => ?_) (fun hc5 => ?_)
      ·
       exact absurd rfl hc5
      ·
       refine WC.skip ?_
       refine thenQ.normal ?_
       refine WC.seq ?_
       refine WC.seq ?_
       refine WC.heap (fun w h => h.nilE (α := Ext) (enc := encX)) ?_
       refine WC.region ?_
       refine WL.rd rfl rfl rfl ((by exact Rd.rowS rfl G63 rfl Z.M Z.N rfl)) ?_
       refine WL.rd rfl rfl rfl ((by exact Rd.field rfl F79_2 rfl rfl)) ?_
       refine WL.rd rfl rfl rfl ((by exact Rd.row1 rfl C77 rfl Z.M (by rfl))) ?_
       refine WL.op rfl ?_
       refine OpW.call rfl rfl Z.E Z.K rfl rfl rfl ?_
       refine spGive_spec (n := un) (f := turnF true sp xs) (xs := ([] : List Ext)) Z.M Z.W trivial (by simp) ?_
       refine WL.rd rfl rfl rfl (Rd.move rfl rfl) ?_
       refine WL.rd rfl rfl rfl (Rd.extract rfl rfl rfl) ?_
       refine WL.rd rfl rfl rfl (Rd.extract rfl rfl rfl) ?_
       refine WL.op rfl ?_
       refine OpW.storeS rfl G63 rfl rfl Z.N Z.T rfl rfl Z.N rfl ?_
       refine WL.rd rfl rfl rfl (Rd.assign rfl rfl) ?_
       refine WL.nil ?_
       refine thenQ.normal ?_
       refine WC.seq ?_
       refine WC.region ?_
       refine WL.rd rfl rfl rfl (Rd.move rfl rfl) ?_
       refine WL.rd rfl rfl rfl (Rd.neq rfl rfl rfl) ?_
       refine WL.nil ?_
       refine thenQ.normal ?_
       refine WC.ite rfl (fun hc6 => ?_) (fun hc6 => ?_)
       ·
        exact absurd rfl hc6
       ·
        refine WC.skip ?_
        refine thenQ.normal ?_
        refine WC.seq ?_
        rw [hun] at hT
        have hlx := hT.len
        have hTm := fun x hx => (hT.mem x hx).2.1
        have hW : WriteP n files (fsOf m) sp name data e xs := ⟨hg, hdl, he, fun b y hb => ⟨fun h => by obtain ⟨q, h1, h2⟩ := fs_get hb; subst h2; exact absurd h (hee b q h1), fun h => by subst h; rw [hfn] at hb; cases hb⟩, hT, hS, by omega⟩
        have hio : InoOk files name (miI (e, data.length, v, xs)) := hW.ino hn.2
        have hfree2 : turnF false (turnF true sp xs) ([] : List Ext) = freeO (turnF true sp xs) (fsOf m name) := by rw [hfn]; rfl
        rw [hfree2]
        refine WC.drawn (rowC b9 79 (inoCs e data.length v) :: rowC b11 63 (spCs un (freeO (turnF true sp xs) (fsOf m name))) :: O) 11 rfl mixed ?_
        refine WD.take 0 rfl Z.K Z.H rfl rfl rfl (Rd.move rfl rfl) ?_
        refine WD.take 1 rfl Z.K Z.H rfl rfl rfl (Rd.move rfl rfl) ?_
        refine WD.take 2 rfl Z.K Z.H rfl rfl rfl ((by exact Rd.rowS rfl G79 rfl Z.M Z.N rfl)) ?_
        refine WD.take 3 rfl Z.K Z.H rfl rfl rfl ((by exact Rd.rowS rfl G63 rfl Z.M Z.N rfl)) ?_
        refine WD.take 4 rfl Z.K Z.H rfl rfl rfl (Rd.move rfl rfl) ?_
        refine WD.take 5 rfl Z.K Z.H rfl rfl rfl ((by exact Rd.field rfl F79_2 rfl rfl)) ?_
        refine WD.take 6 rfl Z.K Z.H rfl rfl rfl ((by exact Rd.row1 rfl C77 rfl Z.M (by rfl))) ?_
        refine WD.take 8 rfl Z.K Z.H rfl rfl rfl (Rd.move rfl rfl) ?_
        refine WD.one 7 rfl Z.K rfl ?_
        refine OpW.call rfl rfl Z.E Z.K rfl rfl rfl ?_
        refine sectors_spec (s := s) (files := files) (xs := xs) Z.M Z.M rfl Z.W Z.W (fun x hx => by have := hTm x hx; omega) ?_; intro v75
        refine ⟨Z.H, ?_⟩
        refine WD.one 9 rfl Z.K rfl ?_
        refine OpW.call rfl rfl Z.E Z.K rfl rfl rfl ?_
        refine Fun.heap (R' := SlE (SL.one vi) v75 (secI (secE (7 + files) xs)) :: SlE encX v xs :: SlE encX (.slice none 0 0) ([] : List Ext) :: R) (O' := stO s d l mb un files sp false m V D (rowC b9 79 (inoCs e data.length v) :: rowC b11 63 (spCs un (freeO (turnF true sp xs) (fsOf m name))) :: O)) Z.F ?_
        refine filePut2_spec (q := (e, data.length, v, xs)) (L := secE (7 + files) xs) (by repeat (first | exact ht | refine List.mem_cons_of_mem _ ?_)) (by repeat (first | exact hlog | refine List.mem_cons_of_mem _ ?_)) (by repeat (first | exact hall | refine List.mem_cons_of_mem _ ?_)) (List.mem_cons_of_mem _ List.mem_cons_self) hio hfs List.mem_cons_self (by rw [sec_len]; omega) (hi.fits Z.W) dk Z.W hv (by repeat (first | exact hkeep | refine List.mem_cons_of_mem _ ?_)) Z.W ?_
        intro V' p hp hv' hkv'
        refine ⟨Z.H, ?_⟩
        refine WD.take 10 rfl Z.K Z.H rfl rfl rfl (Rd.assign rfl rfl) ?_
        refine WD.done Z.K ?_
        refine thenQ.normal ?_
        refine WC.ret (Ret.one Tryz.results13 rfl ?_)
        exact ⟨_, _, hk V' p e v xs hW hp hv' hkv', Z.F⟩
    ·
     exact absurd rfl hc3
 ·
  exact absurd (by decide) hg20
set_option maxRecDepth 20000 in
set_option maxHeartbeats 8000000 in
theorem write_some {n : Nat} {name data : Tx} {q0 : MI} (hmg : m.get name = some q0) (hg : GoodN name) (hi : Mnt n files (fsOf m) sp D) (hun : un = n - (7 + files)) (hn : 7 + files < n ∧ n ≤ 4096) (hfs : files ≤ 256) (hdl : data.length ≤ 1048576) (hneed : needsE data.length ≤ cntF sp un ∧ needsE data.length ≤ 64) (ht : tabR ∈ R) (hlog : logR l d ((2 + files : Nat) : Int) 5 ∈ R) (hall : allM m ∈ R)
 (dk : Dk D k) (hm : k ≤ 4294700000) (hv : VOk V D) (hkeep : SlE (SL.one vi) V.kv D.keep ∈ R) (hk : WrPost POST R O s d l mb un files n sp m V D name data) :
 Fun Tryz.prog 13 #[dp s, vs name, vs data] R (stO s d l mb un files sp false m V D O) POST := by
 refine Fun.turn ?_
 have hfn := fs_some hmg
 have hok0 := hi.inv.fok.ok name _ hfn
 have htk0 := hi.inv.fok.tk name _ hfn
 have htk0' : TurnOk un false sp q0.2.2.2 := by rw [hun]; exact htk0
 have hl0 : q0.2.2.2.length ≤ 64 := hok0.len
 refine Fun.know (φ := OneV q0.2.2.1) hall (fun w h => SlE.oneV (h name q0 hmg)) fun hone => ?_
 refine Fun.enter (l := [_, _, _]) Tryz.func13 rfl Tryz.ntmps13 rfl (L0 := [(0, _), (1, _), (2, _)]) rfl ?_
 refine WC.seq ?_
 refine WC.region ?_
 refine WL.rd rfl rfl rfl (Rd.assign rfl rfl) ?_
 refine WL.nil ?_
 refine thenQ.normal ?_
 refine WC.seq ?_
 refine WC.region ?_
 refine WL.rd rfl rfl rfl (Rd.move rfl rfl) ?_
 refine WL.rd rfl rfl rfl (Rd.move rfl rfl) ?_
 refine WL.op rfl ?_
 refine OpW.call rfl rfl Z.E Z.K rfl rfl rfl ?_
 refine find_some hmg hg hi.cl.off hall ?_
 refine WL.rd rfl rfl rfl (Rd.move rfl rfl) ?_
 refine WL.rd rfl rfl rfl (Rd.extract rfl rfl rfl) ?_
 refine WL.rd rfl rfl rfl (Rd.extract rfl rfl rfl) ?_
 refine WL.op rfl ?_
 refine OpW.alloc rfl I79 rfl Z.N rfl rfl ?_; intro b7
 refine WL.op rfl ?_
 refine OpW.storeS (h1 := by simp only [List.all_cons, List.all_nil, hone.one]; rfl) rfl G79 rfl rfl Z.N Z.T rfl rfl Z.N rfl ?_
 refine WL.rd rfl rfl rfl (Rd.assign rfl rfl) ?_
 refine WL.nil ?_
 refine thenQ.normal ?_
 refine WC.seq ?_
 refine WC.seq ?_
 refine WC.region ?_
 refine WL.rd rfl rfl rfl (Rd.move rfl rfl) ?_
 refine WL.rd rfl rfl rfl (Rd.neq rfl rfl rfl) ?_
 refine WL.rd rfl rfl rfl (Rd.move rfl rfl) ?_
 refine WL.case 20 rfl (fun hg20 => ?_) (fun hg20 => ?_)
 ·
  exact absurd rfl hg20
 ·
  refine WL.no rfl rfl rfl rfl rfl rfl ?_
  refine WL.no rfl rfl rfl rfl rfl rfl ?_
  refine WL.rd rfl rfl rfl (Rd.pick_f rfl rfl rfl) ?_
  refine WL.nil ?_
  refine thenQ.normal ?_
  refine WC.no rfl ?_
  refine WC.skip ?_
  refine thenQ.normal ?_
  refine WC.seq ?_
  refine WC.seq ?_
  refine WC.region ?_
  refine WL.rd rfl rfl rfl (Rd.move rfl rfl) ?_
  refine WL.rd rfl rfl rfl (Rd.slen (ts := #[]) (ty := 0) rfl rfl Tryz.underlying9) ?_
  refine WL.rd rfl rfl rfl (Rd.gtr rfl rfl rfl) ?_
  refine WL.nil ?_
  refine thenQ.normal ?_
  refine WC.ite rfl (fun hc2 => ?_) (fun hc2 => ?_)
  ·
   omega
  ·
   refine WC.skip ?_
   refine thenQ.normal ?_
   refine WC.seq ?_
   refine WC.region ?_
   refine WL.rd rfl rfl rfl ((by exact Rd.field rfl F79_0 rfl rfl)) ?_
   refine WL.rd rfl rfl rfl ((by exact Rd.row1 rfl C3 rfl Z.M (by rfl))) ?_
   refine WL.rd rfl rfl rfl (Rd.move rfl rfl) ?_
   refine WL.rd rfl rfl rfl (Rd.slen (ts := #[]) (ty := 0) rfl rfl Tryz.underlying9) ?_
   refine WL.rd rfl rfl rfl (Rd.buildN (ps := [(0, _), (1, _)]) rfl Bs79 I79 rfl Z.E Z.C (by apply NFo.mk; repeat (first | exact NF.nil | apply NF.cons))) ?_
   refine WL.op rfl ?_
   refine OpW.alloc rfl I79 rfl Z.N rfl rfl ?_; intro b9
   refine WL.op rfl ?_
   refine OpW.storeS rfl G79 rfl rfl Z.N Z.T rfl rfl Z.N rfl ?_
   refine WL.nil ?_
   refine thenQ.normal ?_
   refine WC.seq ?_
   refine WC.seq ?_
   refine WC.region ?_
   refine WL.rd rfl rfl rfl (Rd.move rfl rfl) ?_
   refine WL.rd rfl rfl rfl (Rd.eql rfl rfl rfl) ?_
   refine WL.nil ?_
   refine thenQ.normal ?_
   refine WC.ite rfl (fun hc3 => ?_) (fun hc3 => ?_)
   ·
    exact absurd hc3 (by decide)
   ·
    refine WC.skip ?_
    refine thenQ.normal ?_
    refine WC.seq ?_
    refine WC.region ?_
    refine WL.rd rfl rfl rfl (Rd.move rfl rfl) ?_
    refine WL.rd rfl rfl rfl (Rd.nilc rfl rfl) ?_
    refine WL.rd rfl rfl rfl ((by exact Rd.field rfl F65_2 rfl rfl)) ?_
    refine WL.rd rfl rfl rfl (Rd.rowS (b := s) rfl G63 rfl Z.M Z.N rfl) ?_
    refine WL.op rfl ?_
    refine OpW.alloc rfl I63 rfl Z.N rfl rfl ?_; intro b11
    refine WL.op rfl ?_
    refine OpW.storeS rfl G63 rfl rfl Z.N Z.T rfl rfl Z.N rfl ?_
    refine WL.nil ?_
    refine thenQ.normal ?_
    refine WC.seq ?_
    refine WC.seq ?_
    refine WC.drawnU (O) ([(10, rowC b9 79 (inoCs q0.1 data.length (.slice none 0 0))), (11, rowC b11 63 (spCs un sp))]) 13 rfl mixed ?_
    refine WE.take 0 [(10, rowC b9 79 (inoCs q0.1 data.length (.slice none 0 0))), (11, rowC b11 63 (spCs un sp))] rfl Z.K (by repeat (first | exact List.Sublist.refl _ | exact List.nil_sublist _ | apply List.Sublist.cons_cons | apply List.Sublist.cons)) (HeldL.mk2 [rowC b9 79 (inoCs q0.1 data.length (.slice none 0 0)), rowC b11 63 (spCs un sp)] Z.K Z.S Z.O (by repeat (first | exact Mems.nil | refine Mems.cons Z.M ?_))) rfl rfl rfl ((by exact Rd.rowS rfl G63 rfl Z.M Z.N rfl)) ?_
    refine WE.take 1 [] rfl Z.K (by repeat (first | exact List.Sublist.refl _ | exact List.nil_sublist _ | apply List.Sublist.cons_cons | apply List.Sublist.cons)) (HeldL.mk2 [rowC b9 79 (inoCs q0.1 data.length (.slice none 0 0)), rowC b11 63 (spCs un sp)] Z.K Z.S Z.O (by repeat (first | exact Mems.nil | refine Mems.cons Z.M ?_))) rfl rfl rfl ((by exact Rd.field rfl F79_1 rfl rfl)) ?_
    refine WE.take 2 [(10, rowC b9 79 (inoCs q0.1 data.length (.slice none 0 0))), (11, rowC b11 63 (spCs un sp))] rfl Z.K (by repeat (first | exact List.Sublist.refl _ | exact List.nil_sublist _ | apply List.Sublist.cons_cons | apply List.Sublist.cons)) (HeldL.mk2 [rowC b9 79 (inoCs q0.1 data.length (.slice none 0 0)), rowC b11 63 (spCs un sp)] Z.K Z.S Z.O (by repeat (first | exact Mems.nil | refine Mems.cons Z.M ?_))) rfl rfl rfl ((by exact Rd.row1 rfl C3 rfl Z.M (by rfl))) ?_
    refine WE.one 3 rfl Z.K rfl ?_
    refine OpW.call rfl rfl Z.E Z.K rfl rfl rfl ?_
    refine needs_spec Z.W ?_
    refine ⟨(HeldL.mk2 [rowC b9 79 (inoCs q0.1 data.length (.slice none 0 0)), rowC b11 63 (spCs un sp)] Z.K Z.S Z.O (by repeat (first | exact Mems.nil | refine Mems.cons Z.M ?_))), ?_⟩
    refine WE.one 4 rfl Z.K rfl ?_
    refine OpW.call rfl rfl Z.E Z.K rfl rfl rfl ?_
    refine spTake_spec (n := un) (f := sp) (k := needsE data.length) (most := 64) Z.W hneed.1 hneed.2 Z.W ?_; intro v xs hvo hT hS
    refine ⟨(HeldL.mk2 [rowC b9 79 (inoCs q0.1 data.length (.slice none 0 0)), rowC b11 63 (spCs un sp)] Z.K Z.S Z.O (by repeat (first | exact Mems.nil | refine Mems.cons Z.M ?_))), ?_⟩
    refine WE.take 5 [] rfl Z.K (by repeat (first | exact List.Sublist.refl _ | exact List.nil_sublist _ | apply List.Sublist.cons_cons | apply List.Sublist.cons)) (HeldL.mk2 [rowC b9 79 (inoCs q0.1 data.length (.slice none 0 0)), rowC b11 63 (spCs un sp)] Z.K Z.S Z.O (by repeat (first | exact Mems.nil | refine Mems.cons Z.M ?_))) rfl rfl rfl (Rd.move rfl rfl) ?_
    refine WE.take 6 [] rfl Z.K (by repeat (first | exact List.Sublist.refl _ | exact List.nil_sublist _ | apply List.Sublist.cons_cons | apply List.Sublist.cons)) (HeldL.mk2 [rowC b9 79 (inoCs q0.1 data.length (.slice none 0 0)), rowC b11 63 (spCs un sp)] Z.K Z.S Z.O (by repeat (first | exact Mems.nil | refine Mems.cons Z.M ?_))) rfl rfl rfl (Rd.extract rfl rfl rfl) ?_
    refine WE.take 7 [] rfl Z.K (by repeat (first | exact List.Sublist.refl _ | exact List.nil_sublist _ | apply List.Sublist.cons_cons | apply List.Sublist.cons)) (HeldL.mk2 [rowC b9 79 (inoCs q0.1 data.length (.slice none 0 0)), rowC b11 63 (spCs un sp)] Z.K Z.S Z.O (by repeat (first | exact Mems.nil | refine Mems.cons Z.M ?_))) rfl rfl rfl (Rd.extract rfl rfl rfl) ?_
    refine WE.take 8 [] rfl Z.K (by repeat (first | exact List.Sublist.refl _ | exact List.nil_sublist _ | apply List.Sublist.cons_cons | apply List.Sublist.cons)) (HeldL.mk2 [rowC b9 79 (inoCs q0.1 data.length (.slice none 0 0)), rowC b11 63 (spCs un sp)] Z.K Z.S Z.O (by repeat (first | exact Mems.nil | refine Mems.cons Z.M ?_))) rfl rfl rfl (Rd.extract rfl rfl rfl) ?_
    refine WE.take 9 [] rfl Z.K (by repeat (first | exact List.Sublist.refl _ | exact List.nil_sublist _ | apply List.Sublist.cons_cons | apply List.Sublist.cons)) (HeldL.mk2 [rowC b9 79 (inoCs q0.1 data.length (.slice none 0 0)), rowC b11 63 (spCs un sp)] Z.K Z.S Z.O (by repeat (first | exact Mems.nil | refine Mems.cons Z.M ?_))) rfl rfl rfl ((by exact Rd.field rfl F79_2 rfl rfl)) ?_
    refine WE.one 10 rfl Z.K rfl ?_
    refine OpW.store1 rfl Z77 rfl rfl hvo Z.T (by show 2 < 3; omega) rfl ?_
    refine ⟨(HeldL.mk2 [rowC b11 63 (spCs un sp)] Z.K Z.S Z.O (by repeat (first | exact Mems.nil | refine Mems.cons Z.M ?_))), ?_⟩
    refine WE.one 11 rfl Z.K rfl ?_
    refine OpW.storeS rfl G63 rfl rfl Z.N Z.T rfl rfl Z.N rfl ?_
    refine ⟨(HeldL.mk2 [] Z.K Z.S Z.O (by repeat (first | exact Mems.nil | refine Mems.cons Z.M ?_))), ?_⟩
    refine WE.take 12 [] rfl Z.K (by repeat (first | exact List.Sublist.refl _ | exact List.nil_sublist _ | apply List.Sublist.cons_cons | apply List.Sublist.cons)) (HeldL.mk2 [] Z.K Z.S Z.O (by repeat (first | exact Mems.nil | refine Mems.cons Z.M ?_))) rfl rfl rfl (Rd.assign rfl rfl) ?_
    refine WE.done Z.K ?_
    refine thenQ.normal ?_
    refine WC.seq ?_
    refine WC.region ?_
    refine WL.rd rfl rfl rfl (Rd.move rfl rfl) ?_
    refine WL.rd rfl rfl rfl (Rd.neq rfl rfl rfl) ?_
    refine WL.nil ?_
    refine thenQ.normal ?_
    refine WC.ite rfl (fun hc5 => ?_) (fun hc5 => ?_)
    ·
     exact absurd rfl hc5
    ·
     refine WC.skip ?_
     refine thenQ.normal ?_
     refine WC.seq ?_
     refine WC.seq ?_
     refine WC.region ?_
     refine WL.rd rfl rfl rfl ((by exact Rd.rowS rfl G63 rfl Z.M Z.N rfl)) ?_
     refine WL.rd rfl rfl rfl ((by exact Rd.field rfl F79_2 rfl rfl)) ?_
     refine WL.rd rfl rfl rfl ((by exact Rd.row1 rfl C77 rfl Z.M (by rfl))) ?_
     refine WL.op rfl ?_
     refine OpW.call rfl rfl Z.E Z.K rfl rfl rfl ?_
     refine spGive_spec (n := un) (f := turnF true sp xs) (xs := q0.2.2.2) Z.M Z.W (htk0'.congr fun i hin => by rw [turnF_at]; split; rfl; exact (htk0'.unit hin).2) Z.W ?_
     refine WL.rd rfl rfl rfl (Rd.move rfl rfl) ?_
     refine WL.rd rfl rfl rfl (Rd.extract rfl rfl rfl) ?_
     refine WL.rd rfl rfl rfl (Rd.extract rfl rfl rfl) ?_
     refine WL.op rfl ?_
     refine OpW.storeS rfl G63 rfl rfl Z.N Z.T rfl rfl Z.N rfl ?_
     refine WL.rd rfl rfl rfl (Rd.assign rfl rfl) ?_
     refine WL.nil ?_
     refine thenQ.normal ?_
     refine WC.seq ?_
     refine WC.region ?_
     refine WL.rd rfl rfl rfl (Rd.move rfl rfl) ?_
     refine WL.rd rfl rfl rfl (Rd.neq rfl rfl rfl) ?_
     refine WL.nil ?_
     refine thenQ.normal ?_
     refine WC.ite rfl (fun hc6 => ?_) (fun hc6 => ?_)
     ·
      exact absurd rfl hc6
     ·
      refine WC.skip ?_
      refine thenQ.normal ?_
      refine WC.seq ?_
      rw [hun] at hT
      have hlx := hT.len
      have hTm := fun x hx => (hT.mem x hx).2.1
      have hW : WriteP n files (fsOf m) sp name data q0.1 xs := ⟨hg, hdl, hok0.e, fun b y hb => ⟨fun h => hi.inv.fok.inj b name y _ hb hfn h, fun h => by subst h; rw [hfn] at hb; cases hb; rfl⟩, hT, hS, by omega⟩
      have hio : InoOk files name (miI (q0.1, data.length, v, xs)) := hW.ino hn.2
      have hfree2 : turnF false (turnF true sp xs) q0.2.2.2 = freeO (turnF true sp xs) (fsOf m name) := by rw [hfn]; rfl
      rw [hfree2]
      refine WC.drawn (rowC b9 79 (inoCs q0.1 data.length v) :: rowC b11 63 (spCs un (freeO (turnF true sp xs) (fsOf m name))) :: O) 11 rfl mixed ?_
      refine WD.take 0 rfl Z.K Z.H rfl rfl rfl (Rd.move rfl rfl) ?_
      refine WD.take 1 rfl Z.K Z.H rfl rfl rfl (Rd.move rfl rfl) ?_
      refine WD.take 2 rfl Z.K Z.H rfl rfl rfl ((by exact Rd.rowS rfl G79 rfl Z.M Z.N rfl)) ?_
      refine WD.take 3 rfl Z.K Z.H rfl rfl rfl ((by exact Rd.rowS rfl G63 rfl Z.M Z.N rfl)) ?_
      refine WD.take 4 rfl Z.K Z.H rfl rfl rfl (Rd.move rfl rfl) ?_
      refine WD.take 5 rfl Z.K Z.H rfl rfl rfl ((by exact Rd.field rfl F79_2 rfl rfl)) ?_
      refine WD.take 6 rfl Z.K Z.H rfl rfl rfl ((by exact Rd.row1 rfl C77 rfl Z.M (by rfl))) ?_
      refine WD.take 8 rfl Z.K Z.H rfl rfl rfl (Rd.move rfl rfl) ?_
      refine WD.one 7 rfl Z.K rfl ?_
      refine OpW.call rfl rfl Z.E Z.K rfl rfl rfl ?_
      refine sectors_spec (s := s) (files := files) (xs := xs) Z.M Z.M rfl Z.W Z.W (fun x hx => by have := hTm x hx; omega) ?_; intro v75
      refine ⟨Z.H, ?_⟩
      refine WD.one 9 rfl Z.K rfl ?_
      refine OpW.call rfl rfl Z.E Z.K rfl rfl rfl ?_
      refine Fun.heap (R' := SlE (SL.one vi) v75 (secI (secE (7 + files) xs)) :: SlE encX v xs :: SlE encX q0.2.2.1 q0.2.2.2 :: R) (O' := stO s d l mb un files sp false m V D (rowC b9 79 (inoCs q0.1 data.length v) :: rowC b11 63 (spCs un (freeO (turnF true sp xs) (fsOf m name))) :: O)) Z.F ?_
      refine filePut2_spec (q := (q0.1, data.length, v, xs)) (L := secE (7 + files) xs) (by repeat (first | exact ht | refine List.mem_cons_of_mem _ ?_)) (by repeat (first | exact hlog | refine List.mem_cons_of_mem _ ?_)) (by repeat (first | exact hall | refine List.mem_cons_of_mem _ ?_)) (List.mem_cons_of_mem _ List.mem_cons_self) hio hfs List.mem_cons_self (by rw [sec_len]; omega) (hi.fits Z.W) dk Z.W hv (by repeat (first | exact hkeep | refine List.mem_cons_of_mem _ ?_)) Z.W ?_
      intro V' p hp hv' hkv'
      refine ⟨Z.H, ?_⟩
      refine WD.take 10 rfl Z.K Z.H rfl rfl rfl (Rd.assign rfl rfl) ?_
      refine WD.done Z.K ?_
      refine thenQ.normal ?_
      refine WC.ret (Ret.one Tryz.results13 rfl ?_)
      exact ⟨_, _, hk V' p q0.1 v xs hW hp hv' hkv', Z.F⟩
end
end Go.Proofs.YtckokhdjeifomaaGreatDoor
namespace Go.Proofs.YtckokhdjeifomaaGreatDoor
open Go Go.SL
section
variable {R : List RO} {O : List Own} {POST : Value → List RO → List Own → Prop} {s d l mb un files k : Nat} {sp : Nat → Bool} {m : GoMap Tx MI} {V : DV} {D : DSt}
set_option maxRecDepth 20000 in
theorem cloneX_spec {xs : List Ext} {av : Value} (ha : SlE encX av xs ∈ R) (hb : xs.length ≤ 100000) (hk : ∀ v, OneV v → POST v R (accC 120 2 encX v xs :: O)) : Fun Tryz.prog 58 #[av] R O POST := by
 refine Fun.know (φ := ∃ a c, av = .slice a xs.length c ∧ (a = none → xs.length = 0)) ha (fun w h => by
  obtain ⟨a, c, h1, _, _, h2, _⟩ := h
  exact ⟨a, c, h1, h2⟩) ?_
 rintro ⟨a, c, rfl, hn⟩
 refine Fun.enter (l := [_]) Tryz.func58 rfl Tryz.ntmps58 rfl (L0 := [(0, _)]) rfl ?_
 refine WC.seq ?_
 refine WC.region ?_
 refine WL.rd rfl rfl rfl (Rd.assign rfl rfl) ?_
 refine WL.nil ?_
 refine thenQ.normal ?_
 refine WC.seq ?_
 refine WC.seq ?_
 refine WC.region ?_
 refine WL.rd rfl rfl rfl (Rd.move rfl rfl) ?_
 refine WL.rd rfl rfl rfl (Rd.eqNil' rfl Tryz.underlying77 rfl rfl) ?_
 refine WL.nil ?_
 refine thenQ.normal ?_
 refine WC.cond rfl (fun hc1 => ?_) (fun hc1 => ?_)
 ·
  refine WC.seq ?_
  refine WC.region ?_
  refine WL.rd rfl rfl rfl (Rd.assign rfl rfl) ?_
  refine WL.nil ?_
  refine thenQ.normal ?_
  obtain rfl : xs = [] := List.length_eq_zero_iff.1 (hn (by simpa using hc1))
  refine WC.heap (fun w h => h.accNil (α := Ext) (e := 120) (size := 2) (enc := encX)) ?_
  refine WC.ret (Ret.one Tryz.results58 rfl ?_)
  exact hk _ OneV.sl
 ·
  refine WC.skip ?_
  refine thenQ.normal ?_
  refine WC.seq ?_
  refine WC.region ?_
  refine WL.op rfl ?_
  refine OpW.buildSl (ps := []) rfl S77 Z.E rfl rfl Z.C Z.K rfl rfl rfl ?_; intro b5
  refine WL.rd rfl rfl rfl (Rd.move rfl rfl) ?_
  refine WL.heap (fun w h => h.accRow (α := Ext) (enc := encX) (size := 2) (xs := []) Z.T rfl rfl (fun _ => rfl) (Nat.zero_le _)) ?_
  refine WL.op rfl ?_
  refine OpW.appendE (enc := encX) rfl S77 Tryz.underlying77 rfl rfl Z.T Z.M (by intro x; rfl) (by intro x; rfl) (by exact ⟨by simp only [maxLen, List.length_append, List.length_nil, List.length_cons, List.length_drop, List.length_take, List.length_map]; omega, by (simp only [List.length_append, List.length_nil, List.length_cons, List.length_drop, List.length_take, List.length_map]; omega)⟩) rfl rfl ?_; intro v7 hv7
  refine WL.rd rfl rfl rfl (Rd.assign rfl rfl) ?_
  refine WL.nil ?_
  refine thenQ.normal ?_
  refine WC.ret (Ret.one Tryz.results58 rfl ?_)
  exact hk _ hv7
/-- What an Append leaves. -/
def ApPost (POST : Value → List RO → List Own → Prop) (R : List RO) (O : List Own) (s d l mb un files n : Nat) (sp : Nat → Bool) (m : GoMap Tx MI) (V : DV) (D : DSt) (name data : Tx) (q0 : MI) : Prop :=
 ∀ V' p v xs, AppP n files (fsOf m) sp name data (miI q0) xs → p = opS D ((2 + files : Nat) : Int) 5 (appL (7 + files) (miI q0) xs) (appD D.lasts (7 + files) (miI q0) data) (spB un (turnF true sp xs)) [(q0.1, entryE name (appI (miI q0) data xs))] → VOk V' p.1 → V'.kv = V.kv →
  POST (.int .i64 (p.2 : Nat)) (allM (if p.2 = 0 then m.set name (q0.1, q0.2.1 + data.length, v, q0.2.2.2 ++ xs) else m) :: R) (stO s d l mb un files (if p.2 = 0 then turnF true sp xs else sp) (decide (p.2 ≠ 0)) (if p.2 = 0 then m.set name (q0.1, q0.2.1 + data.length, v, q0.2.2.2 ++ xs) else m) V' p.1 O)
set_option maxRecDepth 20000 in
theorem append_none {n : Nat} {name data : Tx} (hmg : m.get name = none) (hg : GoodN name) (hi : Mnt n files (fsOf m) sp D) (hk : POST (.int .i64 9) R (stO s d l mb un files sp false m V D O)) :
 Fun Tryz.prog 26 #[dp s, vs name, vs data] R (stO s d l mb un files sp false m V D O) POST := by
 refine Fun.turn ?_
 refine Fun.enter (l := [_, _, _]) Tryz.func26 rfl Tryz.ntmps26 rfl (L0 := [(0, _), (1, _), (2, _)]) rfl ?_
 refine WC.seq ?_
 refine WC.region ?_
 refine WL.rd rfl rfl rfl (Rd.assign rfl rfl) ?_
 refine WL.nil ?_
 refine thenQ.normal ?_
 refine WC.seq ?_
 refine WC.region ?_
 refine WL.rd rfl rfl rfl (Rd.move rfl rfl) ?_
 refine WL.rd rfl rfl rfl (Rd.move rfl rfl) ?_
 refine WL.op rfl ?_
 refine OpW.call rfl rfl Z.E Z.K rfl rfl rfl ?_
 refine find_none hmg hg hi.cl.off ?_
 refine WL.rd rfl rfl rfl (Rd.move rfl rfl) ?_
 refine WL.rd rfl rfl rfl (Rd.extract rfl rfl rfl) ?_
 refine WL.rd rfl rfl rfl (Rd.extract rfl rfl rfl) ?_
 refine WL.op rfl ?_
 refine OpW.alloc rfl I79 rfl Z.N rfl rfl ?_; intro b7
 refine WL.op rfl ?_
 refine OpW.storeS rfl G79 rfl rfl Z.N Z.T rfl rfl Z.N rfl ?_
 refine WL.rd rfl rfl rfl (Rd.assign rfl rfl) ?_
 refine WL.nil ?_
 refine thenQ.normal ?_
 refine WC.seq ?_
 refine WC.seq ?_
 refine WC.region ?_
 refine WL.rd rfl rfl rfl (Rd.move rfl rfl) ?_
 refine WL.rd rfl rfl rfl (Rd.neq rfl rfl rfl) ?_
 refine WL.nil ?_
 refine thenQ.normal ?_
 refine WC.ite rfl (fun hc1 => ?_) (fun hc1 => ?_)
 ·
  refine WC.seq ?_
  refine WC.region ?_
  refine WL.rd rfl rfl rfl (Rd.move rfl rfl) ?_
  refine WL.rd rfl rfl rfl (Rd.assign rfl rfl) ?_
  refine WL.nil ?_
  refine thenQ.normal ?_
  refine WC.ret (thenQ.retR (Ret.one Tryz.results26 rfl ?_))
  exact ⟨_, _, hk, Z.F⟩
 ·
  exact absurd (by decide) hc1
set_option maxRecDepth 20000 in
theorem append_nil {n : Nat} {name : Tx} {q0 : MI} (hmg : m.get name = some q0) (hg : GoodN name) (hi : Mnt n files (fsOf m) sp D) (hall : allM m ∈ R) (hk : POST (.int .i64 0) R (stO s d l mb un files sp false m V D O)) :
 Fun Tryz.prog 26 #[dp s, vs name, vs []] R (stO s d l mb un files sp false m V D O) POST := by
 refine Fun.turn ?_
 have hok0 := hi.inv.fok.ok name _ (fs_some hmg)
 have hn0 : q0.2.1 ≤ 1048576 := hok0.n
 refine Fun.know (φ := OneV q0.2.2.1) hall (fun w h => SlE.oneV (h name q0 hmg)) fun hone => ?_
 refine Fun.enter (l := [_, _, _]) Tryz.func26 rfl Tryz.ntmps26 rfl (L0 := [(0, _), (1, _), (2, _)]) rfl ?_
 refine WC.seq ?_
 refine WC.region ?_
 refine WL.rd rfl rfl rfl (Rd.assign rfl rfl) ?_
 refine WL.nil ?_
 refine thenQ.normal ?_
 refine WC.seq ?_
 refine WC.region ?_
 refine WL.rd rfl rfl rfl (Rd.move rfl rfl) ?_
 refine WL.rd rfl rfl rfl (Rd.move rfl rfl) ?_
 refine WL.op rfl ?_
 refine OpW.call rfl rfl Z.E Z.K rfl rfl rfl ?_
 refine find_some hmg hg hi.cl.off hall ?_
 refine WL.rd rfl rfl rfl (Rd.move rfl rfl) ?_
 refine WL.rd rfl rfl rfl (Rd.extract rfl rfl rfl) ?_
 refine WL.rd rfl rfl rfl (Rd.extract rfl rfl rfl) ?_
 refine WL.op rfl ?_
 refine OpW.alloc rfl I79 rfl Z.N rfl rfl ?_; intro b7
 refine WL.op rfl ?_
 refine OpW.storeS (h1 := by simp only [List.all_cons, List.all_nil, hone.one]; rfl) rfl G79 rfl rfl Z.N Z.T rfl rfl Z.N rfl ?_
 refine WL.rd rfl rfl rfl (Rd.assign rfl rfl) ?_
 refine WL.nil ?_
 refine thenQ.normal ?_
 refine WC.seq ?_
 refine WC.seq ?_
 refine WC.region ?_
 refine WL.rd rfl rfl rfl (Rd.move rfl rfl) ?_
 refine WL.rd rfl rfl rfl (Rd.neq rfl rfl rfl) ?_
 refine WL.nil ?_
 refine thenQ.normal ?_
 refine WC.ite rfl (fun hc1 => ?_) (fun hc1 => ?_)
 ·
  exact absurd rfl hc1
 ·
  refine WC.skip ?_
  refine thenQ.normal ?_
  refine WC.seq ?_
  refine WC.block ?_
  refine WC.seq ?_
  refine WC.region ?_
  refine WL.rd rfl rfl rfl (Rd.move rfl rfl) ?_
  refine WL.rd rfl rfl rfl (Rd.slen (ts := #[]) (ty := 0) rfl rfl Tryz.underlying9) ?_
  refine WL.say 28 (u := .int .i64 0) rfl rfl ?_
  refine WL.rd rfl rfl rfl ((by exact Rd.field rfl F79_1 rfl rfl)) ?_
  refine WL.rd rfl rfl rfl ((by exact Rd.row1 rfl C3 rfl Z.M (by rfl))) ?_
  refine WL.rd rfl rfl rfl (Rd.sub rfl rfl rfl Z.W) ?_
  refine WL.rd rfl rfl rfl (Rd.gtr rfl rfl rfl) ?_
  refine WL.rd rfl rfl rfl (Rd.assign rfl rfl) ?_
  refine WL.nil ?_
  refine thenQ.normal ?_
  refine WC.ite rfl (fun hc2 => ?_) (fun hc2 => ?_)
  ·
   omega
  ·
   refine WC.seq ?_
   refine WC.region ?_
   refine WL.rd rfl rfl rfl (Rd.move rfl rfl) ?_
   refine WL.rd rfl rfl rfl (Rd.seql rfl rfl rfl) ?_
   refine WL.say 35 (u := .bool true) rfl (by rfl) ?_
   refine WL.rd rfl rfl rfl (Rd.assign rfl rfl) ?_
   refine WL.nil ?_
   refine thenQ.normal ?_
   refine WC.cond rfl (fun hc3 => ?_) (fun hc3 => ?_)
   ·
    refine WC.seq ?_
    refine WC.region ?_
    refine WL.rd rfl rfl rfl (Rd.assign rfl rfl) ?_
    refine WL.nil ?_
    refine thenQ.normal ?_
    refine WC.ret (blockQ.retR (thenQ.retR (Ret.one Tryz.results26 rfl ?_)))
    exact ⟨_, _, hk, Z.F⟩
   ·
    cases hc3
set_option maxRecDepth 20000 in
set_option maxHeartbeats 8000000 in
theorem append_some {n : Nat} {name data : Tx} {q0 : MI} (hmg : m.get name = some q0) (hg : GoodN name) (hi : Mnt n files (fsOf m) sp D) (hun : un = n - (7 + files)) (hn : 7 + files < n ∧ n ≤ 4096) (hfs : files ≤ 256) (hne : data ≠ []) (hdl : q0.2.1 + data.length ≤ 1048576) (hneed : needsE (q0.2.1 + data.length) - needsE q0.2.1 ≤ cntF sp un ∧ needsE (q0.2.1 + data.length) ≤ 64) (ht : tabR ∈ R) (hlog : logR l d ((2 + files : Nat) : Int) 5 ∈ R) (hall : allM m ∈ R)
 (dk : Dk D k) (hm : k ≤ 4294700000) (hv : VOk V D) (hkeep : SlE (SL.one vi) V.kv D.keep ∈ R) (hk : ApPost POST R O s d l mb un files n sp m V D name data q0) :
 Fun Tryz.prog 26 #[dp s, vs name, vs data] R (stO s d l mb un files sp false m V D O) POST := by
 refine Fun.turn ?_
 have hfn := fs_some hmg
 have hok0 := hi.inv.fok.ok name _ hfn
 have htk0 := hi.inv.fok.tk name _ hfn
 have hl0 := htk0.len
 have hs0 : sumX q0.2.2.2 = needsE q0.2.1 := hok0.sum
 have hl0' : q0.2.2.2.length ≤ needsE q0.2.1 := by rw [← hs0]; exact hl0
 have hmono : needsE q0.2.1 ≤ needsE (q0.2.1 + data.length) := by unfold needsE; omega
 have hdpos : 0 < data.length := List.length_pos_iff.2 hne
 have hlen := hi.inv.len
 have hsl : (secI (secE (7 + files) q0.2.2.2)).length = needsE q0.2.1 := by rw [secI_len, sec_len, hs0]
 refine Fun.know (φ := OneV q0.2.2.1) hall (fun w h => SlE.oneV (h name q0 hmg)) fun hone => ?_
 refine Fun.enter (l := [_, _, _]) Tryz.func26 rfl Tryz.ntmps26 rfl (L0 := [(0, _), (1, _), (2, _)]) rfl ?_
 refine WC.seq ?_
 refine WC.region ?_
 refine WL.rd rfl rfl rfl (Rd.assign rfl rfl) ?_
 refine WL.nil ?_
 refine thenQ.normal ?_
 refine WC.seq ?_
 refine WC.region ?_
 refine WL.rd rfl rfl rfl (Rd.move rfl rfl) ?_
 refine WL.rd rfl rfl rfl (Rd.move rfl rfl) ?_
 refine WL.op rfl ?_
 refine OpW.call rfl rfl Z.E Z.K rfl rfl rfl ?_
 refine find_some hmg hg hi.cl.off hall ?_
 refine WL.rd rfl rfl rfl (Rd.move rfl rfl) ?_
 refine WL.rd rfl rfl rfl (Rd.extract rfl rfl rfl) ?_
 refine WL.rd rfl rfl rfl (Rd.extract rfl rfl rfl) ?_
 refine WL.op rfl ?_
 refine OpW.alloc rfl I79 rfl Z.N rfl rfl ?_; intro b7
 refine WL.op rfl ?_
 refine OpW.storeS (h1 := by simp only [List.all_cons, List.all_nil, hone.one]; rfl) rfl G79 rfl rfl Z.N Z.T rfl rfl Z.N rfl ?_
 refine WL.rd rfl rfl rfl (Rd.assign rfl rfl) ?_
 refine WL.nil ?_
 refine thenQ.normal ?_
 refine WC.seq ?_
 refine WC.seq ?_
 refine WC.region ?_
 refine WL.rd rfl rfl rfl (Rd.move rfl rfl) ?_
 refine WL.rd rfl rfl rfl (Rd.neq rfl rfl rfl) ?_
 refine WL.nil ?_
 refine thenQ.normal ?_
 refine WC.ite rfl (fun hc1 => ?_) (fun hc1 => ?_)
 ·
  exact absurd rfl hc1
 ·
  refine WC.skip ?_
  refine thenQ.normal ?_
  refine WC.seq ?_
  refine WC.block ?_
  refine WC.seq ?_
  refine WC.region ?_
  refine WL.rd rfl rfl rfl (Rd.move rfl rfl) ?_
  refine WL.rd rfl rfl rfl (Rd.slen (ts := #[]) (ty := 0) rfl rfl Tryz.underlying9) ?_
  refine WL.rd rfl rfl rfl ((by exact Rd.field rfl F79_1 rfl rfl)) ?_
  refine WL.rd rfl rfl rfl ((by exact Rd.row1 rfl C3 rfl Z.M (by rfl))) ?_
  refine WL.rd rfl rfl rfl (Rd.sub rfl rfl rfl Z.W) ?_
  refine WL.rd rfl rfl rfl (Rd.gtr rfl rfl rfl) ?_
  refine WL.rd rfl rfl rfl (Rd.assign rfl rfl) ?_
  refine WL.nil ?_
  refine thenQ.normal ?_
  refine WC.ite rfl (fun hc2 => ?_) (fun hc2 => ?_)
  ·
   omega
  ·
   refine WC.seq ?_
   refine WC.region ?_
   refine WL.rd rfl rfl rfl (Rd.move rfl rfl) ?_
   refine WL.rd rfl rfl rfl (Rd.seql rfl rfl rfl) ?_
   refine WL.rd rfl rfl rfl (Rd.assign rfl rfl) ?_
   refine WL.nil ?_
   refine thenQ.normal ?_
   refine WC.ite rfl (fun hc3 => ?_) (fun hc3 => ?_)
   ·
    (exfalso; exact hne (by simpa using hc3))
   ·
    refine WC.skip ?_
    refine blockQ.normal ?_
    refine thenQ.normal ?_
    refine WC.seq ?_
    refine WC.region ?_
    refine WL.rd rfl rfl rfl (Rd.move rfl rfl) ?_
    refine WL.rd rfl rfl rfl ((by exact Rd.field rfl F79_2 rfl rfl)) ?_
    refine WL.rd rfl rfl rfl ((by exact Rd.row1 rfl C77 rfl Z.M (by rfl))) ?_
    refine WL.op rfl ?_
    refine OpW.call rfl rfl Z.E Z.K rfl rfl rfl ?_
    refine sectors_spec (s := s) (files := files) (xs := q0.2.2.2) Z.M Z.M rfl Z.W Z.W (fun x hx => (hok0.ext x hx).2) ?_; intro v39
    refine WL.rd rfl rfl rfl (Rd.assign rfl rfl) ?_
    refine WL.nil ?_
    refine thenQ.normal ?_
    refine WC.cut (α := Value × List Ext × Nat) (fun q => [(0, dp s), (1, vs name), (2, vs data), (7, .pointer (some ⟨b7, 0, none⟩)), (8, .int .i64 0), (9, v39), (10, q.1), (11, .pointer (some ⟨q.2.2, 0, none⟩))]) (fun q => SlE encX q.1 q.2.1 :: SlE (SL.one vi) v39 (secI (secE (7 + files) q0.2.2.2)) :: SlE encX q0.2.2.1 q0.2.2.2 :: R) (fun q => rowC b7 79 (inoCs q0.1 q0.2.1 q0.2.2.1) :: rowC q.2.2 63 (spCs un (turnF true sp q.2.1)) :: stO s d l mb un files sp false m V D O) (fun q => OneV q.1 ∧ TurnOk un true sp q.2.1 ∧ sumX q.2.1 = needsE (q0.2.1 + data.length) - needsE q0.2.1) ?_ ?_
    ·
     refine WC.drawn (rowC b7 79 (inoCs q0.1 q0.2.1 q0.2.2.1) :: stO s d l mb un files sp false m V D O) 26 rfl mixed ?_
     refine WD.take 0 rfl Z.K Z.H rfl rfl rfl (Rd.move rfl rfl) ?_
     refine WD.take 1 rfl Z.K Z.H rfl rfl rfl (Rd.nilc rfl rfl) ?_
     refine WD.take 2 rfl Z.K Z.H rfl rfl rfl ((by exact Rd.field rfl F65_2 rfl rfl)) ?_
     refine WD.take 3 rfl Z.K Z.H rfl rfl rfl (Rd.rowS (b := s) rfl G63 rfl Z.M Z.N rfl) ?_
     refine WD.take 4 rfl Z.K Z.H rfl rfl rfl ((by exact Rd.field rfl F79_1 rfl rfl)) ?_
     refine WD.take 5 rfl Z.K Z.H rfl rfl rfl ((by exact Rd.row1 rfl C3 rfl Z.M (by rfl))) ?_
     refine WD.take 6 rfl Z.K Z.H rfl rfl rfl (Rd.move rfl rfl) ?_
     refine WD.take 7 rfl Z.K Z.H rfl rfl rfl (Rd.slen (ts := #[]) (ty := 0) rfl rfl Tryz.underlying9) ?_
     refine WD.take 8 rfl Z.K Z.H rfl rfl rfl (Rd.add rfl rfl rfl Z.W) ?_
     refine WD.take 10 rfl Z.K Z.H rfl rfl rfl (Rd.move rfl rfl) ?_
     refine WD.take 11 rfl Z.K Z.H rfl rfl rfl (Rd.lenE (enc := SL.one vi) (xs := secI (secE (7 + files) q0.2.2.2)) rfl rfl Tryz.underlying23 Z.M) ?_
     refine WD.take 13 rfl Z.K Z.H rfl rfl rfl ((by exact Rd.field rfl F79_2 rfl rfl)) ?_
     refine WD.take 14 rfl Z.K Z.H rfl rfl rfl ((by exact Rd.row1 rfl C77 rfl Z.M (by rfl))) ?_
     refine WD.take 15 rfl Z.K Z.H rfl rfl rfl (Rd.lenE (enc := encX) (xs := q0.2.2.2) rfl rfl Tryz.underlying77 Z.M) ?_
     refine WD.take 16 rfl Z.K Z.H rfl rfl rfl (Rd.sub rfl rfl rfl Z.W) ?_
     refine WD.say 57 (u := .int .i64 ((64 - q0.2.2.2.length : Nat) : Int)) rfl (by congr 1; omega) ?_
     refine WD.two 9 22 rfl rfl Z.K rfl rfl ?_ ?_
     ·
      refine OpW.call rfl rfl Z.E Z.K rfl rfl rfl ?_
      refine needs_spec (n := q0.2.1 + data.length) Z.W ?_
      refine ⟨Z.H, ?_⟩
      refine WD.take 12 rfl Z.K Z.H rfl rfl rfl (Rd.sub rfl rfl rfl Z.W) ?_
      refine WD.say 53 (u := .int .i64 ((needsE (q0.2.1 + data.length) - needsE q0.2.1 : Nat) : Int)) rfl (by rw [secI_len, sec_len, hs0]; congr 1; omega) ?_
      refine WD.two 17 22 rfl rfl Z.K rfl rfl ?_ ?_
      ·
       refine OpW.call rfl rfl Z.E Z.K rfl rfl rfl ?_
       refine spTake_spec (n := un) (f := sp) (k := needsE (q0.2.1 + data.length) - needsE q0.2.1) (most := 64 - q0.2.2.2.length) Z.W hneed.1 Z.W Z.W ?_; intro v xs hvo hT hS
       refine ⟨Z.H, ?_⟩
       refine WD.take 18 rfl Z.K Z.H rfl rfl rfl (Rd.move rfl rfl) ?_
       refine WD.take 19 rfl Z.K Z.H rfl rfl rfl (Rd.extract rfl rfl rfl) ?_
       refine WD.take 20 rfl Z.K Z.H rfl rfl rfl (Rd.extract rfl rfl rfl) ?_
       refine WD.take 21 rfl Z.K Z.H rfl rfl rfl (Rd.extract rfl rfl rfl) ?_
       refine WD.one 22 rfl Z.K rfl ?_
       refine OpW.alloc rfl I63 rfl Z.N rfl rfl ?_; intro b11
       refine ⟨Z.H, ?_⟩
       refine WD.take 23 rfl Z.K Z.H rfl rfl rfl (Rd.assign rfl rfl) ?_
       refine WD.one 24 rfl Z.K rfl ?_
       refine OpW.storeS rfl G63 rfl rfl Z.N Z.T rfl rfl Z.N rfl ?_
       refine ⟨Z.H, ?_⟩
       refine WD.take 25 rfl Z.K Z.H rfl rfl rfl (Rd.assign rfl rfl) ?_
       refine WD.done Z.K ?_
       exact ⟨(v, xs, b11), ⟨hvo, hT, hS⟩, (by repeat (first | exact Sub.nil | refine Sub.cons rfl (by rfl) ?_)), Z.F⟩
      ·
       refine OpW.alloc rfl I63 rfl Z.N rfl rfl ?_; intro b11
       refine ⟨Z.H, ?_⟩
       refine WD.one 17 rfl Z.K rfl ?_
       refine OpW.call rfl rfl Z.E Z.K rfl rfl rfl ?_
       refine spTake_spec (n := un) (f := sp) (k := needsE (q0.2.1 + data.length) - needsE q0.2.1) (most := 64 - q0.2.2.2.length) Z.W hneed.1 Z.W Z.W ?_; intro v xs hvo hT hS
       refine ⟨Z.H, ?_⟩
       refine WD.take 18 rfl Z.K Z.H rfl rfl rfl (Rd.move rfl rfl) ?_
       refine WD.take 19 rfl Z.K Z.H rfl rfl rfl (Rd.extract rfl rfl rfl) ?_
       refine WD.take 20 rfl Z.K Z.H rfl rfl rfl (Rd.extract rfl rfl rfl) ?_
       refine WD.take 21 rfl Z.K Z.H rfl rfl rfl (Rd.extract rfl rfl rfl) ?_
       refine WD.take 23 rfl Z.K Z.H rfl rfl rfl (Rd.assign rfl rfl) ?_
       refine WD.one 24 rfl Z.K rfl ?_
       refine OpW.storeS rfl G63 rfl rfl Z.N Z.T rfl rfl Z.N rfl ?_
       refine ⟨Z.H, ?_⟩
       refine WD.take 25 rfl Z.K Z.H rfl rfl rfl (Rd.assign rfl rfl) ?_
       refine WD.done Z.K ?_
       exact ⟨(v, xs, b11), ⟨hvo, hT, hS⟩, (by repeat (first | exact Sub.nil | refine Sub.cons rfl (by rfl) ?_)), Z.F⟩
     ·
      refine OpW.alloc rfl I63 rfl Z.N rfl rfl ?_; intro b11
      refine ⟨Z.H, ?_⟩
      refine WD.one 9 rfl Z.K rfl ?_
      refine OpW.call rfl rfl Z.E Z.K rfl rfl rfl ?_
      refine needs_spec (n := q0.2.1 + data.length) Z.W ?_
      refine ⟨Z.H, ?_⟩
      refine WD.take 12 rfl Z.K Z.H rfl rfl rfl (Rd.sub rfl rfl rfl Z.W) ?_
      refine WD.say 53 (u := .int .i64 ((needsE (q0.2.1 + data.length) - needsE q0.2.1 : Nat) : Int)) rfl (by rw [secI_len, sec_len, hs0]; congr 1; omega) ?_
      refine WD.one 17 rfl Z.K rfl ?_
      refine OpW.call rfl rfl Z.E Z.K rfl rfl rfl ?_
      refine spTake_spec (n := un) (f := sp) (k := needsE (q0.2.1 + data.length) - needsE q0.2.1) (most := 64 - q0.2.2.2.length) Z.W hneed.1 Z.W Z.W ?_; intro v xs hvo hT hS
      refine ⟨Z.H, ?_⟩
      refine WD.take 18 rfl Z.K Z.H rfl rfl rfl (Rd.move rfl rfl) ?_
      refine WD.take 19 rfl Z.K Z.H rfl rfl rfl (Rd.extract rfl rfl rfl) ?_
      refine WD.take 20 rfl Z.K Z.H rfl rfl rfl (Rd.extract rfl rfl rfl) ?_
      refine WD.take 21 rfl Z.K Z.H rfl rfl rfl (Rd.extract rfl rfl rfl) ?_
      refine WD.take 23 rfl Z.K Z.H rfl rfl rfl (Rd.assign rfl rfl) ?_
      refine WD.one 24 rfl Z.K rfl ?_
      refine OpW.storeS rfl G63 rfl rfl Z.N Z.T rfl rfl Z.N rfl ?_
      refine ⟨Z.H, ?_⟩
      refine WD.take 25 rfl Z.K Z.H rfl rfl rfl (Rd.assign rfl rfl) ?_
      refine WD.done Z.K ?_
      exact ⟨(v, xs, b11), ⟨hvo, hT, hS⟩, (by repeat (first | exact Sub.nil | refine Sub.cons rfl (by rfl) ?_)), Z.F⟩
    ·
     rintro ⟨v, xs, b11⟩ ⟨hvo, hT, hS⟩
     dsimp only at hvo hT hS ⊢
     rw [hun] at hT
     have hlx := hT.len
     have hTm := fun x hx => (hT.mem x hx).2.1
     have hW : AppP n files (fsOf m) sp name data (miI q0) xs := ⟨hfn, hdl, hne, hT, hS, by show q0.2.2.2.length + xs.length ≤ 64; omega⟩
     have hio : InoOk files name (miI (q0.1, q0.2.1 + data.length, v, q0.2.2.2 ++ xs)) := hW.ino hi.inv.fok hn.2
     have hta : tailE (miI q0) = q0.2.1 % 512 := rfl
     refine WC.seq ?_
     refine WC.seq ?_
     refine WC.region ?_
     refine WL.rd rfl rfl rfl (Rd.move rfl rfl) ?_
     refine WL.rd rfl rfl rfl (Rd.neq rfl rfl rfl) ?_
     refine WL.nil ?_
     refine thenQ.normal ?_
     refine WC.ite rfl (fun hc4 => ?_) (fun hc4 => ?_)
     ·
      exact absurd rfl hc4
     ·
      refine WC.skip ?_
      refine thenQ.normal ?_
      refine WC.seq ?_
      refine WC.region ?_
      refine WL.rd rfl rfl rfl (Rd.move rfl rfl) ?_
      refine WL.rd rfl rfl rfl (Rd.move rfl rfl) ?_
      refine WL.op rfl ?_
      refine OpW.call rfl rfl Z.E Z.K rfl rfl rfl ?_
      refine sectors_spec (s := s) (files := files) (xs := xs) Z.M Z.M rfl Z.W Z.W (fun x hx => by have := hTm x hx; omega) ?_; intro v66
      refine WL.rd rfl rfl rfl (Rd.assign rfl rfl) ?_
      refine WL.nil ?_
      refine thenQ.normal ?_
      refine WC.cut (α := Value) (fun q => [(0, dp s), (1, vs name), (2, vs (appD D.lasts (7 + files) (miI q0) data)), (7, .pointer (some ⟨b7, 0, none⟩)), (10, v), (11, .pointer (some ⟨b11, 0, none⟩)), (12, q)]) (fun q => SlE (SL.one vi) q (secI (appL (7 + files) (miI q0) xs)) :: SlE encX v xs :: SlE encX q0.2.2.1 q0.2.2.2 :: R) (fun q => rowC b7 79 [.int .i64 (q0.1 : Int), .int .i64 ((q0.2.1 - tailE (miI q0) : Nat) : Int), q0.2.2.1] :: rowC b11 63 (spCs un (turnF true sp xs)) :: stO s d l mb un files sp false m V D O) (fun _ => True) ?_ ?_
      ·
       refine WC.seq ?_
       refine WC.region ?_
       refine WL.rd rfl rfl rfl ((by exact Rd.field rfl F79_1 rfl rfl)) ?_
       refine WL.rd rfl rfl rfl ((by exact Rd.row1 rfl C3 rfl Z.M (by rfl))) ?_
       refine WL.rd rfl rfl rfl (Rd.remN (a := q0.2.1) (b := 512) rfl rfl rfl rfl rfl Z.W) ?_
       refine WL.rd rfl rfl rfl (Rd.assign rfl rfl) ?_
       refine WL.nil ?_
       refine thenQ.normal ?_
       refine WC.seq ?_
       refine WC.region ?_
       refine WL.rd rfl rfl rfl (Rd.move rfl rfl) ?_
       refine WL.rd rfl rfl rfl (Rd.gtr rfl rfl rfl) ?_
       refine WL.nil ?_
       refine thenQ.normal ?_
       refine WC.ite rfl (fun hc5 => ?_) (fun hc5 => ?_)
       ·
        have htp : 0 < tailE (miI q0) := by rw [hta]; omega
        have hul : (secE (7 + files) q0.2.2.2).length = needsE q0.2.1 := by rw [sec_len, hs0]
        have hnp : 0 < needsE q0.2.1 := by unfold needsE; rw [hta] at htp; omega
        have hlm := sec_lt hi.inv hfn _ (last_mem (da := 7 + files) hok0.sum htp)
        have hra := read_at hi.cl.off hi.cl.since hlm.2
        have hwl : (D.lasts[lastE (7 + files) (miI q0)]!).length = 512 := by rw [getElem!_pos D.lasts _ hlm.2]; exact hi.inv.w _ (List.getElem_mem _)
        refine WC.seq ?_
        refine WC.region ?_
        refine WL.rd rfl rfl rfl (Rd.move rfl rfl) ?_
        refine WL.rd rfl rfl rfl (Rd.move rfl rfl) ?_
        refine WL.rd rfl rfl rfl (Rd.lenE (enc := SL.one vi) (xs := secI (secE (7 + files) q0.2.2.2)) rfl rfl Tryz.underlying23 Z.M) ?_
        refine WL.rd rfl rfl rfl (Rd.sub rfl rfl rfl Z.W) ?_
        refine WL.say 75 (u := .int .i64 (((secE (7 + files) q0.2.2.2).length - 1 : Nat) : Int)) rfl (by rw [secI_len]; congr 1; omega) ?_
        refine WL.rd rfl rfl rfl (Rd.idx1 (enc := SL.one vi) (xs := secI (secE (7 + files) q0.2.2.2)) (k := (secE (7 + files) q0.2.2.2).length - 1) rfl S23 rfl rfl rfl Z.M (by rw [secI_len]; omega)) ?_
        refine WL.rd rfl rfl rfl (Rd.get (g := vi) (xs := secI (secE (7 + files) q0.2.2.2)) (k := (secE (7 + files) q0.2.2.2).length - 1) (a := ((lastE (7 + files) (miI q0) : Nat) : Int)) rfl C3 rfl Z.M (secI_get Z.W)) ?_
        refine WL.rd rfl rfl rfl (Rd.assign rfl rfl) ?_
        refine WL.nil ?_
        refine thenQ.normal ?_
        refine WC.seq ?_
        refine WC.region ?_
        refine WL.rd rfl rfl rfl (Rd.move rfl rfl) ?_
        refine WL.rd rfl rfl rfl (Rd.nilc rfl rfl) ?_
        refine WL.rd rfl rfl rfl ((by exact Rd.field rfl F65_0 rfl rfl)) ?_
        refine WL.rd rfl rfl rfl (Rd.row1 (off := 0) (u := dp d) rfl C25 rfl (b := s) Z.M rfl) ?_
        refine WL.rd rfl rfl rfl (Rd.move rfl rfl) ?_
        refine WL.op rfl ?_
        refine OpW.call rfl rfl Z.E Z.K rfl rfl rfl ?_
        refine Fun.heap (R' := SlE (SL.one vi) v66 (secI (secE (7 + files) xs)) :: SlE encX v xs :: SlE (SL.one vi) v39 (secI (secE (7 + files) q0.2.2.2)) :: SlE encX q0.2.2.1 q0.2.2.2 :: R) (O' := dO d V D (rowC b7 79 (inoCs q0.1 q0.2.1 q0.2.2.1) :: rowC b11 63 (spCs un (turnF true sp xs)) :: stRow s d l mb un files sp false :: mapC vs miV mb m :: O)) Z.F ?_
        refine read_spec (dk.ok.mono Z.W) ?_
        rw [hra]
        dsimp only
        refine WL.rd rfl rfl rfl (Rd.move rfl rfl) ?_
        refine WL.rd rfl rfl rfl (Rd.extract rfl rfl rfl) ?_
        refine WL.rd rfl rfl rfl (Rd.extract rfl rfl rfl) ?_
        refine WL.rd rfl rfl rfl (Rd.assign rfl rfl) ?_
        refine WL.rd rfl rfl rfl (Rd.assign rfl rfl) ?_
        refine WL.nil ?_
        refine thenQ.normal ?_
        refine WC.seq ?_
        refine WC.seq ?_
        refine WC.region ?_
        refine WL.rd rfl rfl rfl (Rd.move rfl rfl) ?_
        refine WL.rd rfl rfl rfl (Rd.neq rfl rfl rfl) ?_
        refine WL.nil ?_
        refine thenQ.normal ?_
        refine WC.ite rfl (fun hc6 => ?_) (fun hc6 => ?_)
        ·
         exact absurd rfl hc6
        ·
         refine WC.skip ?_
         refine thenQ.normal ?_
         refine WC.seq ?_
         refine WC.drawn (O) 11 rfl mixed ?_
         refine WD.take 0 rfl Z.K Z.H rfl rfl rfl (Rd.move rfl rfl) ?_
         refine WD.take 2 rfl Z.K Z.H rfl rfl rfl (Rd.move rfl rfl) ?_
         refine WD.take 4 rfl Z.K Z.H rfl rfl rfl (Rd.move rfl rfl) ?_
         refine WD.take 5 rfl Z.K Z.H rfl rfl rfl (Rd.move rfl rfl) ?_
         refine WD.take 6 rfl Z.K Z.H rfl rfl rfl (Rd.scut_h (hi := q0.2.1 % 512) rfl Tryz.underlying9 rfl rfl rfl Z.W) ?_
         refine WD.take 7 rfl Z.K Z.H rfl rfl rfl (Rd.move rfl rfl) ?_
         refine WD.take 8 rfl Z.K Z.H rfl rfl rfl (Rd.scat rfl rfl rfl (by rw [List.length_take]; omega)) ?_
         refine WD.one 1 rfl Z.K rfl ?_
         refine OpW.buildSl (ps := [(0, _)]) rfl S23 Z.E rfl rfl Z.C Z.K rfl rfl rfl ?_; intro b91
         refine ⟨Z.H, ?_⟩
         refine WD.heap (fun w h => Sat.accRow (enc := SL.one vi) (size := 1) (m := 1) (xs := [((lastE (7 + files) (miI q0) : Nat) : Int)]) Z.T rfl rfl (fun _ => rfl) Z.W h) ?_
         refine WD.one 3 rfl Z.K rfl ?_
         have hroom : Room ([((lastE (7 + files) (miI q0) : Nat) : Int)].length + (secI (secE (7 + files) xs)).length) 8 := ⟨by show _ ≤ 9223372036854775807; rw [secI_len, sec_len]; simp; omega, by rw [secI_len, sec_len]; simp; omega⟩
         refine OpW.appendE (enc := SL.one vi) rfl S23 Tryz.underlying23 rfl rfl Z.T (ys := secI (secE (7 + files) xs)) Z.M (by intro x; rfl) (by intro x; rfl) (by assumption) rfl rfl ?_; intro v93 hv93
         refine ⟨Z.H, ?_⟩
         refine WD.take 9 rfl Z.K Z.H rfl rfl rfl (Rd.assign rfl rfl) ?_
         refine WD.take 10 rfl Z.K Z.H rfl rfl rfl (Rd.assign rfl rfl) ?_
         refine WD.done Z.K ?_
         refine thenQ.normal ?_
         refine WC.region ?_
         refine WL.rd rfl rfl rfl ((by exact Rd.field rfl F79_1 rfl rfl)) ?_
         refine WL.rd rfl rfl rfl ((by exact Rd.row1 rfl C3 rfl Z.M (by rfl))) ?_
         refine WL.rd rfl rfl rfl (Rd.move rfl rfl) ?_
         refine WL.rd rfl rfl rfl (Rd.sub rfl rfl rfl Z.W) ?_
         refine WL.say 102 (u := .int .i64 ((q0.2.1 - tailE (miI q0) : Nat) : Int)) rfl (by rw [hta]; congr 1; omega) ?_
         refine WL.rd rfl rfl rfl ((by exact Rd.field rfl F79_1 rfl rfl)) ?_
         refine WL.op rfl ?_
         refine OpW.store1 rfl Z3 rfl rfl (by exact ⟨rfl, rfl⟩) Z.T (by (simp; done)) rfl ?_
         refine WL.nil ?_
         exact ⟨v93, trivial, (by
         have e1 : appD D.lasts (7 + files) (miI q0) data = (D.lasts[lastE (7 + files) (miI q0)]!).take (q0.2.1 % 512) ++ data := by unfold appD; rw [if_pos htp]; rfl
         rw [e1]
         exact (by repeat (first | exact Sub.nil | refine Sub.cons rfl (by rfl) ?_))), (fun w h => by
         have e2 : secI (appL (7 + files) (miI q0) xs) = ((lastE (7 + files) (miI q0) : Nat) : Int) :: secI (secE (7 + files) xs) := by unfold appL; rw [if_pos htp]; rfl
         rw [e2]
         have h2 := Sat.shareA (e := 3) (size := 1) (enc := SL.one vi) (v := v93) (xs := [((lastE (7 + files) (miI q0) : Nat) : Int)] ++ secI (secE (7 + files) xs)) Z.T h
         exact Z.Fw h2)⟩
       ·
        have htp : ¬ 0 < tailE (miI q0) := by rw [hta]; omega
        refine WC.skip ?_
        exact ⟨v66, trivial, (by
        have e1 : appD D.lasts (7 + files) (miI q0) data = data := by unfold appD; rw [if_neg htp]
        rw [e1]
        exact (by repeat (first | exact Sub.nil | refine Sub.cons rfl (by rfl) ?_))), (fun w h => by
        have e2 : appL (7 + files) (miI q0) xs = secE (7 + files) xs := by unfold appL; rw [if_neg htp]
        have e3 : q0.2.1 - tailE (miI q0) = q0.2.1 := by omega
        rw [e2, e3]
        exact Z.Fw h)⟩
      ·
       rintro vl -
       have hdl2 : (appD D.lasts (7 + files) (miI q0) data).length = tailE (miI q0) + data.length := by
        unfold appD
        split
        · rename_i hp; rw [List.length_append, tail_len hi.inv hW hp]
        · omega
       have htl : tailE (miI q0) ≤ 512 ∧ tailE (miI q0) ≤ q0.2.1 := by rw [hta]; omega
       refine WC.seq ?_
       refine WC.region ?_
       refine WL.rd rfl rfl rfl ((by exact Rd.field rfl F79_1 rfl rfl)) ?_
       refine WL.rd rfl rfl rfl ((by exact Rd.row1 rfl C3 rfl Z.M (by rfl))) ?_
       refine WL.rd rfl rfl rfl (Rd.move rfl rfl) ?_
       refine WL.rd rfl rfl rfl (Rd.slen (ts := #[]) (ty := 0) rfl rfl Tryz.underlying9) ?_
       refine WL.rd rfl rfl rfl (Rd.add rfl rfl rfl Z.W) ?_
       refine WL.say 108 (u := .int .i64 ((q0.2.1 + data.length : Nat) : Int)) rfl (by rw [hdl2]; congr 1; omega) ?_
       refine WL.rd rfl rfl rfl ((by exact Rd.field rfl F79_1 rfl rfl)) ?_
       refine WL.op rfl ?_
       refine OpW.store1 rfl Z3 rfl rfl (by exact ⟨rfl, rfl⟩) Z.T (by (simp; done)) rfl ?_
       refine WL.nil ?_
       refine thenQ.normal ?_
       refine WC.seq ?_
       refine WC.region ?_
       refine WL.rd rfl rfl rfl ((by exact Rd.field rfl F79_2 rfl rfl)) ?_
       refine WL.rd rfl rfl rfl ((by exact Rd.row1 rfl C77 rfl Z.M (by rfl))) ?_
       refine WL.op rfl ?_
       refine OpW.call rfl rfl Z.E Z.K rfl rfl rfl ?_
       refine cloneX_spec (xs := q0.2.2.2) Z.M Z.W ?_; intro v112 hv112
       refine WL.rd rfl rfl rfl (Rd.move rfl rfl) ?_
       refine WL.op rfl ?_
       refine OpW.appendE (enc := encX) rfl S77 Tryz.underlying77 rfl rfl Z.T (ys := xs) Z.M (by intro x; rfl) (by intro x; rfl) (by exact ⟨by simp only [maxLen, List.length_append, List.length_nil, List.length_cons, List.length_drop, List.length_take, List.length_map]; omega, by omega⟩) rfl rfl ?_; intro v114 hv114
       refine WL.rd rfl rfl rfl ((by exact Rd.field rfl F79_2 rfl rfl)) ?_
       refine WL.op rfl ?_
       refine OpW.store1 rfl Z77 rfl rfl hv114 Z.T (by show 2 < 3; omega) rfl ?_
       refine WL.nil ?_
       refine thenQ.normal ?_
       refine WC.seq ?_
       refine WC.heap (fun w h => Sat.shareA (e := 120) (size := 2) (enc := encX) (v := v114) (xs := q0.2.2.2 ++ xs) Z.T h) ?_
       refine WC.region ?_
       refine WL.rd rfl rfl rfl (Rd.move rfl rfl) ?_
       refine WL.rd rfl rfl rfl (Rd.move rfl rfl) ?_
       refine WL.rd rfl rfl rfl ((by exact Rd.rowS rfl G79 rfl Z.M Z.N rfl)) ?_
       refine WL.rd rfl rfl rfl ((by exact Rd.rowS rfl G63 rfl Z.M Z.N rfl)) ?_
       refine WL.rd rfl rfl rfl (Rd.move rfl rfl) ?_
       refine WL.rd rfl rfl rfl (Rd.move rfl rfl) ?_
       refine WL.op rfl ?_
       refine OpW.call rfl rfl Z.E Z.K rfl rfl rfl ?_
       refine Fun.heap (R' := SlE encX v114 (q0.2.2.2 ++ xs) :: SlE (SL.one vi) vl (secI (appL (7 + files) (miI q0) xs)) :: R) (O' := stO s d l mb un files sp false m V D O) Z.F ?_
       refine filePut2_spec (q := (q0.1, q0.2.1 + data.length, v114, q0.2.2.2 ++ xs)) (L := appL (7 + files) (miI q0) xs) (by repeat (first | exact ht | refine List.mem_cons_of_mem _ ?_)) (by repeat (first | exact hlog | refine List.mem_cons_of_mem _ ?_)) (by repeat (first | exact hall | refine List.mem_cons_of_mem _ ?_)) List.mem_cons_self hio hfs (List.mem_cons_of_mem _ List.mem_cons_self) (by unfold appL; split <;> simp [sec_len] <;> omega) (hi.fits Z.W) dk Z.W hv (by repeat (first | exact hkeep | refine List.mem_cons_of_mem _ ?_)) Z.W ?_
       intro V' p hp hv' hkv'
       refine WL.rd rfl rfl rfl (Rd.assign rfl rfl) ?_
       refine WL.nil ?_
       refine thenQ.normal ?_
       refine WC.ret (Ret.one Tryz.results26 rfl ?_)
       exact ⟨_, _, hk V' p v114 xs hW hp hv' hkv', Z.F⟩
end
end Go.Proofs.YtckokhdjeifomaaGreatDoor
namespace Go.Proofs.YtckokhdjeifomaaGreatDoor
open Go Go.SL
theorem allM_del {m : GoMap Tx MI} {name : Tx} {w : World} (h : allM m w) : allM (m.del name) w := fun b u hb => by
 rw [GoMap.get_del] at hb
 split at hb
 · cases hb
 · exact h b u hb
section
variable {R : List RO} {O : List Own} {POST : Value → List RO → List Own → Prop} {s d l mb un files k : Nat} {sp : Nat → Bool} {m : GoMap Tx MI} {V : DV} {D : DSt}
set_option maxRecDepth 20000 in
theorem remove_none {n : Nat} {name : Tx} (hmg : m.get name = none) (hg : GoodN name) (hi : Mnt n files (fsOf m) sp D) (hk : POST (.int .i64 9) R (stO s d l mb un files sp false m V D O)) :
 Fun Tryz.prog 28 #[dp s, vs name] R (stO s d l mb un files sp false m V D O) POST := by
 refine Fun.turn ?_
 refine Fun.enter (l := [_, _]) Tryz.func28 rfl Tryz.ntmps28 rfl (L0 := [(0, _), (1, _)]) rfl ?_
 refine WC.seq ?_
 refine WC.region ?_
 refine WL.rd rfl rfl rfl (Rd.assign rfl rfl) ?_
 refine WL.nil ?_
 refine thenQ.normal ?_
 refine WC.seq ?_
 refine WC.region ?_
 refine WL.rd rfl rfl rfl (Rd.move rfl rfl) ?_
 refine WL.rd rfl rfl rfl (Rd.move rfl rfl) ?_
 refine WL.op rfl ?_
 refine OpW.call rfl rfl Z.E Z.K rfl rfl rfl ?_
 refine find_none hmg hg hi.cl.off ?_
 refine WL.rd rfl rfl rfl (Rd.move rfl rfl) ?_
 refine WL.rd rfl rfl rfl (Rd.extract rfl rfl rfl) ?_
 refine WL.rd rfl rfl rfl (Rd.extract rfl rfl rfl) ?_
 refine WL.op rfl ?_
 refine OpW.alloc rfl I79 rfl Z.N rfl rfl ?_; intro b5
 refine WL.op rfl ?_
 refine OpW.storeS rfl G79 rfl rfl Z.N Z.T rfl rfl Z.N rfl ?_
 refine WL.rd rfl rfl rfl (Rd.assign rfl rfl) ?_
 refine WL.nil ?_
 refine thenQ.normal ?_
 refine WC.seq ?_
 refine WC.seq ?_
 refine WC.region ?_
 refine WL.rd rfl rfl rfl (Rd.move rfl rfl) ?_
 refine WL.rd rfl rfl rfl (Rd.neq rfl rfl rfl) ?_
 refine WL.nil ?_
 refine thenQ.normal ?_
 refine WC.ite rfl (fun hc1 => ?_) (fun hc1 => ?_)
 ·
  refine WC.seq ?_
  refine WC.region ?_
  refine WL.rd rfl rfl rfl (Rd.move rfl rfl) ?_
  refine WL.rd rfl rfl rfl (Rd.assign rfl rfl) ?_
  refine WL.nil ?_
  refine thenQ.normal ?_
  refine WC.ret (thenQ.retR (Ret.one Tryz.results28 rfl ?_))
  exact ⟨_, _, hk, Z.F⟩
 ·
  exact absurd (by decide) hc1
/-- What a Remove leaves. -/
def RmPost (POST : Value → List RO → List Own → Prop) (R : List RO) (O : List Own) (s d l mb un files : Nat) (sp : Nat → Bool) (m : GoMap Tx MI) (V : DV) (D : DSt) (name : Tx) (q0 : MI) : Prop :=
 ∀ V' p, p = opS D ((2 + files : Nat) : Int) 5 [] [] (spB un (turnF false sp q0.2.2.2)) [(q0.1, [])] → VOk V' p.1 → V'.kv = V.kv →
  POST (.int .i64 (p.2 : Nat)) (allM (if p.2 = 0 then m.del name else m) :: R) (stO s d l mb un files (if p.2 = 0 then turnF false sp q0.2.2.2 else sp) (decide (p.2 ≠ 0)) (if p.2 = 0 then m.del name else m) V' p.1 O)
theorem op_nil (s : DSt) (f z : Int) (d bs : Tx) (ch : List (Nat × Tx)) : opS s f z [] d bs ch = commitE s f z (setlC bs ch) := by
 unfold opS layS thenE
 rw [if_pos rfl, if_neg (fun h => h rfl)]
set_option maxRecDepth 20000 in
set_option maxHeartbeats 4000000 in
theorem remove_some {n : Nat} {name : Tx} {q0 : MI} (hmg : m.get name = some q0) (hg : GoodN name) (hi : Mnt n files (fsOf m) sp D) (hun : un = n - (7 + files)) (hn : 7 + files < n ∧ n ≤ 4096) (hfs : files ≤ 256) (ht : tabR ∈ R) (hlog : logR l d ((2 + files : Nat) : Int) 5 ∈ R) (hall : allM m ∈ R)
 (dk : Dk D k) (hm : k ≤ 4294700000) (hv : VOk V D) (hkeep : SlE (SL.one vi) V.kv D.keep ∈ R) (hk : RmPost POST R O s d l mb un files sp m V D name q0) :
 Fun Tryz.prog 28 #[dp s, vs name] R (stO s d l mb un files sp false m V D O) POST := by
 refine Fun.turn ?_
 have hfn := fs_some hmg
 have hok0 := hi.inv.fok.ok name _ hfn
 have htk0 := hi.inv.fok.tk name _ hfn
 have htk0' : TurnOk un false sp q0.2.2.2 := by rw [hun]; exact htk0
 have hl0 : q0.2.2.2.length ≤ 64 := hok0.len
 have hqe : q0.1 < files := hok0.e
 refine Fun.know (φ := OneV q0.2.2.1) hall (fun w h => SlE.oneV (h name q0 hmg)) fun hone => ?_
 refine Fun.enter (l := [_, _]) Tryz.func28 rfl Tryz.ntmps28 rfl (L0 := [(0, _), (1, _)]) rfl ?_
 refine WC.seq ?_
 refine WC.region ?_
 refine WL.rd rfl rfl rfl (Rd.assign rfl rfl) ?_
 refine WL.nil ?_
 refine thenQ.normal ?_
 refine WC.seq ?_
 refine WC.region ?_
 refine WL.rd rfl rfl rfl (Rd.move rfl rfl) ?_
 refine WL.rd rfl rfl rfl (Rd.move rfl rfl) ?_
 refine WL.op rfl ?_
 refine OpW.call rfl rfl Z.E Z.K rfl rfl rfl ?_
 refine find_some hmg hg hi.cl.off hall ?_
 refine WL.rd rfl rfl rfl (Rd.move rfl rfl) ?_
 refine WL.rd rfl rfl rfl (Rd.extract rfl rfl rfl) ?_
 refine WL.rd rfl rfl rfl (Rd.extract rfl rfl rfl) ?_
 refine WL.op rfl ?_
 refine OpW.alloc rfl I79 rfl Z.N rfl rfl ?_; intro b5
 refine WL.op rfl ?_
 refine OpW.storeS (h1 := by simp only [List.all_cons, List.all_nil, hone.one]; rfl) rfl G79 rfl rfl Z.N Z.T rfl rfl Z.N rfl ?_
 refine WL.rd rfl rfl rfl (Rd.assign rfl rfl) ?_
 refine WL.nil ?_
 refine thenQ.normal ?_
 refine WC.seq ?_
 refine WC.seq ?_
 refine WC.region ?_
 refine WL.rd rfl rfl rfl (Rd.move rfl rfl) ?_
 refine WL.rd rfl rfl rfl (Rd.neq rfl rfl rfl) ?_
 refine WL.nil ?_
 refine thenQ.normal ?_
 refine WC.ite rfl (fun hc1 => ?_) (fun hc1 => ?_)
 ·
  exact absurd rfl hc1
 ·
  refine WC.skip ?_
  refine thenQ.normal ?_
  refine WC.cut (α := Nat) (fun q => [(0, dp s), (1, vs name), (5, .pointer (some ⟨b5, 0, none⟩)), (6, .int .i64 0), (7, .pointer (some ⟨q, 0, none⟩))]) (fun q => SlE encX q0.2.2.1 q0.2.2.2 :: R) (fun q => rowC b5 79 (inoCs q0.1 q0.2.1 q0.2.2.1) :: rowC q 63 (spCs un (turnF false sp q0.2.2.2)) :: stO s d l mb un files sp false m V D O) (fun _ => True) ?_ ?_
  ·
   refine WC.drawn (rowC b5 79 (inoCs q0.1 q0.2.1 q0.2.2.1) :: stO s d l mb un files sp false m V D O) 13 rfl mixed ?_
   refine WD.take 0 rfl Z.K Z.H rfl rfl rfl (Rd.move rfl rfl) ?_
   refine WD.take 1 rfl Z.K Z.H rfl rfl rfl (Rd.nilc rfl rfl) ?_
   refine WD.take 2 rfl Z.K Z.H rfl rfl rfl ((by exact Rd.field rfl F65_2 rfl rfl)) ?_
   refine WD.take 3 rfl Z.K Z.H rfl rfl rfl (Rd.rowS (b := s) rfl G63 rfl Z.M Z.N rfl) ?_
   refine WD.take 4 rfl Z.K Z.H rfl rfl rfl ((by exact Rd.field rfl F79_2 rfl rfl)) ?_
   refine WD.take 5 rfl Z.K Z.H rfl rfl rfl ((by exact Rd.row1 rfl C77 rfl Z.M (by rfl))) ?_
   refine WD.two 6 10 rfl rfl Z.K rfl rfl ?_ ?_
   ·
    refine OpW.call rfl rfl Z.E Z.K rfl rfl rfl ?_
    refine spGive_spec (n := un) (f := sp) (xs := q0.2.2.2) Z.M Z.W htk0' Z.W ?_
    refine ⟨Z.H, ?_⟩
    refine WD.take 7 rfl Z.K Z.H rfl rfl rfl (Rd.move rfl rfl) ?_
    refine WD.take 8 rfl Z.K Z.H rfl rfl rfl (Rd.extract rfl rfl rfl) ?_
    refine WD.take 9 rfl Z.K Z.H rfl rfl rfl (Rd.extract rfl rfl rfl) ?_
    refine WD.one 10 rfl Z.K rfl ?_
    refine OpW.alloc rfl I63 rfl Z.N rfl rfl ?_; intro b7
    refine ⟨Z.H, ?_⟩
    refine WD.one 11 rfl Z.K rfl ?_
    refine OpW.storeS rfl G63 rfl rfl Z.N Z.T rfl rfl Z.N rfl ?_
    refine ⟨Z.H, ?_⟩
    refine WD.take 12 rfl Z.K Z.H rfl rfl rfl (Rd.assign rfl rfl) ?_
    refine WD.done Z.K ?_
    exact ⟨b7, trivial, (by repeat (first | exact Sub.nil | refine Sub.cons rfl (by rfl) ?_)), Z.F⟩
   ·
    refine OpW.alloc rfl I63 rfl Z.N rfl rfl ?_; intro b7
    refine ⟨Z.H, ?_⟩
    refine WD.one 6 rfl Z.K rfl ?_
    refine OpW.call rfl rfl Z.E Z.K rfl rfl rfl ?_
    refine spGive_spec (n := un) (f := sp) (xs := q0.2.2.2) Z.M Z.W htk0' Z.W ?_
    refine ⟨Z.H, ?_⟩
    refine WD.take 7 rfl Z.K Z.H rfl rfl rfl (Rd.move rfl rfl) ?_
    refine WD.take 8 rfl Z.K Z.H rfl rfl rfl (Rd.extract rfl rfl rfl) ?_
    refine WD.take 9 rfl Z.K Z.H rfl rfl rfl (Rd.extract rfl rfl rfl) ?_
    refine WD.one 11 rfl Z.K rfl ?_
    refine OpW.storeS rfl G63 rfl rfl Z.N Z.T rfl rfl Z.N rfl ?_
    refine ⟨Z.H, ?_⟩
    refine WD.take 12 rfl Z.K Z.H rfl rfl rfl (Rd.assign rfl rfl) ?_
    refine WD.done Z.K ?_
    exact ⟨b7, trivial, (by repeat (first | exact Sub.nil | refine Sub.cons rfl (by rfl) ?_)), Z.F⟩
  ·
   rintro b7 -
   refine WC.seq ?_
   refine WC.seq ?_
   refine WC.region ?_
   refine WL.rd rfl rfl rfl (Rd.move rfl rfl) ?_
   refine WL.rd rfl rfl rfl (Rd.neq rfl rfl rfl) ?_
   refine WL.nil ?_
   refine thenQ.normal ?_
   refine WC.ite rfl (fun hc2 => ?_) (fun hc2 => ?_)
   ·
    exact absurd rfl hc2
   ·
    refine WC.skip ?_
    refine thenQ.normal ?_
    refine WC.seq ?_
    refine WC.seq ?_
    refine WC.region ?_
    refine WL.rd rfl rfl rfl (Rd.move rfl rfl) ?_
    refine WL.rd rfl rfl rfl ((by exact Rd.rowS rfl G63 rfl Z.M Z.N rfl)) ?_
    refine WL.op rfl ?_
    refine OpW.makeMap kI SL.vs rfl rfl rfl ?_; intro b32
    refine WL.rd rfl rfl rfl ((by exact Rd.field rfl F79_0 rfl rfl)) ?_
    refine WL.rd rfl rfl rfl ((by exact Rd.row1 rfl C3 rfl Z.M (by rfl))) ?_
    refine WL.op rfl ?_
    refine OpW.insertM (kenc := kI) (venc := vs) (m := GoMap.empty) (k := (q0.1 : Int)) (v := ([] : Tx)) M123 K3 rfl rfl rfl rfl Z.T rfl rfl rfl ?_
    refine WL.heap (fun w h => Sat.shareM (kenc := kI) (venc := SL.vs) (b := b32) (m := (GoMap.empty : GoMap Int Tx).set (q0.1 : Int) []) Z.T h) ?_
    refine WL.rd rfl rfl rfl (Rd.move rfl rfl) ?_
    refine WL.op rfl ?_
    refine OpW.call rfl rfl Z.E Z.K rfl rfl rfl ?_
    refine Fun.heap (R' := mapP kI SL.vs b32 ((GoMap.empty : GoMap Int Tx).set (q0.1 : Int) []) :: SlE encX q0.2.2.1 q0.2.2.2 :: R) (O' := stO s d l mb un files sp false m V D O) Z.F ?_
    refine settle2_spec (by repeat (first | exact ht | refine List.mem_cons_of_mem _ ?_)) (by repeat (first | exact hlog | refine List.mem_cons_of_mem _ ?_)) List.mem_cons_self ⟨Nat.le_refl 1, (by show 1 ≤ 3; omega)⟩ (fun x hx => by rw [show ((GoMap.empty : GoMap Int Tx).set (q0.1 : Int) []).ks = [(q0.1 : Int)] from rfl, List.mem_singleton] at hx; omega) (hi.fits Z.W) dk Z.W hv (by repeat (first | exact hkeep | refine List.mem_cons_of_mem _ ?_)) ?_
    intro ks U1 C hks hC hu1 hku1
    rw [one_map hks] at hC
    have hk' := hk U1 C (by rw [op_nil]; exact hC) hu1 hku1
    refine WL.rd rfl rfl rfl (Rd.assign rfl rfl) ?_
    refine WL.nil ?_
    refine thenQ.normal ?_
    refine WC.seq ?_
    refine WC.region ?_
    refine WL.rd rfl rfl rfl (Rd.move rfl rfl) ?_
    refine WL.rd rfl rfl rfl (Rd.neq rfl rfl rfl) ?_
    refine WL.nil ?_
    refine thenQ.normal ?_
    refine WC.ite rfl (fun hc3 => ?_) (fun hc3 => ?_)
    ·
     have hne : C.2 ≠ 0 := by omega
     rw [if_neg hne, decide_eq_true hne] at hk' ⊢
     rw [if_neg hne] at hk'
     refine WC.seq ?_
     refine WC.region ?_
     refine WL.rd rfl rfl rfl (Rd.move rfl rfl) ?_
     refine WL.rd rfl rfl rfl (Rd.assign rfl rfl) ?_
     refine WL.nil ?_
     refine thenQ.normal ?_
     refine WC.ret (thenQ.retR (Ret.one Tryz.results28 rfl ?_))
     exact ⟨_, _, hk', fun w h => by
     have h2 : Sat (allM m :: R) _ w := (h.thin (R' := R) (SubL.mem Z.S)).derive (fun w hw => hw _ hall)
     exact Z.Fw h2⟩
    ·
     have heq : C.2 = 0 := by omega
     rw [if_pos heq, decide_eq_false (by omega : ¬ C.2 ≠ 0)] at hk' ⊢
     rw [if_pos heq] at hk'
     refine WC.skip ?_
     refine thenQ.normal ?_
     refine WC.seq ?_
     refine WC.region ?_
     refine WL.rd rfl rfl rfl (Rd.move rfl rfl) ?_
     refine WL.rd rfl rfl rfl (Rd.nilc rfl rfl) ?_
     refine WL.rd rfl rfl rfl ((by exact Rd.field rfl F65_3 rfl rfl)) ?_
     refine WL.rd rfl rfl rfl (Rd.row1 (off := 4) (u := .map (some mb)) rfl C60 rfl (b := s) Z.M rfl) ?_
     refine WL.rd rfl rfl rfl (Rd.move rfl rfl) ?_
     refine WL.op rfl ?_
     refine OpW.delete (kenc := vs) (venc := miV) (m := m) (k := name) M60 K9 rfl rfl rfl Z.T rfl rfl ?_
     refine WL.nil ?_
     refine thenQ.normal ?_
     refine WC.seq ?_
     refine WC.region ?_
     refine WL.rd rfl rfl rfl (Rd.assign rfl rfl) ?_
     refine WL.nil ?_
     refine thenQ.normal ?_
     refine WC.ret (Ret.one Tryz.results28 rfl ?_)
     exact ⟨_, _, (by rw [heq] at hk'; exact hk'), fun w h => by
     have h2 : Sat (allM (m.del name) :: R) _ w := (h.thin (R' := R) (SubL.mem Z.S)).derive (fun w hw => allM_del (hw _ hall))
     exact Z.Fw h2⟩
end
end Go.Proofs.YtckokhdjeifomaaGreatDoor
namespace Go.Proofs.YtckokhdjeifomaaGreatDoor
open Go Go.SL
section
variable {R : List RO} {O : List Own} {POST : Value → List RO → List Own → Prop} {s d l mb un files k : Nat} {sp : Nat → Bool} {m : GoMap Tx MI} {V : DV} {D : DSt}
set_option maxRecDepth 20000 in
theorem rename_none {n : Nat} {name tn : Tx} (hmg : m.get name = none) (hg : GoodN name) (hg2 : GoodN tn) (hi : Mnt n files (fsOf m) sp D) (hk : POST (.int .i64 9) R (stO s d l mb un files sp false m V D O)) :
 Fun Tryz.prog 27 #[dp s, vs name, vs tn] R (stO s d l mb un files sp false m V D O) POST := by
 refine Fun.turn ?_
 refine Fun.enter (l := [_, _, _]) Tryz.func27 rfl Tryz.ntmps27 rfl (L0 := [(0, _), (1, _), (2, _)]) rfl ?_
 refine WC.seq ?_
 refine WC.region ?_
 refine WL.rd rfl rfl rfl (Rd.assign rfl rfl) ?_
 refine WL.nil ?_
 refine thenQ.normal ?_
 refine WC.seq ?_
 refine WC.seq ?_
 refine WC.region ?_
 refine WL.rd rfl rfl rfl (Rd.move rfl rfl) ?_
 refine WL.op rfl ?_
 refine OpW.call rfl rfl Z.E Z.K rfl rfl rfl ?_
 refine ready_spec hi.cl.off ?_
 refine WL.rd rfl rfl rfl (Rd.assign rfl rfl) ?_
 refine WL.nil ?_
 refine thenQ.normal ?_
 refine WC.seq ?_
 refine WC.region ?_
 refine WL.rd rfl rfl rfl (Rd.move rfl rfl) ?_
 refine WL.rd rfl rfl rfl (Rd.neq rfl rfl rfl) ?_
 refine WL.nil ?_
 refine thenQ.normal ?_
 refine WC.ite rfl (fun hc1 => ?_) (fun hc1 => ?_)
 ·
  exact absurd rfl hc1
 ·
  refine WC.skip ?_
  refine thenQ.normal ?_
  refine WC.seq ?_
  refine WC.seq ?_
  refine WC.region ?_
  refine WL.rd rfl rfl rfl (Rd.move rfl rfl) ?_
  refine WL.op rfl ?_
  refine OpW.call rfl rfl Z.E Z.K rfl rfl rfl ?_
  refine good_spec hg ?_
  refine WL.rd rfl rfl rfl ((by exact Rd.not rfl rfl)) ?_
  refine WL.say 22 (u := .bool (decide False)) rfl rfl ?_
  refine WL.rd rfl rfl rfl (Rd.move rfl rfl) ?_
  refine WL.case 23 rfl (fun hg23 => ?_) (fun hg23 => ?_)
  ·
   exact hg23.elim
  ·
   refine WL.rd_yes rfl rfl rfl rfl rfl rfl (Rd.move rfl rfl) ?_
   refine WL.op_yes rfl rfl rfl rfl ?_
   refine OpW.call rfl rfl Z.E Z.K rfl rfl rfl ?_
   refine good_spec hg2 ?_
   refine WL.rd_yes rfl rfl rfl rfl rfl rfl ((by exact Rd.not rfl rfl)) ?_
   refine WL.say 26 (u := .bool (decide False)) rfl rfl ?_
   refine WL.rd rfl rfl rfl (Rd.pick_f rfl rfl rfl) ?_
   refine WL.nil ?_
   refine thenQ.normal ?_
   refine WC.ite rfl (fun hc2 => ?_) (fun hc2 => ?_)
   ·
    exact hc2.elim
   ·
    refine WC.skip ?_
    refine thenQ.normal ?_
    refine WC.seq ?_
    refine WC.region ?_
    refine WL.rd rfl rfl rfl (Rd.move rfl rfl) ?_
    refine WL.rd rfl rfl rfl (Rd.move rfl rfl) ?_
    refine WL.op rfl ?_
    refine OpW.call rfl rfl Z.E Z.K rfl rfl rfl ?_
    refine find_none hmg hg hi.cl.off ?_
    refine WL.rd rfl rfl rfl (Rd.move rfl rfl) ?_
    refine WL.rd rfl rfl rfl (Rd.extract rfl rfl rfl) ?_
    refine WL.rd rfl rfl rfl (Rd.extract rfl rfl rfl) ?_
    refine WL.op rfl ?_
    refine OpW.alloc rfl I79 rfl Z.N rfl rfl ?_; intro b8
    refine WL.op rfl ?_
    refine OpW.storeS rfl G79 rfl rfl Z.N Z.T rfl rfl Z.N rfl ?_
    refine WL.rd rfl rfl rfl (Rd.assign rfl rfl) ?_
    refine WL.nil ?_
    refine thenQ.normal ?_
    refine WC.seq ?_
    refine WC.seq ?_
    refine WC.region ?_
    refine WL.rd rfl rfl rfl (Rd.move rfl rfl) ?_
    refine WL.rd rfl rfl rfl (Rd.neq rfl rfl rfl) ?_
    refine WL.rd rfl rfl rfl (Rd.move rfl rfl) ?_
    refine WL.case 36 rfl (fun hg36 => ?_) (fun hg36 => ?_)
    ·
     refine WL.no rfl rfl rfl rfl rfl rfl ?_
     refine WL.no rfl rfl rfl rfl rfl rfl ?_
     refine WL.no rfl rfl rfl rfl rfl rfl ?_
     refine WL.rd rfl rfl rfl (Rd.pick_t rfl rfl rfl) ?_
     refine WL.nil ?_
     refine thenQ.normal ?_
     refine WC.yes rfl ?_
     refine WC.seq ?_
     refine WC.region ?_
     refine WL.rd rfl rfl rfl (Rd.move rfl rfl) ?_
     refine WL.rd rfl rfl rfl (Rd.assign rfl rfl) ?_
     refine WL.nil ?_
     refine thenQ.normal ?_
     refine WC.ret (thenQ.retR (Ret.one Tryz.results27 rfl ?_))
     exact ⟨_, _, hk, Z.F⟩
    ·
     exact absurd (by decide) hg36
set_option maxRecDepth 20000 in
theorem rename_same {n : Nat} {name : Tx} {q0 : MI} (hmg : m.get name = some q0) (hg : GoodN name) (hi : Mnt n files (fsOf m) sp D) (hall : allM m ∈ R) (hk : POST (.int .i64 0) R (stO s d l mb un files sp false m V D O)) :
 Fun Tryz.prog 27 #[dp s, vs name, vs name] R (stO s d l mb un files sp false m V D O) POST := by
 refine Fun.turn ?_
 refine Fun.know (φ := OneV q0.2.2.1) hall (fun w h => SlE.oneV (h name q0 hmg)) fun hone => ?_
 refine Fun.enter (l := [_, _, _]) Tryz.func27 rfl Tryz.ntmps27 rfl (L0 := [(0, _), (1, _), (2, _)]) rfl ?_
 refine WC.seq ?_
 refine WC.region ?_
 refine WL.rd rfl rfl rfl (Rd.assign rfl rfl) ?_
 refine WL.nil ?_
 refine thenQ.normal ?_
 refine WC.seq ?_
 refine WC.seq ?_
 refine WC.region ?_
 refine WL.rd rfl rfl rfl (Rd.move rfl rfl) ?_
 refine WL.op rfl ?_
 refine OpW.call rfl rfl Z.E Z.K rfl rfl rfl ?_
 refine ready_spec hi.cl.off ?_
 refine WL.rd rfl rfl rfl (Rd.assign rfl rfl) ?_
 refine WL.nil ?_
 refine thenQ.normal ?_
 refine WC.seq ?_
 refine WC.region ?_
 refine WL.rd rfl rfl rfl (Rd.move rfl rfl) ?_
 refine WL.rd rfl rfl rfl (Rd.neq rfl rfl rfl) ?_
 refine WL.nil ?_
 refine thenQ.normal ?_
 refine WC.ite rfl (fun hc1 => ?_) (fun hc1 => ?_)
 ·
  exact absurd rfl hc1
 ·
  refine WC.skip ?_
  refine thenQ.normal ?_
  refine WC.seq ?_
  refine WC.seq ?_
  refine WC.region ?_
  refine WL.rd rfl rfl rfl (Rd.move rfl rfl) ?_
  refine WL.op rfl ?_
  refine OpW.call rfl rfl Z.E Z.K rfl rfl rfl ?_
  refine good_spec hg ?_
  refine WL.rd rfl rfl rfl ((by exact Rd.not rfl rfl)) ?_
  refine WL.say 22 (u := .bool (decide False)) rfl rfl ?_
  refine WL.rd rfl rfl rfl (Rd.move rfl rfl) ?_
  refine WL.case 23 rfl (fun hg23 => ?_) (fun hg23 => ?_)
  ·
   exact hg23.elim
  ·
   refine WL.rd_yes rfl rfl rfl rfl rfl rfl (Rd.move rfl rfl) ?_
   refine WL.op_yes rfl rfl rfl rfl ?_
   refine OpW.call rfl rfl Z.E Z.K rfl rfl rfl ?_
   refine good_spec hg ?_
   refine WL.rd_yes rfl rfl rfl rfl rfl rfl ((by exact Rd.not rfl rfl)) ?_
   refine WL.say 26 (u := .bool (decide False)) rfl rfl ?_
   refine WL.rd rfl rfl rfl (Rd.pick_f rfl rfl rfl) ?_
   refine WL.nil ?_
   refine thenQ.normal ?_
   refine WC.ite rfl (fun hc2 => ?_) (fun hc2 => ?_)
   ·
    exact hc2.elim
   ·
    refine WC.skip ?_
    refine thenQ.normal ?_
    refine WC.seq ?_
    refine WC.region ?_
    refine WL.rd rfl rfl rfl (Rd.move rfl rfl) ?_
    refine WL.rd rfl rfl rfl (Rd.move rfl rfl) ?_
    refine WL.op rfl ?_
    refine OpW.call rfl rfl Z.E Z.K rfl rfl rfl ?_
    refine find_some hmg hg hi.cl.off hall ?_
    refine WL.rd rfl rfl rfl (Rd.move rfl rfl) ?_
    refine WL.rd rfl rfl rfl (Rd.extract rfl rfl rfl) ?_
    refine WL.rd rfl rfl rfl (Rd.extract rfl rfl rfl) ?_
    refine WL.op rfl ?_
    refine OpW.alloc rfl I79 rfl Z.N rfl rfl ?_; intro b8
    refine WL.op rfl ?_
    refine OpW.storeS (h1 := by simp only [List.all_cons, List.all_nil, hone.one]; rfl) rfl G79 rfl rfl Z.N Z.T rfl rfl Z.N rfl ?_
    refine WL.rd rfl rfl rfl (Rd.assign rfl rfl) ?_
    refine WL.nil ?_
    refine thenQ.normal ?_
    refine WC.seq ?_
    refine WC.seq ?_
    refine WC.region ?_
    refine WL.rd rfl rfl rfl (Rd.move rfl rfl) ?_
    refine WL.rd rfl rfl rfl (Rd.neq rfl rfl rfl) ?_
    refine WL.rd rfl rfl rfl (Rd.move rfl rfl) ?_
    refine WL.case 36 rfl (fun hg36 => ?_) (fun hg36 => ?_)
    ·
     exact absurd rfl hg36
    ·
     refine WL.rd_yes rfl rfl rfl rfl rfl rfl (Rd.move rfl rfl) ?_
     refine WL.rd_yes rfl rfl rfl rfl rfl rfl (Rd.move rfl rfl) ?_
     refine WL.rd_yes rfl rfl rfl rfl rfl rfl (Rd.seql rfl rfl rfl) ?_
     refine WL.rd rfl rfl rfl (Rd.pick_f rfl rfl rfl) ?_
     refine WL.nil ?_
     refine thenQ.normal ?_
     refine WC.ite rfl (fun hc3 => ?_) (fun hc3 => ?_)
     ·
      refine WC.seq ?_
      refine WC.region ?_
      refine WL.rd rfl rfl rfl (Rd.move rfl rfl) ?_
      refine WL.rd rfl rfl rfl (Rd.assign rfl rfl) ?_
      refine WL.nil ?_
      refine thenQ.normal ?_
      refine WC.ret (thenQ.retR (Ret.one Tryz.results27 rfl ?_))
      exact ⟨_, _, hk, Z.F⟩
     ·
      exact absurd rfl hc3
theorem Perm2 {ks : List Int} {a b : Int} (h : ks.Perm [a, b]) : ks = [a, b] ∨ ks = [b, a] := by
 have hl := h.length_eq
 match ks, hl with
 | [x, y], _ =>
   have hx : x = a ∨ x = b := by have := h.mem_iff (a := x); simpa using this.1 List.mem_cons_self
   rcases hx with rfl | rfl
   · obtain rfl : y = b := by have := List.perm_singleton.1 ((List.perm_cons x).1 h); simpa using this
     exact .inl rfl
   · have h2 : (x :: [y]).Perm (x :: [a]) := h.trans (List.Perm.swap x a [])
     obtain rfl : y = a := by have := List.perm_singleton.1 ((List.perm_cons x).1 h2); simpa using this
     exact .inr rfl
/-- What a Rename leaves. -/
def RnPost (POST : Value → List RO → List Own → Prop) (R : List RO) (O : List Own) (s d l mb un files : Nat) (sp : Nat → Bool) (m : GoMap Tx MI) (V : DV) (D : DSt) (name tn : Tx) (q0 : MI) : Prop :=
 ∀ V' p ch, ch.length ≤ 2 → (ch.map (·.1)).Nodup → (∀ c, c ∈ ch ↔ c = (q0.1, entryE tn (miI q0)) ∨ ∃ y, fsOf m tn = some y ∧ c = (y.e, [])) → p = opS D ((2 + files : Nat) : Int) 5 [] [] (spB un (freeO sp (fsOf m tn))) ch → VOk V' p.1 → V'.kv = V.kv →
  POST (.int .i64 (p.2 : Nat)) (allM (if p.2 = 0 then (m.del name).set tn q0 else m) :: R) (stO s d l mb un files (if p.2 = 0 then freeO sp (fsOf m tn) else sp) (decide (p.2 ≠ 0)) (if p.2 = 0 then (m.del name).set tn q0 else m) V' p.1 O)
set_option maxRecDepth 20000 in
set_option maxHeartbeats 8000000 in
theorem rename_new {n : Nat} {name tn : Tx} {q0 : MI} (hmg : m.get name = some q0) (hmt : m.get tn = none) (hne : name ≠ tn) (hg : GoodN name) (hg2 : GoodN tn) (hi : Mnt n files (fsOf m) sp D) (hun : un = n - (7 + files)) (hn : 7 + files < n ∧ n ≤ 4096) (hfs : files ≤ 256) (ht : tabR ∈ R) (hlog : logR l d ((2 + files : Nat) : Int) 5 ∈ R) (hall : allM m ∈ R)
 (dk : Dk D k) (hm : k ≤ 4294700000) (hv : VOk V D) (hkeep : SlE (SL.one vi) V.kv D.keep ∈ R) (hk : RnPost POST R O s d l mb un files sp m V D name tn q0) :
 Fun Tryz.prog 27 #[dp s, vs name, vs tn] R (stO s d l mb un files sp false m V D O) POST := by
 refine Fun.turn ?_
 have hfn := fs_some hmg
 have hok0 := hi.inv.fok.ok name _ hfn
 have hqe : q0.1 < files := hok0.e
 have hio : InoOk files tn (miI q0) := ⟨hg2, hok0.e, hok0.n, hok0.len, hok0.sum, hok0.ext⟩
 refine Fun.know (φ := OneV q0.2.2.1) hall (fun w h => SlE.oneV (h name q0 hmg)) fun hone => ?_
 have hft := fs_none hmt
 refine Fun.enter (l := [_, _, _]) Tryz.func27 rfl Tryz.ntmps27 rfl (L0 := [(0, _), (1, _), (2, _)]) rfl ?_
 refine WC.seq ?_
 refine WC.region ?_
 refine WL.rd rfl rfl rfl (Rd.assign rfl rfl) ?_
 refine WL.nil ?_
 refine thenQ.normal ?_
 refine WC.seq ?_
 refine WC.seq ?_
 refine WC.region ?_
 refine WL.rd rfl rfl rfl (Rd.move rfl rfl) ?_
 refine WL.op rfl ?_
 refine OpW.call rfl rfl Z.E Z.K rfl rfl rfl ?_
 refine ready_spec hi.cl.off ?_
 refine WL.rd rfl rfl rfl (Rd.assign rfl rfl) ?_
 refine WL.nil ?_
 refine thenQ.normal ?_
 refine WC.seq ?_
 refine WC.region ?_
 refine WL.rd rfl rfl rfl (Rd.move rfl rfl) ?_
 refine WL.rd rfl rfl rfl (Rd.neq rfl rfl rfl) ?_
 refine WL.nil ?_
 refine thenQ.normal ?_
 refine WC.ite rfl (fun hc1 => ?_) (fun hc1 => ?_)
 ·
  exact absurd rfl hc1
 ·
  refine WC.skip ?_
  refine thenQ.normal ?_
  refine WC.seq ?_
  refine WC.seq ?_
  refine WC.region ?_
  refine WL.rd rfl rfl rfl (Rd.move rfl rfl) ?_
  refine WL.op rfl ?_
  refine OpW.call rfl rfl Z.E Z.K rfl rfl rfl ?_
  refine good_spec hg ?_
  refine WL.rd rfl rfl rfl ((by exact Rd.not rfl rfl)) ?_
  refine WL.say 22 (u := .bool (decide False)) rfl rfl ?_
  refine WL.rd rfl rfl rfl (Rd.move rfl rfl) ?_
  refine WL.case 23 rfl (fun hg23 => ?_) (fun hg23 => ?_)
  ·
   exact hg23.elim
  ·
   refine WL.rd_yes rfl rfl rfl rfl rfl rfl (Rd.move rfl rfl) ?_
   refine WL.op_yes rfl rfl rfl rfl ?_
   refine OpW.call rfl rfl Z.E Z.K rfl rfl rfl ?_
   refine good_spec hg2 ?_
   refine WL.rd_yes rfl rfl rfl rfl rfl rfl ((by exact Rd.not rfl rfl)) ?_
   refine WL.say 26 (u := .bool (decide False)) rfl rfl ?_
   refine WL.rd rfl rfl rfl (Rd.pick_f rfl rfl rfl) ?_
   refine WL.nil ?_
   refine thenQ.normal ?_
   refine WC.ite rfl (fun hc2 => ?_) (fun hc2 => ?_)
   ·
    exact hc2.elim
   ·
    refine WC.skip ?_
    refine thenQ.normal ?_
    refine WC.seq ?_
    refine WC.region ?_
    refine WL.rd rfl rfl rfl (Rd.move rfl rfl) ?_
    refine WL.rd rfl rfl rfl (Rd.move rfl rfl) ?_
    refine WL.op rfl ?_
    refine OpW.call rfl rfl Z.E Z.K rfl rfl rfl ?_
    refine find_some hmg hg hi.cl.off (by repeat (first | exact hall | refine List.mem_cons_of_mem _ ?_)) ?_
    refine WL.rd rfl rfl rfl (Rd.move rfl rfl) ?_
    refine WL.rd rfl rfl rfl (Rd.extract rfl rfl rfl) ?_
    refine WL.rd rfl rfl rfl (Rd.extract rfl rfl rfl) ?_
    refine WL.op rfl ?_
    refine OpW.alloc rfl I79 rfl Z.N rfl rfl ?_; intro b8
    refine WL.op rfl ?_
    refine OpW.storeS (h1 := by simp only [List.all_cons, List.all_nil, hone.one]; rfl) rfl G79 rfl rfl Z.N Z.T rfl rfl Z.N rfl ?_
    refine WL.rd rfl rfl rfl (Rd.assign rfl rfl) ?_
    refine WL.nil ?_
    refine thenQ.normal ?_
    refine WC.seq ?_
    refine WC.seq ?_
    refine WC.region ?_
    refine WL.rd rfl rfl rfl (Rd.move rfl rfl) ?_
    refine WL.rd rfl rfl rfl (Rd.neq rfl rfl rfl) ?_
    refine WL.rd rfl rfl rfl (Rd.move rfl rfl) ?_
    refine WL.case 36 rfl (fun hg36 => ?_) (fun hg36 => ?_)
    ·
     exact absurd rfl hg36
    ·
     refine WL.rd_yes rfl rfl rfl rfl rfl rfl (Rd.move rfl rfl) ?_
     refine WL.rd_yes rfl rfl rfl rfl rfl rfl (Rd.move rfl rfl) ?_
     refine WL.rd_yes rfl rfl rfl rfl rfl rfl (Rd.seql rfl rfl rfl) ?_
     refine WL.rd rfl rfl rfl (Rd.pick_f rfl rfl rfl) ?_
     refine WL.nil ?_
     refine thenQ.normal ?_
     refine WC.ite rfl (fun hc3 => ?_) (fun hc3 => ?_)
     ·
      (exfalso; exact hne (by simpa using hc3))
     ·
      refine WC.skip ?_
      refine thenQ.normal ?_
      refine WC.cut (α := Nat) (fun q => [(0, dp s), (1, vs name), (2, vs tn), (8, .pointer (some ⟨b8, 0, none⟩)), (10, .map (some q))]) (fun q => SlE encX q0.2.2.1 q0.2.2.2 :: R) (fun q => mapC kI vs q ((GoMap.empty : GoMap Int Tx).set (q0.1 : Int) (entryE tn (miI q0))) :: rowC b8 79 (inoCs q0.1 q0.2.1 q0.2.2.1) :: stO s d l mb un files sp false m V D O) (fun _ => True) ?_ ?_
      ·
       refine WC.drawn (rowC b8 79 (inoCs q0.1 q0.2.1 q0.2.2.1) :: stO s d l mb un files sp false m V D O) 9 rfl mixed ?_
       refine WD.take 1 rfl Z.K Z.H rfl rfl rfl ((by exact Rd.field rfl F79_0 rfl rfl)) ?_
       refine WD.take 2 rfl Z.K Z.H rfl rfl rfl ((by exact Rd.row1 rfl C3 rfl Z.M (by rfl))) ?_
       refine WD.take 3 rfl Z.K Z.H rfl rfl rfl (Rd.move rfl rfl) ?_
       refine WD.take 4 rfl Z.K Z.H rfl rfl rfl ((by exact Rd.rowS rfl G79 rfl Z.M Z.N rfl)) ?_
       refine WD.two 0 5 rfl rfl Z.K rfl rfl ?_ ?_
       ·
        refine OpW.makeMap kI SL.vs rfl rfl rfl ?_; intro b42
        refine ⟨Z.H, ?_⟩
        refine WD.one 5 rfl Z.K rfl ?_
        refine OpW.call rfl rfl Z.E Z.K rfl rfl rfl ?_
        refine entry_spec (files := files) (e := q0.1) (i := miI q0) (by repeat (first | exact ht | refine List.mem_cons_of_mem _ ?_)) Z.M hio ?_
        refine ⟨Z.H, ?_⟩
        refine WD.one 6 rfl Z.K rfl ?_
        refine OpW.insertM (kenc := kI) (venc := vs) (m := GoMap.empty) (k := (q0.1 : Int)) (v := entryE tn (miI q0)) M123 K3 rfl rfl rfl rfl Z.T rfl rfl rfl ?_
        refine ⟨Z.H, ?_⟩
        refine WD.take 7 rfl Z.K Z.H rfl rfl rfl (Rd.move rfl rfl) ?_
        refine WD.take 8 rfl Z.K Z.H rfl rfl rfl (Rd.assign rfl rfl) ?_
        refine WD.done Z.K ?_
        exact ⟨b42, trivial, (by repeat (first | exact Sub.nil | refine Sub.cons rfl (by rfl) ?_)), Z.F⟩
       ·
        refine OpW.call rfl rfl Z.E Z.K rfl rfl rfl ?_
        refine entry_spec (files := files) (e := q0.1) (i := miI q0) (by repeat (first | exact ht | refine List.mem_cons_of_mem _ ?_)) Z.M hio ?_
        refine ⟨Z.H, ?_⟩
        refine WD.one 0 rfl Z.K rfl ?_
        refine OpW.makeMap kI SL.vs rfl rfl rfl ?_; intro b42
        refine ⟨Z.H, ?_⟩
        refine WD.one 6 rfl Z.K rfl ?_
        refine OpW.insertM (kenc := kI) (venc := vs) (m := GoMap.empty) (k := (q0.1 : Int)) (v := entryE tn (miI q0)) M123 K3 rfl rfl rfl rfl Z.T rfl rfl rfl ?_
        refine ⟨Z.H, ?_⟩
        refine WD.take 7 rfl Z.K Z.H rfl rfl rfl (Rd.move rfl rfl) ?_
        refine WD.take 8 rfl Z.K Z.H rfl rfl rfl (Rd.assign rfl rfl) ?_
        refine WD.done Z.K ?_
        exact ⟨b42, trivial, (by repeat (first | exact Sub.nil | refine Sub.cons rfl (by rfl) ?_)), Z.F⟩
      ·
       rintro b42 -
       refine WC.seq ?_
       refine WC.region ?_
       refine WL.rd rfl rfl rfl (Rd.move rfl rfl) ?_
       refine WL.rd rfl rfl rfl (Rd.nilc rfl rfl) ?_
       refine WL.rd rfl rfl rfl ((by exact Rd.field rfl F65_2 rfl rfl)) ?_
       refine WL.rd rfl rfl rfl (Rd.rowS (b := s) rfl G63 rfl Z.M Z.N rfl) ?_
       refine WL.op rfl ?_
       refine OpW.alloc rfl I63 rfl Z.N rfl rfl ?_; intro b11
       refine WL.op rfl ?_
       refine OpW.storeS rfl G63 rfl rfl Z.N Z.T rfl rfl Z.N rfl ?_
       refine WL.nil ?_
       refine thenQ.normal ?_
       refine WC.seq ?_
       refine WC.seq ?_
       refine WC.region ?_
       refine WL.rd rfl rfl rfl (Rd.move rfl rfl) ?_
       refine WL.rd rfl rfl rfl (Rd.nilc rfl rfl) ?_
       refine WL.rd rfl rfl rfl ((by exact Rd.field rfl F65_3 rfl rfl)) ?_
       refine WL.rd rfl rfl rfl (Rd.row1 (off := 4) (u := .map (some mb)) rfl C60 rfl (b := s) Z.M rfl) ?_
       refine WL.rd rfl rfl rfl (Rd.move rfl rfl) ?_
       refine WL.rd rfl rfl rfl (Rd.lookup2 (kenc := vs) (venc := miV) (m := m) (k := tn) M60 K9 rfl rfl rfl Z.M rfl) ?_
       refine WL.say 59 (u := .tuple #[inoV 0 0 (.slice none 0 0), .bool (decide False)]) rfl (by rw [hmt]; rfl) ?_
       refine WL.rd rfl rfl rfl (Rd.move rfl rfl) ?_
       refine WL.rd rfl rfl rfl (Rd.extract rfl rfl rfl) ?_
       refine WL.rd rfl rfl rfl (Rd.extract rfl rfl rfl) ?_
       refine WL.op rfl ?_
       refine OpW.alloc rfl I79 rfl Z.N rfl rfl ?_; intro b12
       refine WL.op rfl ?_
       refine OpW.storeS rfl G79 rfl rfl Z.N Z.T rfl rfl Z.N rfl ?_
       refine WL.rd rfl rfl rfl (Rd.assign rfl rfl) ?_
       refine WL.nil ?_
       refine thenQ.normal ?_
       refine WC.seq ?_
       refine WC.region ?_
       refine WL.rd rfl rfl rfl (Rd.move rfl rfl) ?_
       refine WL.nil ?_
       refine thenQ.normal ?_
       refine WC.ite rfl (fun hc4 => ?_) (fun hc4 => ?_)
       ·
        exact hc4.elim
       ·
        refine WC.skip ?_
        refine thenQ.normal ?_
        refine WC.seq ?_
        refine WC.seq ?_
        refine WC.heap (fun w h => Sat.shareM (kenc := kI) (venc := SL.vs) (b := b42) (m := (GoMap.empty : GoMap Int Tx).set (q0.1 : Int) (entryE tn (miI q0))) Z.T h) ?_
        refine WC.region ?_
        refine WL.rd rfl rfl rfl (Rd.move rfl rfl) ?_
        refine WL.rd rfl rfl rfl ((by exact Rd.rowS rfl G63 rfl Z.M Z.N rfl)) ?_
        refine WL.rd rfl rfl rfl (Rd.move rfl rfl) ?_
        refine WL.op rfl ?_
        refine OpW.call rfl rfl Z.E Z.K rfl rfl rfl ?_
        refine Fun.heap (R' := mapP kI SL.vs b42 ((GoMap.empty : GoMap Int Tx).set (q0.1 : Int) (entryE tn (miI q0))) :: SlE encX q0.2.2.1 q0.2.2.2 :: R) (O' := stO s d l mb un files sp false m V D (rowC b8 79 (inoCs q0.1 q0.2.1 q0.2.2.1) :: O)) Z.F ?_
        refine settle2_spec (sp' := sp) (by repeat (first | exact ht | refine List.mem_cons_of_mem _ ?_)) (by repeat (first | exact hlog | refine List.mem_cons_of_mem _ ?_)) List.mem_cons_self ⟨Nat.le_refl 1, (by show 1 ≤ 3; omega)⟩ (fun x hx => by rw [show ((GoMap.empty : GoMap Int Tx).set (q0.1 : Int) (entryE tn (miI q0))).ks = [(q0.1 : Int)] from rfl, List.mem_singleton] at hx; omega) (hi.fits Z.W) dk Z.W hv (by repeat (first | exact hkeep | refine List.mem_cons_of_mem _ ?_)) ?_
        intro ks U1 C hks hC hu1 hku1
        have hk' := hk U1 C (chOf ((GoMap.empty : GoMap Int Tx).set (q0.1 : Int) (entryE tn (miI q0))) ks) (by rw [one_map hks]; simp) (by rw [one_map hks]; simp) (fun c => by rw [one_map hks, hft]; simp) (by rw [op_nil, hft]; exact hC) hu1 hku1
        rw [hft] at hk'
        refine WL.rd rfl rfl rfl (Rd.assign rfl rfl) ?_
        refine WL.nil ?_
        refine thenQ.normal ?_
        refine WC.seq ?_
        refine WC.region ?_
        refine WL.rd rfl rfl rfl (Rd.move rfl rfl) ?_
        refine WL.rd rfl rfl rfl (Rd.neq rfl rfl rfl) ?_
        refine WL.nil ?_
        refine thenQ.normal ?_
        refine WC.ite rfl (fun hc6 => ?_) (fun hc6 => ?_)
        ·
         have hne : C.2 ≠ 0 := by omega
         rw [if_neg hne, decide_eq_true hne] at hk' ⊢
         rw [if_neg hne] at hk'
         refine WC.seq ?_
         refine WC.region ?_
         refine WL.rd rfl rfl rfl (Rd.move rfl rfl) ?_
         refine WL.rd rfl rfl rfl (Rd.assign rfl rfl) ?_
         refine WL.nil ?_
         refine thenQ.normal ?_
         refine WC.ret (thenQ.retR (Ret.one Tryz.results27 rfl ?_))
         exact ⟨_, _, hk', fun w h => by
         have h2 : Sat (allM m :: R) _ w := (h.thin (R' := R) (SubL.mem Z.S)).derive (fun w hw => hw _ hall)
         exact Z.Fw h2⟩
        ·
         have heq : C.2 = 0 := by omega
         rw [if_pos heq, decide_eq_false (by omega : ¬ C.2 ≠ 0)] at hk' ⊢
         rw [if_pos heq] at hk'
         refine WC.skip ?_
         refine thenQ.normal ?_
         refine WC.seq ?_
         refine WC.region ?_
         refine WL.rd rfl rfl rfl (Rd.move rfl rfl) ?_
         refine WL.rd rfl rfl rfl (Rd.nilc rfl rfl) ?_
         refine WL.rd rfl rfl rfl ((by exact Rd.field rfl F65_3 rfl rfl)) ?_
         refine WL.rd rfl rfl rfl (Rd.row1 (off := 4) (u := .map (some mb)) rfl C60 rfl (b := s) Z.M rfl) ?_
         refine WL.rd rfl rfl rfl (Rd.move rfl rfl) ?_
         refine WL.op rfl ?_
         refine OpW.delete (kenc := vs) (venc := miV) (m := m) (k := name) M60 K9 rfl rfl rfl Z.T rfl rfl ?_
         refine WL.nil ?_
         refine thenQ.normal ?_
         refine WC.seq ?_
         refine WC.tail 6 mixed Z.K ?_
         refine WS.rd rfl rfl rfl (Rd.move rfl rfl) ?_
         refine WS.rd rfl rfl rfl (Rd.nilc rfl rfl) ?_
         refine WS.rd rfl rfl rfl ((by exact Rd.field rfl F65_3 rfl rfl)) ?_
         refine WS.rd rfl rfl rfl (Rd.row1 (off := 4) (u := .map (some mb)) rfl C60 rfl (b := s) Z.M rfl) ?_
         refine WS.rd rfl rfl rfl (Rd.move rfl rfl) ?_
         refine WS.rd rfl rfl rfl ((by exact Rd.rowS rfl G79 rfl Z.M Z.N rfl)) ?_
         refine WS.switch ?_
         refine WL.op rfl ?_
         refine OpW.mapUpdate (kenc := vs) (venc := miV) (m := m.del name) (k := tn) (v := q0) M60 K9 rfl rfl rfl rfl Z.T rfl rfl rfl ?_
         refine WL.nil ?_
         refine thenQ.normal ?_
         refine WC.seq ?_
         refine WC.region ?_
         refine WL.rd rfl rfl rfl (Rd.assign rfl rfl) ?_
         refine WL.nil ?_
         refine thenQ.normal ?_
         refine WC.ret (Ret.one Tryz.results27 rfl ?_)
         exact ⟨_, _, (by rw [heq] at hk'; exact hk'), fun w h => by
         have h2 : Sat (allM ((m.del name).set tn q0) :: R) _ w := (h.thin (R' := SlE encX q0.2.2.1 q0.2.2.2 :: R) (SubL.mem Z.S)).derive (fun w hw => allM_set (allM_del (hw _ (List.mem_cons_of_mem _ hall))) (hw _ List.mem_cons_self)) |>.thin (by intro p hp; rcases List.mem_cons.1 hp with rfl | hp; exact List.mem_cons_self; exact List.mem_cons_of_mem _ (List.mem_cons_of_mem _ hp))
         exact Z.Fw h2⟩
set_option maxRecDepth 20000 in
set_option maxHeartbeats 8000000 in
theorem rename_over {n : Nat} {name tn : Tx} {q0 z : MI} (hmg : m.get name = some q0) (hmt : m.get tn = some z) (hne : name ≠ tn) (hg : GoodN name) (hg2 : GoodN tn) (hi : Mnt n files (fsOf m) sp D) (hun : un = n - (7 + files)) (hn : 7 + files < n ∧ n ≤ 4096) (hfs : files ≤ 256) (ht : tabR ∈ R) (hlog : logR l d ((2 + files : Nat) : Int) 5 ∈ R) (hall : allM m ∈ R)
 (dk : Dk D k) (hm : k ≤ 4294700000) (hv : VOk V D) (hkeep : SlE (SL.one vi) V.kv D.keep ∈ R) (hk : RnPost POST R O s d l mb un files sp m V D name tn q0) :
 Fun Tryz.prog 27 #[dp s, vs name, vs tn] R (stO s d l mb un files sp false m V D O) POST := by
 refine Fun.turn ?_
 have hfn := fs_some hmg
 have hok0 := hi.inv.fok.ok name _ hfn
 have hqe : q0.1 < files := hok0.e
 have hio : InoOk files tn (miI q0) := ⟨hg2, hok0.e, hok0.n, hok0.len, hok0.sum, hok0.ext⟩
 refine Fun.know (φ := OneV q0.2.2.1) hall (fun w h => SlE.oneV (h name q0 hmg)) fun hone => ?_
 have hft := fs_some hmt
 have hokz := hi.inv.fok.ok tn _ hft
 have hze : z.1 < files := hokz.e
 have hzl : z.2.2.2.length ≤ 64 := hokz.len
 have hxz : (z.1 : Int) ≠ (q0.1 : Int) := fun e => hne (hi.inv.fok.inj _ _ _ _ hfn hft (by show q0.1 = z.1; omega))
 have htkz : TurnOk un false sp z.2.2.2 := by rw [hun]; exact hi.inv.fok.tk tn _ hft
 have hkz : (((GoMap.empty : GoMap Int Tx).set (q0.1 : Int) (entryE tn (miI q0))).set (z.1 : Int) []).ks = [(q0.1 : Int), (z.1 : Int)] := by
  have h1 : ((GoMap.empty : GoMap Int Tx).set (q0.1 : Int) (entryE tn (miI q0))).get (z.1 : Int) = none := by rw [GoMap.get_set, if_neg hxz]; rfl
  rw [GoMap.ks, GoMap.set, dif_neg (by intro h; unfold GoMap.get at h1; rw [Option.map_eq_none_iff] at h1; rw [h1] at h; simp at h)]
  rfl
 have hcml : 1 ≤ (((GoMap.empty : GoMap Int Tx).set (q0.1 : Int) (entryE tn (miI q0))).set (z.1 : Int) []).l.length ∧ (((GoMap.empty : GoMap Int Tx).set (q0.1 : Int) (entryE tn (miI q0))).set (z.1 : Int) []).l.length ≤ 3 := by
  have h1 : (((GoMap.empty : GoMap Int Tx).set (q0.1 : Int) (entryE tn (miI q0))).set (z.1 : Int) []).l.length = 2 := by
   have := congrArg List.length hkz
   unfold GoMap.ks at this
   rw [List.length_map] at this
   exact this
  rw [h1]; omega
 have hcz : ∀ ks : List Int, ks.Perm (((GoMap.empty : GoMap Int Tx).set (q0.1 : Int) (entryE tn (miI q0))).set (z.1 : Int) []).ks → chOf (((GoMap.empty : GoMap Int Tx).set (q0.1 : Int) (entryE tn (miI q0))).set (z.1 : Int) []) ks = [(q0.1, entryE tn (miI q0)), (z.1, [])] ∨ chOf (((GoMap.empty : GoMap Int Tx).set (q0.1 : Int) (entryE tn (miI q0))).set (z.1 : Int) []) ks = [(z.1, []), (q0.1, entryE tn (miI q0))] := fun ks h => by
  rw [hkz] at h
  have g1 : (((GoMap.empty : GoMap Int Tx).set (q0.1 : Int) (entryE tn (miI q0))).set (z.1 : Int) []).get (q0.1 : Int) = some (entryE tn (miI q0)) := by rw [GoMap.get_set, if_neg (Ne.symm hxz), GoMap.get_set, if_pos rfl]
  have g2 : (((GoMap.empty : GoMap Int Tx).set (q0.1 : Int) (entryE tn (miI q0))).set (z.1 : Int) []).get (z.1 : Int) = some [] := by rw [GoMap.get_set, if_pos rfl]
  rcases Perm2 h with rfl | rfl
  · left; unfold chOf; simp only [List.map_cons, List.map_nil, g1, g2]; rfl
  · right; unfold chOf; simp only [List.map_cons, List.map_nil, g1, g2]; rfl
 refine Fun.know (φ := OneV z.2.2.1) hall (fun w h => SlE.oneV (h tn z hmt)) fun honez => ?_
 refine Fun.heap (R' := SlE encX z.2.2.1 z.2.2.2 :: R) (fun w h => h.derive fun w hw => hw _ hall tn z hmt) ?_
 refine Fun.enter (l := [_, _, _]) Tryz.func27 rfl Tryz.ntmps27 rfl (L0 := [(0, _), (1, _), (2, _)]) rfl ?_
 refine WC.seq ?_
 refine WC.region ?_
 refine WL.rd rfl rfl rfl (Rd.assign rfl rfl) ?_
 refine WL.nil ?_
 refine thenQ.normal ?_
 refine WC.seq ?_
 refine WC.seq ?_
 refine WC.region ?_
 refine WL.rd rfl rfl rfl (Rd.move rfl rfl) ?_
 refine WL.op rfl ?_
 refine OpW.call rfl rfl Z.E Z.K rfl rfl rfl ?_
 refine ready_spec hi.cl.off ?_
 refine WL.rd rfl rfl rfl (Rd.assign rfl rfl) ?_
 refine WL.nil ?_
 refine thenQ.normal ?_
 refine WC.seq ?_
 refine WC.region ?_
 refine WL.rd rfl rfl rfl (Rd.move rfl rfl) ?_
 refine WL.rd rfl rfl rfl (Rd.neq rfl rfl rfl) ?_
 refine WL.nil ?_
 refine thenQ.normal ?_
 refine WC.ite rfl (fun hc1 => ?_) (fun hc1 => ?_)
 ·
  exact absurd rfl hc1
 ·
  refine WC.skip ?_
  refine thenQ.normal ?_
  refine WC.seq ?_
  refine WC.seq ?_
  refine WC.region ?_
  refine WL.rd rfl rfl rfl (Rd.move rfl rfl) ?_
  refine WL.op rfl ?_
  refine OpW.call rfl rfl Z.E Z.K rfl rfl rfl ?_
  refine good_spec hg ?_
  refine WL.rd rfl rfl rfl ((by exact Rd.not rfl rfl)) ?_
  refine WL.say 22 (u := .bool (decide False)) rfl rfl ?_
  refine WL.rd rfl rfl rfl (Rd.move rfl rfl) ?_
  refine WL.case 23 rfl (fun hg23 => ?_) (fun hg23 => ?_)
  ·
   exact hg23.elim
  ·
   refine WL.rd_yes rfl rfl rfl rfl rfl rfl (Rd.move rfl rfl) ?_
   refine WL.op_yes rfl rfl rfl rfl ?_
   refine OpW.call rfl rfl Z.E Z.K rfl rfl rfl ?_
   refine good_spec hg2 ?_
   refine WL.rd_yes rfl rfl rfl rfl rfl rfl ((by exact Rd.not rfl rfl)) ?_
   refine WL.say 26 (u := .bool (decide False)) rfl rfl ?_
   refine WL.rd rfl rfl rfl (Rd.pick_f rfl rfl rfl) ?_
   refine WL.nil ?_
   refine thenQ.normal ?_
   refine WC.ite rfl (fun hc2 => ?_) (fun hc2 => ?_)
   ·
    exact hc2.elim
   ·
    refine WC.skip ?_
    refine thenQ.normal ?_
    refine WC.seq ?_
    refine WC.region ?_
    refine WL.rd rfl rfl rfl (Rd.move rfl rfl) ?_
    refine WL.rd rfl rfl rfl (Rd.move rfl rfl) ?_
    refine WL.op rfl ?_
    refine OpW.call rfl rfl Z.E Z.K rfl rfl rfl ?_
    refine find_some hmg hg hi.cl.off (by repeat (first | exact hall | refine List.mem_cons_of_mem _ ?_)) ?_
    refine WL.rd rfl rfl rfl (Rd.move rfl rfl) ?_
    refine WL.rd rfl rfl rfl (Rd.extract rfl rfl rfl) ?_
    refine WL.rd rfl rfl rfl (Rd.extract rfl rfl rfl) ?_
    refine WL.op rfl ?_
    refine OpW.alloc rfl I79 rfl Z.N rfl rfl ?_; intro b8
    refine WL.op rfl ?_
    refine OpW.storeS (h1 := by simp only [List.all_cons, List.all_nil, hone.one]; rfl) rfl G79 rfl rfl Z.N Z.T rfl rfl Z.N rfl ?_
    refine WL.rd rfl rfl rfl (Rd.assign rfl rfl) ?_
    refine WL.nil ?_
    refine thenQ.normal ?_
    refine WC.seq ?_
    refine WC.seq ?_
    refine WC.region ?_
    refine WL.rd rfl rfl rfl (Rd.move rfl rfl) ?_
    refine WL.rd rfl rfl rfl (Rd.neq rfl rfl rfl) ?_
    refine WL.rd rfl rfl rfl (Rd.move rfl rfl) ?_
    refine WL.case 36 rfl (fun hg36 => ?_) (fun hg36 => ?_)
    ·
     exact absurd rfl hg36
    ·
     refine WL.rd_yes rfl rfl rfl rfl rfl rfl (Rd.move rfl rfl) ?_
     refine WL.rd_yes rfl rfl rfl rfl rfl rfl (Rd.move rfl rfl) ?_
     refine WL.rd_yes rfl rfl rfl rfl rfl rfl (Rd.seql rfl rfl rfl) ?_
     refine WL.rd rfl rfl rfl (Rd.pick_f rfl rfl rfl) ?_
     refine WL.nil ?_
     refine thenQ.normal ?_
     refine WC.ite rfl (fun hc3 => ?_) (fun hc3 => ?_)
     ·
      (exfalso; exact hne (by simpa using hc3))
     ·
      refine WC.skip ?_
      refine thenQ.normal ?_
      refine WC.cut (α := Nat) (fun q => [(0, dp s), (1, vs name), (2, vs tn), (8, .pointer (some ⟨b8, 0, none⟩)), (10, .map (some q))]) (fun q => SlE encX z.2.2.1 z.2.2.2 :: SlE encX q0.2.2.1 q0.2.2.2 :: R) (fun q => mapC kI vs q ((GoMap.empty : GoMap Int Tx).set (q0.1 : Int) (entryE tn (miI q0))) :: rowC b8 79 (inoCs q0.1 q0.2.1 q0.2.2.1) :: stO s d l mb un files sp false m V D O) (fun _ => True) ?_ ?_
      ·
       refine WC.drawn (rowC b8 79 (inoCs q0.1 q0.2.1 q0.2.2.1) :: stO s d l mb un files sp false m V D O) 9 rfl mixed ?_
       refine WD.take 1 rfl Z.K Z.H rfl rfl rfl ((by exact Rd.field rfl F79_0 rfl rfl)) ?_
       refine WD.take 2 rfl Z.K Z.H rfl rfl rfl ((by exact Rd.row1 rfl C3 rfl Z.M (by rfl))) ?_
       refine WD.take 3 rfl Z.K Z.H rfl rfl rfl (Rd.move rfl rfl) ?_
       refine WD.take 4 rfl Z.K Z.H rfl rfl rfl ((by exact Rd.rowS rfl G79 rfl Z.M Z.N rfl)) ?_
       refine WD.two 0 5 rfl rfl Z.K rfl rfl ?_ ?_
       ·
        refine OpW.makeMap kI SL.vs rfl rfl rfl ?_; intro b42
        refine ⟨Z.H, ?_⟩
        refine WD.one 5 rfl Z.K rfl ?_
        refine OpW.call rfl rfl Z.E Z.K rfl rfl rfl ?_
        refine entry_spec (files := files) (e := q0.1) (i := miI q0) (by repeat (first | exact ht | refine List.mem_cons_of_mem _ ?_)) Z.M hio ?_
        refine ⟨Z.H, ?_⟩
        refine WD.one 6 rfl Z.K rfl ?_
        refine OpW.insertM (kenc := kI) (venc := vs) (m := GoMap.empty) (k := (q0.1 : Int)) (v := entryE tn (miI q0)) M123 K3 rfl rfl rfl rfl Z.T rfl rfl rfl ?_
        refine ⟨Z.H, ?_⟩
        refine WD.take 7 rfl Z.K Z.H rfl rfl rfl (Rd.move rfl rfl) ?_
        refine WD.take 8 rfl Z.K Z.H rfl rfl rfl (Rd.assign rfl rfl) ?_
        refine WD.done Z.K ?_
        exact ⟨b42, trivial, (by repeat (first | exact Sub.nil | refine Sub.cons rfl (by rfl) ?_)), Z.F⟩
       ·
        refine OpW.call rfl rfl Z.E Z.K rfl rfl rfl ?_
        refine entry_spec (files := files) (e := q0.1) (i := miI q0) (by repeat (first | exact ht | refine List.mem_cons_of_mem _ ?_)) Z.M hio ?_
        refine ⟨Z.H, ?_⟩
        refine WD.one 0 rfl Z.K rfl ?_
        refine OpW.makeMap kI SL.vs rfl rfl rfl ?_; intro b42
        refine ⟨Z.H, ?_⟩
        refine WD.one 6 rfl Z.K rfl ?_
        refine OpW.insertM (kenc := kI) (venc := vs) (m := GoMap.empty) (k := (q0.1 : Int)) (v := entryE tn (miI q0)) M123 K3 rfl rfl rfl rfl Z.T rfl rfl rfl ?_
        refine ⟨Z.H, ?_⟩
        refine WD.take 7 rfl Z.K Z.H rfl rfl rfl (Rd.move rfl rfl) ?_
        refine WD.take 8 rfl Z.K Z.H rfl rfl rfl (Rd.assign rfl rfl) ?_
        refine WD.done Z.K ?_
        exact ⟨b42, trivial, (by repeat (first | exact Sub.nil | refine Sub.cons rfl (by rfl) ?_)), Z.F⟩
      ·
       rintro b42 -
       refine WC.seq ?_
       refine WC.region ?_
       refine WL.rd rfl rfl rfl (Rd.move rfl rfl) ?_
       refine WL.rd rfl rfl rfl (Rd.nilc rfl rfl) ?_
       refine WL.rd rfl rfl rfl ((by exact Rd.field rfl F65_2 rfl rfl)) ?_
       refine WL.rd rfl rfl rfl (Rd.rowS (b := s) rfl G63 rfl Z.M Z.N rfl) ?_
       refine WL.op rfl ?_
       refine OpW.alloc rfl I63 rfl Z.N rfl rfl ?_; intro b11
       refine WL.op rfl ?_
       refine OpW.storeS rfl G63 rfl rfl Z.N Z.T rfl rfl Z.N rfl ?_
       refine WL.nil ?_
       refine thenQ.normal ?_
       refine WC.seq ?_
       refine WC.seq ?_
       refine WC.region ?_
       refine WL.rd rfl rfl rfl (Rd.move rfl rfl) ?_
       refine WL.rd rfl rfl rfl (Rd.nilc rfl rfl) ?_
       refine WL.rd rfl rfl rfl ((by exact Rd.field rfl F65_3 rfl rfl)) ?_
       refine WL.rd rfl rfl rfl (Rd.row1 (off := 4) (u := .map (some mb)) rfl C60 rfl (b := s) Z.M rfl) ?_
       refine WL.rd rfl rfl rfl (Rd.move rfl rfl) ?_
       refine WL.rd rfl rfl rfl (Rd.lookup2 (kenc := vs) (venc := miV) (m := m) (k := tn) M60 K9 rfl rfl rfl Z.M rfl) ?_
       refine WL.say 59 (u := .tuple #[miV z, .bool (decide True)]) rfl (by rw [hmt]; rfl) ?_
       refine WL.rd rfl rfl rfl (Rd.move rfl rfl) ?_
       refine WL.rd rfl rfl rfl (Rd.extract rfl rfl rfl) ?_
       refine WL.rd rfl rfl rfl (Rd.extract rfl rfl rfl) ?_
       refine WL.op rfl ?_
       refine OpW.alloc rfl I79 rfl Z.N rfl rfl ?_; intro b12
       refine WL.op rfl ?_
       refine OpW.storeS (h1 := by simp only [List.all_cons, List.all_nil, honez.one]; rfl) rfl G79 rfl rfl Z.N Z.T rfl rfl Z.N rfl ?_
       refine WL.rd rfl rfl rfl (Rd.assign rfl rfl) ?_
       refine WL.nil ?_
       refine thenQ.normal ?_
       refine WC.seq ?_
       refine WC.region ?_
       refine WL.rd rfl rfl rfl (Rd.move rfl rfl) ?_
       refine WL.nil ?_
       refine thenQ.normal ?_
       refine WC.ite rfl (fun hc4 => ?_) (fun hc4 => ?_)
       ·
        refine WC.seq ?_
        refine WC.region ?_
        refine WL.rd rfl rfl rfl (Rd.move rfl rfl) ?_
        refine WL.rd rfl rfl rfl ((by exact Rd.field rfl F79_0 rfl rfl)) ?_
        refine WL.rd rfl rfl rfl ((by exact Rd.row1 rfl C3 rfl Z.M (by rfl))) ?_
        refine WL.op rfl ?_
        refine OpW.mapUpdate (kenc := kI) (venc := vs) (m := (GoMap.empty : GoMap Int Tx).set (q0.1 : Int) (entryE tn (miI q0))) (k := (z.1 : Int)) (v := ([] : Tx)) M123 K3 rfl rfl rfl rfl Z.T rfl rfl rfl ?_
        refine WL.nil ?_
        refine thenQ.normal ?_
        refine WC.seq ?_
        refine WC.region ?_
        refine WL.rd rfl rfl rfl ((by exact Rd.rowS rfl G63 rfl Z.M Z.N rfl)) ?_
        refine WL.rd rfl rfl rfl ((by exact Rd.field rfl F79_2 rfl rfl)) ?_
        refine WL.rd rfl rfl rfl ((by exact Rd.row1 rfl C77 rfl Z.M (by rfl))) ?_
        refine WL.op rfl ?_
        refine OpW.call rfl rfl Z.E Z.K rfl rfl rfl ?_
        refine spGive_spec (n := un) (f := sp) (xs := z.2.2.2) Z.M Z.W htkz Z.W ?_
        refine WL.rd rfl rfl rfl (Rd.move rfl rfl) ?_
        refine WL.rd rfl rfl rfl (Rd.extract rfl rfl rfl) ?_
        refine WL.rd rfl rfl rfl (Rd.extract rfl rfl rfl) ?_
        refine WL.op rfl ?_
        refine OpW.storeS rfl G63 rfl rfl Z.N Z.T rfl rfl Z.N rfl ?_
        refine WL.rd rfl rfl rfl (Rd.assign rfl rfl) ?_
        refine WL.nil ?_
        refine thenQ.normal ?_
        refine WC.seq ?_
        refine WC.region ?_
        refine WL.rd rfl rfl rfl (Rd.move rfl rfl) ?_
        refine WL.rd rfl rfl rfl (Rd.neq rfl rfl rfl) ?_
        refine WL.nil ?_
        refine thenQ.normal ?_
        refine WC.ite rfl (fun hc5 => ?_) (fun hc5 => ?_)
        ·
         exact absurd rfl hc5
        ·
         refine WC.skip ?_
         refine thenQ.normal ?_
         refine WC.seq ?_
         refine WC.seq ?_
         refine WC.heap (fun w h => Sat.shareM (kenc := kI) (venc := SL.vs) (b := b42) (m := ((GoMap.empty : GoMap Int Tx).set (q0.1 : Int) (entryE tn (miI q0))).set (z.1 : Int) []) Z.T h) ?_
         refine WC.region ?_
         refine WL.rd rfl rfl rfl (Rd.move rfl rfl) ?_
         refine WL.rd rfl rfl rfl ((by exact Rd.rowS rfl G63 rfl Z.M Z.N rfl)) ?_
         refine WL.rd rfl rfl rfl (Rd.move rfl rfl) ?_
         refine WL.op rfl ?_
         refine OpW.call rfl rfl Z.E Z.K rfl rfl rfl ?_
         refine Fun.heap (R' := mapP kI SL.vs b42 (((GoMap.empty : GoMap Int Tx).set (q0.1 : Int) (entryE tn (miI q0))).set (z.1 : Int) []) :: SlE encX z.2.2.1 z.2.2.2 :: SlE encX q0.2.2.1 q0.2.2.2 :: R) (O' := stO s d l mb un files sp false m V D (rowC b8 79 (inoCs q0.1 q0.2.1 q0.2.2.1) :: O)) Z.F ?_
         refine settle2_spec (sp' := turnF false sp z.2.2.2) (by repeat (first | exact ht | refine List.mem_cons_of_mem _ ?_)) (by repeat (first | exact hlog | refine List.mem_cons_of_mem _ ?_)) List.mem_cons_self hcml (fun x hx => by rw [hkz] at hx; simp only [List.mem_cons, List.not_mem_nil, or_false] at hx; omega) (hi.fits Z.W) dk Z.W hv (by repeat (first | exact hkeep | refine List.mem_cons_of_mem _ ?_)) ?_
         intro ks U1 C hks hC hu1 hku1
         have hk' := hk U1 C (chOf (((GoMap.empty : GoMap Int Tx).set (q0.1 : Int) (entryE tn (miI q0))).set (z.1 : Int) []) ks) (by rcases hcz ks hks with h | h <;> rw [h] <;> simp) (by have hxz2 : z.1 ≠ q0.1 := fun e => hxz (by rw [e]); rcases hcz ks hks with h | h <;> rw [h] <;> simp [hxz2, Ne.symm hxz2]) (fun c => by rw [hft]; rcases hcz ks hks with h | h <;> rw [h] <;> simp [miI, or_comm]) (by rw [op_nil, hft]; exact hC) hu1 hku1
         rw [hft] at hk'
         refine WL.rd rfl rfl rfl (Rd.assign rfl rfl) ?_
         refine WL.nil ?_
         refine thenQ.normal ?_
         refine WC.seq ?_
         refine WC.region ?_
         refine WL.rd rfl rfl rfl (Rd.move rfl rfl) ?_
         refine WL.rd rfl rfl rfl (Rd.neq rfl rfl rfl) ?_
         refine WL.nil ?_
         refine thenQ.normal ?_
         refine WC.ite rfl (fun hc6 => ?_) (fun hc6 => ?_)
         ·
          have hne : C.2 ≠ 0 := by omega
          rw [if_neg hne, decide_eq_true hne] at hk' ⊢
          rw [if_neg hne] at hk'
          refine WC.seq ?_
          refine WC.region ?_
          refine WL.rd rfl rfl rfl (Rd.move rfl rfl) ?_
          refine WL.rd rfl rfl rfl (Rd.assign rfl rfl) ?_
          refine WL.nil ?_
          refine thenQ.normal ?_
          refine WC.ret (thenQ.retR (Ret.one Tryz.results27 rfl ?_))
          exact ⟨_, _, hk', fun w h => by
          have h2 : Sat (allM m :: R) _ w := (h.thin (R' := R) (SubL.mem Z.S)).derive (fun w hw => hw _ hall)
          exact Z.Fw h2⟩
         ·
          have heq : C.2 = 0 := by omega
          rw [if_pos heq, decide_eq_false (by omega : ¬ C.2 ≠ 0)] at hk' ⊢
          rw [if_pos heq] at hk'
          refine WC.skip ?_
          refine thenQ.normal ?_
          refine WC.seq ?_
          refine WC.region ?_
          refine WL.rd rfl rfl rfl (Rd.move rfl rfl) ?_
          refine WL.rd rfl rfl rfl (Rd.nilc rfl rfl) ?_
          refine WL.rd rfl rfl rfl ((by exact Rd.field rfl F65_3 rfl rfl)) ?_
          refine WL.rd rfl rfl rfl (Rd.row1 (off := 4) (u := .map (some mb)) rfl C60 rfl (b := s) Z.M rfl) ?_
          refine WL.rd rfl rfl rfl (Rd.move rfl rfl) ?_
          refine WL.op rfl ?_
          refine OpW.delete (kenc := vs) (venc := miV) (m := m) (k := name) M60 K9 rfl rfl rfl Z.T rfl rfl ?_
          refine WL.nil ?_
          refine thenQ.normal ?_
          refine WC.seq ?_
          refine WC.tail 6 mixed Z.K ?_
          refine WS.rd rfl rfl rfl (Rd.move rfl rfl) ?_
          refine WS.rd rfl rfl rfl (Rd.nilc rfl rfl) ?_
          refine WS.rd rfl rfl rfl ((by exact Rd.field rfl F65_3 rfl rfl)) ?_
          refine WS.rd rfl rfl rfl (Rd.row1 (off := 4) (u := .map (some mb)) rfl C60 rfl (b := s) Z.M rfl) ?_
          refine WS.rd rfl rfl rfl (Rd.move rfl rfl) ?_
          refine WS.rd rfl rfl rfl ((by exact Rd.rowS rfl G79 rfl Z.M Z.N rfl)) ?_
          refine WS.switch ?_
          refine WL.op rfl ?_
          refine OpW.mapUpdate (kenc := vs) (venc := miV) (m := m.del name) (k := tn) (v := q0) M60 K9 rfl rfl rfl rfl Z.T rfl rfl rfl ?_
          refine WL.nil ?_
          refine thenQ.normal ?_
          refine WC.seq ?_
          refine WC.region ?_
          refine WL.rd rfl rfl rfl (Rd.assign rfl rfl) ?_
          refine WL.nil ?_
          refine thenQ.normal ?_
          refine WC.ret (Ret.one Tryz.results27 rfl ?_)
          exact ⟨_, _, (by rw [heq] at hk'; exact hk'), fun w h => by
          have h2 : Sat (allM ((m.del name).set tn q0) :: R) _ w := (h.thin (R' := SlE encX q0.2.2.1 q0.2.2.2 :: R) (SubL.mem Z.S)).derive (fun w hw => allM_set (allM_del (hw _ (List.mem_cons_of_mem _ hall))) (hw _ List.mem_cons_self)) |>.thin (by intro p hp; rcases List.mem_cons.1 hp with rfl | hp; exact List.mem_cons_self; exact List.mem_cons_of_mem _ (List.mem_cons_of_mem _ hp))
          exact Z.Fw h2⟩
       ·
        exact (hc4 trivial).elim
end
end Go.Proofs.YtckokhdjeifomaaGreatDoor
namespace Go.Proofs.YtckokhdjeifomaaGreatDoor
open Go Go.SL
/-- What Format writes. -/
def fmtC (n files i : Nat) : Chg := ((i : Int), if i = 0 then headF n files else [])
def fmtL (n files : Nat) : List Chg := (List.range (files + 3)).map (fmtC n files)
theorem fmt_len (n files : Nat) : (fmtL n files).length = files + 3 := by unfold fmtL; simp
theorem head_len (n files : Nat) : (headF n files).length = 512 := full_len (by show 6 ≤ 512; omega)
theorem fmt_ok {n files : Nat} (h : files + 3 ≤ n) : OkC n (fmtL n files) := fun c hc => by
 obtain ⟨i, hi, rfl⟩ := List.mem_map.1 hc
 rw [List.mem_range] at hi
 refine ⟨by show (0 : Int) ≤ (i : Int); omega, by show (i : Int) < _; omega, ?_⟩
 show (if i = 0 then headF n files else []).length ≤ 512
 split
 · rw [head_len]; exact Nat.le_refl _
 · exact Nat.zero_le _
theorem fmt_drop {n files j : Nat} (h : j < files + 3) : (fmtL n files).drop j = fmtC n files j :: (fmtL n files).drop (j + 1) := by
 rw [List.drop_eq_getElem_cons (by rw [fmt_len]; exact h)]
 congr 1
 simp [fmtL]
/-- A disk whose power is on, and stays so. -/
structure On0 (t : DSt) (n : Nat) : Prop where
 off : t.off = false
 left : t.left = 0
 len : t.lasts.length = n
theorem On0.put {t : DSt} {n : Nat} (h : On0 t n) {i : Int} {d : Tx} (hi : 0 ≤ i ∧ i < (n : Int)) (hd : d.length ≤ 512) : dputE t i d = 0 ∧ On0 (putS t i d) n := by
 have hb : badB t i d = false := by
  unfold badB hasB
  rw [decide_eq_false_iff_not, h.len]
  simp only [decide_eq_true_eq]
  omega
 have hnb : ¬ badB t i d = true := by rw [hb]; exact Bool.false_ne_true
 obtain ⟨e1, e2⟩ := stepE_on (s := t) (by rw [h.off]; exact Bool.false_ne_true) (by rw [h.left]; omega)
 have hlen := put_lasts t i d
 refine ⟨by unfold dputE; rw [if_neg hnb, e1], ?_, ?_, by rw [hlen]; exact h.len⟩
 · unfold putS; rw [if_neg hnb, e1, if_pos rfl, e2]; exact h.off
 · unfold putS; rw [if_neg hnb, e1, if_pos rfl, e2]; show t.left - 1 = 0; rw [h.left]
theorem On0.sync {t : DSt} {n : Nat} (h : On0 t n) : stepE t = 0 := (stepE_on (s := t) (by rw [h.off]; exact Bool.false_ne_true) (by rw [h.left]; omega)).1
/-- What a formatted disk is. -/
theorem fmt_mnt {n files : Nat} {s : DSt} (hs : s.off = false) (hl : s.left = 0) (hsi : s.since = []) (hz : s.lasts = List.replicate n zs512) (hf : 1 ≤ files) (hn : 8 + files ≤ n) (hn2 : n ≤ 4096) : (makeS s (fmtL n files)).2 = 0 ∧ Mnt n files (fun _ => none) noneF (makeS s (fmtL n files)).1 ∧ (makeS s (fmtL n files)).1.left = 0 := by
 have hlen : s.lasts.length = n := by rw [hz, List.length_replicate]
 obtain ⟨a1, a2⟩ := make_law (x := fmtL n files) hs hsi (by rw [hlen]; exact fmt_ok Z.W)
 rcases a2 with ⟨b1, b2, b3, b4⟩ | ⟨b0, _⟩
 · have hne : ∀ (y : List Chg) (L : List Tx), (∀ c ∈ y, c.1 ≠ 0 → c.2 = []) → ∀ i, 0 < i → L[i]? = some zs512 → (applyA y L)[i]? = some zs512 := by
    intro y
    induction y with
    | nil => intro L _ i _ h; exact h
    | cons c r ih =>
      intro L hc i hi h
      refine ih (setC L c) (fun d hd => hc d (List.mem_cons_of_mem _ hd)) i hi ?_
      by_cases e : c.1.toNat = i
      · rw [setC_self e (List.getElem?_eq_some_iff.1 h).1, hc c List.mem_cons_self Z.W]; rfl
      · rw [setC_at e]; exact h
   have hk : ∀ c ∈ fmtL n files, c.1 ≠ 0 → c.2 = [] := fun c hc h0 => by
    obtain ⟨i, hi, rfl⟩ := List.mem_map.1 hc
    show (if i = 0 then headF n files else []) = []
    rw [if_neg (fun e => h0 (by show (i : Int) = 0; omega))]
   have hzi : ∀ i, 0 < i → i < n → (makeS s (fmtL n files)).1.lasts[i]? = some zs512 := fun i h0 h1 => by
    rw [b3]
    exact hne _ _ hk i h0 (by rw [hz, List.getElem?_replicate, if_pos h1])
   have h0 : (makeS s (fmtL n files)).1.lasts[0]? = some (headF n files) := by
    have e := fmt_drop (n := n) (files := files) (j := 0) Z.W
    rw [List.drop_zero] at e
    rw [b3, e]
    show (applyA ((fmtL n files).drop 1) (setC s.lasts (fmtC n files 0)))[0]? = _
    rw [apply_off _ _ 0 (fun c hc => ?_), setC_self (by rfl) Z.W]
    · show some (fullE (headF n files)) = _
      rw [show headF n files = fullE ([83, 70] ++ twoB n ++ twoB files) from rfl, full_full (by show 6 ≤ 512; omega)]
    · unfold fmtL at hc
      rw [← List.map_drop] at hc
      obtain ⟨i, hi, rfl⟩ := List.mem_map.1 hc
      have : 1 ≤ i := by
       rw [List.range_eq_range', List.drop_range'] at hi
       have := (List.mem_range'_1.1 hi).1; omega
      show (i : Int).toNat ≠ 0
      omega
   have hlast : (makeS s (fmtL n files)).1.lasts.length = n := by rw [b3, apply_len]; exact hlen
   refine ⟨b1, ⟨⟨⟨fun _ _ h => (by cases h), fun _ _ _ _ h => (by cases h), fun _ _ h => (by cases h), fun _ _ _ _ _ h => (by cases h), fun _ h => (by cases h)⟩, hlast, ?_, h0, ?_, fun i hi => .inr ⟨fun _ _ h => (by cases h), hzi _ Z.W Z.W⟩⟩, ⟨b2, a1, hlast, hzi _ Z.W Z.W⟩⟩, b4 hl⟩
   · intro l hl2
     obtain ⟨i, hi, rfl⟩ := List.getElem_of_mem hl2
     by_cases e : i = 0
     · subst e
       have := (List.getElem?_eq_some_iff.1 h0).2
       rw [this]; exact head_len _ _
     · have := (List.getElem?_eq_some_iff.1 (hzi i Z.W Z.W)).2
       rw [this]; exact List.length_replicate
   · rw [hzi 1 Z.W Z.W, spB_zero]
     congr 1
     unfold fullE zs512
     rw [List.length_replicate, List.replicate_append_replicate]
     congr 1; omega
 · exact absurd hl b0
section
variable {R : List RO} {O : List Own} {POST : Value → List RO → List Own → Prop} {d files k : Nat} {V : DV} {D : DSt}
set_option maxRecDepth 20000 in
set_option maxHeartbeats 2000000 in
theorem format_spec {n : Nat} (ho : On0 D n) (hn : 8 + files ≤ n ∧ n ≤ 4096) (hf : 1 ≤ files ∧ files ≤ 256) (dk : Dk D k) (hm : k ≤ 4294900000) (hv : VOk V D) (hkeep : SlE (SL.one vi) V.kv D.keep ∈ R)
 (hk : ∀ V', VOk V' (makeS D (fmtL n files)).1 → V'.kv = V.kv → POST (.int .i64 0) R (dO d V' (makeS D (fmtL n files)).1 O)) : Fun Tryz.prog 6 #[dp d, .int .i64 (files : Int)] R (dO d V D O) POST := by
 refine Fun.turn ?_
 have hlen := ho.len
 obtain ⟨dk1, _, hkp1⟩ := run_dk (x := fmtL n files) dk
 rw [fmt_len] at dk1
 refine Fun.enter (l := [_, _]) Tryz.func6 rfl Tryz.ntmps6 rfl (L0 := [(0, _), (1, _)]) rfl ?_
 refine WC.seq ?_
 refine WC.region ?_
 refine WL.rd rfl rfl rfl (Rd.assign rfl rfl) ?_
 refine WL.nil ?_
 refine thenQ.normal ?_
 refine WC.seq ?_
 refine WC.seq ?_
 refine WC.region ?_
 refine WL.rd rfl rfl rfl (Rd.move rfl rfl) ?_
 refine WL.rd rfl rfl rfl (Rd.peqN rfl Tryz.underlying25 rfl rfl) ?_
 refine WL.say 9 (u := .bool (decide False)) rfl (by simp) ?_
 refine WL.rd rfl rfl rfl (Rd.move rfl rfl) ?_
 refine WL.case 10 rfl (fun hg10 => ?_) (fun hg10 => ?_)
 ·
  exact hg10.elim
 ·
  refine WL.rd_yes rfl rfl rfl rfl rfl rfl (Rd.move rfl rfl) ?_
  refine WL.rd_yes rfl rfl rfl rfl rfl rfl (Rd.lss rfl rfl rfl) ?_
  refine WL.rd rfl rfl rfl (Rd.pick_f rfl rfl rfl) ?_
  refine WL.rd rfl rfl rfl (Rd.move rfl rfl) ?_
  refine WL.case 14 rfl (fun hg14 => ?_) (fun hg14 => ?_)
  ·
   omega
  ·
   refine WL.rd_yes rfl rfl rfl rfl rfl rfl (Rd.move rfl rfl) ?_
   refine WL.rd_yes rfl rfl rfl rfl rfl rfl (Rd.gtr rfl rfl rfl) ?_
   refine WL.rd rfl rfl rfl (Rd.pick_f rfl rfl rfl) ?_
   refine WL.rd rfl rfl rfl (Rd.move rfl rfl) ?_
   refine WL.case 18 rfl (fun hg18 => ?_) (fun hg18 => ?_)
   ·
    omega
   ·
    refine WL.rd_yes rfl rfl rfl rfl rfl rfl (Rd.move rfl rfl) ?_
    refine WL.op_yes rfl rfl rfl rfl ?_
    refine OpW.call rfl rfl Z.E Z.K rfl rfl rfl ?_
    refine size_spec ?_
    refine WL.rd_yes rfl rfl rfl rfl rfl rfl (Rd.move rfl rfl) ?_
    refine WL.op_yes rfl rfl rfl rfl ?_
    refine OpW.call rfl rfl Z.E Z.K rfl rfl rfl ?_
    refine dataAt_spec Z.W ?_
    refine WL.rd_yes rfl rfl rfl rfl rfl rfl (Rd.add rfl rfl rfl Z.W) ?_
    refine WL.rd_yes rfl rfl rfl rfl rfl rfl (Rd.lss rfl rfl rfl) ?_
    refine WL.rd rfl rfl rfl (Rd.pick_f rfl rfl rfl) ?_
    refine WL.nil ?_
    refine thenQ.normal ?_
    refine WC.ite rfl (fun hc1 => ?_) (fun hc1 => ?_)
    ·
     omega
    ·
     refine WC.skip ?_
     refine thenQ.normal ?_
     refine WC.seq ?_
     refine WC.seq ?_
     refine WC.region ?_
     refine WL.rd rfl rfl rfl (Rd.move rfl rfl) ?_
     refine WL.rd rfl rfl rfl (Rd.add rfl rfl rfl Z.W) ?_
     refine WL.rd rfl rfl rfl (Rd.add rfl rfl rfl Z.W) ?_
     refine WL.rd rfl rfl rfl (Rd.move rfl rfl) ?_
     refine WL.nil ?_
     refine thenQ.normal ?_
     refine WC.block ?_
     refine WC.pick [29, 0, 1, 28] Z.P ?_
     refine WC.loop3 1 (fun (j : Nat) (t : DSt) (U : DV) => [(29, .int .i64 (j : Int))]) (fun (j : Nat) (t : DSt) (U : DV) => dO d U t O) (fun (j : Nat) (t : DSt) (U : DV) => j ≤ files + 3 ∧ Dk t (k + j) ∧ On0 t n ∧ VOk U t ∧ U.kv = V.kv ∧ t.keep = D.keep ∧ runP D (fmtL n files) = runP t ((fmtL n files).drop j)) (fun (j : Nat) (t : DSt) (U : DV) => files + 3 - j) (0) (D) (V) Z.L ?hinv1 (by repeat (first | exact Sub.nil | refine Sub.cons rfl (by rfl) ?_)) (fun _ h => h) ?_
     case hinv1 =>
      exact ⟨Nat.zero_le _, dk, ho, hv, rfl, rfl, rfl⟩
     intro j t U
     rintro ⟨j1, dkt, hon, hu, hkv, hkp, hrun⟩
     refine WC.seq ?_
     refine WC.region ?_
     refine WL.rd rfl rfl rfl (Rd.lss rfl rfl rfl) ?_
     refine WL.nil ?_
     refine thenQ.normal ?_
     refine WC.seq ?_
     refine WC.ite rfl (fun hc2 => ?_) (fun hc2 => ?_)
     ·
      have hat := hrun
      rw [fmt_drop Z.W, runP] at hat
      have htl := hon.len
      obtain ⟨hp0, hp1⟩ := hon.put (i := (j : Int)) (d := if j = 0 then headF n files else []) Z.W (by split; rw [head_len]; exact Nat.le_refl _; exact Nat.zero_le _)
      rw [show (fmtC n files j).1 = (j : Int) from rfl, show (fmtC n files j).2 = if j = 0 then headF n files else [] from rfl, hp0, if_neg (fun h => h rfl)] at hat
      refine WC.skip ?_
      refine thenQ.normal ?_
      refine WC.seq ?_
      refine WC.block ?_
      refine WC.seq ?_
      refine WC.region ?_
      refine WL.rd rfl rfl rfl (Rd.move rfl rfl) ?_
      refine WL.rd rfl rfl rfl (Rd.assign rfl rfl) ?_
      refine WL.nil ?_
      refine thenQ.normal ?_
      refine WC.seq ?_
      refine WC.region ?_
      refine WL.rd rfl rfl rfl (Rd.assign rfl rfl) ?_
      refine WL.nil ?_
      refine thenQ.normal ?_
      refine WC.seq ?_
      refine WC.seq ?_
      refine WC.region ?_
      refine WL.rd rfl rfl rfl (Rd.move rfl rfl) ?_
      refine WL.rd rfl rfl rfl (Rd.eql rfl rfl rfl) ?_
      refine WL.nil ?_
      refine thenQ.normal ?_
      refine WC.ite rfl (fun hc3 => ?_) (fun hc3 => ?_)
      ·
       refine WC.region ?_
       refine WL.rd rfl rfl rfl (Rd.move rfl rfl) ?_
       refine WL.op rfl ?_
       refine OpW.call rfl rfl Z.E Z.K rfl rfl rfl ?_
       refine size_spec ?_
       refine WL.rd rfl rfl rfl (Rd.move rfl rfl) ?_
       refine WL.op rfl ?_
       refine OpW.call rfl rfl Z.E Z.K rfl rfl rfl ?_
       refine head_spec (n := t.lasts.length) (files := files) Z.W Z.W ?_
       refine WL.rd rfl rfl rfl (Rd.assign rfl rfl) ?_
       refine WL.nil ?_
       refine thenQ.normal ?_
       refine WC.seq ?_
       refine WC.region ?_
       refine WL.rd rfl rfl rfl (Rd.move rfl rfl) ?_
       refine WL.rd rfl rfl rfl (Rd.move rfl rfl) ?_
       refine WL.rd rfl rfl rfl (Rd.move rfl rfl) ?_
       refine WL.op rfl ?_
       refine OpW.call rfl rfl Z.E Z.K rfl rfl rfl ?_
       have hj0 : j = 0 := by omega
       rw [if_pos hj0] at hp0 hp1 hat
       rw [htl]
       refine write_spec dkt.ok Z.W hu (by rw [hkv, hkp]; exact hkeep) ?_; intro U1 hu1 hku1
       rw [hp0]
       refine WL.rd rfl rfl rfl (Rd.assign rfl rfl) ?_
       refine WL.nil ?_
       refine thenQ.normal ?_
       refine WC.seq ?_
       refine WC.region ?_
       refine WL.rd rfl rfl rfl (Rd.move rfl rfl) ?_
       refine WL.rd rfl rfl rfl (Rd.neq rfl rfl rfl) ?_
       refine WL.nil ?_
       refine thenQ.normal ?_
       refine WC.ite rfl (fun hc4 => ?_) (fun hc4 => ?_)
       ·
        exact absurd rfl hc4
       ·
        refine WC.skip ?_
        refine blockQ.normal ?_
        refine thenQ.normal ?_
        refine WC.region ?_
        refine WL.rd rfl rfl rfl (Rd.add rfl rfl rfl Z.W) ?_
        refine WL.rd rfl rfl rfl (Rd.move rfl rfl) ?_
        refine WL.nil ?_
        exact loopQ3.mk (j + 1) _ U1 ⟨by omega, (dkt.put _ _).mono Z.W, hp1, hu1, hku1.trans hkv, (put_keepW _ _ _).trans hkp, hat⟩ Z.W (by repeat (first | exact Sub.nil | refine Sub.cons rfl (by rfl) ?_)) Z.F
      ·
       refine WC.skip ?_
       refine thenQ.normal ?_
       refine WC.seq ?_
       refine WC.region ?_
       refine WL.rd rfl rfl rfl (Rd.move rfl rfl) ?_
       refine WL.rd rfl rfl rfl (Rd.move rfl rfl) ?_
       refine WL.rd rfl rfl rfl (Rd.move rfl rfl) ?_
       refine WL.op rfl ?_
       refine OpW.call rfl rfl Z.E Z.K rfl rfl rfl ?_
       have hj0 : ¬ j = 0 := by omega
       rw [if_neg hj0] at hp0 hp1 hat
       refine write_spec dkt.ok Z.W hu (by rw [hkv, hkp]; exact hkeep) ?_; intro U1 hu1 hku1
       rw [hp0]
       refine WL.rd rfl rfl rfl (Rd.assign rfl rfl) ?_
       refine WL.nil ?_
       refine thenQ.normal ?_
       refine WC.seq ?_
       refine WC.region ?_
       refine WL.rd rfl rfl rfl (Rd.move rfl rfl) ?_
       refine WL.rd rfl rfl rfl (Rd.neq rfl rfl rfl) ?_
       refine WL.nil ?_
       refine thenQ.normal ?_
       refine WC.ite rfl (fun hc4 => ?_) (fun hc4 => ?_)
       ·
        exact absurd rfl hc4
       ·
        refine WC.skip ?_
        refine blockQ.normal ?_
        refine thenQ.normal ?_
        refine WC.region ?_
        refine WL.rd rfl rfl rfl (Rd.add rfl rfl rfl Z.W) ?_
        refine WL.rd rfl rfl rfl (Rd.move rfl rfl) ?_
        refine WL.nil ?_
        exact loopQ3.mk (j + 1) _ U1 ⟨by omega, (dkt.put _ _).mono Z.W, hp1, hu1, hku1.trans hkv, (put_keepW _ _ _).trans hkp, hat⟩ Z.W (by repeat (first | exact Sub.nil | refine Sub.cons rfl (by rfl) ?_)) Z.F
     ·
      obtain rfl : j = files + 3 := by omega
      have hr0 : runP D (fmtL n files) = (t, 0) := by rw [hrun, List.drop_eq_nil_of_le (by rw [fmt_len]; omega)]; rfl
      have hfin : makeS D (fmtL n files) = (syncS t, 0) := by
       unfold makeS thenE; rw [hr0, if_neg (fun h => h rfl)]
       show (syncS t, stepE t) = _
       rw [hon.sync]
      rw [hfin] at hk
      refine WC.exit ?_
      refine thenQ.exit ?_
      refine loopQ3.exit ?_
      refine blockQ.exit ?_
      refine thenQ.normal ?_
      refine WC.seq ?_
      refine WC.region ?_
      refine WL.rd rfl rfl rfl (Rd.move rfl rfl) ?_
      refine WL.op rfl ?_
      refine OpW.call rfl rfl Z.E Z.K rfl rfl rfl ?_
      refine sync_spec dkt.ok Z.W hu (by rw [hkv, hkp]; exact hkeep) ?_; intro U1 hu1 hku1
      rw [hon.sync]
      refine WL.rd rfl rfl rfl (Rd.assign rfl rfl) ?_
      refine WL.nil ?_
      refine thenQ.normal ?_
      refine WC.ret (Ret.one Tryz.results6 rfl ?_)
      exact ⟨_, _, hk U1 hu1 (hku1.trans hkv), Z.F⟩
end
end Go.Proofs.YtckokhdjeifomaaGreatDoor
