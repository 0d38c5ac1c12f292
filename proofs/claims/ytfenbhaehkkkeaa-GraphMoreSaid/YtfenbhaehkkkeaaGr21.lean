/-
  Layer 18: GraphBases.
-/
import Derived.Test.YtfenbhaehkkkeaaGr18
import Derived.Test.YtfenbhaehkkkeaaGr20
namespace Go.Proofs.Ytfenbhaehkkkeaa
open Go Go.SL
theorem nodup_inj {B : List T} (h : B.Nodup) {i j : Nat} (hi : i < B.length) (hj : j < B.length) (e : B[i]! = B[j]!) : i = j := by
  rw [getElem!_pos B i hi, getElem!_pos B j hj] at e
  rcases Nat.lt_trichotomy i j with g | g | g
  · exact absurd e (List.pairwise_iff_getElem.1 h i j hi hj g)
  · exact g
  · exact absurd e.symm (List.pairwise_iff_getElem.1 h j i hj hi g)
section
variable {R : List RO} {O O' : List Own} {POST : Value → List RO → List Own → Prop}
set_option maxRecDepth 20000 in
set_option maxHeartbeats 4000000 in
theorem basesLaw_spec {lv : Value} {qs : List Qn} {x y : Int} (hl : SlE encQ lv qs ∈ R) (hq : AllQ QQ qs ∈ R) (hk : POST (.bool true) R O) :
    Fun Try.prog 4 #[lv, .agg #[vi x, vi y]] R O POST := by
  obtain ⟨L, hL⟩ : ∃ L, mk true qs = L := ⟨_, rfl⟩
  have hn := mk_nodup true qs
  have hbk := mk_back qs
  have hle := mk_len true qs
  have hsm := mk_small true qs
  rw [hL] at hn hbk hle hsm
  have hcl := hbk.closed hn
  have hcy := hbk.free hn
  have hS : Small (gOf L) := gOf_small (by omega) hsm
  have hlx := pk_lt x
  have hly := pk_lt y
  obtain ⟨X, hX⟩ : ∃ X, pk x = X := ⟨_, rfl⟩
  obtain ⟨Y, hY⟩ : ∃ Y, pk y = Y := ⟨_, rfl⟩
  refine Fun.enter (l := [_, _]) Try.func4 rfl Try.ntmps4 rfl (L0 := [(0, _), (1, _)]) rfl ?_
  refine WC.seq ?_
  refine WC.region ?_
  refine WL.op rfl ?_
  refine OpW.box rfl rfl (by repeat (first | exact NF.nil | apply NF.cons)) rfl rfl ?_; intro b3
  refine WL.rd rfl rfl rfl (Rd.assign rfl rfl) ?_
  refine WL.nil ?_
  refine thenQ.normal ?_
  refine WC.seq ?_
  refine WC.seq ?_
  refine WC.region ?_
  refine WL.op rfl ?_
  refine OpW.call rfl rfl (by repeat (first | exact Evs.nil | apply Evs.cons rfl)) (by kernel_rfl) rfl rfl rfl ?_
  refine speaks_spec ?_
  refine WL.say 17 (u := .bool (decide True)) rfl (by simp) ?_
  refine WL.rd rfl rfl rfl ((by first | exact Rd.notd rfl rfl | exact Rd.not rfl rfl)) ?_
  refine WL.nil ?_
  refine thenQ.normal ?_
  first | refine WC.ite rfl (fun hc1 => ?_) (fun hc1 => ?_) | refine WC.cond rfl (fun hc1 => ?_) (fun hc1 => ?_)
  · skip
    exact absurd trivial hc1
  · skip
    refine WC.skip ?_
    refine thenQ.normal ?_
    refine WC.seq ?_
    refine WC.region ?_
    refine WL.rd rfl rfl rfl (Rd.move rfl rfl) ?_
    refine WL.op rfl ?_
    refine OpW.call rfl rfl (by repeat (first | exact Evs.nil | apply Evs.cons rfl)) (by kernel_rfl) rfl rfl rfl ?_
    refine nodes_spec (back := true) hl hq ?_; intro av bv na nb ha hb
    refine WL.rd rfl rfl rfl (Rd.move rfl rfl) ?_
    refine WL.rd rfl rfl rfl (Rd.extract rfl rfl rfl) ?_
    refine WL.rd rfl rfl rfl (Rd.extract rfl rfl rfl) ?_
    refine WL.rd rfl rfl rfl (Rd.assign rfl rfl) ?_
    refine WL.rd rfl rfl rfl (Rd.assign rfl rfl) ?_
    refine WL.nil ?_
    refine thenQ.normal ?_
    refine WC.seq ?_
    have hNa0 := fun R' v h1 h2 => (ha.nls (back := true) (R := R') (v := v) h1 h2)
    rw [hL] at hNa0
    refine WC.heap (R' := SlE encN av na :: ndsP na L :: ndsP nb L :: R) (O' := rowC b3 38 [vi x, vi y] :: O) (fun w h => by
      rw [hL] at h
      have h3 := Sat.shareA (xs := na) (by repeat (first | assumption | exact Take.head _ | apply Take.tail)) h
      exact OwnL.sat (by repeat (first | exact OwnL.refl | apply OwnL.take (by repeat (first | exact Take.head _ | apply Take.tail)) | apply OwnL.drop)) w h3) ?_
    have hNa := hNa0 (SlE encN av na :: ndsP na L :: ndsP nb L :: R) av (by simp) (by simp)
    refine WC.region ?_
    refine WL.rd rfl rfl rfl (Rd.move rfl rfl) ?_
    refine WL.op rfl ?_
    refine OpW.call rfl rfl (by repeat (first | exact Evs.nil | apply Evs.cons rfl)) (by kernel_rfl) rfl rfl rfl ?_
    refine newOk_spec ⟨na, hNa⟩ hn hbk (by omega) hsm ?_; intro gv p1 p2 p3 hone hG
    refine WL.rd rfl rfl rfl (Rd.move rfl rfl) ?_
    refine WL.rd rfl rfl rfl (Rd.extract rfl rfl rfl) ?_
    refine WL.rd rfl rfl rfl (Rd.extract rfl rfl rfl) ?_
    refine WL.rd rfl rfl rfl (Rd.assign rfl rfl) ?_
    refine WL.rd rfl rfl rfl (Rd.assign rfl rfl) ?_
    refine WL.nil ?_
    refine thenQ.normal ?_
    refine WC.cut (α := Unit) (fun _ => [(9, vs X), (10, vs Y), (7, gv), (5, av)]) (fun _ => p1 :: p2 :: p3 :: SlE encN av na :: ndsP na L :: ndsP nb L :: R) (fun _ => O) (fun _ => True) ?_ ?_
    · skip
      refine WC.drawnA 10 rfl mixed ?_
      refine WD.take 0 rfl (by kernel_rfl) Held.all rfl rfl rfl ((by first | exact Rd.idxArr1 (k := 0) rfl A38 rfl rfl rfl (by first | omega | (dsimp only; omega)) | exact Rd.idxArr (k := 0) rfl A38 rfl rfl rfl (by first | omega | (dsimp only; omega)) rfl)) ?_
      refine WD.take 1 rfl (by kernel_rfl) Held.all rfl rfl rfl (Rd.row1 (b := b3) (off := 0) (u := vi x) rfl C3 rfl (by repeat (first | assumption | exact mS | apply mT)) rfl) ?_
      refine WD.take 2 rfl (by kernel_rfl) Held.all rfl rfl rfl (Rd.andm (m := 15) rfl rfl rfl rfl (by decide)) ?_
      refine WD.take 4 rfl (by kernel_rfl) Held.all rfl rfl rfl ((by first | exact Rd.idxArr1 (k := 1) rfl A38 rfl rfl rfl (by first | omega | (dsimp only; omega)) | exact Rd.idxArr (k := 1) rfl A38 rfl rfl rfl (by first | omega | (dsimp only; omega)) rfl)) ?_
      refine WD.take 5 rfl (by kernel_rfl) Held.all rfl rfl rfl (Rd.row1 (b := b3) (off := 1) (u := vi y) rfl C3 rfl (by repeat (first | assumption | exact mS | apply mT)) rfl) ?_
      refine WD.take 6 rfl (by kernel_rfl) Held.all rfl rfl rfl (Rd.andm (m := 15) rfl rfl rfl rfl (by decide)) ?_
      refine WD.one 3 rfl (by kernel_rfl) rfl ?_
      refine OpW.call rfl rfl (by repeat (first | exact Evs.nil | apply Evs.cons rfl)) (by kernel_rfl) rfl rfl rfl ?_
      refine name_spec (i := land .i64 x 15) hlx ?_
      refine ⟨(Held.mk' (by repeat (first | exact SubL.refl | refine SubL.cons (by repeat (first | assumption | exact mS | apply mT)) ?_ | refine SubL.skip ?_)) (by repeat (first | exact OwnL.refl | apply OwnL.take (by repeat (first | exact Take.head _ | apply Take.tail)) | apply OwnL.drop))), ?_⟩
      refine WD.one 7 rfl (by kernel_rfl) rfl ?_
      refine OpW.call rfl rfl (by repeat (first | exact Evs.nil | apply Evs.cons rfl)) (by kernel_rfl) rfl rfl rfl ?_
      refine name_spec (i := land .i64 y 15) hly ?_
      refine ⟨(Held.mk' (by repeat (first | exact SubL.refl | refine SubL.cons (by repeat (first | assumption | exact mS | apply mT)) ?_ | refine SubL.skip ?_)) (by repeat (first | exact OwnL.refl | apply OwnL.take (by repeat (first | exact Take.head _ | apply Take.tail)) | apply OwnL.drop))), ?_⟩
      refine WD.take 8 rfl (by kernel_rfl) (Held.mk' (by repeat (first | exact SubL.refl | refine SubL.cons (by repeat (first | assumption | exact mS | apply mT)) ?_ | refine SubL.skip ?_)) (by repeat (first | exact OwnL.refl | apply OwnL.take (by repeat (first | exact Take.head _ | apply Take.tail)) | apply OwnL.drop))) rfl rfl rfl (Rd.assign rfl rfl) ?_
      refine WD.take 9 rfl (by kernel_rfl) (Held.mk' (by repeat (first | exact SubL.refl | refine SubL.cons (by repeat (first | assumption | exact mS | apply mT)) ?_ | refine SubL.skip ?_)) (by repeat (first | exact OwnL.refl | apply OwnL.take (by repeat (first | exact Take.head _ | apply Take.tail)) | apply OwnL.drop))) rfl rfl rfl (Rd.assign rfl rfl) ?_
      refine WD.done (by kernel_rfl) ?_
      exact ⟨(), trivial, (by repeat (first | exact Sub.nil | refine Sub.cons rfl (by first | rfl | (rw [← hX]; rfl) | (rw [← hY]; rfl)) ?_)), (fun w h => OwnL.sat (by repeat (first | exact OwnL.refl | apply OwnL.take (by repeat (first | exact Take.head _ | apply Take.tail)) | apply OwnL.drop)) w (h.thin (SubL.mem (by repeat (first | exact SubL.refl | refine SubL.cons (by repeat (first | assumption | exact mS | apply mT)) ?_ | refine SubL.skip ?_)))))⟩
    · skip
      rintro ⟨⟩ -
      refine WC.seq ?_
      refine WC.region ?_
      refine WL.rd rfl rfl rfl (Rd.move rfl rfl) ?_
      refine WL.rd rfl rfl rfl (Rd.move rfl rfl) ?_
      refine WL.rd rfl rfl rfl (Rd.move rfl rfl) ?_
      refine WL.op rfl ?_
      refine OpW.call rfl rfl (by repeat (first | exact Evs.nil | apply Evs.cons rfl)) (by kernel_rfl) rfl rfl rfl ?_
      refine bases_spec hG hcl hS ?_; intro v40 B hBa hB
      refine WL.heap (fun w h => Sat.shareA (xs := B) (by repeat (first | assumption | exact Take.head _ | apply Take.tail)) h) ?_
      refine WL.rd rfl rfl rfl (Rd.assign rfl rfl) ?_
      refine WL.nil ?_
      refine thenQ.normal ?_
      refine WC.seq ?_
      refine WC.pick [5, 7, 9, 10, 11] (by repeat (first | exact Pick.nil | apply Pick.cons rfl)) ?_
      refine WC.val 60 (.bool (decide False)) ?_ ?_
      · skip
        refine WC.region ?_
        refine WL.rd rfl rfl rfl (Rd.move rfl rfl) ?_
        refine WL.rd rfl rfl rfl (Rd.move rfl rfl) ?_
        refine WL.rd rfl rfl rfl (Rd.move rfl rfl) ?_
        refine WL.rd rfl rfl rfl (Rd.move rfl rfl) ?_
        refine WL.op rfl ?_
        refine OpW.call rfl rfl (by repeat (first | exact Evs.nil | apply Evs.cons rfl)) (by kernel_rfl) rfl rfl rfl ?_
        refine bases_spec (hG.mono fun p hp => by repeat (first | exact hp | apply List.mem_cons_of_mem)) hcl hS ?_; intro v45 B2 hB2a hB2
        have hBid : ∀ k ∈ B, k ∈ ids L := fun k h => ((hB k).1 h).1.1.mem hcl
        have hBl := in_len hBa.nodup hBid
        obtain rfl : B = B2 := Asc.uniq hBa hB2a fun z => (hB z).trans (base_comm.trans (hB2 z).symm)
        refine WL.heap (fun w h => Sat.shareA (v := v45) (xs := B) (by repeat (first | assumption | exact Take.head _ | apply Take.tail)) h) ?_
        refine WL.op rfl ?_
        refine OpW.call rfl rfl (by repeat (first | exact Evs.nil | apply Evs.cons rfl)) (by kernel_rfl) rfl rfl rfl ?_
        refine texts_spec (xs := B) (ys := B) (List.mem_cons_of_mem _ List.mem_cons_self) List.mem_cons_self (by omega) (by omega) ?_
        refine WL.rd rfl rfl rfl ((by first | exact Rd.notd rfl rfl | exact Rd.not rfl rfl)) ?_
        refine WL.say 47 (u := .bool (decide False)) rfl (by simp) ?_
        refine WL.rd rfl rfl rfl (Rd.move rfl rfl) ?_
        refine WL.case 48 rfl (fun hg48 => ?_) (fun hg48 => ?_)
        · skip
          simp at hg48
        · skip
          refine WL.rd_yes rfl rfl rfl rfl rfl rfl (Rd.move rfl rfl) ?_
          refine WL.rd_yes rfl rfl rfl rfl rfl rfl (Rd.move rfl rfl) ?_
          refine WL.rd_yes rfl rfl rfl rfl rfl rfl (Rd.move rfl rfl) ?_
          refine WL.op_yes rfl rfl rfl rfl ?_
          refine OpW.call rfl rfl (by repeat (first | exact Evs.nil | apply Evs.cons rfl)) (by kernel_rfl) rfl rfl rfl ?_
          refine anc_spec (hG.mono fun p hp => by repeat (first | exact hp | apply List.mem_cons_of_mem)) hcl hS ?_
          refine WL.rd_yes rfl rfl rfl rfl rfl rfl (Rd.move rfl rfl) ?_
          refine WL.case 53 rfl (fun hg53 => ?_) (fun hg53 => ?_)
          · skip
            obtain rfl : B = [X] := Asc.uniq hBa (asc1 X) fun z => by rw [hB, base_up hcl hcy hg53, List.mem_singleton]
            refine WL.rd_yes rfl rfl rfl rfl rfl rfl (Rd.move rfl rfl) ?_
            refine WL.rd_yes rfl rfl rfl rfl rfl rfl (Rd.move rfl rfl) ?_
            refine WL.op_yes rfl rfl rfl rfl ?_
            refine OpW.buildSl (ps := [(0, _)]) rfl S28 (by repeat (first | exact Evs.nil | apply Evs.cons rfl)) rfl rfl (by repeat (first | exact CellsOf.nil | apply CellsOf.cons rfl)) (by kernel_rfl) rfl rfl rfl ?_; intro b56
            refine WL.heap (fun w h => Sat.shareRow (enc := SL.one vs) (xs := [X]) (by repeat (first | assumption | exact Take.head _ | apply Take.tail)) rfl rfl (by show (1 : Nat) ≤ _; decide) h) ?_
            refine WL.op_yes rfl rfl rfl rfl ?_
            refine OpW.call rfl rfl (by repeat (first | exact Evs.nil | apply Evs.cons rfl)) (by kernel_rfl) rfl rfl rfl ?_
            refine texts_spec (xs := [X]) (ys := [X]) (by repeat (first | exact List.mem_cons_self | apply List.mem_cons_of_mem)) List.mem_cons_self (by simp) (by simp) ?_
            refine WL.rd_yes rfl rfl rfl rfl rfl rfl ((by first | exact Rd.notd rfl rfl | exact Rd.not rfl rfl)) ?_
            refine WL.say 58 (u := .bool (decide False)) rfl (by simp) ?_
            refine WL.rd_yes rfl rfl rfl rfl rfl rfl (Rd.pick_t rfl rfl rfl) ?_
            refine WL.rd rfl rfl rfl (Rd.pick_f rfl rfl rfl) ?_
            refine WL.nil ?_
            exact ⟨by repeat (first | exact Sub.nil | refine Sub.cons rfl (by first | rfl | (first | rfl | simp)) ?_), by first | exact (fun _ h => h.thin (SubL.mem (by repeat (first | exact SubL.refl | refine SubL.cons (by repeat (first | assumption | exact mS | apply mT)) ?_ | refine SubL.skip ?_)))) | exact (fun w h => OwnL.sat (by repeat (first | exact OwnL.refl | apply OwnL.take (by repeat (first | exact Take.head _ | apply Take.tail)) | apply OwnL.drop)) w (h.thin (SubL.mem (by repeat (first | exact SubL.refl | refine SubL.cons (by repeat (first | assumption | exact mS | apply mT)) ?_ | refine SubL.skip ?_)))))⟩
          · skip
            refine WL.no rfl rfl rfl rfl rfl rfl ?_
            refine WL.no rfl rfl rfl rfl rfl rfl ?_
            refine WL.no rfl rfl rfl rfl rfl rfl ?_
            refine WL.no rfl rfl rfl rfl rfl rfl ?_
            refine WL.no rfl rfl rfl rfl rfl rfl ?_
            refine WL.rd_yes rfl rfl rfl rfl rfl rfl (Rd.pick_f rfl rfl rfl) ?_
            refine WL.rd rfl rfl rfl (Rd.pick_f rfl rfl rfl) ?_
            refine WL.nil ?_
            exact ⟨by repeat (first | exact Sub.nil | refine Sub.cons rfl (by first | rfl | (first | rfl | simp)) ?_), by first | exact (fun _ h => h.thin (SubL.mem (by repeat (first | exact SubL.refl | refine SubL.cons (by repeat (first | assumption | exact mS | apply mT)) ?_ | refine SubL.skip ?_)))) | exact (fun w h => OwnL.sat (by repeat (first | exact OwnL.refl | apply OwnL.take (by repeat (first | exact Take.head _ | apply Take.tail)) | apply OwnL.drop)) w (h.thin (SubL.mem (by repeat (first | exact SubL.refl | refine SubL.cons (by repeat (first | assumption | exact mS | apply mT)) ?_ | refine SubL.skip ?_)))))⟩
      · skip
        first | refine WC.ite rfl (fun hc2 => ?_) (fun hc2 => ?_) | refine WC.cond rfl (fun hc2 => ?_) (fun hc2 => ?_)
        · skip
          simp at hc2
        · skip
          refine WC.skip ?_
          refine thenQ.normal ?_
          refine WC.seq ?_
          refine WC.seq ?_
          refine WC.heap (R' := SlE (SL.one vs) v40 B :: p1 :: p2 :: p3 :: SlE encN av na :: ndsP na L :: ndsP nb L :: R) (O' := O) (fun w h => OwnL.sat (by repeat (first | exact OwnL.refl | apply OwnL.take (by repeat (first | exact Take.head _ | apply Take.tail)) | apply OwnL.drop)) w (h.thin (fun p hp => by repeat (first | exact hp | apply List.mem_cons_of_mem)))) ?_
          have hG2 : GV gv (gOf L) (SlE (SL.one vs) v40 B :: p1 :: p2 :: p3 :: SlE encN av na :: ndsP na L :: ndsP nb L :: R) := hG.mono fun p hp => List.mem_cons_of_mem _ hp
          have hN2 : NLs av L (SlE (SL.one vs) v40 B :: p1 :: p2 :: p3 :: SlE encN av na :: ndsP na L :: ndsP nb L :: R) na := hNa.mono fun p hp => by repeat (first | exact hp | apply List.mem_cons_of_mem)
          have hBid : ∀ k ∈ B, k ∈ ids L := fun k h => ((hB k).1 h).1.1.mem hcl
          have hBl := in_len hBa.nodup hBid
          have hnl := hN2.len
          refine WC.region ?_
          refine WL.rd rfl rfl rfl (Rd.assign rfl rfl) ?_
          refine WL.nil ?_
          refine thenQ.normal ?_
          refine WC.block ?_
          refine WC.pick [12, 5, 7, 9, 10, 11] (by repeat (first | exact Pick.nil | apply Pick.cons rfl)) ?_
          refine WC.loop1o 1 (fun (i : Nat) => [(12, vi i)]) (fun (i : Nat) => i ≤ B.length) (fun (i : Nat) => B.length - i) (0) (by repeat (first | exact Split.zero | apply Split.succ)) ?hinv1 (by repeat (first | exact Sub.nil | refine Sub.cons rfl (by first | rfl | (congr 1; omega) | assumption) ?_)) (fun _ h => h) ?_
          case hinv1 =>
            exact Nat.zero_le _
          intro i
          rintro i1
          refine WC.seq ?_
          refine WC.seq ?_
          refine WC.region ?_
          refine WL.rd rfl rfl rfl (Rd.move rfl rfl) ?_
          refine WL.rd rfl rfl rfl (Rd.move rfl rfl) ?_
          refine WL.rd rfl rfl rfl (Rd.lenE (enc := SL.one vs) (xs := B) rfl rfl Try.underlying28 List.mem_cons_self) ?_
          refine WL.rd rfl rfl rfl (Rd.lss rfl rfl rfl) ?_
          refine WL.nil ?_
          refine thenQ.normal ?_
          first | refine WC.ite rfl (fun hc3 => ?_) (fun hc3 => ?_) | refine WC.cond rfl (fun hc3 => ?_) (fun hc3 => ?_)
          · skip
            refine WC.skip ?_
            refine thenQ.normal ?_
            refine WC.seq ?_
            refine WC.block ?_
            refine WC.seq ?_
            refine WC.region ?_
            refine WL.rd rfl rfl rfl (Rd.assign rfl rfl) ?_
            refine WL.nil ?_
            refine thenQ.normal ?_
            refine WC.block ?_
            refine WC.pick [13, 5, 7, 9, 10, 11, 12] (by repeat (first | exact Pick.nil | apply Pick.cons rfl)) ?_
            refine WC.loop1o 1 (fun (k : Nat) => [(13, vi k)]) (fun (k : Nat) => k ≤ B.length) (fun (k : Nat) => B.length - k) (0) (by repeat (first | exact Split.zero | apply Split.succ)) ?hinv2 (by repeat (first | exact Sub.nil | refine Sub.cons rfl (by first | rfl | (congr 1; omega) | assumption) ?_)) (fun _ h => h) ?_
            case hinv2 =>
              exact Nat.zero_le _
            intro k
            rintro j1
            refine WC.seq ?_
            refine WC.seq ?_
            refine WC.region ?_
            refine WL.rd rfl rfl rfl (Rd.move rfl rfl) ?_
            refine WL.rd rfl rfl rfl (Rd.move rfl rfl) ?_
            refine WL.rd rfl rfl rfl (Rd.lenE (enc := SL.one vs) (xs := B) rfl rfl Try.underlying28 List.mem_cons_self) ?_
            refine WL.rd rfl rfl rfl (Rd.lss rfl rfl rfl) ?_
            refine WL.nil ?_
            refine thenQ.normal ?_
            first | refine WC.ite rfl (fun hc4 => ?_) (fun hc4 => ?_) | refine WC.cond rfl (fun hc4 => ?_) (fun hc4 => ?_)
            · skip
              refine WC.skip ?_
              refine thenQ.normal ?_
              refine WC.seq ?_
              refine WC.block ?_
              refine WC.seq ?_
              refine WC.tail 13 mixed (by kernel_rfl) ?_
              refine WS.rd rfl rfl rfl (Rd.move rfl rfl) ?_
              refine WS.rd rfl rfl rfl (Rd.move rfl rfl) ?_
              refine WS.rd rfl rfl rfl (Rd.neq rfl rfl rfl) ?_
              refine WS.rd rfl rfl rfl (Rd.move rfl rfl) ?_
              refine WS.case 76 rfl (fun hg76 => ?_) (fun hg76 => ?_)
              · skip
                refine WS.rd_yes rfl rfl rfl rfl rfl rfl (Rd.move rfl rfl) ?_
                refine WS.rd_yes rfl rfl rfl rfl rfl rfl (Rd.move rfl rfl) ?_
                refine WS.rd_yes rfl rfl rfl rfl rfl rfl (Rd.move rfl rfl) ?_
                refine WS.rd_yes rfl rfl rfl rfl rfl rfl (Rd.idx1 (enc := SL.one vs) (xs := B) (k := i) rfl S28 rfl rfl rfl List.mem_cons_self (by omega)) ?_
                refine WS.rd_yes rfl rfl rfl rfl rfl rfl (Rd.get (g := vs) (xs := B) (k := i) (a := B[i]!) rfl C9 rfl List.mem_cons_self (get!_of_lt (by omega))) ?_
                refine WS.rd_yes rfl rfl rfl rfl rfl rfl (Rd.move rfl rfl) ?_
                refine WS.rd_yes rfl rfl rfl rfl rfl rfl (Rd.move rfl rfl) ?_
                refine WS.rd_yes rfl rfl rfl rfl rfl rfl (Rd.idx1 (enc := SL.one vs) (xs := B) (k := k) rfl S28 rfl rfl rfl List.mem_cons_self (by omega)) ?_
                refine WS.rd_yes rfl rfl rfl rfl rfl rfl (Rd.get (g := vs) (xs := B) (k := k) (a := B[k]!) rfl C9 rfl List.mem_cons_self (get!_of_lt (by omega))) ?_
                refine WS.switch ?_
                refine WL.op_yes rfl rfl rfl rfl ?_
                refine OpW.call rfl rfl (by repeat (first | exact Evs.nil | apply Evs.cons rfl)) (by kernel_rfl) rfl rfl rfl ?_
                refine anc_spec hG2 hcl hS ?_
                refine WL.say 86 (u := .bool (decide False)) rfl (vb ⟨fun h => base_apart ((hB _).1 (get!_mem (by omega))) ((hB _).1 (get!_mem (by omega))) (fun e => by
                have := nodup_inj hBa.nodup (by omega) (by omega) e
                omega) h, False.elim⟩) ?_
                refine WL.rd rfl rfl rfl (Rd.pick_t rfl rfl rfl) ?_
                refine WL.nil ?_
                refine thenQ.normal ?_
                first | refine WC.ite rfl (fun hc5 => ?_) (fun hc5 => ?_) | refine WC.cond rfl (fun hc5 => ?_) (fun hc5 => ?_)
                · skip
                  simp at hc5
                · skip
                  refine WC.skip ?_
                  refine blockQ.normal ?_
                  refine thenQ.normal ?_
                  refine WC.region ?_
                  refine WL.rd rfl rfl rfl (Rd.move rfl rfl) ?_
                  refine WL.rd rfl rfl rfl (Rd.add rfl rfl rfl (by omega)) ?_
                  refine WL.rd rfl rfl rfl (Rd.assign rfl rfl) ?_
                  refine WL.nil ?_
                  exact loopQ1.mk (k + 1) (by omega) (by omega) (by repeat (first | exact Sub.nil | refine Sub.cons rfl (by first | rfl | (congr 1; omega) | assumption) ?_)) (fun w h => OwnL.sat (by repeat (first | exact OwnL.refl | apply OwnL.take (by repeat (first | exact Take.head _ | apply Take.tail)) | apply OwnL.drop)) w (h.thin (SubL.mem (by repeat (first | exact SubL.refl | refine SubL.cons (by repeat (first | assumption | exact mS | apply mT)) ?_ | refine SubL.skip ?_)))))
              · skip
                refine WS.no rfl rfl rfl rfl rfl rfl ?_
                refine WS.no rfl rfl rfl rfl rfl rfl ?_
                refine WS.no rfl rfl rfl rfl rfl rfl ?_
                refine WS.no rfl rfl rfl rfl rfl rfl ?_
                refine WS.no rfl rfl rfl rfl rfl rfl ?_
                refine WS.no rfl rfl rfl rfl rfl rfl ?_
                refine WS.no rfl rfl rfl rfl rfl rfl ?_
                refine WS.no rfl rfl rfl rfl rfl rfl ?_
                refine WS.no rfl rfl rfl rfl rfl rfl ?_
                refine WS.switch ?_
                refine WL.no rfl rfl rfl rfl rfl rfl ?_
                refine WL.rd rfl rfl rfl (Rd.pick_f rfl rfl rfl) ?_
                refine WL.nil ?_
                refine thenQ.normal ?_
                refine WC.no rfl ?_
                refine WC.skip ?_
                refine blockQ.normal ?_
                refine thenQ.normal ?_
                refine WC.region ?_
                refine WL.rd rfl rfl rfl (Rd.move rfl rfl) ?_
                refine WL.rd rfl rfl rfl (Rd.add rfl rfl rfl (by omega)) ?_
                refine WL.rd rfl rfl rfl (Rd.assign rfl rfl) ?_
                refine WL.nil ?_
                exact loopQ1.mk (k + 1) (by omega) (by omega) (by repeat (first | exact Sub.nil | refine Sub.cons rfl (by first | rfl | (congr 1; omega) | assumption) ?_)) (fun w h => OwnL.sat (by repeat (first | exact OwnL.refl | apply OwnL.take (by repeat (first | exact Take.head _ | apply Take.tail)) | apply OwnL.drop)) w (h.thin (SubL.mem (by repeat (first | exact SubL.refl | refine SubL.cons (by repeat (first | assumption | exact mS | apply mT)) ?_ | refine SubL.skip ?_)))))
            · skip
              refine WC.exit ?_
              refine thenQ.exit ?_
              refine loopQ1.exit ?_
              refine blockQ.exit ?_
              refine blockQ.normal ?_
              refine thenQ.normal ?_
              refine WC.region ?_
              refine WL.rd rfl rfl rfl (Rd.move rfl rfl) ?_
              refine WL.rd rfl rfl rfl (Rd.add rfl rfl rfl (by omega)) ?_
              refine WL.rd rfl rfl rfl (Rd.assign rfl rfl) ?_
              refine WL.nil ?_
              exact loopQ1.mk (i + 1) (by omega) (by omega) (by repeat (first | exact Sub.nil | refine Sub.cons rfl (by first | rfl | (congr 1; omega) | assumption) ?_)) (fun w h => OwnL.sat (by repeat (first | exact OwnL.refl | apply OwnL.take (by repeat (first | exact Take.head _ | apply Take.tail)) | apply OwnL.drop)) w (h.thin (SubL.mem (by repeat (first | exact SubL.refl | refine SubL.cons (by repeat (first | assumption | exact mS | apply mT)) ?_ | refine SubL.skip ?_)))))
          · skip
            refine WC.exit ?_
            refine thenQ.exit ?_
            refine loopQ1.exit ?_
            refine blockQ.exit ?_
            refine thenQ.normal ?_
            refine WC.seq ?_
            refine WC.seq ?_
            refine WC.region ?_
            refine WL.rd rfl rfl rfl (Rd.assign rfl rfl) ?_
            refine WL.nil ?_
            refine thenQ.normal ?_
            refine WC.block ?_
            refine WC.pick [14, 5, 7, 9, 10, 11] (by repeat (first | exact Pick.nil | apply Pick.cons rfl)) ?_
            refine WC.loop1o 1 (fun (i : Nat) => [(14, vi i)]) (fun (i : Nat) => i ≤ L.length) (fun (i : Nat) => L.length - i) (0) (by repeat (first | exact Split.zero | apply Split.succ)) ?hinv3 (by repeat (first | exact Sub.nil | refine Sub.cons rfl (by first | rfl | (congr 1; omega) | assumption) ?_)) (fun _ h => h) ?_
            case hinv3 =>
              exact Nat.zero_le _
            intro i
            rintro i1
            refine WC.seq ?_
            refine WC.seq ?_
            refine WC.region ?_
            refine WL.rd rfl rfl rfl (Rd.move rfl rfl) ?_
            refine WL.rd rfl rfl rfl (Rd.move rfl rfl) ?_
            refine WL.rd rfl rfl rfl (hN2.rdLen rfl rfl Try.underlying24) ?_
            refine WL.rd rfl rfl rfl (Rd.lss rfl rfl rfl) ?_
            refine WL.nil ?_
            refine thenQ.normal ?_
            first | refine WC.ite rfl (fun hc6 => ?_) (fun hc6 => ?_) | refine WC.cond rfl (fun hc6 => ?_) (fun hc6 => ?_)
            · skip
              have hil : i < L.length := by omega
              refine WC.skip ?_
              refine thenQ.normal ?_
              refine WC.seq ?_
              refine WC.block ?_
              refine WC.seq ?_
              refine WC.seq ?_
              refine WC.region ?_
              refine WL.rd rfl rfl rfl (Rd.move rfl rfl) ?_
              refine WL.rd rfl rfl rfl (Rd.move rfl rfl) ?_
              refine WL.rd rfl rfl rfl (Rd.move rfl rfl) ?_
              refine WL.rd rfl rfl rfl (hN2.rdIdx (i := i) hil rfl S24 rfl rfl rfl) ?_
              refine WL.rd rfl rfl rfl (Rd.fieldE rfl F30_0 rfl hN2.sl (by omega)) ?_
              refine WL.rd rfl rfl rfl (hN2.rdId (i := i) hil rfl C9 rfl rfl) ?_
              refine WL.rd rfl rfl rfl (Rd.move rfl rfl) ?_
              refine WL.op rfl ?_
              refine OpW.call rfl rfl (by repeat (first | exact Evs.nil | apply Evs.cons rfl)) (by kernel_rfl) rfl rfl rfl ?_
              refine anc_spec hG2 hcl hS ?_
              refine WL.rd rfl rfl rfl ((by first | exact Rd.notd rfl rfl | exact Rd.not rfl rfl)) ?_
              refine WL.rd rfl rfl rfl (Rd.move rfl rfl) ?_
              refine WL.case 103 rfl (fun hg103 => ?_) (fun hg103 => ?_)
              · skip
                refine WL.no rfl rfl rfl rfl rfl rfl ?_
                refine WL.no rfl rfl rfl rfl rfl rfl ?_
                refine WL.no rfl rfl rfl rfl rfl rfl ?_
                refine WL.no rfl rfl rfl rfl rfl rfl ?_
                refine WL.no rfl rfl rfl rfl rfl rfl ?_
                refine WL.no rfl rfl rfl rfl rfl rfl ?_
                refine WL.no rfl rfl rfl rfl rfl rfl ?_
                refine WL.no rfl rfl rfl rfl rfl rfl ?_
                refine WL.no rfl rfl rfl rfl rfl rfl ?_
                refine WL.rd rfl rfl rfl (Rd.pick_t rfl rfl rfl) ?_
                refine WL.nil ?_
                refine thenQ.normal ?_
                refine WC.yes rfl ?_
                refine WC.exit ?_
                refine thenQ.exit ?_
                refine blockQ.exit ?_
                refine thenQ.normal ?_
                refine WC.region ?_
                refine WL.rd rfl rfl rfl (Rd.move rfl rfl) ?_
                refine WL.rd rfl rfl rfl (Rd.add rfl rfl rfl (by omega)) ?_
                refine WL.rd rfl rfl rfl (Rd.assign rfl rfl) ?_
                refine WL.nil ?_
                exact loopQ1.mk (i + 1) (by omega) (by omega) (by repeat (first | exact Sub.nil | refine Sub.cons rfl (by first | rfl | (congr 1; omega) | assumption) ?_)) (fun w h => OwnL.sat (by repeat (first | exact OwnL.refl | apply OwnL.take (by repeat (first | exact Take.head _ | apply Take.tail)) | apply OwnL.drop)) w (h.thin (SubL.mem (by repeat (first | exact SubL.refl | refine SubL.cons (by repeat (first | assumption | exact mS | apply mT)) ?_ | refine SubL.skip ?_)))))
              · skip
                refine WL.rd_yes rfl rfl rfl rfl rfl rfl (Rd.move rfl rfl) ?_
                refine WL.rd_yes rfl rfl rfl rfl rfl rfl (Rd.move rfl rfl) ?_
                refine WL.rd_yes rfl rfl rfl rfl rfl rfl (Rd.move rfl rfl) ?_
                refine WL.rd_yes rfl rfl rfl rfl rfl rfl (hN2.rdIdx (i := i) hil rfl S24 rfl rfl rfl) ?_
                refine WL.rd_yes rfl rfl rfl rfl rfl rfl (Rd.fieldE rfl F30_0 rfl hN2.sl (by omega)) ?_
                refine WL.rd_yes rfl rfl rfl rfl rfl rfl (hN2.rdId (i := i) hil rfl C9 rfl rfl) ?_
                refine WL.rd_yes rfl rfl rfl rfl rfl rfl (Rd.move rfl rfl) ?_
                refine WL.op_yes rfl rfl rfl rfl ?_
                refine OpW.call rfl rfl (by repeat (first | exact Evs.nil | apply Evs.cons rfl)) (by kernel_rfl) rfl rfl rfl ?_
                refine anc_spec hG2 hcl hS ?_
                refine WL.rd_yes rfl rfl rfl rfl rfl rfl ((by first | exact Rd.notd rfl rfl | exact Rd.not rfl rfl)) ?_
                refine WL.rd rfl rfl rfl (Rd.pick_f rfl rfl rfl) ?_
                refine WL.nil ?_
                refine thenQ.normal ?_
                first | refine WC.ite rfl (fun hc7 => ?_) (fun hc7 => ?_) | refine WC.cond rfl (fun hc7 => ?_) (fun hc7 => ?_)
                · skip
                  refine WC.exit ?_
                  refine thenQ.exit ?_
                  refine blockQ.exit ?_
                  refine thenQ.normal ?_
                  refine WC.region ?_
                  refine WL.rd rfl rfl rfl (Rd.move rfl rfl) ?_
                  refine WL.rd rfl rfl rfl (Rd.add rfl rfl rfl (by omega)) ?_
                  refine WL.rd rfl rfl rfl (Rd.assign rfl rfl) ?_
                  refine WL.nil ?_
                  exact loopQ1.mk (i + 1) (by omega) (by omega) (by repeat (first | exact Sub.nil | refine Sub.cons rfl (by first | rfl | (congr 1; omega) | assumption) ?_)) (fun w h => OwnL.sat (by repeat (first | exact OwnL.refl | apply OwnL.take (by repeat (first | exact Take.head _ | apply Take.tail)) | apply OwnL.drop)) w (h.thin (SubL.mem (by repeat (first | exact SubL.refl | refine SubL.cons (by repeat (first | assumption | exact mS | apply mT)) ?_ | refine SubL.skip ?_)))))
                · skip
                  have hcom : Common (gOf L) X Y L[i]!.1 := ⟨by simpa using hg103, by simpa using hc7⟩
                  refine WC.skip ?_
                  refine thenQ.normal ?_
                  refine WC.seq ?_
                  refine WC.region ?_
                  refine WL.rd rfl rfl rfl (Rd.assign rfl rfl) ?_
                  refine WL.nil ?_
                  refine thenQ.normal ?_
                  refine WC.seq ?_
                  refine WC.seq ?_
                  refine WC.region ?_
                  refine WL.rd rfl rfl rfl (Rd.assign rfl rfl) ?_
                  refine WL.nil ?_
                  refine thenQ.normal ?_
                  refine WC.block ?_
                  refine WC.pick [16, 15, 5, 7, 9, 10, 11, 14] (by repeat (first | exact Pick.nil | apply Pick.cons rfl)) ?_
                  refine WC.loop2o 2 (fun (k : Nat) (bl : Bool) => [(16, vi k), (15, .bool bl)]) (fun (k : Nat) (bl : Bool) => k ≤ B.length ∧ (bl = true ↔ ∃ j, j < k ∧ Come (gOf L) [B[j]!] L[i]!.1)) (fun (k : Nat) (bl : Bool) => B.length - k) (0) (false) (by repeat (first | exact Split.zero | apply Split.succ)) ?hinv4 (by repeat (first | exact Sub.nil | refine Sub.cons rfl (by first | rfl | (congr 1; omega) | assumption) ?_)) (fun _ h => h) ?_
                  case hinv4 =>
                    exact ⟨Nat.zero_le _, fun h => Bool.noConfusion h, fun ⟨j, h, _⟩ => absurd h (Nat.not_lt_zero _)⟩
                  intro k bl
                  rintro ⟨m1, m2⟩
                  refine WC.seq ?_
                  refine WC.seq ?_
                  refine WC.region ?_
                  refine WL.rd rfl rfl rfl (Rd.move rfl rfl) ?_
                  refine WL.rd rfl rfl rfl (Rd.move rfl rfl) ?_
                  refine WL.rd rfl rfl rfl (Rd.lenE (enc := SL.one vs) (xs := B) rfl rfl Try.underlying28 List.mem_cons_self) ?_
                  refine WL.rd rfl rfl rfl (Rd.lss rfl rfl rfl) ?_
                  refine WL.nil ?_
                  refine thenQ.normal ?_
                  first | refine WC.ite rfl (fun hc8 => ?_) (fun hc8 => ?_) | refine WC.cond rfl (fun hc8 => ?_) (fun hc8 => ?_)
                  · skip
                    refine WC.skip ?_
                    refine thenQ.normal ?_
                    refine WC.seq ?_
                    refine WC.block ?_
                    refine WC.tail 12 mixed (by kernel_rfl) ?_
                    refine WS.rd rfl rfl rfl (Rd.move rfl rfl) ?_
                    refine WS.say 120 (u := .bool (decide (bl = true))) rfl (vbl_dec _) ?_
                    refine WS.rd rfl rfl rfl (Rd.move rfl rfl) ?_
                    refine WS.case 121 rfl (fun hg121 => ?_) (fun hg121 => ?_)
                    · skip
                      refine WS.no rfl rfl rfl rfl rfl rfl ?_
                      refine WS.no rfl rfl rfl rfl rfl rfl ?_
                      refine WS.no rfl rfl rfl rfl rfl rfl ?_
                      refine WS.no rfl rfl rfl rfl rfl rfl ?_
                      refine WS.no rfl rfl rfl rfl rfl rfl ?_
                      refine WS.no rfl rfl rfl rfl rfl rfl ?_
                      refine WS.no rfl rfl rfl rfl rfl rfl ?_
                      refine WS.no rfl rfl rfl rfl rfl rfl ?_
                      refine WS.no rfl rfl rfl rfl rfl rfl ?_
                      refine WS.no rfl rfl rfl rfl rfl rfl ?_
                      refine WS.switch ?_
                      refine WL.no rfl rfl rfl rfl rfl rfl ?_
                      refine WL.rd rfl rfl rfl (Rd.pick_t rfl rfl rfl) ?_
                      refine WL.say 133 (u := .bool (bl || decide (Come (gOf L) [B[k]!] L[i]!.1))) rfl (by first | (rw [show bl = true from hg121, Bool.true_or]) | (rw [show bl = false from by simpa using hg121, Bool.false_or])) ?_
                      refine WL.rd rfl rfl rfl (Rd.assign rfl rfl) ?_
                      refine WL.nil ?_
                      refine blockQ.normal ?_
                      refine thenQ.normal ?_
                      refine WC.region ?_
                      refine WL.rd rfl rfl rfl (Rd.move rfl rfl) ?_
                      refine WL.rd rfl rfl rfl (Rd.add rfl rfl rfl (by omega)) ?_
                      refine WL.rd rfl rfl rfl (Rd.assign rfl rfl) ?_
                      refine WL.nil ?_
                      exact loopQ2.mk (k + 1) (bl || decide (Come (gOf L) [B[k]!] L[i]!.1)) ⟨by omega, by
                      rw [Bool.or_eq_true, m2, decide_eq_true_eq]
                      constructor
                      · rintro (⟨j, h1, h2⟩ | h)
                        · exact ⟨j, by omega, h2⟩
                        · exact ⟨k, by omega, h⟩
                      · rintro ⟨j, h1, h2⟩
                        rcases Nat.lt_or_ge j k with g | g
                        · exact .inl ⟨j, g, h2⟩
                        · obtain rfl : j = k := by omega
                          exact .inr h2⟩ (by omega) (by repeat (first | exact Sub.nil | refine Sub.cons rfl (by first | rfl | (congr 1; omega) | assumption) ?_)) (fun w h => OwnL.sat (by repeat (first | exact OwnL.refl | apply OwnL.take (by repeat (first | exact Take.head _ | apply Take.tail)) | apply OwnL.drop)) w (h.thin (SubL.mem (by repeat (first | exact SubL.refl | refine SubL.cons (by repeat (first | assumption | exact mS | apply mT)) ?_ | refine SubL.skip ?_)))))
                    · skip
                      refine WS.rd_yes rfl rfl rfl rfl rfl rfl (Rd.move rfl rfl) ?_
                      refine WS.rd_yes rfl rfl rfl rfl rfl rfl (Rd.move rfl rfl) ?_
                      refine WS.rd_yes rfl rfl rfl rfl rfl rfl (Rd.move rfl rfl) ?_
                      refine WS.rd_yes rfl rfl rfl rfl rfl rfl (hN2.rdIdx (i := i) hil rfl S24 rfl rfl rfl) ?_
                      refine WS.rd_yes rfl rfl rfl rfl rfl rfl (Rd.fieldE rfl F30_0 rfl hN2.sl (by omega)) ?_
                      refine WS.rd_yes rfl rfl rfl rfl rfl rfl (hN2.rdId (i := i) hil rfl C9 rfl rfl) ?_
                      refine WS.rd_yes rfl rfl rfl rfl rfl rfl (Rd.move rfl rfl) ?_
                      refine WS.rd_yes rfl rfl rfl rfl rfl rfl (Rd.move rfl rfl) ?_
                      refine WS.rd_yes rfl rfl rfl rfl rfl rfl (Rd.idx1 (enc := SL.one vs) (xs := B) (k := k) rfl S28 rfl rfl rfl List.mem_cons_self (by omega)) ?_
                      refine WS.rd_yes rfl rfl rfl rfl rfl rfl (Rd.get (g := vs) (xs := B) (k := k) (a := B[k]!) rfl C9 rfl List.mem_cons_self (get!_of_lt (by omega))) ?_
                      refine WS.switch ?_
                      refine WL.op_yes rfl rfl rfl rfl ?_
                      refine OpW.call rfl rfl (by repeat (first | exact Evs.nil | apply Evs.cons rfl)) (by kernel_rfl) rfl rfl rfl ?_
                      refine anc_spec hG2 hcl hS ?_
                      refine WL.rd rfl rfl rfl (Rd.pick_f rfl rfl rfl) ?_
                      refine WL.say 133 (u := .bool (bl || decide (Come (gOf L) [B[k]!] L[i]!.1))) rfl (by first | (rw [show bl = true from hg121, Bool.true_or]) | (rw [show bl = false from by simpa using hg121, Bool.false_or])) ?_
                      refine WL.rd rfl rfl rfl (Rd.assign rfl rfl) ?_
                      refine WL.nil ?_
                      refine blockQ.normal ?_
                      refine thenQ.normal ?_
                      refine WC.region ?_
                      refine WL.rd rfl rfl rfl (Rd.move rfl rfl) ?_
                      refine WL.rd rfl rfl rfl (Rd.add rfl rfl rfl (by omega)) ?_
                      refine WL.rd rfl rfl rfl (Rd.assign rfl rfl) ?_
                      refine WL.nil ?_
                      exact loopQ2.mk (k + 1) (bl || decide (Come (gOf L) [B[k]!] L[i]!.1)) ⟨by omega, by
                      rw [Bool.or_eq_true, m2, decide_eq_true_eq]
                      constructor
                      · rintro (⟨j, h1, h2⟩ | h)
                        · exact ⟨j, by omega, h2⟩
                        · exact ⟨k, by omega, h⟩
                      · rintro ⟨j, h1, h2⟩
                        rcases Nat.lt_or_ge j k with g | g
                        · exact .inl ⟨j, g, h2⟩
                        · obtain rfl : j = k := by omega
                          exact .inr h2⟩ (by omega) (by repeat (first | exact Sub.nil | refine Sub.cons rfl (by first | rfl | (congr 1; omega) | assumption) ?_)) (fun w h => OwnL.sat (by repeat (first | exact OwnL.refl | apply OwnL.take (by repeat (first | exact Take.head _ | apply Take.tail)) | apply OwnL.drop)) w (h.thin (SubL.mem (by repeat (first | exact SubL.refl | refine SubL.cons (by repeat (first | assumption | exact mS | apply mT)) ?_ | refine SubL.skip ?_)))))
                  · skip
                    refine WC.exit ?_
                    refine thenQ.exit ?_
                    refine loopQ2.exit ?_
                    refine blockQ.exit ?_
                    refine thenQ.normal ?_
                    refine WC.seq ?_
                    refine WC.region ?_
                    refine WL.rd rfl rfl rfl (Rd.move rfl rfl) ?_
                    refine WL.say 134 (u := .bool (decide (bl = true))) rfl (vbl_dec _) ?_
                    refine WL.rd rfl rfl rfl ((by first | exact Rd.notd rfl rfl | exact Rd.not rfl rfl)) ?_
                    refine WL.nil ?_
                    refine thenQ.normal ?_
                    first | refine WC.ite rfl (fun hc9 => ?_) (fun hc9 => ?_) | refine WC.cond rfl (fun hc9 => ?_) (fun hc9 => ?_)
                    · skip
                      obtain ⟨z, hz1, hz2⟩ := base_below hn hbk (L.length - i) i (Nat.le_refl _) hil hcom
                      obtain ⟨j, hj, e⟩ := mem_get! ((hB z).2 hz1)
                      have hbt : bl = true := m2.2 ⟨j, by omega, by rw [e]; exact hz2⟩
                      simp [hbt] at hc9
                    · skip
                      refine WC.skip ?_
                      refine blockQ.normal ?_
                      refine thenQ.normal ?_
                      refine WC.region ?_
                      refine WL.rd rfl rfl rfl (Rd.move rfl rfl) ?_
                      refine WL.rd rfl rfl rfl (Rd.add rfl rfl rfl (by omega)) ?_
                      refine WL.rd rfl rfl rfl (Rd.assign rfl rfl) ?_
                      refine WL.nil ?_
                      exact loopQ1.mk (i + 1) (by omega) (by omega) (by repeat (first | exact Sub.nil | refine Sub.cons rfl (by first | rfl | (congr 1; omega) | assumption) ?_)) (fun w h => OwnL.sat (by repeat (first | exact OwnL.refl | apply OwnL.take (by repeat (first | exact Take.head _ | apply Take.tail)) | apply OwnL.drop)) w (h.thin (SubL.mem (by repeat (first | exact SubL.refl | refine SubL.cons (by repeat (first | assumption | exact mS | apply mT)) ?_ | refine SubL.skip ?_)))))
            · skip
              refine WC.exit ?_
              refine thenQ.exit ?_
              refine loopQ1.exit ?_
              refine blockQ.exit ?_
              refine thenQ.normal ?_
              refine WC.seq ?_
              refine WC.region ?_
              refine WL.rd rfl rfl rfl (Rd.assign rfl rfl) ?_
              refine WL.nil ?_
              refine thenQ.normal ?_
              refine WC.heap (R' := R) (O' := O) (fun w h => h.thin (fun p hp => by repeat (first | exact hp | apply List.mem_cons_of_mem))) ?_
              refine WC.ret (Ret.one Try.results4 rfl ?_)
              exact hk
end
end Go.Proofs.Ytfenbhaehkkkeaa
