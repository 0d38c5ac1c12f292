/-
  Layer 18: GraphMore.
-/
import Derived.Test.YtfenbhaehkkkeaaGr21
namespace Go.Proofs.Ytfenbhaehkkkeaa
open Go Go.SL
section
variable {R : List RO} {O O' : List Own} {POST : Value → List RO → List Own → Prop}
set_option maxRecDepth 20000 in
set_option maxHeartbeats 4000000 in
theorem more_spec {lv frv : Value} {qs : List Qn} {frm : List Int} (hl : SlE encQ lv qs ∈ R) (hq : AllQ QQ qs ∈ R) (hf : SlE (SL.one vi) frv frm ∈ R) (hk : POST (.bool true) R O) :
    Fun Try.prog 8 #[lv, frv] R O POST := by
  refine Fun.len hf fun hfl => ?_
  obtain ⟨L, hL⟩ : ∃ L, mk true qs = L := ⟨_, rfl⟩
  have hn := mk_nodup true qs
  have hbk := mk_back qs
  have hle := mk_len true qs
  have hsm := mk_small true qs
  rw [hL] at hn hbk hle hsm
  have hcl := hbk.closed hn
  have hS : Small (gOf L) := gOf_small (by omega) hsm
  refine Fun.enter (l := [_, _]) Try.func8 rfl Try.ntmps8 rfl (L0 := [(0, _), (1, _)]) rfl ?_
  refine WC.seq ?_
  refine WC.region ?_
  refine WL.rd rfl rfl rfl (Rd.assign rfl rfl) ?_
  refine WL.nil ?_
  refine thenQ.normal ?_
  refine WC.seq ?_
  refine WC.seq ?_
  refine WC.region ?_
  refine WL.op rfl ?_
  refine OpW.call rfl rfl (by repeat (first | exact Evs.nil | apply Evs.cons rfl)) (by kernel_rfl) rfl rfl rfl ?_
  refine speaks_spec ?_
  refine WL.say 19 (u := .bool (decide True)) rfl (by simp) ?_
  refine WL.rd rfl rfl rfl ((by first | exact Rd.notd rfl rfl | exact Rd.not rfl rfl)) ?_
  refine WL.nil ?_
  refine thenQ.normal ?_
  first | refine WC.ite rfl (fun hc1 => ?_) (fun hc1 => ?_) | refine WC.cond rfl (fun hc1 => ?_) (fun hc1 => ?_)
  · skip
    exact absurd trivial hc1
  · skip
    refine WC.skip ?_
    refine thenQ.normal ?_
    refine WC.seq ?_
    refine WC.region ?_
    refine WL.rd rfl rfl rfl (Rd.move rfl rfl) ?_
    refine WL.op rfl ?_
    refine OpW.call rfl rfl (by repeat (first | exact Evs.nil | apply Evs.cons rfl)) (by kernel_rfl) rfl rfl rfl ?_
    refine nodes_spec (back := true) hl hq ?_; intro av bv na nb ha hb
    refine WL.rd rfl rfl rfl (Rd.move rfl rfl) ?_
    refine WL.rd rfl rfl rfl (Rd.extract rfl rfl rfl) ?_
    refine WL.rd rfl rfl rfl (Rd.extract rfl rfl rfl) ?_
    refine WL.rd rfl rfl rfl (Rd.assign rfl rfl) ?_
    refine WL.rd rfl rfl rfl (Rd.assign rfl rfl) ?_
    refine WL.nil ?_
    refine thenQ.normal ?_
    refine WC.seq ?_
    have hNa0 := fun R' v h1 h2 => (ha.nls (back := true) (R := R') (v := v) h1 h2)
    rw [hL] at hNa0
    refine WC.heap (R' := SlE encN av na :: ndsP na L :: ndsP nb L :: R) (O' := O) (fun w h => by
      rw [hL] at h
      have h3 := Sat.shareA (xs := na) (by repeat (first | assumption | exact Take.head _ | apply Take.tail)) h
      exact OwnL.sat (by repeat (first | exact OwnL.refl | apply OwnL.take (by repeat (first | exact Take.head _ | apply Take.tail)) | apply OwnL.drop)) w h3) ?_
    have hNa := hNa0 (SlE encN av na :: ndsP na L :: ndsP nb L :: R) av (by simp) (by simp)
    refine WC.region ?_
    refine WL.rd rfl rfl rfl (Rd.move rfl rfl) ?_
    refine WL.op rfl ?_
    refine OpW.call rfl rfl (by repeat (first | exact Evs.nil | apply Evs.cons rfl)) (by kernel_rfl) rfl rfl rfl ?_
    refine newOk_spec ⟨na, hNa⟩ hn hbk (by omega) hsm ?_; intro gv p1 p2 p3 hone hG
    refine WL.rd rfl rfl rfl (Rd.move rfl rfl) ?_
    refine WL.rd rfl rfl rfl (Rd.extract rfl rfl rfl) ?_
    refine WL.rd rfl rfl rfl (Rd.extract rfl rfl rfl) ?_
    refine WL.rd rfl rfl rfl (Rd.assign rfl rfl) ?_
    refine WL.rd rfl rfl rfl (Rd.assign rfl rfl) ?_
    refine WL.nil ?_
    refine thenQ.normal ?_
    refine WC.seq ?_
    refine WC.region ?_
    refine WL.rd rfl rfl rfl (Rd.assign rfl rfl) ?_
    refine WL.nil ?_
    refine thenQ.normal ?_
    refine WC.seq ?_
    refine WC.seq ?_
    refine WC.heap (fun w h => Sat.accNil (e := 9) (size := 1) (enc := SL.one vs) h) ?_
    refine WC.region ?_
    refine WL.rd rfl rfl rfl (Rd.assign rfl rfl) ?_
    refine WL.nil ?_
    refine thenQ.normal ?_
    refine WC.block ?_
    refine WC.pick [10, 9, 1, 5, 7] (by repeat (first | exact Pick.nil | apply Pick.cons rfl)) ?_
    refine WC.loop2 2 (fun (i : Nat) (sv : Value) => [(10, vi i), (9, sv)]) (fun (i : Nat) (sv : Value) => accT sv (pks i frm) :: O) (fun (i : Nat) (sv : Value) => i ≤ min frm.length 5) (fun (i : Nat) (sv : Value) => 5 - i) (0) (nilS) (by repeat (first | exact Split.zero | apply Split.succ)) ?hinv1 (by repeat (first | exact Sub.nil | refine Sub.cons rfl (by first | rfl | (congr 1; omega) | assumption) ?_)) (fun w h => by rw [pks_zero]; exact (fun w h => OwnL.sat (by repeat (first | exact OwnL.refl | apply OwnL.take (by repeat (first | exact Take.head _ | apply Take.tail)) | apply OwnL.drop)) w (h.thin (SubL.mem (by repeat (first | exact SubL.refl | refine SubL.cons (by repeat (first | assumption | exact mS | apply mT)) ?_ | refine SubL.skip ?_))))) w h) ?_
    case hinv1 =>
      exact Nat.zero_le _
    intro i sv
    rintro i1
    refine WC.seq ?_
    refine WC.pick [1, 5, 7, 9, 10] (by repeat (first | exact Pick.nil | apply Pick.cons rfl)) ?_
    refine WC.val 38 (.bool (decide ((i : Int) < (frm.length : Int) ∧ (i : Int) < 5))) ?_ ?_
    · skip
      refine WC.region ?_
      refine WL.rd rfl rfl rfl (Rd.move rfl rfl) ?_
      refine WL.rd rfl rfl rfl (Rd.move rfl rfl) ?_
      refine WL.rd rfl rfl rfl (Rd.lenE (enc := SL.one vi) (xs := frm) rfl rfl Try.underlying44 (by repeat (first | exact hf | apply List.mem_cons_of_mem))) ?_
      refine WL.rd rfl rfl rfl (Rd.lss rfl rfl rfl) ?_
      refine WL.rd rfl rfl rfl (Rd.move rfl rfl) ?_
      refine WL.case 35 rfl (fun hg35 => ?_) (fun hg35 => ?_)
      · skip
        refine WL.rd_yes rfl rfl rfl rfl rfl rfl (Rd.move rfl rfl) ?_
        refine WL.rd_yes rfl rfl rfl rfl rfl rfl (Rd.lss rfl rfl rfl) ?_
        refine WL.rd rfl rfl rfl (Rd.pick_t rfl rfl rfl) ?_
        refine WL.nil ?_
        exact ⟨by repeat (first | exact Sub.nil | refine Sub.cons rfl (by first | rfl | (first | exact vb ⟨fun h => ⟨hg35, h⟩, fun h => h.2⟩ | exact vb_f (fun h => hg35 h.1))) ?_), by first | exact (fun _ h => h.thin (SubL.mem (by repeat (first | exact SubL.refl | refine SubL.cons (by repeat (first | assumption | exact mS | apply mT)) ?_ | refine SubL.skip ?_)))) | exact (fun w h => OwnL.sat (by repeat (first | exact OwnL.refl | apply OwnL.take (by repeat (first | exact Take.head _ | apply Take.tail)) | apply OwnL.drop)) w (h.thin (SubL.mem (by repeat (first | exact SubL.refl | refine SubL.cons (by repeat (first | assumption | exact mS | apply mT)) ?_ | refine SubL.skip ?_)))))⟩
      · skip
        refine WL.no rfl rfl rfl rfl rfl rfl ?_
        refine WL.no rfl rfl rfl rfl rfl rfl ?_
        refine WL.rd rfl rfl rfl (Rd.pick_f rfl rfl rfl) ?_
        refine WL.nil ?_
        exact ⟨by repeat (first | exact Sub.nil | refine Sub.cons rfl (by first | rfl | (first | exact vb ⟨fun h => ⟨hg35, h⟩, fun h => h.2⟩ | exact vb_f (fun h => hg35 h.1))) ?_), by first | exact (fun _ h => h.thin (SubL.mem (by repeat (first | exact SubL.refl | refine SubL.cons (by repeat (first | assumption | exact mS | apply mT)) ?_ | refine SubL.skip ?_)))) | exact (fun w h => OwnL.sat (by repeat (first | exact OwnL.refl | apply OwnL.take (by repeat (first | exact Take.head _ | apply Take.tail)) | apply OwnL.drop)) w (h.thin (SubL.mem (by repeat (first | exact SubL.refl | refine SubL.cons (by repeat (first | assumption | exact mS | apply mT)) ?_ | refine SubL.skip ?_)))))⟩
    · skip
      first | refine WC.ite rfl (fun hc2 => ?_) (fun hc2 => ?_) | refine WC.cond rfl (fun hc2 => ?_) (fun hc2 => ?_)
      · skip
        have hil : i < frm.length := by omega
        have hpl := pks_len i frm
        have hlt := pk_lt frm[i]!
        have hroom : Room ((pks i frm).length + 1) 16 := room1 (by omega)
        refine WC.skip ?_
        refine thenQ.normal ?_
        refine WC.seq ?_
        refine WC.block ?_
        refine WC.region ?_
        refine WL.rd rfl rfl rfl (Rd.move rfl rfl) ?_
        refine WL.rd rfl rfl rfl (Rd.move rfl rfl) ?_
        refine WL.rd rfl rfl rfl (Rd.move rfl rfl) ?_
        refine WL.rd rfl rfl rfl (Rd.idx1 (enc := SL.one vi) (xs := frm) (k := i) rfl S44 rfl rfl rfl (by repeat (first | exact hf | apply List.mem_cons_of_mem)) hil) ?_
        refine WL.rd rfl rfl rfl (Rd.get (g := vi) (xs := frm) (k := i) (a := frm[i]!) rfl C3 rfl (by repeat (first | exact hf | apply List.mem_cons_of_mem)) (get!_of_lt hil)) ?_
        refine WL.rd rfl rfl rfl (Rd.andm (m := 15) rfl rfl rfl rfl (by decide)) ?_
        refine WL.op rfl ?_
        refine OpW.call rfl rfl (by repeat (first | exact Evs.nil | apply Evs.cons rfl)) (by kernel_rfl) rfl rfl rfl ?_
        refine name_spec (i := land .i64 frm[i]! 15) hlt ?_
        refine WL.op rfl ?_
        refine OpW.buildSl (ps := [(0, _)]) rfl S28 (by repeat (first | exact Evs.nil | apply Evs.cons rfl)) rfl rfl (by repeat (first | exact CellsOf.nil | apply CellsOf.cons rfl)) (by kernel_rfl) rfl rfl rfl ?_; intro b48
        refine WL.op rfl ?_
        refine OpW.appendRow (enc := SL.one vs) rfl S28 rfl rfl (by repeat (first | assumption | exact Take.head _ | apply Take.tail)) (by repeat (first | assumption | exact Take.head _ | apply Take.tail)) [pk frm[i]!] rfl (by rfl) rfl (by intro x; first | rfl | (cases x; rfl) | (rcases x with ⟨_, _, _⟩; rfl) | (rcases x with ⟨_, _, _, _⟩; rfl)) (by intro x; first | rfl | (cases x; rfl) | (rcases x with ⟨_, _, _⟩; rfl) | (rcases x with ⟨_, _, _, _⟩; rfl)) (by first | assumption | exact ⟨by simp only [maxLen, List.length_append, List.length_nil, List.length_cons, List.length_drop, List.length_take, List.length_map]; omega, by first | omega | (simp only [List.length_append, List.length_nil, List.length_cons, List.length_drop, List.length_take, List.length_map]; omega)⟩) rfl rfl ?_; intro v49 hv49
        refine WL.rd rfl rfl rfl (Rd.assign rfl rfl) ?_
        refine WL.nil ?_
        refine blockQ.normal ?_
        refine thenQ.normal ?_
        refine WC.region ?_
        refine WL.rd rfl rfl rfl (Rd.move rfl rfl) ?_
        refine WL.rd rfl rfl rfl (Rd.add rfl rfl rfl (by omega)) ?_
        refine WL.rd rfl rfl rfl (Rd.assign rfl rfl) ?_
        refine WL.nil ?_
        exact loopQ2.mk (i + 1) v49 (by omega) (by omega) (by repeat (first | exact Sub.nil | refine Sub.cons rfl (by first | rfl | (congr 1; omega) | assumption) ?_)) (fun w h => by rw [pks_next hil]; exact (fun w h => OwnL.sat (by repeat (first | exact OwnL.refl | apply OwnL.take (by repeat (first | exact Take.head _ | apply Take.tail)) | apply OwnL.drop)) w (h.thin (SubL.mem (by repeat (first | exact SubL.refl | refine SubL.cons (by repeat (first | assumption | exact mS | apply mT)) ?_ | refine SubL.skip ?_))))) w h)
      · skip
        obtain rfl : i = min frm.length 5 := by omega
        have hpl := pks_len (min frm.length 5) frm
        obtain ⟨S, hSS⟩ : ∃ S, pks (min frm.length 5) frm = S := ⟨_, rfl⟩
        rw [hSS] at hpl
        have hS5 : S.length ≤ 5 := by omega
        have hL16 : L.length ≤ 16 := by omega
        clear hpl hle hfl
        refine WC.heap (fun w h => by
          have h3 := Sat.shareA (xs := pks (min frm.length 5) frm) (by repeat (first | assumption | exact Take.head _ | apply Take.tail)) h
          rw [hSS] at h3
          exact h3) ?_
        refine WC.exit ?_
        refine thenQ.exit ?_
        refine loopQ2.exit ?_
        refine blockQ.exit ?_
        refine thenQ.normal ?_
        refine WC.seq ?_
        refine WC.region ?_
        refine WL.rd rfl rfl rfl (Rd.move rfl rfl) ?_
        refine WL.rd rfl rfl rfl (Rd.move rfl rfl) ?_
        refine WL.op rfl ?_
        refine OpW.call rfl rfl (by repeat (first | exact Evs.nil | apply Evs.cons rfl)) (by kernel_rfl) rfl rfl rfl ?_
        refine reach_spec (fs := S) (hG.mono fun p hp => List.mem_cons_of_mem _ hp) hcl hS List.mem_cons_self (by omega) ?_; intro v52 ks hka hks
        have hkid : ∀ k ∈ ks, k ∈ ids L := fun k h => ((hks k).1 h).mem hcl
        have hkl := in_len hka.nodup hkid
        refine WL.rd rfl rfl rfl (Rd.assign rfl rfl) ?_
        refine WL.nil ?_
        refine thenQ.normal ?_
        refine WC.seq ?_
        refine WC.seq ?_
        refine WC.heap (R' := SlE (SL.one vs) v52 ks :: SlE (SL.one vs) sv S :: p1 :: p2 :: p3 :: SlE encN av na :: ndsP na L :: ndsP nb L :: R) (O' := O) (fun w h => Sat.shareA (xs := ks) (by repeat (first | assumption | exact Take.head _ | apply Take.tail)) h) ?_
        have hG2 : GV gv (gOf L) (SlE (SL.one vs) v52 ks :: SlE (SL.one vs) sv S :: p1 :: p2 :: p3 :: SlE encN av na :: ndsP na L :: ndsP nb L :: R) := hG.mono fun p hp => (by repeat (first | exact hp | apply List.mem_cons_of_mem))
        have hN2 : NLs av L (SlE (SL.one vs) v52 ks :: SlE (SL.one vs) sv S :: p1 :: p2 :: p3 :: SlE encN av na :: ndsP na L :: ndsP nb L :: R) na := hNa.mono fun p hp => (by repeat (first | exact hp | apply List.mem_cons_of_mem))
        have hK : SlE (SL.one vs) v52 ks ∈ SlE (SL.one vs) v52 ks :: SlE (SL.one vs) sv S :: p1 :: p2 :: p3 :: SlE encN av na :: ndsP na L :: ndsP nb L :: R := List.mem_cons_self
        have hSm : SlE (SL.one vs) sv S ∈ SlE (SL.one vs) v52 ks :: SlE (SL.one vs) sv S :: p1 :: p2 :: p3 :: SlE encN av na :: ndsP na L :: ndsP nb L :: R := List.mem_cons_of_mem _ List.mem_cons_self
        have hnl := hN2.len
        refine WC.region ?_
        refine WL.rd rfl rfl rfl (Rd.assign rfl rfl) ?_
        refine WL.nil ?_
        refine thenQ.normal ?_
        refine WC.block ?_
        refine WC.pick [12, 5, 7, 9, 11] (by repeat (first | exact Pick.nil | apply Pick.cons rfl)) ?_
        refine WC.loop1o 1 (fun (i : Nat) => [(12, vi i)]) (fun (i : Nat) => i ≤ L.length) (fun (i : Nat) => L.length - i) (0) (by repeat (first | exact Split.zero | apply Split.succ)) ?hinv2 (by repeat (first | exact Sub.nil | refine Sub.cons rfl (by first | rfl | (congr 1; omega) | assumption) ?_)) (fun _ h => h) ?_
        case hinv2 =>
          exact Nat.zero_le _
        intro i
        rintro i1
        refine WC.seq ?_
        refine WC.seq ?_
        refine WC.region ?_
        refine WL.rd rfl rfl rfl (Rd.move rfl rfl) ?_
        refine WL.rd rfl rfl rfl (Rd.move rfl rfl) ?_
        refine WL.rd rfl rfl rfl (hN2.rdLen rfl rfl Try.underlying24) ?_
        refine WL.rd rfl rfl rfl (Rd.lss rfl rfl rfl) ?_
        refine WL.nil ?_
        refine thenQ.normal ?_
        first | refine WC.ite rfl (fun hc3 => ?_) (fun hc3 => ?_) | refine WC.cond rfl (fun hc3 => ?_) (fun hc3 => ?_)
        · skip
          have hil : i < L.length := by omega
          refine WC.skip ?_
          refine thenQ.normal ?_
          refine WC.seq ?_
          refine WC.block ?_
          refine WC.seq ?_
          refine WC.region ?_
          refine WL.rd rfl rfl rfl (Rd.assign rfl rfl) ?_
          refine WL.nil ?_
          refine thenQ.normal ?_
          refine WC.seq ?_
          refine WC.seq ?_
          refine WC.region ?_
          refine WL.rd rfl rfl rfl (Rd.assign rfl rfl) ?_
          refine WL.nil ?_
          refine thenQ.normal ?_
          refine WC.block ?_
          refine WC.pick [14, 13, 5, 7, 9, 11, 12] (by repeat (first | exact Pick.nil | apply Pick.cons rfl)) ?_
          refine WC.loop2o 2 (fun (k : Nat) (b : Bool) => [(14, vi k), (13, .bool b)]) (fun (k : Nat) (b : Bool) => k ≤ S.length ∧ (b = true ↔ ∃ j, j < k ∧ Come (gOf L) [S[j]!] L[i]!.1)) (fun (k : Nat) (b : Bool) => S.length - k) (0) (false) (by repeat (first | exact Split.zero | apply Split.succ)) ?hinv3 (by repeat (first | exact Sub.nil | refine Sub.cons rfl (by first | rfl | (congr 1; omega) | assumption) ?_)) (fun _ h => h) ?_
          case hinv3 =>
            exact ⟨Nat.zero_le _, fun h => Bool.noConfusion h, fun ⟨j, h, _⟩ => absurd h (Nat.not_lt_zero _)⟩
          intro k b
          rintro ⟨m1, m2⟩
          refine WC.seq ?_
          refine WC.seq ?_
          refine WC.region ?_
          refine WL.rd rfl rfl rfl (Rd.move rfl rfl) ?_
          refine WL.rd rfl rfl rfl (Rd.move rfl rfl) ?_
          refine WL.rd rfl rfl rfl (Rd.lenE (enc := SL.one vs) (xs := S) rfl rfl Try.underlying28 hSm) ?_
          refine WL.rd rfl rfl rfl (Rd.lss rfl rfl rfl) ?_
          refine WL.nil ?_
          refine thenQ.normal ?_
          first | refine WC.ite rfl (fun hc4 => ?_) (fun hc4 => ?_) | refine WC.cond rfl (fun hc4 => ?_) (fun hc4 => ?_)
          · skip
            refine WC.skip ?_
            refine thenQ.normal ?_
            refine WC.seq ?_
            refine WC.block ?_
            refine WC.tail 12 mixed (by kernel_rfl) ?_
            refine WS.rd rfl rfl rfl (Rd.move rfl rfl) ?_
            refine WS.say 65 (u := .bool (decide (b = true))) rfl (vbl_dec _) ?_
            refine WS.rd rfl rfl rfl (Rd.move rfl rfl) ?_
            refine WS.case 66 rfl (fun hg66 => ?_) (fun hg66 => ?_)
            · skip
              refine WS.no rfl rfl rfl rfl rfl rfl ?_
              refine WS.no rfl rfl rfl rfl rfl rfl ?_
              refine WS.no rfl rfl rfl rfl rfl rfl ?_
              refine WS.no rfl rfl rfl rfl rfl rfl ?_
              refine WS.no rfl rfl rfl rfl rfl rfl ?_
              refine WS.no rfl rfl rfl rfl rfl rfl ?_
              refine WS.no rfl rfl rfl rfl rfl rfl ?_
              refine WS.no rfl rfl rfl rfl rfl rfl ?_
              refine WS.no rfl rfl rfl rfl rfl rfl ?_
              refine WS.no rfl rfl rfl rfl rfl rfl ?_
              refine WS.switch ?_
              refine WL.no rfl rfl rfl rfl rfl rfl ?_
              refine WL.rd rfl rfl rfl (Rd.pick_t rfl rfl rfl) ?_
              refine WL.say 78 (u := .bool (b || decide (Come (gOf L) [S[k]!] L[i]!.1))) rfl (by first | (rw [show b = true from hg66, Bool.true_or]) | (rw [show b = false from by simpa using hg66, Bool.false_or])) ?_
              refine WL.rd rfl rfl rfl (Rd.assign rfl rfl) ?_
              refine WL.nil ?_
              refine blockQ.normal ?_
              refine thenQ.normal ?_
              refine WC.region ?_
              refine WL.rd rfl rfl rfl (Rd.move rfl rfl) ?_
              refine WL.rd rfl rfl rfl (Rd.add rfl rfl rfl (by omega)) ?_
              refine WL.rd rfl rfl rfl (Rd.assign rfl rfl) ?_
              refine WL.nil ?_
              exact loopQ2.mk (k + 1) (b || decide (Come (gOf L) [S[k]!] L[i]!.1)) ⟨by omega, by
              rw [Bool.or_eq_true, m2, decide_eq_true_eq]
              constructor
              · rintro (⟨j, h1, h2⟩ | h)
                · exact ⟨j, by omega, h2⟩
                · exact ⟨k, by omega, h⟩
              · rintro ⟨j, h1, h2⟩
                rcases Nat.lt_or_ge j k with g | g
                · exact .inl ⟨j, g, h2⟩
                · obtain rfl : j = k := by omega
                  exact .inr h2⟩ (by omega) (by repeat (first | exact Sub.nil | refine Sub.cons rfl (by first | rfl | (congr 1; omega) | assumption) ?_)) (fun w h => OwnL.sat (by repeat (first | exact OwnL.refl | apply OwnL.take (by repeat (first | exact Take.head _ | apply Take.tail)) | apply OwnL.drop)) w (h.thin (SubL.mem (by repeat (first | exact SubL.refl | refine SubL.cons (by repeat (first | assumption | exact mS | apply mT)) ?_ | refine SubL.skip ?_)))))
            · skip
              refine WS.rd_yes rfl rfl rfl rfl rfl rfl (Rd.move rfl rfl) ?_
              refine WS.rd_yes rfl rfl rfl rfl rfl rfl (Rd.move rfl rfl) ?_
              refine WS.rd_yes rfl rfl rfl rfl rfl rfl (Rd.move rfl rfl) ?_
              refine WS.rd_yes rfl rfl rfl rfl rfl rfl (hN2.rdIdx (i := i) hil rfl S24 rfl rfl rfl) ?_
              refine WS.rd_yes rfl rfl rfl rfl rfl rfl (Rd.fieldE rfl F30_0 rfl hN2.sl (by omega)) ?_
              refine WS.rd_yes rfl rfl rfl rfl rfl rfl (hN2.rdId (i := i) hil rfl C9 rfl rfl) ?_
              refine WS.rd_yes rfl rfl rfl rfl rfl rfl (Rd.move rfl rfl) ?_
              refine WS.rd_yes rfl rfl rfl rfl rfl rfl (Rd.move rfl rfl) ?_
              refine WS.rd_yes rfl rfl rfl rfl rfl rfl (Rd.idx1 (enc := SL.one vs) (xs := S) (k := k) rfl S28 rfl rfl rfl hSm (by omega)) ?_
              refine WS.rd_yes rfl rfl rfl rfl rfl rfl (Rd.get (g := vs) (xs := S) (k := k) (a := S[k]!) rfl C9 rfl hSm (get!_of_lt (by omega))) ?_
              refine WS.switch ?_
              refine WL.op_yes rfl rfl rfl rfl ?_
              refine OpW.call rfl rfl (by repeat (first | exact Evs.nil | apply Evs.cons rfl)) (by kernel_rfl) rfl rfl rfl ?_
              refine anc_spec hG2 hcl hS ?_
              refine WL.rd rfl rfl rfl (Rd.pick_f rfl rfl rfl) ?_
              refine WL.say 78 (u := .bool (b || decide (Come (gOf L) [S[k]!] L[i]!.1))) rfl (by first | (rw [show b = true from hg66, Bool.true_or]) | (rw [show b = false from by simpa using hg66, Bool.false_or])) ?_
              refine WL.rd rfl rfl rfl (Rd.assign rfl rfl) ?_
              refine WL.nil ?_
              refine blockQ.normal ?_
              refine thenQ.normal ?_
              refine WC.region ?_
              refine WL.rd rfl rfl rfl (Rd.move rfl rfl) ?_
              refine WL.rd rfl rfl rfl (Rd.add rfl rfl rfl (by omega)) ?_
              refine WL.rd rfl rfl rfl (Rd.assign rfl rfl) ?_
              refine WL.nil ?_
              exact loopQ2.mk (k + 1) (b || decide (Come (gOf L) [S[k]!] L[i]!.1)) ⟨by omega, by
              rw [Bool.or_eq_true, m2, decide_eq_true_eq]
              constructor
              · rintro (⟨j, h1, h2⟩ | h)
                · exact ⟨j, by omega, h2⟩
                · exact ⟨k, by omega, h⟩
              · rintro ⟨j, h1, h2⟩
                rcases Nat.lt_or_ge j k with g | g
                · exact .inl ⟨j, g, h2⟩
                · obtain rfl : j = k := by omega
                  exact .inr h2⟩ (by omega) (by repeat (first | exact Sub.nil | refine Sub.cons rfl (by first | rfl | (congr 1; omega) | assumption) ?_)) (fun w h => OwnL.sat (by repeat (first | exact OwnL.refl | apply OwnL.take (by repeat (first | exact Take.head _ | apply Take.tail)) | apply OwnL.drop)) w (h.thin (SubL.mem (by repeat (first | exact SubL.refl | refine SubL.cons (by repeat (first | assumption | exact mS | apply mT)) ?_ | refine SubL.skip ?_)))))
          · skip
            have hbS : b = true ↔ Come (gOf L) S L[i]!.1 := by
              rw [m2, come_any]
              constructor
              · rintro ⟨j, h1, h2⟩
                exact ⟨_, get!_mem (by omega), h2⟩
              · rintro ⟨f, h1, h2⟩
                obtain ⟨j, hj, rfl⟩ := mem_get! h1
                exact ⟨j, by omega, h2⟩
            refine WC.exit ?_
            refine thenQ.exit ?_
            refine loopQ2.exit ?_
            refine blockQ.exit ?_
            refine thenQ.normal ?_
            refine WC.seq ?_
            refine WC.region ?_
            refine WL.rd rfl rfl rfl (Rd.assign rfl rfl) ?_
            refine WL.nil ?_
            refine thenQ.normal ?_
            refine WC.seq ?_
            refine WC.seq ?_
            refine WC.region ?_
            refine WL.rd rfl rfl rfl (Rd.assign rfl rfl) ?_
            refine WL.nil ?_
            refine thenQ.normal ?_
            refine WC.block ?_
            refine WC.pick [16, 15, 5, 7, 9, 11, 12, 13] (by repeat (first | exact Pick.nil | apply Pick.cons rfl)) ?_
            refine WC.loop2o 2 (fun (k2 : Nat) (c : Bool) => [(16, vi k2), (15, .bool c)]) (fun (k2 : Nat) (c : Bool) => k2 ≤ ks.length ∧ (c = true ↔ ∃ j, j < k2 ∧ ks[j]! = L[i]!.1)) (fun (k2 : Nat) (c : Bool) => ks.length - k2) (0) (false) (by repeat (first | exact Split.zero | apply Split.succ)) ?hinv4 (by repeat (first | exact Sub.nil | refine Sub.cons rfl (by first | rfl | (congr 1; omega) | assumption) ?_)) (fun _ h => h) ?_
            case hinv4 =>
              exact ⟨Nat.zero_le _, fun h => Bool.noConfusion h, fun ⟨j, h, _⟩ => absurd h (Nat.not_lt_zero _)⟩
            intro k2 c
            rintro ⟨n1, n2⟩
            refine WC.seq ?_
            refine WC.seq ?_
            refine WC.region ?_
            refine WL.rd rfl rfl rfl (Rd.move rfl rfl) ?_
            refine WL.rd rfl rfl rfl (Rd.move rfl rfl) ?_
            refine WL.rd rfl rfl rfl (Rd.lenE (enc := SL.one vs) (xs := ks) rfl rfl Try.underlying28 hK) ?_
            refine WL.rd rfl rfl rfl (Rd.lss rfl rfl rfl) ?_
            refine WL.nil ?_
            refine thenQ.normal ?_
            first | refine WC.ite rfl (fun hc5 => ?_) (fun hc5 => ?_) | refine WC.cond rfl (fun hc5 => ?_) (fun hc5 => ?_)
            · skip
              refine WC.skip ?_
              refine thenQ.normal ?_
              refine WC.seq ?_
              refine WC.block ?_
              refine WC.still mixed (by kernel_rfl) ?_
              refine WA.rd rfl rfl rfl (Rd.move rfl rfl) ?_
              refine WA.say 85 (u := .bool (decide (c = true))) rfl (vbl_dec _) ?_
              refine WA.rd rfl rfl rfl (Rd.move rfl rfl) ?_
              refine WA.case 86 rfl (fun hg86 => ?_) (fun hg86 => ?_)
              · skip
                refine WA.no rfl rfl rfl rfl rfl rfl ?_
                refine WA.no rfl rfl rfl rfl rfl rfl ?_
                refine WA.no rfl rfl rfl rfl rfl rfl ?_
                refine WA.no rfl rfl rfl rfl rfl rfl ?_
                refine WA.no rfl rfl rfl rfl rfl rfl ?_
                refine WA.no rfl rfl rfl rfl rfl rfl ?_
                refine WA.no rfl rfl rfl rfl rfl rfl ?_
                refine WA.no rfl rfl rfl rfl rfl rfl ?_
                refine WA.no rfl rfl rfl rfl rfl rfl ?_
                refine WA.no rfl rfl rfl rfl rfl rfl ?_
                refine WA.rd rfl rfl rfl (Rd.pick_t rfl rfl rfl) ?_
                refine WA.say 97 (u := .bool (c || decide (ks[k2]! = L[i]!.1))) rfl (by first | (rw [show c = true from hg86, Bool.true_or]) | (rw [show c = false from by simpa using hg86, Bool.false_or])) ?_
                refine WA.rd rfl rfl rfl (Rd.assign rfl rfl) ?_
                refine WA.nil ?_
                refine blockQ.normal ?_
                refine thenQ.normal ?_
                refine WC.region ?_
                refine WL.rd rfl rfl rfl (Rd.move rfl rfl) ?_
                refine WL.rd rfl rfl rfl (Rd.add rfl rfl rfl (by omega)) ?_
                refine WL.rd rfl rfl rfl (Rd.assign rfl rfl) ?_
                refine WL.nil ?_
                exact loopQ2.mk (k2 + 1) (c || decide (ks[k2]! = L[i]!.1)) ⟨by omega, by
                rw [Bool.or_eq_true, n2, decide_eq_true_eq]
                constructor
                · rintro (⟨j, h1, h2⟩ | h)
                  · exact ⟨j, by omega, h2⟩
                  · exact ⟨k2, by omega, h⟩
                · rintro ⟨j, h1, h2⟩
                  rcases Nat.lt_or_ge j k2 with g | g
                  · exact .inl ⟨j, g, h2⟩
                  · obtain rfl : j = k2 := by omega
                    exact .inr h2⟩ (by omega) (by repeat (first | exact Sub.nil | refine Sub.cons rfl (by first | rfl | (congr 1; omega) | assumption) ?_)) (fun w h => OwnL.sat (by repeat (first | exact OwnL.refl | apply OwnL.take (by repeat (first | exact Take.head _ | apply Take.tail)) | apply OwnL.drop)) w (h.thin (SubL.mem (by repeat (first | exact SubL.refl | refine SubL.cons (by repeat (first | assumption | exact mS | apply mT)) ?_ | refine SubL.skip ?_)))))
              · skip
                refine WA.rd_yes rfl rfl rfl rfl rfl rfl (Rd.move rfl rfl) ?_
                refine WA.rd_yes rfl rfl rfl rfl rfl rfl (Rd.move rfl rfl) ?_
                refine WA.rd_yes rfl rfl rfl rfl rfl rfl (Rd.idx1 (enc := SL.one vs) (xs := ks) (k := k2) rfl S28 rfl rfl rfl hK (by omega)) ?_
                refine WA.rd_yes rfl rfl rfl rfl rfl rfl (Rd.get (g := vs) (xs := ks) (k := k2) (a := ks[k2]!) rfl C9 rfl hK (get!_of_lt (by omega))) ?_
                refine WA.rd_yes rfl rfl rfl rfl rfl rfl (Rd.move rfl rfl) ?_
                refine WA.rd_yes rfl rfl rfl rfl rfl rfl (Rd.move rfl rfl) ?_
                refine WA.rd_yes rfl rfl rfl rfl rfl rfl (hN2.rdIdx (i := i) hil rfl S24 rfl rfl rfl) ?_
                refine WA.rd_yes rfl rfl rfl rfl rfl rfl (Rd.fieldE rfl F30_0 rfl hN2.sl (by omega)) ?_
                refine WA.rd_yes rfl rfl rfl rfl rfl rfl (hN2.rdId (i := i) hil rfl C9 rfl rfl) ?_
                refine WA.rd_yes rfl rfl rfl rfl rfl rfl (Rd.seql rfl rfl rfl) ?_
                refine WA.rd rfl rfl rfl (Rd.pick_f rfl rfl rfl) ?_
                refine WA.say 97 (u := .bool (c || decide (ks[k2]! = L[i]!.1))) rfl (by first | (rw [show c = true from hg86, Bool.true_or]) | (rw [show c = false from by simpa using hg86, Bool.false_or])) ?_
                refine WA.rd rfl rfl rfl (Rd.assign rfl rfl) ?_
                refine WA.nil ?_
                refine blockQ.normal ?_
                refine thenQ.normal ?_
                refine WC.region ?_
                refine WL.rd rfl rfl rfl (Rd.move rfl rfl) ?_
                refine WL.rd rfl rfl rfl (Rd.add rfl rfl rfl (by omega)) ?_
                refine WL.rd rfl rfl rfl (Rd.assign rfl rfl) ?_
                refine WL.nil ?_
                exact loopQ2.mk (k2 + 1) (c || decide (ks[k2]! = L[i]!.1)) ⟨by omega, by
                rw [Bool.or_eq_true, n2, decide_eq_true_eq]
                constructor
                · rintro (⟨j, h1, h2⟩ | h)
                  · exact ⟨j, by omega, h2⟩
                  · exact ⟨k2, by omega, h⟩
                · rintro ⟨j, h1, h2⟩
                  rcases Nat.lt_or_ge j k2 with g | g
                  · exact .inl ⟨j, g, h2⟩
                  · obtain rfl : j = k2 := by omega
                    exact .inr h2⟩ (by omega) (by repeat (first | exact Sub.nil | refine Sub.cons rfl (by first | rfl | (congr 1; omega) | assumption) ?_)) (fun w h => OwnL.sat (by repeat (first | exact OwnL.refl | apply OwnL.take (by repeat (first | exact Take.head _ | apply Take.tail)) | apply OwnL.drop)) w (h.thin (SubL.mem (by repeat (first | exact SubL.refl | refine SubL.cons (by repeat (first | assumption | exact mS | apply mT)) ?_ | refine SubL.skip ?_)))))
            · skip
              have hbc : b = c := by
                have h1 : b = true ↔ c = true := by
                  rw [hbS, ← hks, n2]
                  constructor
                  · intro h
                    obtain ⟨j, hj, e⟩ := mem_get! h
                    exact ⟨j, by omega, e⟩
                  · rintro ⟨j, h1, h2⟩
                    rw [← h2]; exact get!_mem (by omega)
                cases b <;> cases c <;> simp at h1 ⊢
              refine WC.exit ?_
              refine thenQ.exit ?_
              refine loopQ2.exit ?_
              refine blockQ.exit ?_
              refine thenQ.normal ?_
              refine WC.seq ?_
              refine WC.seq ?_
              refine WC.region ?_
              refine WL.rd rfl rfl rfl (Rd.move rfl rfl) ?_
              refine WL.rd rfl rfl rfl (Rd.move rfl rfl) ?_
              refine WL.rd rfl rfl rfl (Rd.bneq rfl rfl rfl Try.underlying4) ?_
              refine WL.say 100 (u := .bool (decide False)) rfl (by rw [hbc]; simp) ?_
              refine WL.nil ?_
              refine thenQ.normal ?_
              first | refine WC.ite rfl (fun hc6 => ?_) (fun hc6 => ?_) | refine WC.cond rfl (fun hc6 => ?_) (fun hc6 => ?_)
              · skip
                simp at hc6
              · skip
                refine WC.skip ?_
                refine thenQ.normal ?_
                refine WC.seq ?_
                refine WC.region ?_
                refine WL.rd rfl rfl rfl (Rd.assign rfl rfl) ?_
                refine WL.nil ?_
                refine thenQ.normal ?_
                refine WC.block ?_
                refine WC.pick [17, 5, 7, 9, 11, 12] (by repeat (first | exact Pick.nil | apply Pick.cons rfl)) ?_
                refine WC.loop1o 1 (fun (k3 : Nat) => [(17, vi k3)]) (fun (k3 : Nat) => k3 ≤ L.length) (fun (k3 : Nat) => L.length - k3) (0) (by repeat (first | exact Split.zero | apply Split.succ)) ?hinv5 (by repeat (first | exact Sub.nil | refine Sub.cons rfl (by first | rfl | (congr 1; omega) | assumption) ?_)) (fun _ h => h) ?_
                case hinv5 =>
                  exact Nat.zero_le _
                intro k3
                rintro q1
                refine WC.seq ?_
                refine WC.seq ?_
                refine WC.region ?_
                refine WL.rd rfl rfl rfl (Rd.move rfl rfl) ?_
                refine WL.rd rfl rfl rfl (Rd.move rfl rfl) ?_
                refine WL.rd rfl rfl rfl (hN2.rdLen rfl rfl Try.underlying24) ?_
                refine WL.rd rfl rfl rfl (Rd.lss rfl rfl rfl) ?_
                refine WL.nil ?_
                refine thenQ.normal ?_
                first | refine WC.ite rfl (fun hc7 => ?_) (fun hc7 => ?_) | refine WC.cond rfl (fun hc7 => ?_) (fun hc7 => ?_)
                · skip
                  have hk3 : k3 < L.length := by omega
                  refine WC.skip ?_
                  refine thenQ.normal ?_
                  refine WC.seq ?_
                  refine WC.block ?_
                  refine WC.seq ?_
                  refine WC.region ?_
                  refine WL.rd rfl rfl rfl (Rd.assign rfl rfl) ?_
                  refine WL.nil ?_
                  refine thenQ.normal ?_
                  refine WC.block ?_
                  refine WC.pick [18, 5, 7, 9, 11, 12, 17] (by repeat (first | exact Pick.nil | apply Pick.cons rfl)) ?_
                  refine WC.loop1o 1 (fun (j : Nat) => [(18, vi j)]) (fun (j : Nat) => j ≤ L.length) (fun (j : Nat) => L.length - j) (0) (by repeat (first | exact Split.zero | apply Split.succ)) ?hinv6 (by repeat (first | exact Sub.nil | refine Sub.cons rfl (by first | rfl | (congr 1; omega) | assumption) ?_)) (fun _ h => h) ?_
                  case hinv6 =>
                    exact Nat.zero_le _
                  intro j
                  rintro q2
                  refine WC.seq ?_
                  refine WC.pick [5, 7, 9, 11, 12, 17, 18] (by repeat (first | exact Pick.nil | apply Pick.cons rfl)) ?_
                  refine WC.val 114 (.bool (decide ((j : Int) < (L.length : Int) ∧ (k3 : Int) < 6))) ?_ ?_
                  · skip
                    refine WC.region ?_
                    refine WL.rd rfl rfl rfl (Rd.move rfl rfl) ?_
                    refine WL.rd rfl rfl rfl (Rd.move rfl rfl) ?_
                    refine WL.rd rfl rfl rfl (hN2.rdLen rfl rfl Try.underlying24) ?_
                    refine WL.rd rfl rfl rfl (Rd.lss rfl rfl rfl) ?_
                    refine WL.rd rfl rfl rfl (Rd.move rfl rfl) ?_
                    refine WL.case 111 rfl (fun hg111 => ?_) (fun hg111 => ?_)
                    · skip
                      refine WL.rd_yes rfl rfl rfl rfl rfl rfl (Rd.move rfl rfl) ?_
                      refine WL.rd_yes rfl rfl rfl rfl rfl rfl (Rd.lss rfl rfl rfl) ?_
                      refine WL.rd rfl rfl rfl (Rd.pick_t rfl rfl rfl) ?_
                      refine WL.nil ?_
                      exact ⟨by repeat (first | exact Sub.nil | refine Sub.cons rfl (by first | rfl | (first | exact vb ⟨fun h => ⟨hg111, h⟩, fun h => h.2⟩ | exact vb_f (fun h => hg111 h.1))) ?_), by first | exact (fun _ h => h.thin (SubL.mem (by repeat (first | exact SubL.refl | refine SubL.cons (by repeat (first | assumption | exact mS | apply mT)) ?_ | refine SubL.skip ?_)))) | exact (fun w h => OwnL.sat (by repeat (first | exact OwnL.refl | apply OwnL.take (by repeat (first | exact Take.head _ | apply Take.tail)) | apply OwnL.drop)) w (h.thin (SubL.mem (by repeat (first | exact SubL.refl | refine SubL.cons (by repeat (first | assumption | exact mS | apply mT)) ?_ | refine SubL.skip ?_)))))⟩
                    · skip
                      refine WL.no rfl rfl rfl rfl rfl rfl ?_
                      refine WL.no rfl rfl rfl rfl rfl rfl ?_
                      refine WL.rd rfl rfl rfl (Rd.pick_f rfl rfl rfl) ?_
                      refine WL.nil ?_
                      exact ⟨by repeat (first | exact Sub.nil | refine Sub.cons rfl (by first | rfl | (first | exact vb ⟨fun h => ⟨hg111, h⟩, fun h => h.2⟩ | exact vb_f (fun h => hg111 h.1))) ?_), by first | exact (fun _ h => h.thin (SubL.mem (by repeat (first | exact SubL.refl | refine SubL.cons (by repeat (first | assumption | exact mS | apply mT)) ?_ | refine SubL.skip ?_)))) | exact (fun w h => OwnL.sat (by repeat (first | exact OwnL.refl | apply OwnL.take (by repeat (first | exact Take.head _ | apply Take.tail)) | apply OwnL.drop)) w (h.thin (SubL.mem (by repeat (first | exact SubL.refl | refine SubL.cons (by repeat (first | assumption | exact mS | apply mT)) ?_ | refine SubL.skip ?_)))))⟩
                  · skip
                    first | refine WC.ite rfl (fun hc8 => ?_) (fun hc8 => ?_) | refine WC.cond rfl (fun hc8 => ?_) (fun hc8 => ?_)
                    · skip
                      have hjl : j < L.length := by omega
                      refine WC.skip ?_
                      refine thenQ.normal ?_
                      refine WC.seq ?_
                      refine WC.block ?_
                      refine WC.seq ?_
                      refine WC.drawnA 41 rfl mixed ?_
                      refine WD.take 0 rfl (by kernel_rfl) Held.all rfl rfl rfl (Rd.move rfl rfl) ?_
                      refine WD.take 1 rfl (by kernel_rfl) Held.all rfl rfl rfl (Rd.move rfl rfl) ?_
                      refine WD.take 2 rfl (by kernel_rfl) Held.all rfl rfl rfl (Rd.move rfl rfl) ?_
                      refine WD.take 3 rfl (by kernel_rfl) Held.all rfl rfl rfl (hN2.rdIdx (i := i) hil rfl S24 rfl rfl rfl) ?_
                      refine WD.take 4 rfl (by kernel_rfl) Held.all rfl rfl rfl (Rd.fieldE rfl F30_0 rfl hN2.sl (by omega)) ?_
                      refine WD.take 5 rfl (by kernel_rfl) Held.all rfl rfl rfl (hN2.rdId (i := i) hil rfl C9 rfl rfl) ?_
                      refine WD.take 6 rfl (by kernel_rfl) Held.all rfl rfl rfl (Rd.move rfl rfl) ?_
                      refine WD.take 7 rfl (by kernel_rfl) Held.all rfl rfl rfl (Rd.move rfl rfl) ?_
                      refine WD.take 8 rfl (by kernel_rfl) Held.all rfl rfl rfl (hN2.rdIdx (i := k3) hk3 rfl S24 rfl rfl rfl) ?_
                      refine WD.take 9 rfl (by kernel_rfl) Held.all rfl rfl rfl (Rd.fieldE rfl F30_0 rfl hN2.sl (by omega)) ?_
                      refine WD.take 10 rfl (by kernel_rfl) Held.all rfl rfl rfl (hN2.rdId (i := k3) hk3 rfl C9 rfl rfl) ?_
                      refine WD.one 11 rfl (by kernel_rfl) rfl ?_
                      refine OpW.call rfl rfl (by repeat (first | exact Evs.nil | apply Evs.cons rfl)) (by kernel_rfl) rfl rfl rfl ?_
                      refine anc_spec hG2 hcl hS ?_
                      refine ⟨(Held.mk' (by repeat (first | exact SubL.refl | refine SubL.cons (by repeat (first | assumption | exact mS | apply mT)) ?_ | refine SubL.skip ?_)) (by repeat (first | exact OwnL.refl | apply OwnL.take (by repeat (first | exact Take.head _ | apply Take.tail)) | apply OwnL.drop))), ?_⟩
                      refine WD.take 12 rfl (by kernel_rfl) (Held.mk' (by repeat (first | exact SubL.refl | refine SubL.cons (by repeat (first | assumption | exact mS | apply mT)) ?_ | refine SubL.skip ?_)) (by repeat (first | exact OwnL.refl | apply OwnL.take (by repeat (first | exact Take.head _ | apply Take.tail)) | apply OwnL.drop))) rfl rfl rfl (Rd.move rfl rfl) ?_
                      refine WD.case 129 rfl (fun hg129 => ?_) (fun hg129 => ?_)
                      · skip
                        refine WD.take_yes 13 rfl (by kernel_rfl) (Held.mk' (by repeat (first | exact SubL.refl | refine SubL.cons (by repeat (first | assumption | exact mS | apply mT)) ?_ | refine SubL.skip ?_)) (by repeat (first | exact OwnL.refl | apply OwnL.take (by repeat (first | exact Take.head _ | apply Take.tail)) | apply OwnL.drop))) rfl rfl rfl rfl rfl rfl (Rd.move rfl rfl) ?_
                        refine WD.take_yes 14 rfl (by kernel_rfl) (Held.mk' (by repeat (first | exact SubL.refl | refine SubL.cons (by repeat (first | assumption | exact mS | apply mT)) ?_ | refine SubL.skip ?_)) (by repeat (first | exact OwnL.refl | apply OwnL.take (by repeat (first | exact Take.head _ | apply Take.tail)) | apply OwnL.drop))) rfl rfl rfl rfl rfl rfl (Rd.move rfl rfl) ?_
                        refine WD.take_yes 15 rfl (by kernel_rfl) (Held.mk' (by repeat (first | exact SubL.refl | refine SubL.cons (by repeat (first | assumption | exact mS | apply mT)) ?_ | refine SubL.skip ?_)) (by repeat (first | exact OwnL.refl | apply OwnL.take (by repeat (first | exact Take.head _ | apply Take.tail)) | apply OwnL.drop))) rfl rfl rfl rfl rfl rfl (Rd.move rfl rfl) ?_
                        refine WD.take_yes 16 rfl (by kernel_rfl) (Held.mk' (by repeat (first | exact SubL.refl | refine SubL.cons (by repeat (first | assumption | exact mS | apply mT)) ?_ | refine SubL.skip ?_)) (by repeat (first | exact OwnL.refl | apply OwnL.take (by repeat (first | exact Take.head _ | apply Take.tail)) | apply OwnL.drop))) rfl rfl rfl rfl rfl rfl (hN2.rdIdx (i := k3) hk3 rfl S24 rfl rfl rfl) ?_
                        refine WD.take_yes 17 rfl (by kernel_rfl) (Held.mk' (by repeat (first | exact SubL.refl | refine SubL.cons (by repeat (first | assumption | exact mS | apply mT)) ?_ | refine SubL.skip ?_)) (by repeat (first | exact OwnL.refl | apply OwnL.take (by repeat (first | exact Take.head _ | apply Take.tail)) | apply OwnL.drop))) rfl rfl rfl rfl rfl rfl (Rd.fieldE rfl F30_0 rfl hN2.sl (by omega)) ?_
                        refine WD.take_yes 18 rfl (by kernel_rfl) (Held.mk' (by repeat (first | exact SubL.refl | refine SubL.cons (by repeat (first | assumption | exact mS | apply mT)) ?_ | refine SubL.skip ?_)) (by repeat (first | exact OwnL.refl | apply OwnL.take (by repeat (first | exact Take.head _ | apply Take.tail)) | apply OwnL.drop))) rfl rfl rfl rfl rfl rfl (hN2.rdId (i := k3) hk3 rfl C9 rfl rfl) ?_
                        refine WD.take_yes 19 rfl (by kernel_rfl) (Held.mk' (by repeat (first | exact SubL.refl | refine SubL.cons (by repeat (first | assumption | exact mS | apply mT)) ?_ | refine SubL.skip ?_)) (by repeat (first | exact OwnL.refl | apply OwnL.take (by repeat (first | exact Take.head _ | apply Take.tail)) | apply OwnL.drop))) rfl rfl rfl rfl rfl rfl (Rd.move rfl rfl) ?_
                        refine WD.take_yes 20 rfl (by kernel_rfl) (Held.mk' (by repeat (first | exact SubL.refl | refine SubL.cons (by repeat (first | assumption | exact mS | apply mT)) ?_ | refine SubL.skip ?_)) (by repeat (first | exact OwnL.refl | apply OwnL.take (by repeat (first | exact Take.head _ | apply Take.tail)) | apply OwnL.drop))) rfl rfl rfl rfl rfl rfl (Rd.move rfl rfl) ?_
                        refine WD.take_yes 21 rfl (by kernel_rfl) (Held.mk' (by repeat (first | exact SubL.refl | refine SubL.cons (by repeat (first | assumption | exact mS | apply mT)) ?_ | refine SubL.skip ?_)) (by repeat (first | exact OwnL.refl | apply OwnL.take (by repeat (first | exact Take.head _ | apply Take.tail)) | apply OwnL.drop))) rfl rfl rfl rfl rfl rfl (hN2.rdIdx (i := j) hjl rfl S24 rfl rfl rfl) ?_
                        refine WD.take_yes 22 rfl (by kernel_rfl) (Held.mk' (by repeat (first | exact SubL.refl | refine SubL.cons (by repeat (first | assumption | exact mS | apply mT)) ?_ | refine SubL.skip ?_)) (by repeat (first | exact OwnL.refl | apply OwnL.take (by repeat (first | exact Take.head _ | apply Take.tail)) | apply OwnL.drop))) rfl rfl rfl rfl rfl rfl (Rd.fieldE rfl F30_0 rfl hN2.sl (by omega)) ?_
                        refine WD.take_yes 23 rfl (by kernel_rfl) (Held.mk' (by repeat (first | exact SubL.refl | refine SubL.cons (by repeat (first | assumption | exact mS | apply mT)) ?_ | refine SubL.skip ?_)) (by repeat (first | exact OwnL.refl | apply OwnL.take (by repeat (first | exact Take.head _ | apply Take.tail)) | apply OwnL.drop))) rfl rfl rfl rfl rfl rfl (hN2.rdId (i := j) hjl rfl C9 rfl rfl) ?_
                        refine WD.one_yes 24 rfl (by kernel_rfl) rfl rfl rfl rfl ?_
                        refine OpW.call rfl rfl (by repeat (first | exact Evs.nil | apply Evs.cons rfl)) (by kernel_rfl) rfl rfl rfl ?_
                        refine anc_spec hG2 hcl hS ?_
                        refine ⟨(Held.mk' (by repeat (first | exact SubL.refl | refine SubL.cons (by repeat (first | assumption | exact mS | apply mT)) ?_ | refine SubL.skip ?_)) (by repeat (first | exact OwnL.refl | apply OwnL.take (by repeat (first | exact Take.head _ | apply Take.tail)) | apply OwnL.drop))), ?_⟩
                        refine WD.take 25 rfl (by kernel_rfl) (Held.mk' (by repeat (first | exact SubL.refl | refine SubL.cons (by repeat (first | assumption | exact mS | apply mT)) ?_ | refine SubL.skip ?_)) (by repeat (first | exact OwnL.refl | apply OwnL.take (by repeat (first | exact Take.head _ | apply Take.tail)) | apply OwnL.drop))) rfl rfl rfl (Rd.pick_t rfl rfl rfl) ?_
                        refine WD.take 26 rfl (by kernel_rfl) (Held.mk' (by repeat (first | exact SubL.refl | refine SubL.cons (by repeat (first | assumption | exact mS | apply mT)) ?_ | refine SubL.skip ?_)) (by repeat (first | exact OwnL.refl | apply OwnL.take (by repeat (first | exact Take.head _ | apply Take.tail)) | apply OwnL.drop))) rfl rfl rfl (Rd.move rfl rfl) ?_
                        refine WD.case 143 rfl (fun hg143 => ?_) (fun hg143 => ?_)
                        · skip
                          refine WD.take_yes 27 rfl (by kernel_rfl) (Held.mk' (by repeat (first | exact SubL.refl | refine SubL.cons (by repeat (first | assumption | exact mS | apply mT)) ?_ | refine SubL.skip ?_)) (by repeat (first | exact OwnL.refl | apply OwnL.take (by repeat (first | exact Take.head _ | apply Take.tail)) | apply OwnL.drop))) rfl rfl rfl rfl rfl rfl (Rd.move rfl rfl) ?_
                          refine WD.take_yes 28 rfl (by kernel_rfl) (Held.mk' (by repeat (first | exact SubL.refl | refine SubL.cons (by repeat (first | assumption | exact mS | apply mT)) ?_ | refine SubL.skip ?_)) (by repeat (first | exact OwnL.refl | apply OwnL.take (by repeat (first | exact Take.head _ | apply Take.tail)) | apply OwnL.drop))) rfl rfl rfl rfl rfl rfl (Rd.move rfl rfl) ?_
                          refine WD.take_yes 29 rfl (by kernel_rfl) (Held.mk' (by repeat (first | exact SubL.refl | refine SubL.cons (by repeat (first | assumption | exact mS | apply mT)) ?_ | refine SubL.skip ?_)) (by repeat (first | exact OwnL.refl | apply OwnL.take (by repeat (first | exact Take.head _ | apply Take.tail)) | apply OwnL.drop))) rfl rfl rfl rfl rfl rfl (Rd.move rfl rfl) ?_
                          refine WD.take_yes 30 rfl (by kernel_rfl) (Held.mk' (by repeat (first | exact SubL.refl | refine SubL.cons (by repeat (first | assumption | exact mS | apply mT)) ?_ | refine SubL.skip ?_)) (by repeat (first | exact OwnL.refl | apply OwnL.take (by repeat (first | exact Take.head _ | apply Take.tail)) | apply OwnL.drop))) rfl rfl rfl rfl rfl rfl (hN2.rdIdx (i := i) hil rfl S24 rfl rfl rfl) ?_
                          refine WD.take_yes 31 rfl (by kernel_rfl) (Held.mk' (by repeat (first | exact SubL.refl | refine SubL.cons (by repeat (first | assumption | exact mS | apply mT)) ?_ | refine SubL.skip ?_)) (by repeat (first | exact OwnL.refl | apply OwnL.take (by repeat (first | exact Take.head _ | apply Take.tail)) | apply OwnL.drop))) rfl rfl rfl rfl rfl rfl (Rd.fieldE rfl F30_0 rfl hN2.sl (by omega)) ?_
                          refine WD.take_yes 32 rfl (by kernel_rfl) (Held.mk' (by repeat (first | exact SubL.refl | refine SubL.cons (by repeat (first | assumption | exact mS | apply mT)) ?_ | refine SubL.skip ?_)) (by repeat (first | exact OwnL.refl | apply OwnL.take (by repeat (first | exact Take.head _ | apply Take.tail)) | apply OwnL.drop))) rfl rfl rfl rfl rfl rfl (hN2.rdId (i := i) hil rfl C9 rfl rfl) ?_
                          refine WD.take_yes 33 rfl (by kernel_rfl) (Held.mk' (by repeat (first | exact SubL.refl | refine SubL.cons (by repeat (first | assumption | exact mS | apply mT)) ?_ | refine SubL.skip ?_)) (by repeat (first | exact OwnL.refl | apply OwnL.take (by repeat (first | exact Take.head _ | apply Take.tail)) | apply OwnL.drop))) rfl rfl rfl rfl rfl rfl (Rd.move rfl rfl) ?_
                          refine WD.take_yes 34 rfl (by kernel_rfl) (Held.mk' (by repeat (first | exact SubL.refl | refine SubL.cons (by repeat (first | assumption | exact mS | apply mT)) ?_ | refine SubL.skip ?_)) (by repeat (first | exact OwnL.refl | apply OwnL.take (by repeat (first | exact Take.head _ | apply Take.tail)) | apply OwnL.drop))) rfl rfl rfl rfl rfl rfl (Rd.move rfl rfl) ?_
                          refine WD.take_yes 35 rfl (by kernel_rfl) (Held.mk' (by repeat (first | exact SubL.refl | refine SubL.cons (by repeat (first | assumption | exact mS | apply mT)) ?_ | refine SubL.skip ?_)) (by repeat (first | exact OwnL.refl | apply OwnL.take (by repeat (first | exact Take.head _ | apply Take.tail)) | apply OwnL.drop))) rfl rfl rfl rfl rfl rfl (hN2.rdIdx (i := j) hjl rfl S24 rfl rfl rfl) ?_
                          refine WD.take_yes 36 rfl (by kernel_rfl) (Held.mk' (by repeat (first | exact SubL.refl | refine SubL.cons (by repeat (first | assumption | exact mS | apply mT)) ?_ | refine SubL.skip ?_)) (by repeat (first | exact OwnL.refl | apply OwnL.take (by repeat (first | exact Take.head _ | apply Take.tail)) | apply OwnL.drop))) rfl rfl rfl rfl rfl rfl (Rd.fieldE rfl F30_0 rfl hN2.sl (by omega)) ?_
                          refine WD.take_yes 37 rfl (by kernel_rfl) (Held.mk' (by repeat (first | exact SubL.refl | refine SubL.cons (by repeat (first | assumption | exact mS | apply mT)) ?_ | refine SubL.skip ?_)) (by repeat (first | exact OwnL.refl | apply OwnL.take (by repeat (first | exact Take.head _ | apply Take.tail)) | apply OwnL.drop))) rfl rfl rfl rfl rfl rfl (hN2.rdId (i := j) hjl rfl C9 rfl rfl) ?_
                          refine WD.one_yes 38 rfl (by kernel_rfl) rfl rfl rfl rfl ?_
                          refine OpW.call rfl rfl (by repeat (first | exact Evs.nil | apply Evs.cons rfl)) (by kernel_rfl) rfl rfl rfl ?_
                          refine anc_spec hG2 hcl hS ?_
                          refine ⟨(Held.mk' (by repeat (first | exact SubL.refl | refine SubL.cons (by repeat (first | assumption | exact mS | apply mT)) ?_ | refine SubL.skip ?_)) (by repeat (first | exact OwnL.refl | apply OwnL.take (by repeat (first | exact Take.head _ | apply Take.tail)) | apply OwnL.drop))), ?_⟩
                          refine WD.say 155 (u := .bool (decide True)) rfl (vb ⟨fun _ => trivial, fun _ => come_trans hcl hg129 hg143⟩) ?_
                          refine WD.take_yes 39 rfl (by kernel_rfl) (Held.mk' (by repeat (first | exact SubL.refl | refine SubL.cons (by repeat (first | assumption | exact mS | apply mT)) ?_ | refine SubL.skip ?_)) (by repeat (first | exact OwnL.refl | apply OwnL.take (by repeat (first | exact Take.head _ | apply Take.tail)) | apply OwnL.drop))) rfl rfl rfl rfl rfl rfl ((by first | exact Rd.notd rfl rfl | exact Rd.not rfl rfl)) ?_
                          refine WD.take 40 rfl (by kernel_rfl) (Held.mk' (by repeat (first | exact SubL.refl | refine SubL.cons (by repeat (first | assumption | exact mS | apply mT)) ?_ | refine SubL.skip ?_)) (by repeat (first | exact OwnL.refl | apply OwnL.take (by repeat (first | exact Take.head _ | apply Take.tail)) | apply OwnL.drop))) rfl rfl rfl (Rd.pick_t rfl rfl rfl) ?_
                          refine WD.done (by kernel_rfl) ?_
                          refine thenQ.normal ?_
                          first | refine WC.ite rfl (fun hc9 => ?_) (fun hc9 => ?_) | refine WC.cond rfl (fun hc9 => ?_) (fun hc9 => ?_)
                          · skip
                            simp at hc9
                          · skip
                            refine WC.skip ?_
                            refine blockQ.normal ?_
                            refine thenQ.normal ?_
                            refine WC.region ?_
                            refine WL.rd rfl rfl rfl (Rd.move rfl rfl) ?_
                            refine WL.rd rfl rfl rfl (Rd.add rfl rfl rfl (by omega)) ?_
                            refine WL.rd rfl rfl rfl (Rd.assign rfl rfl) ?_
                            refine WL.nil ?_
                            exact loopQ1.mk (j + 1) (by omega) (by omega) (by repeat (first | exact Sub.nil | refine Sub.cons rfl (by first | rfl | (congr 1; omega) | assumption) ?_)) (fun w h => OwnL.sat (by repeat (first | exact OwnL.refl | apply OwnL.take (by repeat (first | exact Take.head _ | apply Take.tail)) | apply OwnL.drop)) w (h.thin (SubL.mem (by repeat (first | exact SubL.refl | refine SubL.cons (by repeat (first | assumption | exact mS | apply mT)) ?_ | refine SubL.skip ?_)))))
                        · skip
                          refine WD.take_no 27 rfl (by kernel_rfl) (Held.mk' (by repeat (first | exact SubL.refl | refine SubL.cons (by repeat (first | assumption | exact mS | apply mT)) ?_ | refine SubL.skip ?_)) (by repeat (first | exact OwnL.refl | apply OwnL.take (by repeat (first | exact Take.head _ | apply Take.tail)) | apply OwnL.drop))) rfl rfl rfl rfl rfl rfl ?_
                          refine WD.take_no 28 rfl (by kernel_rfl) (Held.mk' (by repeat (first | exact SubL.refl | refine SubL.cons (by repeat (first | assumption | exact mS | apply mT)) ?_ | refine SubL.skip ?_)) (by repeat (first | exact OwnL.refl | apply OwnL.take (by repeat (first | exact Take.head _ | apply Take.tail)) | apply OwnL.drop))) rfl rfl rfl rfl rfl rfl ?_
                          refine WD.take_no 29 rfl (by kernel_rfl) (Held.mk' (by repeat (first | exact SubL.refl | refine SubL.cons (by repeat (first | assumption | exact mS | apply mT)) ?_ | refine SubL.skip ?_)) (by repeat (first | exact OwnL.refl | apply OwnL.take (by repeat (first | exact Take.head _ | apply Take.tail)) | apply OwnL.drop))) rfl rfl rfl rfl rfl rfl ?_
                          refine WD.take_no 30 rfl (by kernel_rfl) (Held.mk' (by repeat (first | exact SubL.refl | refine SubL.cons (by repeat (first | assumption | exact mS | apply mT)) ?_ | refine SubL.skip ?_)) (by repeat (first | exact OwnL.refl | apply OwnL.take (by repeat (first | exact Take.head _ | apply Take.tail)) | apply OwnL.drop))) rfl rfl rfl rfl rfl rfl ?_
                          refine WD.take_no 31 rfl (by kernel_rfl) (Held.mk' (by repeat (first | exact SubL.refl | refine SubL.cons (by repeat (first | assumption | exact mS | apply mT)) ?_ | refine SubL.skip ?_)) (by repeat (first | exact OwnL.refl | apply OwnL.take (by repeat (first | exact Take.head _ | apply Take.tail)) | apply OwnL.drop))) rfl rfl rfl rfl rfl rfl ?_
                          refine WD.take_no 32 rfl (by kernel_rfl) (Held.mk' (by repeat (first | exact SubL.refl | refine SubL.cons (by repeat (first | assumption | exact mS | apply mT)) ?_ | refine SubL.skip ?_)) (by repeat (first | exact OwnL.refl | apply OwnL.take (by repeat (first | exact Take.head _ | apply Take.tail)) | apply OwnL.drop))) rfl rfl rfl rfl rfl rfl ?_
                          refine WD.take_no 33 rfl (by kernel_rfl) (Held.mk' (by repeat (first | exact SubL.refl | refine SubL.cons (by repeat (first | assumption | exact mS | apply mT)) ?_ | refine SubL.skip ?_)) (by repeat (first | exact OwnL.refl | apply OwnL.take (by repeat (first | exact Take.head _ | apply Take.tail)) | apply OwnL.drop))) rfl rfl rfl rfl rfl rfl ?_
                          refine WD.take_no 34 rfl (by kernel_rfl) (Held.mk' (by repeat (first | exact SubL.refl | refine SubL.cons (by repeat (first | assumption | exact mS | apply mT)) ?_ | refine SubL.skip ?_)) (by repeat (first | exact OwnL.refl | apply OwnL.take (by repeat (first | exact Take.head _ | apply Take.tail)) | apply OwnL.drop))) rfl rfl rfl rfl rfl rfl ?_
                          refine WD.take_no 35 rfl (by kernel_rfl) (Held.mk' (by repeat (first | exact SubL.refl | refine SubL.cons (by repeat (first | assumption | exact mS | apply mT)) ?_ | refine SubL.skip ?_)) (by repeat (first | exact OwnL.refl | apply OwnL.take (by repeat (first | exact Take.head _ | apply Take.tail)) | apply OwnL.drop))) rfl rfl rfl rfl rfl rfl ?_
                          refine WD.take_no 36 rfl (by kernel_rfl) (Held.mk' (by repeat (first | exact SubL.refl | refine SubL.cons (by repeat (first | assumption | exact mS | apply mT)) ?_ | refine SubL.skip ?_)) (by repeat (first | exact OwnL.refl | apply OwnL.take (by repeat (first | exact Take.head _ | apply Take.tail)) | apply OwnL.drop))) rfl rfl rfl rfl rfl rfl ?_
                          refine WD.take_no 37 rfl (by kernel_rfl) (Held.mk' (by repeat (first | exact SubL.refl | refine SubL.cons (by repeat (first | assumption | exact mS | apply mT)) ?_ | refine SubL.skip ?_)) (by repeat (first | exact OwnL.refl | apply OwnL.take (by repeat (first | exact Take.head _ | apply Take.tail)) | apply OwnL.drop))) rfl rfl rfl rfl rfl rfl ?_
                          refine WD.take_no 38 rfl (by kernel_rfl) (Held.mk' (by repeat (first | exact SubL.refl | refine SubL.cons (by repeat (first | assumption | exact mS | apply mT)) ?_ | refine SubL.skip ?_)) (by repeat (first | exact OwnL.refl | apply OwnL.take (by repeat (first | exact Take.head _ | apply Take.tail)) | apply OwnL.drop))) rfl rfl rfl rfl rfl rfl ?_
                          refine WD.take_no 39 rfl (by kernel_rfl) (Held.mk' (by repeat (first | exact SubL.refl | refine SubL.cons (by repeat (first | assumption | exact mS | apply mT)) ?_ | refine SubL.skip ?_)) (by repeat (first | exact OwnL.refl | apply OwnL.take (by repeat (first | exact Take.head _ | apply Take.tail)) | apply OwnL.drop))) rfl rfl rfl rfl rfl rfl ?_
                          refine WD.take 40 rfl (by kernel_rfl) (Held.mk' (by repeat (first | exact SubL.refl | refine SubL.cons (by repeat (first | assumption | exact mS | apply mT)) ?_ | refine SubL.skip ?_)) (by repeat (first | exact OwnL.refl | apply OwnL.take (by repeat (first | exact Take.head _ | apply Take.tail)) | apply OwnL.drop))) rfl rfl rfl (Rd.pick_f rfl rfl rfl) ?_
                          refine WD.done (by kernel_rfl) ?_
                          refine thenQ.normal ?_
                          refine WC.no rfl ?_
                          refine WC.skip ?_
                          refine blockQ.normal ?_
                          refine thenQ.normal ?_
                          refine WC.region ?_
                          refine WL.rd rfl rfl rfl (Rd.move rfl rfl) ?_
                          refine WL.rd rfl rfl rfl (Rd.add rfl rfl rfl (by omega)) ?_
                          refine WL.rd rfl rfl rfl (Rd.assign rfl rfl) ?_
                          refine WL.nil ?_
                          exact loopQ1.mk (j + 1) (by omega) (by omega) (by repeat (first | exact Sub.nil | refine Sub.cons rfl (by first | rfl | (congr 1; omega) | assumption) ?_)) (fun w h => OwnL.sat (by repeat (first | exact OwnL.refl | apply OwnL.take (by repeat (first | exact Take.head _ | apply Take.tail)) | apply OwnL.drop)) w (h.thin (SubL.mem (by repeat (first | exact SubL.refl | refine SubL.cons (by repeat (first | assumption | exact mS | apply mT)) ?_ | refine SubL.skip ?_)))))
                      · skip
                        refine WD.take_no 13 rfl (by kernel_rfl) (Held.mk' (by repeat (first | exact SubL.refl | refine SubL.cons (by repeat (first | assumption | exact mS | apply mT)) ?_ | refine SubL.skip ?_)) (by repeat (first | exact OwnL.refl | apply OwnL.take (by repeat (first | exact Take.head _ | apply Take.tail)) | apply OwnL.drop))) rfl rfl rfl rfl rfl rfl ?_
                        refine WD.take_no 14 rfl (by kernel_rfl) (Held.mk' (by repeat (first | exact SubL.refl | refine SubL.cons (by repeat (first | assumption | exact mS | apply mT)) ?_ | refine SubL.skip ?_)) (by repeat (first | exact OwnL.refl | apply OwnL.take (by repeat (first | exact Take.head _ | apply Take.tail)) | apply OwnL.drop))) rfl rfl rfl rfl rfl rfl ?_
                        refine WD.take_no 15 rfl (by kernel_rfl) (Held.mk' (by repeat (first | exact SubL.refl | refine SubL.cons (by repeat (first | assumption | exact mS | apply mT)) ?_ | refine SubL.skip ?_)) (by repeat (first | exact OwnL.refl | apply OwnL.take (by repeat (first | exact Take.head _ | apply Take.tail)) | apply OwnL.drop))) rfl rfl rfl rfl rfl rfl ?_
                        refine WD.take_no 16 rfl (by kernel_rfl) (Held.mk' (by repeat (first | exact SubL.refl | refine SubL.cons (by repeat (first | assumption | exact mS | apply mT)) ?_ | refine SubL.skip ?_)) (by repeat (first | exact OwnL.refl | apply OwnL.take (by repeat (first | exact Take.head _ | apply Take.tail)) | apply OwnL.drop))) rfl rfl rfl rfl rfl rfl ?_
                        refine WD.take_no 17 rfl (by kernel_rfl) (Held.mk' (by repeat (first | exact SubL.refl | refine SubL.cons (by repeat (first | assumption | exact mS | apply mT)) ?_ | refine SubL.skip ?_)) (by repeat (first | exact OwnL.refl | apply OwnL.take (by repeat (first | exact Take.head _ | apply Take.tail)) | apply OwnL.drop))) rfl rfl rfl rfl rfl rfl ?_
                        refine WD.take_no 18 rfl (by kernel_rfl) (Held.mk' (by repeat (first | exact SubL.refl | refine SubL.cons (by repeat (first | assumption | exact mS | apply mT)) ?_ | refine SubL.skip ?_)) (by repeat (first | exact OwnL.refl | apply OwnL.take (by repeat (first | exact Take.head _ | apply Take.tail)) | apply OwnL.drop))) rfl rfl rfl rfl rfl rfl ?_
                        refine WD.take_no 19 rfl (by kernel_rfl) (Held.mk' (by repeat (first | exact SubL.refl | refine SubL.cons (by repeat (first | assumption | exact mS | apply mT)) ?_ | refine SubL.skip ?_)) (by repeat (first | exact OwnL.refl | apply OwnL.take (by repeat (first | exact Take.head _ | apply Take.tail)) | apply OwnL.drop))) rfl rfl rfl rfl rfl rfl ?_
                        refine WD.take_no 20 rfl (by kernel_rfl) (Held.mk' (by repeat (first | exact SubL.refl | refine SubL.cons (by repeat (first | assumption | exact mS | apply mT)) ?_ | refine SubL.skip ?_)) (by repeat (first | exact OwnL.refl | apply OwnL.take (by repeat (first | exact Take.head _ | apply Take.tail)) | apply OwnL.drop))) rfl rfl rfl rfl rfl rfl ?_
                        refine WD.take_no 21 rfl (by kernel_rfl) (Held.mk' (by repeat (first | exact SubL.refl | refine SubL.cons (by repeat (first | assumption | exact mS | apply mT)) ?_ | refine SubL.skip ?_)) (by repeat (first | exact OwnL.refl | apply OwnL.take (by repeat (first | exact Take.head _ | apply Take.tail)) | apply OwnL.drop))) rfl rfl rfl rfl rfl rfl ?_
                        refine WD.take_no 22 rfl (by kernel_rfl) (Held.mk' (by repeat (first | exact SubL.refl | refine SubL.cons (by repeat (first | assumption | exact mS | apply mT)) ?_ | refine SubL.skip ?_)) (by repeat (first | exact OwnL.refl | apply OwnL.take (by repeat (first | exact Take.head _ | apply Take.tail)) | apply OwnL.drop))) rfl rfl rfl rfl rfl rfl ?_
                        refine WD.take_no 23 rfl (by kernel_rfl) (Held.mk' (by repeat (first | exact SubL.refl | refine SubL.cons (by repeat (first | assumption | exact mS | apply mT)) ?_ | refine SubL.skip ?_)) (by repeat (first | exact OwnL.refl | apply OwnL.take (by repeat (first | exact Take.head _ | apply Take.tail)) | apply OwnL.drop))) rfl rfl rfl rfl rfl rfl ?_
                        refine WD.take_no 24 rfl (by kernel_rfl) (Held.mk' (by repeat (first | exact SubL.refl | refine SubL.cons (by repeat (first | assumption | exact mS | apply mT)) ?_ | refine SubL.skip ?_)) (by repeat (first | exact OwnL.refl | apply OwnL.take (by repeat (first | exact Take.head _ | apply Take.tail)) | apply OwnL.drop))) rfl rfl rfl rfl rfl rfl ?_
                        refine WD.take 25 rfl (by kernel_rfl) (Held.mk' (by repeat (first | exact SubL.refl | refine SubL.cons (by repeat (first | assumption | exact mS | apply mT)) ?_ | refine SubL.skip ?_)) (by repeat (first | exact OwnL.refl | apply OwnL.take (by repeat (first | exact Take.head _ | apply Take.tail)) | apply OwnL.drop))) rfl rfl rfl (Rd.pick_f rfl rfl rfl) ?_
                        refine WD.take 26 rfl (by kernel_rfl) (Held.mk' (by repeat (first | exact SubL.refl | refine SubL.cons (by repeat (first | assumption | exact mS | apply mT)) ?_ | refine SubL.skip ?_)) (by repeat (first | exact OwnL.refl | apply OwnL.take (by repeat (first | exact Take.head _ | apply Take.tail)) | apply OwnL.drop))) rfl rfl rfl (Rd.move rfl rfl) ?_
                        refine WD.take_no 27 rfl (by kernel_rfl) (Held.mk' (by repeat (first | exact SubL.refl | refine SubL.cons (by repeat (first | assumption | exact mS | apply mT)) ?_ | refine SubL.skip ?_)) (by repeat (first | exact OwnL.refl | apply OwnL.take (by repeat (first | exact Take.head _ | apply Take.tail)) | apply OwnL.drop))) rfl rfl rfl rfl rfl rfl ?_
                        refine WD.take_no 28 rfl (by kernel_rfl) (Held.mk' (by repeat (first | exact SubL.refl | refine SubL.cons (by repeat (first | assumption | exact mS | apply mT)) ?_ | refine SubL.skip ?_)) (by repeat (first | exact OwnL.refl | apply OwnL.take (by repeat (first | exact Take.head _ | apply Take.tail)) | apply OwnL.drop))) rfl rfl rfl rfl rfl rfl ?_
                        refine WD.take_no 29 rfl (by kernel_rfl) (Held.mk' (by repeat (first | exact SubL.refl | refine SubL.cons (by repeat (first | assumption | exact mS | apply mT)) ?_ | refine SubL.skip ?_)) (by repeat (first | exact OwnL.refl | apply OwnL.take (by repeat (first | exact Take.head _ | apply Take.tail)) | apply OwnL.drop))) rfl rfl rfl rfl rfl rfl ?_
                        refine WD.take_no 30 rfl (by kernel_rfl) (Held.mk' (by repeat (first | exact SubL.refl | refine SubL.cons (by repeat (first | assumption | exact mS | apply mT)) ?_ | refine SubL.skip ?_)) (by repeat (first | exact OwnL.refl | apply OwnL.take (by repeat (first | exact Take.head _ | apply Take.tail)) | apply OwnL.drop))) rfl rfl rfl rfl rfl rfl ?_
                        refine WD.take_no 31 rfl (by kernel_rfl) (Held.mk' (by repeat (first | exact SubL.refl | refine SubL.cons (by repeat (first | assumption | exact mS | apply mT)) ?_ | refine SubL.skip ?_)) (by repeat (first | exact OwnL.refl | apply OwnL.take (by repeat (first | exact Take.head _ | apply Take.tail)) | apply OwnL.drop))) rfl rfl rfl rfl rfl rfl ?_
                        refine WD.take_no 32 rfl (by kernel_rfl) (Held.mk' (by repeat (first | exact SubL.refl | refine SubL.cons (by repeat (first | assumption | exact mS | apply mT)) ?_ | refine SubL.skip ?_)) (by repeat (first | exact OwnL.refl | apply OwnL.take (by repeat (first | exact Take.head _ | apply Take.tail)) | apply OwnL.drop))) rfl rfl rfl rfl rfl rfl ?_
                        refine WD.take_no 33 rfl (by kernel_rfl) (Held.mk' (by repeat (first | exact SubL.refl | refine SubL.cons (by repeat (first | assumption | exact mS | apply mT)) ?_ | refine SubL.skip ?_)) (by repeat (first | exact OwnL.refl | apply OwnL.take (by repeat (first | exact Take.head _ | apply Take.tail)) | apply OwnL.drop))) rfl rfl rfl rfl rfl rfl ?_
                        refine WD.take_no 34 rfl (by kernel_rfl) (Held.mk' (by repeat (first | exact SubL.refl | refine SubL.cons (by repeat (first | assumption | exact mS | apply mT)) ?_ | refine SubL.skip ?_)) (by repeat (first | exact OwnL.refl | apply OwnL.take (by repeat (first | exact Take.head _ | apply Take.tail)) | apply OwnL.drop))) rfl rfl rfl rfl rfl rfl ?_
                        refine WD.take_no 35 rfl (by kernel_rfl) (Held.mk' (by repeat (first | exact SubL.refl | refine SubL.cons (by repeat (first | assumption | exact mS | apply mT)) ?_ | refine SubL.skip ?_)) (by repeat (first | exact OwnL.refl | apply OwnL.take (by repeat (first | exact Take.head _ | apply Take.tail)) | apply OwnL.drop))) rfl rfl rfl rfl rfl rfl ?_
                        refine WD.take_no 36 rfl (by kernel_rfl) (Held.mk' (by repeat (first | exact SubL.refl | refine SubL.cons (by repeat (first | assumption | exact mS | apply mT)) ?_ | refine SubL.skip ?_)) (by repeat (first | exact OwnL.refl | apply OwnL.take (by repeat (first | exact Take.head _ | apply Take.tail)) | apply OwnL.drop))) rfl rfl rfl rfl rfl rfl ?_
                        refine WD.take_no 37 rfl (by kernel_rfl) (Held.mk' (by repeat (first | exact SubL.refl | refine SubL.cons (by repeat (first | assumption | exact mS | apply mT)) ?_ | refine SubL.skip ?_)) (by repeat (first | exact OwnL.refl | apply OwnL.take (by repeat (first | exact Take.head _ | apply Take.tail)) | apply OwnL.drop))) rfl rfl rfl rfl rfl rfl ?_
                        refine WD.take_no 38 rfl (by kernel_rfl) (Held.mk' (by repeat (first | exact SubL.refl | refine SubL.cons (by repeat (first | assumption | exact mS | apply mT)) ?_ | refine SubL.skip ?_)) (by repeat (first | exact OwnL.refl | apply OwnL.take (by repeat (first | exact Take.head _ | apply Take.tail)) | apply OwnL.drop))) rfl rfl rfl rfl rfl rfl ?_
                        refine WD.take_no 39 rfl (by kernel_rfl) (Held.mk' (by repeat (first | exact SubL.refl | refine SubL.cons (by repeat (first | assumption | exact mS | apply mT)) ?_ | refine SubL.skip ?_)) (by repeat (first | exact OwnL.refl | apply OwnL.take (by repeat (first | exact Take.head _ | apply Take.tail)) | apply OwnL.drop))) rfl rfl rfl rfl rfl rfl ?_
                        refine WD.take 40 rfl (by kernel_rfl) (Held.mk' (by repeat (first | exact SubL.refl | refine SubL.cons (by repeat (first | assumption | exact mS | apply mT)) ?_ | refine SubL.skip ?_)) (by repeat (first | exact OwnL.refl | apply OwnL.take (by repeat (first | exact Take.head _ | apply Take.tail)) | apply OwnL.drop))) rfl rfl rfl (Rd.pick_f rfl rfl rfl) ?_
                        refine WD.done (by kernel_rfl) ?_
                        refine thenQ.normal ?_
                        refine WC.no rfl ?_
                        refine WC.skip ?_
                        refine blockQ.normal ?_
                        refine thenQ.normal ?_
                        refine WC.region ?_
                        refine WL.rd rfl rfl rfl (Rd.move rfl rfl) ?_
                        refine WL.rd rfl rfl rfl (Rd.add rfl rfl rfl (by omega)) ?_
                        refine WL.rd rfl rfl rfl (Rd.assign rfl rfl) ?_
                        refine WL.nil ?_
                        exact loopQ1.mk (j + 1) (by omega) (by omega) (by repeat (first | exact Sub.nil | refine Sub.cons rfl (by first | rfl | (congr 1; omega) | assumption) ?_)) (fun w h => OwnL.sat (by repeat (first | exact OwnL.refl | apply OwnL.take (by repeat (first | exact Take.head _ | apply Take.tail)) | apply OwnL.drop)) w (h.thin (SubL.mem (by repeat (first | exact SubL.refl | refine SubL.cons (by repeat (first | assumption | exact mS | apply mT)) ?_ | refine SubL.skip ?_)))))
                    · skip
                      refine WC.exit ?_
                      refine thenQ.exit ?_
                      refine loopQ1.exit ?_
                      refine blockQ.exit ?_
                      refine blockQ.normal ?_
                      refine thenQ.normal ?_
                      refine WC.region ?_
                      refine WL.rd rfl rfl rfl (Rd.move rfl rfl) ?_
                      refine WL.rd rfl rfl rfl (Rd.add rfl rfl rfl (by omega)) ?_
                      refine WL.rd rfl rfl rfl (Rd.assign rfl rfl) ?_
                      refine WL.nil ?_
                      exact loopQ1.mk (k3 + 1) (by omega) (by omega) (by repeat (first | exact Sub.nil | refine Sub.cons rfl (by first | rfl | (congr 1; omega) | assumption) ?_)) (fun w h => OwnL.sat (by repeat (first | exact OwnL.refl | apply OwnL.take (by repeat (first | exact Take.head _ | apply Take.tail)) | apply OwnL.drop)) w (h.thin (SubL.mem (by repeat (first | exact SubL.refl | refine SubL.cons (by repeat (first | assumption | exact mS | apply mT)) ?_ | refine SubL.skip ?_)))))
                · skip
                  refine WC.exit ?_
                  refine thenQ.exit ?_
                  refine loopQ1.exit ?_
                  refine blockQ.exit ?_
                  refine blockQ.normal ?_
                  refine thenQ.normal ?_
                  refine WC.region ?_
                  refine WL.rd rfl rfl rfl (Rd.move rfl rfl) ?_
                  refine WL.rd rfl rfl rfl (Rd.add rfl rfl rfl (by omega)) ?_
                  refine WL.rd rfl rfl rfl (Rd.assign rfl rfl) ?_
                  refine WL.nil ?_
                  exact loopQ1.mk (i + 1) (by omega) (by omega) (by repeat (first | exact Sub.nil | refine Sub.cons rfl (by first | rfl | (congr 1; omega) | assumption) ?_)) (fun w h => OwnL.sat (by repeat (first | exact OwnL.refl | apply OwnL.take (by repeat (first | exact Take.head _ | apply Take.tail)) | apply OwnL.drop)) w (h.thin (SubL.mem (by repeat (first | exact SubL.refl | refine SubL.cons (by repeat (first | assumption | exact mS | apply mT)) ?_ | refine SubL.skip ?_)))))
        · skip
          refine WC.exit ?_
          refine thenQ.exit ?_
          refine loopQ1.exit ?_
          refine blockQ.exit ?_
          refine thenQ.normal ?_
          refine WC.seq ?_
          refine WC.region ?_
          refine WL.rd rfl rfl rfl (Rd.assign rfl rfl) ?_
          refine WL.nil ?_
          refine thenQ.normal ?_
          refine WC.heap (R' := R) (O' := O) (fun w h => h.thin (fun p hp => by repeat (first | exact hp | apply List.mem_cons_of_mem))) ?_
          refine WC.ret (Ret.one Try.results8 rfl ?_)
          exact hk
end
end Go.Proofs.Ytfenbhaehkkkeaa
