/-
  Layer 18: GraphOrder.
-/
import Derived.Test.YtfenbhaehkkkeaaGr21
namespace Go.Proofs.Ytfenbhaehkkkeaa
open Go Go.SL
/-! ### the nodes in another order -/
structure PEq (G H : PG) : Prop where
  ks : ∀ x, x ∈ G.ks ↔ x ∈ H.ks
  pars : G.pars = H.pars
  time : G.time = H.time
theorem PEq.path {G H : PG} (h : PEq G H) {x y : T} (p : Path G x y) : Path H x y := by
  induction p with
  | refl => exact .refl _
  | step hx hp _ ih => exact .step ((h.ks _).1 hx) (by rw [← h.pars]; exact hp) ih
theorem PEq.symm {G H : PG} (h : PEq G H) : PEq H G := ⟨fun x => (h.ks x).symm, h.pars.symm, h.time.symm⟩
theorem PEq.come {G H : PG} (h : PEq G H) {fs : List T} {y : T} : Come G fs y ↔ Come H fs y :=
  ⟨fun ⟨f, h1, h2, h3⟩ => ⟨f, h1, (h.ks f).1 h2, h.path h3⟩, fun ⟨f, h1, h2, h3⟩ => ⟨f, h1, (h.ks f).2 h2, h.symm.path h3⟩⟩
theorem PEq.closed {G H : PG} (h : PEq G H) (hc : Closed G) : Closed H := fun x hx p hp => (h.ks p).1 (hc x ((h.ks x).2 hx) p (by rw [h.pars]; exact hp))
theorem PEq.cyc {G H : PG} (h : PEq G H) {z : T} (hz : Cyc H z) : Cyc G z := by
  obtain ⟨h1, p, h2, h3⟩ := hz
  exact ⟨(h.ks z).2 h1, p, by rw [h.pars]; exact h2, h.symm.path h3⟩
theorem PEq.free {G H : PG} (h : PEq G H) {A B : T → Prop} (ha : ∀ x, A x ↔ B x) {d : List T} {x : T} : Free G A d x ↔ Free H B d x := by
  unfold Free
  rw [h.pars]
  constructor
  · rintro ⟨h1, h2, h3⟩; exact ⟨(ha x).1 h1, h2, fun c hc => h3 c ((ha c).2 hc)⟩
  · rintro ⟨h1, h2, h3⟩; exact ⟨(ha x).2 h1, h2, fun c hc => h3 c ((ha c).1 hc)⟩
theorem PEq.kahn {G H : PG} (h : PEq G H) {A B : T → Prop} (ha : ∀ x, A x ↔ B x) {d o : List T} (k : Kahn G A d o) : Kahn H B d o := by
  induction k with
  | stop hn => exact .stop fun x hx => hn x ((h.free ha).2 hx)
  | step hf _ ih =>
    refine .step ⟨(h.free ha).1 hf.1, fun y hy => ?_⟩ ih
    rcases hf.2 y ((h.free ha).2 hy) with e | g
    · exact .inl e
    · refine .inr ?_
      unfold Ahead at *
      rw [← h.time]; exact g
theorem rev_get {α : Type} [Inhabited α] {l : List α} {i : Nat} (hi : i < l.length) : l.reverse[i]! = l[l.length - 1 - i]! := by
  rw [getElem!_pos l.reverse i (by rw [List.length_reverse]; exact hi), List.getElem_reverse, ← getElem!_pos l _ (by omega)]
theorem ids_rev {L : List Nd} : ids L.reverse = (ids L).reverse := by unfold ids; rw [List.map_reverse]
theorem nodup_rev {L : List Nd} (hn : (ids L).Nodup) : (ids L.reverse).Nodup := by rw [ids_rev]; exact (List.reverse_perm _).nodup_iff.2 hn
theorem ndOf_rev {L : List Nd} (hn : (ids L).Nodup) (x : T) : ndOf L.reverse x = ndOf L x := by
  by_cases h : x ∈ ids L
  · obtain ⟨i, hi, rfl⟩ := mem_ids.1 h
    have h2 := ndOf_get (L := L.reverse) (i := L.length - 1 - i) (nodup_rev hn) (by rw [List.length_reverse]; omega)
    rw [rev_get (by omega), show L.length - 1 - (L.length - 1 - i) = i from by omega] at h2
    rw [h2, ndOf_get hn hi]
  · rw [ndOf_not h, ndOf_not (by rw [ids_rev, List.mem_reverse]; exact h)]
theorem rev_peq {L : List Nd} (hn : (ids L).Nodup) : PEq (gOf L) (gOf L.reverse) := by
  refine ⟨fun x => ?_, ?_, ?_⟩
  · show x ∈ ids L ↔ x ∈ ids L.reverse
    rw [ids_rev, List.mem_reverse]
  · funext x
    show cs (ndOf L x).2.1 = cs (ndOf L.reverse x).2.1
    rw [ndOf_rev hn]
  · funext x
    show (ndOf L x).2.2 = (ndOf L.reverse x).2.2
    rw [ndOf_rev hn]
theorem ndsP_rev {na : List Nv} {L : List Nd} {w : World} (hl : na.length = L.length) (h : ndsP na L w) : ndsP na.reverse L.reverse w := by
  intro i hi
  rw [List.length_reverse] at hi
  rw [rev_get (by omega), rev_get hi, hl]
  exact h _ (by omega)
theorem NLs.rev {v : Value} {L : List Nd} {R : List RO} {na : List Nv} (hl : na.length = L.length) (hid : ∀ i, i < L.length → na[i]!.1 = L[i]!.1 ∧ na[i]!.2.2 = L[i]!.2.2) (h1 : SlE encN v na.reverse ∈ R) (h2 : ndsP na.reverse L.reverse ∈ R) : NLs v L.reverse R na.reverse := by
  refine ⟨h1, h2, by rw [List.length_reverse, List.length_reverse, hl], fun i hi => ?_⟩
  rw [List.length_reverse] at hi
  rw [rev_get (by omega), rev_get hi, hl]
  exact hid _ (by omega)
section
variable {R : List RO} {O O' : List Own} {POST : Value → List RO → List Own → Prop}
theorem newFine_spec {v : Value} {L : List Nd} (hL : NdL v L R) (hn : (ids L).Nodup) (hc : Closed (gOf L)) (hz : ∀ z, ¬ Cyc (gOf L) z) (h1 : L.length ≤ 1000) (h2 : ∀ n ∈ L, n.2.1.length ≤ 100)
    (hk : ∀ gv p1 p2 p3, OneV gv → GV gv (gOf L) (p1 :: p2 :: p3 :: R) → POST (.tuple #[gv, vi 0]) (p1 :: p2 :: p3 :: R) O) : Fun Try.prog 11 #[v] R O POST :=
  new_spec hL h1 h2 (fun e he => by
    cases he with
    | dup g => exact absurd hn g
    | lost _ g => exact absurd hc g
    | round _ _ z g => exact absurd g (hz z)) (fun gv p1 p2 p3 _ _ _ h4 _ h5 => hk gv p1 p2 p3 h4 h5)
set_option maxRecDepth 20000 in
set_option maxHeartbeats 4000000 in
theorem order_spec {lv frv : Value} {qs : List Qn} {frm : List Int} (hl : SlE encQ lv qs ∈ R) (hq : AllQ QQ qs ∈ R) (hf : SlE (SL.one vi) frv frm ∈ R) (hk : POST (.bool true) R O) :
    Fun Try.prog 6 #[lv, frv] R O POST := by
  refine Fun.len hf fun hfl => ?_
  obtain ⟨L, hL⟩ : ∃ L, mk true qs = L := ⟨_, rfl⟩
  have hn := mk_nodup true qs
  have hbk := mk_back qs
  have hle := mk_len true qs
  have hsm := mk_small true qs
  rw [hL] at hn hbk hle hsm
  have hcl := hbk.closed hn
  have hcy := hbk.free hn
  have hS : Small (gOf L) := gOf_small (by omega) hsm
  have hpe := rev_peq hn
  have hsm2 : ∀ n ∈ L.reverse, n.2.1.length ≤ 100 := fun n h => hsm n (List.mem_reverse.1 h)
  have hlr : L.reverse.length = L.length := List.length_reverse
  have hS2 : Small (gOf L.reverse) := gOf_small (by omega) hsm2
  refine Fun.enter (l := [_, _]) Try.func6 rfl Try.ntmps6 rfl (L0 := [(0, _), (1, _)]) rfl ?_
  refine WC.seq ?_
  refine WC.region ?_
  refine WL.rd rfl rfl rfl (Rd.assign rfl rfl) ?_
  refine WL.nil ?_
  refine thenQ.normal ?_
  refine WC.seq ?_
  refine WC.seq ?_
  refine WC.region ?_
  refine WL.op rfl ?_
  refine OpW.call rfl rfl (by repeat (first | exact Evs.nil | apply Evs.cons rfl)) (by kernel_rfl) rfl rfl rfl ?_
  refine speaks_spec ?_
  refine WL.say 19 (u := .bool (decide True)) rfl (by simp) ?_
  refine WL.rd rfl rfl rfl ((by first | exact Rd.notd rfl rfl | exact Rd.not rfl rfl)) ?_
  refine WL.nil ?_
  refine thenQ.normal ?_
  first | refine WC.ite rfl (fun hc1 => ?_) (fun hc1 => ?_) | refine WC.cond rfl (fun hc1 => ?_) (fun hc1 => ?_)
  · skip
    exact absurd trivial hc1
  · skip
    refine WC.skip ?_
    refine thenQ.normal ?_
    refine WC.seq ?_
    refine WC.region ?_
    refine WL.rd rfl rfl rfl (Rd.move rfl rfl) ?_
    refine WL.op rfl ?_
    refine OpW.call rfl rfl (by repeat (first | exact Evs.nil | apply Evs.cons rfl)) (by kernel_rfl) rfl rfl rfl ?_
    refine nodes_spec (back := true) hl hq ?_; intro av bv na nb ha hb
    refine WL.rd rfl rfl rfl (Rd.move rfl rfl) ?_
    refine WL.rd rfl rfl rfl (Rd.extract rfl rfl rfl) ?_
    refine WL.rd rfl rfl rfl (Rd.extract rfl rfl rfl) ?_
    refine WL.rd rfl rfl rfl (Rd.assign rfl rfl) ?_
    refine WL.rd rfl rfl rfl (Rd.assign rfl rfl) ?_
    refine WL.nil ?_
    refine thenQ.normal ?_
    refine WC.seq ?_
    have hNa0 := fun R' v h1 h2 => (ha.nls (back := true) (R := R') (v := v) h1 h2)
    rw [hL] at hNa0
    refine WC.heap (R' := SlE encN av na :: ndsP na L :: ndsP nb L :: R) (O' := O) (fun w h => by
      rw [hL] at h
      have h3 := Sat.shareA (xs := na) (by repeat (first | assumption | exact Take.head _ | apply Take.tail)) h
      exact OwnL.sat (by repeat (first | exact OwnL.refl | apply OwnL.take (by repeat (first | exact Take.head _ | apply Take.tail)) | apply OwnL.drop)) w h3) ?_
    have hNa := hNa0 (SlE encN av na :: ndsP na L :: ndsP nb L :: R) av (by simp) (by simp)
    have hnl := hNa.len
    refine WC.region ?_
    refine WL.rd rfl rfl rfl (Rd.move rfl rfl) ?_
    refine WL.op rfl ?_
    refine OpW.call rfl rfl (by repeat (first | exact Evs.nil | apply Evs.cons rfl)) (by kernel_rfl) rfl rfl rfl ?_
    refine newOk_spec ⟨na, hNa⟩ hn hbk (by omega) hsm ?_; intro gv p1 p2 p3 hone hG
    refine WL.rd rfl rfl rfl (Rd.move rfl rfl) ?_
    refine WL.rd rfl rfl rfl (Rd.extract rfl rfl rfl) ?_
    refine WL.rd rfl rfl rfl (Rd.extract rfl rfl rfl) ?_
    refine WL.rd rfl rfl rfl (Rd.assign rfl rfl) ?_
    refine WL.rd rfl rfl rfl (Rd.assign rfl rfl) ?_
    refine WL.nil ?_
    refine thenQ.normal ?_
    refine WC.seq ?_
    refine WC.region ?_
    refine WL.rd rfl rfl rfl (Rd.assign rfl rfl) ?_
    refine WL.nil ?_
    refine thenQ.normal ?_
    refine WC.seq ?_
    refine WC.seq ?_
    refine WC.heap (fun w h => Sat.accNil (e := 30) (size := 3) (enc := encN) h) ?_
    have hN2 : NLs av L (p1 :: p2 :: p3 :: SlE encN av na :: ndsP na L :: ndsP nb L :: R) na := hNa.mono fun p hp => (by repeat (first | exact hp | apply List.mem_cons_of_mem))
    refine WC.region ?_
    refine WL.rd rfl rfl rfl (Rd.move rfl rfl) ?_
    refine WL.rd rfl rfl rfl (hN2.rdLen rfl rfl Try.underlying24) ?_
    refine WL.rd rfl rfl rfl (Rd.sub rfl rfl rfl (by omega)) ?_
    refine WL.rd rfl rfl rfl (Rd.assign rfl rfl) ?_
    refine WL.nil ?_
    refine thenQ.normal ?_
    refine WC.block ?_
    refine WC.pick [10, 9, 1, 5, 7] (by repeat (first | exact Pick.nil | apply Pick.cons rfl)) ?_
    refine WC.loop2 2 (fun (n : Nat) (cv : Value) => [(10, vi ((n : Int) - 1)), (9, cv)]) (fun (n : Nat) (cv : Value) => accC 30 3 encN cv (na.drop n).reverse :: O) (fun (n : Nat) (cv : Value) => n ≤ L.length) (fun (n : Nat) (cv : Value) => n) (L.length) (nilS) (by repeat (first | exact Split.zero | apply Split.succ)) ?hinv1 (by repeat (first | exact Sub.nil | refine Sub.cons rfl (by first | rfl | (congr 1; omega) | assumption) ?_)) (fun w h => by rw [List.drop_of_length_le (by omega)]; exact (fun w h => OwnL.sat (by repeat (first | exact OwnL.refl | apply OwnL.take (by repeat (first | exact Take.head _ | apply Take.tail)) | apply OwnL.drop)) w (h.thin (SubL.mem (by repeat (first | exact SubL.refl | refine SubL.cons (by repeat (first | assumption | exact mS | apply mT)) ?_ | refine SubL.skip ?_))))) w h) ?_
    case hinv1 =>
      exact Nat.le_refl _
    intro n cv
    rintro i1
    refine WC.seq ?_
    refine WC.seq ?_
    refine WC.region ?_
    refine WL.rd rfl rfl rfl (Rd.move rfl rfl) ?_
    refine WL.rd rfl rfl rfl (Rd.geq rfl rfl rfl) ?_
    refine WL.nil ?_
    refine thenQ.normal ?_
    first | refine WC.ite rfl (fun hc2 => ?_) (fun hc2 => ?_) | refine WC.cond rfl (fun hc2 => ?_) (fun hc2 => ?_)
    · skip
      have hrl : (na.drop n).reverse.length ≤ 16 := by rw [List.length_reverse, List.length_drop]; omega
      have hroom : Room ((na.drop n).reverse.length + 1) 48 := room1 (by omega)
      have hdg : (na.drop (n - 1)).reverse = (na.drop n).reverse ++ [na[n - 1]!] := by
        rw [drop_get (l := na) (j := n - 1) (by omega), List.reverse_cons, show n - 1 + 1 = n from by omega]
      refine WC.skip ?_
      refine thenQ.normal ?_
      refine WC.seq ?_
      refine WC.block ?_
      refine WC.region ?_
      refine WL.rd rfl rfl rfl (Rd.move rfl rfl) ?_
      refine WL.rd rfl rfl rfl (Rd.move rfl rfl) ?_
      refine WL.rd rfl rfl rfl (Rd.move rfl rfl) ?_
      refine WL.rd rfl rfl rfl (Rd.idx (enc := encN) (xs := na) (size := 3) (k := n - 1) rfl S24 rfl rfl (by omega) hN2.sl (by omega)) ?_
      refine WL.rd rfl rfl rfl (Rd.getS (enc := encN) (size := 3) (xs := na) (k := n - 1) (a := na[n - 1]!) (cs := encN na[n - 1]!) rfl G30 rfl hN2.sl (fun x => rfl) (get!_of_lt (by omega)) (NF.refl _)) ?_
      refine WL.op rfl ?_
      refine OpW.buildSl (ps := [(0, _)]) rfl S24 (by repeat (first | exact Evs.nil | apply Evs.cons rfl)) rfl rfl (by repeat (first | exact CellsOf.nil | apply CellsOf.cons rfl)) (by kernel_rfl) rfl rfl rfl ?_; intro b43
      refine WL.op rfl ?_
      refine OpW.appendRow (enc := encN) rfl S24 rfl rfl (by repeat (first | assumption | exact Take.head _ | apply Take.tail)) (by repeat (first | assumption | exact Take.head _ | apply Take.tail)) [na[n - 1]!] rfl (by rfl) rfl (by intro x; first | rfl | (cases x; rfl) | (rcases x with ⟨_, _, _⟩; rfl) | (rcases x with ⟨_, _, _, _⟩; rfl)) (by intro x; first | rfl | (cases x; rfl) | (rcases x with ⟨_, _, _⟩; rfl) | (rcases x with ⟨_, _, _, _⟩; rfl)) (by first | assumption | exact ⟨by simp only [maxLen, List.length_append, List.length_nil, List.length_cons, List.length_drop, List.length_take, List.length_map]; omega, by first | omega | (simp only [List.length_append, List.length_nil, List.length_cons, List.length_drop, List.length_take, List.length_map]; omega)⟩) rfl rfl ?_; intro v44 hv44
      refine WL.rd rfl rfl rfl (Rd.assign rfl rfl) ?_
      refine WL.nil ?_
      refine blockQ.normal ?_
      refine thenQ.normal ?_
      refine WC.region ?_
      refine WL.rd rfl rfl rfl (Rd.move rfl rfl) ?_
      refine WL.rd rfl rfl rfl (Rd.sub rfl rfl rfl (by omega)) ?_
      refine WL.rd rfl rfl rfl (Rd.assign rfl rfl) ?_
      refine WL.nil ?_
      exact loopQ2.mk (n - 1) v44 (by omega) (by omega) (by repeat (first | exact Sub.nil | refine Sub.cons rfl (by first | rfl | (congr 1; omega) | assumption) ?_)) (fun w h => by rw [hdg]; exact (fun w h => OwnL.sat (by repeat (first | exact OwnL.refl | apply OwnL.take (by repeat (first | exact Take.head _ | apply Take.tail)) | apply OwnL.drop)) w (h.thin (SubL.mem (by repeat (first | exact SubL.refl | refine SubL.cons (by repeat (first | assumption | exact mS | apply mT)) ?_ | refine SubL.skip ?_))))) w h)
    · skip
      obtain rfl : n = 0 := by omega
      refine WC.heap (R' := SlE encN cv na.reverse :: ndsP na.reverse L.reverse :: p1 :: p2 :: p3 :: SlE encN av na :: ndsP na L :: ndsP nb L :: R) (O' := O) (fun w h => by
        have h2 := h.derive (q := ndsP na.reverse L.reverse) (fun w hw => ndsP_rev hnl (hw (ndsP na L) (by repeat (first | assumption | exact mS | apply mT))))
        have h3 := Sat.shareA (xs := (na.drop 0).reverse) (by repeat (first | assumption | exact Take.head _ | apply Take.tail)) h2
        exact h3) ?_
      have hNr : NLs cv L.reverse (SlE encN cv na.reverse :: ndsP na.reverse L.reverse :: p1 :: p2 :: p3 :: SlE encN av na :: ndsP na L :: ndsP nb L :: R) na.reverse := NLs.rev hnl hNa.id (by simp) (by simp)
      refine WC.exit ?_
      refine thenQ.exit ?_
      refine loopQ2.exit ?_
      refine blockQ.exit ?_
      refine thenQ.normal ?_
      refine WC.seq ?_
      refine WC.region ?_
      refine WL.rd rfl rfl rfl (Rd.move rfl rfl) ?_
      refine WL.op rfl ?_
      refine OpW.call rfl rfl (by repeat (first | exact Evs.nil | apply Evs.cons rfl)) (by kernel_rfl) rfl rfl rfl ?_
      refine newFine_spec ⟨na.reverse, hNr⟩ (nodup_rev hn) (hpe.closed hcl) (fun z hz => hcy z (hpe.cyc hz)) (by omega) hsm2 ?_; intro hv q1 q2 q3 hone2 hH
      refine WL.rd rfl rfl rfl (Rd.move rfl rfl) ?_
      refine WL.rd rfl rfl rfl (Rd.extract rfl rfl rfl) ?_
      refine WL.rd rfl rfl rfl (Rd.extract rfl rfl rfl) ?_
      refine WL.rd rfl rfl rfl (Rd.assign rfl rfl) ?_
      refine WL.rd rfl rfl rfl (Rd.assign rfl rfl) ?_
      refine WL.nil ?_
      refine thenQ.normal ?_
      refine WC.seq ?_
      refine WC.region ?_
      refine WL.rd rfl rfl rfl (Rd.assign rfl rfl) ?_
      refine WL.nil ?_
      refine thenQ.normal ?_
      refine WC.seq ?_
      refine WC.seq ?_
      refine WC.heap (fun w h => Sat.accNil (e := 9) (size := 1) (enc := SL.one vs) h) ?_
      refine WC.region ?_
      refine WL.rd rfl rfl rfl (Rd.assign rfl rfl) ?_
      refine WL.nil ?_
      refine thenQ.normal ?_
      refine WC.block ?_
      refine WC.pick [14, 13, 1, 7, 11, 12] (by repeat (first | exact Pick.nil | apply Pick.cons rfl)) ?_
      refine WC.loop2 2 (fun (i : Nat) (sv : Value) => [(14, vi i), (13, sv)]) (fun (i : Nat) (sv : Value) => accT sv (pks i frm) :: O) (fun (i : Nat) (sv : Value) => i ≤ min frm.length 6) (fun (i : Nat) (sv : Value) => 6 - i) (0) (nilS) (by repeat (first | exact Split.zero | apply Split.succ)) ?hinv2 (by repeat (first | exact Sub.nil | refine Sub.cons rfl (by first | rfl | (congr 1; omega) | assumption) ?_)) (fun w h => by rw [pks_zero]; exact (fun w h => OwnL.sat (by repeat (first | exact OwnL.refl | apply OwnL.take (by repeat (first | exact Take.head _ | apply Take.tail)) | apply OwnL.drop)) w (h.thin (SubL.mem (by repeat (first | exact SubL.refl | refine SubL.cons (by repeat (first | assumption | exact mS | apply mT)) ?_ | refine SubL.skip ?_))))) w h) ?_
      case hinv2 =>
        exact Nat.zero_le _
      intro i sv
      rintro i2
      refine WC.seq ?_
      refine WC.pick [1, 7, 11, 12, 13, 14] (by repeat (first | exact Pick.nil | apply Pick.cons rfl)) ?_
      refine WC.val 57 (.bool (decide ((i : Int) < (frm.length : Int) ∧ (i : Int) < 6))) ?_ ?_
      · skip
        refine WC.region ?_
        refine WL.rd rfl rfl rfl (Rd.move rfl rfl) ?_
        refine WL.rd rfl rfl rfl (Rd.move rfl rfl) ?_
        refine WL.rd rfl rfl rfl (Rd.lenE (enc := SL.one vi) (xs := frm) rfl rfl Try.underlying44 (by repeat (first | exact hf | apply List.mem_cons_of_mem))) ?_
        refine WL.rd rfl rfl rfl (Rd.lss rfl rfl rfl) ?_
        refine WL.rd rfl rfl rfl (Rd.move rfl rfl) ?_
        refine WL.case 54 rfl (fun hg54 => ?_) (fun hg54 => ?_)
        · skip
          refine WL.rd_yes rfl rfl rfl rfl rfl rfl (Rd.move rfl rfl) ?_
          refine WL.rd_yes rfl rfl rfl rfl rfl rfl (Rd.lss rfl rfl rfl) ?_
          refine WL.rd rfl rfl rfl (Rd.pick_t rfl rfl rfl) ?_
          refine WL.nil ?_
          exact ⟨by repeat (first | exact Sub.nil | refine Sub.cons rfl (by first | rfl | (first | exact vb ⟨fun h => ⟨hg54, h⟩, fun h => h.2⟩ | exact vb_f (fun h => hg54 h.1))) ?_), by first | exact (fun _ h => h.thin (SubL.mem (by repeat (first | exact SubL.refl | refine SubL.cons (by repeat (first | assumption | exact mS | apply mT)) ?_ | refine SubL.skip ?_)))) | exact (fun w h => OwnL.sat (by repeat (first | exact OwnL.refl | apply OwnL.take (by repeat (first | exact Take.head _ | apply Take.tail)) | apply OwnL.drop)) w (h.thin (SubL.mem (by repeat (first | exact SubL.refl | refine SubL.cons (by repeat (first | assumption | exact mS | apply mT)) ?_ | refine SubL.skip ?_)))))⟩
        · skip
          refine WL.no rfl rfl rfl rfl rfl rfl ?_
          refine WL.no rfl rfl rfl rfl rfl rfl ?_
          refine WL.rd rfl rfl rfl (Rd.pick_f rfl rfl rfl) ?_
          refine WL.nil ?_
          exact ⟨by repeat (first | exact Sub.nil | refine Sub.cons rfl (by first | rfl | (first | exact vb ⟨fun h => ⟨hg54, h⟩, fun h => h.2⟩ | exact vb_f (fun h => hg54 h.1))) ?_), by first | exact (fun _ h => h.thin (SubL.mem (by repeat (first | exact SubL.refl | refine SubL.cons (by repeat (first | assumption | exact mS | apply mT)) ?_ | refine SubL.skip ?_)))) | exact (fun w h => OwnL.sat (by repeat (first | exact OwnL.refl | apply OwnL.take (by repeat (first | exact Take.head _ | apply Take.tail)) | apply OwnL.drop)) w (h.thin (SubL.mem (by repeat (first | exact SubL.refl | refine SubL.cons (by repeat (first | assumption | exact mS | apply mT)) ?_ | refine SubL.skip ?_)))))⟩
      · skip
        first | refine WC.ite rfl (fun hc3 => ?_) (fun hc3 => ?_) | refine WC.cond rfl (fun hc3 => ?_) (fun hc3 => ?_)
        · skip
          have hil : i < frm.length := by omega
          have hpl := pks_len i frm
          have hlt := pk_lt frm[i]!
          have hroom : Room ((pks i frm).length + 1) 16 := room1 (by omega)
          refine WC.skip ?_
          refine thenQ.normal ?_
          refine WC.seq ?_
          refine WC.block ?_
          refine WC.region ?_
          refine WL.rd rfl rfl rfl (Rd.move rfl rfl) ?_
          refine WL.rd rfl rfl rfl (Rd.move rfl rfl) ?_
          refine WL.rd rfl rfl rfl (Rd.move rfl rfl) ?_
          refine WL.rd rfl rfl rfl (Rd.idx1 (enc := SL.one vi) (xs := frm) (k := i) rfl S44 rfl rfl rfl (by repeat (first | exact hf | apply List.mem_cons_of_mem)) hil) ?_
          refine WL.rd rfl rfl rfl (Rd.get (g := vi) (xs := frm) (k := i) (a := frm[i]!) rfl C3 rfl (by repeat (first | exact hf | apply List.mem_cons_of_mem)) (get!_of_lt hil)) ?_
          refine WL.rd rfl rfl rfl (Rd.andm (m := 15) rfl rfl rfl rfl (by decide)) ?_
          refine WL.op rfl ?_
          refine OpW.call rfl rfl (by repeat (first | exact Evs.nil | apply Evs.cons rfl)) (by kernel_rfl) rfl rfl rfl ?_
          refine name_spec (i := land .i64 frm[i]! 15) hlt ?_
          refine WL.op rfl ?_
          refine OpW.buildSl (ps := [(0, _)]) rfl S28 (by repeat (first | exact Evs.nil | apply Evs.cons rfl)) rfl rfl (by repeat (first | exact CellsOf.nil | apply CellsOf.cons rfl)) (by kernel_rfl) rfl rfl rfl ?_; intro b67
          refine WL.op rfl ?_
          refine OpW.appendRow (enc := SL.one vs) rfl S28 rfl rfl (by repeat (first | assumption | exact Take.head _ | apply Take.tail)) (by repeat (first | assumption | exact Take.head _ | apply Take.tail)) [pk frm[i]!] rfl (by rfl) rfl (by intro x; first | rfl | (cases x; rfl) | (rcases x with ⟨_, _, _⟩; rfl) | (rcases x with ⟨_, _, _, _⟩; rfl)) (by intro x; first | rfl | (cases x; rfl) | (rcases x with ⟨_, _, _⟩; rfl) | (rcases x with ⟨_, _, _, _⟩; rfl)) (by first | assumption | exact ⟨by simp only [maxLen, List.length_append, List.length_nil, List.length_cons, List.length_drop, List.length_take, List.length_map]; omega, by first | omega | (simp only [List.length_append, List.length_nil, List.length_cons, List.length_drop, List.length_take, List.length_map]; omega)⟩) rfl rfl ?_; intro v68 hv68
          refine WL.rd rfl rfl rfl (Rd.assign rfl rfl) ?_
          refine WL.nil ?_
          refine blockQ.normal ?_
          refine thenQ.normal ?_
          refine WC.region ?_
          refine WL.rd rfl rfl rfl (Rd.move rfl rfl) ?_
          refine WL.rd rfl rfl rfl (Rd.add rfl rfl rfl (by omega)) ?_
          refine WL.rd rfl rfl rfl (Rd.assign rfl rfl) ?_
          refine WL.nil ?_
          exact loopQ2.mk (i + 1) v68 (by omega) (by omega) (by repeat (first | exact Sub.nil | refine Sub.cons rfl (by first | rfl | (congr 1; omega) | assumption) ?_)) (fun w h => by rw [pks_next hil]; exact (fun w h => OwnL.sat (by repeat (first | exact OwnL.refl | apply OwnL.take (by repeat (first | exact Take.head _ | apply Take.tail)) | apply OwnL.drop)) w (h.thin (SubL.mem (by repeat (first | exact SubL.refl | refine SubL.cons (by repeat (first | assumption | exact mS | apply mT)) ?_ | refine SubL.skip ?_))))) w h)
        · skip
          obtain rfl : i = min frm.length 6 := by omega
          have hpl := pks_len (min frm.length 6) frm
          obtain ⟨S, hSS⟩ : ∃ S, pks (min frm.length 6) frm = S := ⟨_, rfl⟩
          rw [hSS] at hpl
          refine WC.heap (fun w h => by
            have h3 := Sat.shareA (xs := pks (min frm.length 6) frm) (by repeat (first | assumption | exact Take.head _ | apply Take.tail)) h
            rw [hSS] at h3
            exact h3) ?_
          refine WC.exit ?_
          refine thenQ.exit ?_
          refine loopQ2.exit ?_
          refine blockQ.exit ?_
          refine thenQ.normal ?_
          refine WC.seq ?_
          refine WC.region ?_
          refine WL.rd rfl rfl rfl (Rd.move rfl rfl) ?_
          refine WL.rd rfl rfl rfl (Rd.move rfl rfl) ?_
          refine WL.op rfl ?_
          refine OpW.call rfl rfl (by repeat (first | exact Evs.nil | apply Evs.cons rfl)) (by kernel_rfl) rfl rfl rfl ?_
          refine log_spec (fs := S) (hG.mono fun p hp => (by repeat (first | exact hp | apply List.mem_cons_of_mem))) hcl hS List.mem_cons_self (by omega) ?_; intro v71 o1 ho1
          refine WL.rd rfl rfl rfl (Rd.move rfl rfl) ?_
          refine WL.rd rfl rfl rfl (Rd.move rfl rfl) ?_
          refine WL.op rfl ?_
          refine OpW.call rfl rfl (by repeat (first | exact Evs.nil | apply Evs.cons rfl)) (by kernel_rfl) rfl rfl rfl ?_
          refine log_spec (fs := S) (hH.mono fun p hp => (by repeat (first | exact hp | apply List.mem_cons_of_mem))) (hpe.closed hcl) hS2 List.mem_cons_self (by omega) ?_; intro v74 o2 ho2
          obtain rfl : o1 = o2 := ho1.uniq (hpe.symm.kahn (fun x => hpe.symm.come) ho2)
          have hond := ho1.nodup
          have hol := in_len hond.1 (fun k h => (hond.2 k h).mem hcl)
          have hall := kahn_all (G := gOf L) (A := Come (gOf L) S) (fun x h => h.mem hcl) hcy (ho1.inv (J := fun _ => True) (fun _ _ _ _ => trivial) trivial).2
          refine WL.heap (fun w h => Sat.shareA (v := v74) (xs := o1) (by repeat (first | assumption | exact Take.head _ | apply Take.tail)) h) ?_
          refine WL.heap (fun w h => Sat.shareA (v := v71) (xs := o1) (by repeat (first | assumption | exact Take.head _ | apply Take.tail)) h) ?_
          refine WL.rd rfl rfl rfl (Rd.assign rfl rfl) ?_
          refine WL.rd rfl rfl rfl (Rd.assign rfl rfl) ?_
          refine WL.nil ?_
          refine thenQ.normal ?_
          refine WC.seq ?_
          refine WC.seq ?_
          refine WC.region ?_
          refine WL.rd rfl rfl rfl (Rd.move rfl rfl) ?_
          refine WL.rd rfl rfl rfl (Rd.neq rfl rfl rfl) ?_
          refine WL.say 76 (u := .bool (decide False)) rfl (by simp) ?_
          refine WL.rd rfl rfl rfl (Rd.move rfl rfl) ?_
          refine WL.case 77 rfl (fun hg77 => ?_) (fun hg77 => ?_)
          · skip
            simp at hg77
          · skip
            refine WL.rd_yes rfl rfl rfl rfl rfl rfl (Rd.move rfl rfl) ?_
            refine WL.rd_yes rfl rfl rfl rfl rfl rfl (Rd.move rfl rfl) ?_
            refine WL.op_yes rfl rfl rfl rfl ?_
            refine OpW.call rfl rfl (by repeat (first | exact Evs.nil | apply Evs.cons rfl)) (by kernel_rfl) rfl rfl rfl ?_
            refine texts_spec (xs := o1) (ys := o1) List.mem_cons_self (List.mem_cons_of_mem _ List.mem_cons_self) (by omega) (by omega) ?_
            refine WL.rd_yes rfl rfl rfl rfl rfl rfl ((by first | exact Rd.notd rfl rfl | exact Rd.not rfl rfl)) ?_
            refine WL.say 81 (u := .bool (decide False)) rfl (by simp) ?_
            refine WL.rd rfl rfl rfl (Rd.pick_f rfl rfl rfl) ?_
            refine WL.rd rfl rfl rfl (Rd.move rfl rfl) ?_
            refine WL.case 83 rfl (fun hg83 => ?_) (fun hg83 => ?_)
            · skip
              simp at hg83
            · skip
              refine WL.rd_yes rfl rfl rfl rfl rfl rfl (Rd.move rfl rfl) ?_
              refine WL.rd_yes rfl rfl rfl rfl rfl rfl (Rd.lenE (enc := SL.one vs) (xs := o1) rfl rfl Try.underlying28 List.mem_cons_self) ?_
              refine WL.rd_yes rfl rfl rfl rfl rfl rfl (Rd.move rfl rfl) ?_
              refine WL.rd_yes rfl rfl rfl rfl rfl rfl (Rd.move rfl rfl) ?_
              refine WL.op_yes rfl rfl rfl rfl ?_
              refine OpW.call rfl rfl (by repeat (first | exact Evs.nil | apply Evs.cons rfl)) (by kernel_rfl) rfl rfl rfl ?_
              refine reach_spec (fs := S) (hG.mono fun p hp => (by repeat (first | exact hp | apply List.mem_cons_of_mem))) hcl hS (by repeat (first | exact List.mem_cons_self | apply List.mem_cons_of_mem)) (by omega) ?_; intro v88 ks hka hks
              have hkk : o1.length = ks.length := Nat.le_antisymm (nodup_len' hond.1 (fun x hx => (hks x).2 (hond.2 x hx))) (nodup_len' hka.nodup (fun x hx => hall x ((hks x).1 hx)))
              refine WL.rd_yes rfl rfl rfl rfl rfl rfl (Rd.lenA (enc := SL.one vs) (xs := ks) rfl rfl Try.underlying28 (by repeat (first | assumption | exact mS | apply mT))) ?_
              refine WL.rd_yes rfl rfl rfl rfl rfl rfl (Rd.neq rfl rfl rfl) ?_
              refine WL.say 90 (u := .bool (decide False)) rfl (by rw [hkk]; simp) ?_
              refine WL.rd rfl rfl rfl (Rd.pick_f rfl rfl rfl) ?_
              refine WL.nil ?_
              refine thenQ.normal ?_
              first | refine WC.ite rfl (fun hc4 => ?_) (fun hc4 => ?_) | refine WC.cond rfl (fun hc4 => ?_) (fun hc4 => ?_)
              · skip
                simp at hc4
              · skip
                refine WC.skip ?_
                refine thenQ.normal ?_
                refine WC.seq ?_
                refine WC.seq ?_
                refine WC.heap (R' := SlE (SL.one vs) v71 o1 :: p1 :: p2 :: p3 :: SlE encN av na :: ndsP na L :: ndsP nb L :: R) (O' := O) (fun w h => OwnL.sat (by repeat (first | exact OwnL.refl | apply OwnL.take (by repeat (first | exact Take.head _ | apply Take.tail)) | apply OwnL.drop)) w (h.thin (fun p hp => by
                  rcases List.mem_cons.1 hp with rfl | hp
                  · exact List.mem_cons_self
                  · repeat (first | exact hp | apply List.mem_cons_of_mem)))) ?_
                have hG2 : GV gv (gOf L) (SlE (SL.one vs) v71 o1 :: p1 :: p2 :: p3 :: SlE encN av na :: ndsP na L :: ndsP nb L :: R) := hG.mono fun p hp => List.mem_cons_of_mem _ hp
                refine WC.region ?_
                refine WL.rd rfl rfl rfl (Rd.assign rfl rfl) ?_
                refine WL.nil ?_
                refine thenQ.normal ?_
                refine WC.block ?_
                refine WC.pick [17, 7, 15] (by repeat (first | exact Pick.nil | apply Pick.cons rfl)) ?_
                refine WC.loop1o 1 (fun (i : Nat) => [(17, vi i)]) (fun (i : Nat) => i ≤ o1.length) (fun (i : Nat) => o1.length - i) (0) (by repeat (first | exact Split.zero | apply Split.succ)) ?hinv3 (by repeat (first | exact Sub.nil | refine Sub.cons rfl (by first | rfl | (congr 1; omega) | assumption) ?_)) (fun _ h => h) ?_
                case hinv3 =>
                  exact Nat.zero_le _
                intro i
                rintro m1
                refine WC.seq ?_
                refine WC.seq ?_
                refine WC.region ?_
                refine WL.rd rfl rfl rfl (Rd.move rfl rfl) ?_
                refine WL.rd rfl rfl rfl (Rd.move rfl rfl) ?_
                refine WL.rd rfl rfl rfl (Rd.lenE (enc := SL.one vs) (xs := o1) rfl rfl Try.underlying28 List.mem_cons_self) ?_
                refine WL.rd rfl rfl rfl (Rd.lss rfl rfl rfl) ?_
                refine WL.nil ?_
                refine thenQ.normal ?_
                first | refine WC.ite rfl (fun hc5 => ?_) (fun hc5 => ?_) | refine WC.cond rfl (fun hc5 => ?_) (fun hc5 => ?_)
                · skip
                  refine WC.skip ?_
                  refine thenQ.normal ?_
                  refine WC.seq ?_
                  refine WC.block ?_
                  refine WC.seq ?_
                  refine WC.region ?_
                  refine WL.rd rfl rfl rfl (Rd.assign rfl rfl) ?_
                  refine WL.nil ?_
                  refine thenQ.normal ?_
                  refine WC.block ?_
                  refine WC.pick [18, 7, 15, 17] (by repeat (first | exact Pick.nil | apply Pick.cons rfl)) ?_
                  refine WC.loop1o 1 (fun (k : Nat) => [(18, vi k)]) (fun (k : Nat) => k ≤ i) (fun (k : Nat) => i - k) (0) (by repeat (first | exact Split.zero | apply Split.succ)) ?hinv4 (by repeat (first | exact Sub.nil | refine Sub.cons rfl (by first | rfl | (congr 1; omega) | assumption) ?_)) (fun _ h => h) ?_
                  case hinv4 =>
                    exact Nat.zero_le _
                  intro k
                  rintro m2
                  refine WC.seq ?_
                  refine WC.seq ?_
                  refine WC.region ?_
                  refine WL.rd rfl rfl rfl (Rd.move rfl rfl) ?_
                  refine WL.rd rfl rfl rfl (Rd.move rfl rfl) ?_
                  refine WL.rd rfl rfl rfl (Rd.lss rfl rfl rfl) ?_
                  refine WL.nil ?_
                  refine thenQ.normal ?_
                  first | refine WC.ite rfl (fun hc6 => ?_) (fun hc6 => ?_) | refine WC.cond rfl (fun hc6 => ?_) (fun hc6 => ?_)
                  · skip
                    refine WC.skip ?_
                    refine thenQ.normal ?_
                    refine WC.seq ?_
                    refine WC.block ?_
                    refine WC.seq ?_
                    refine WC.tail 19 mixed (by kernel_rfl) ?_
                    refine WS.rd rfl rfl rfl (Rd.move rfl rfl) ?_
                    refine WS.rd rfl rfl rfl (Rd.move rfl rfl) ?_
                    refine WS.rd rfl rfl rfl (Rd.idx1 (enc := SL.one vs) (xs := o1) (k := i) rfl S28 rfl rfl rfl List.mem_cons_self (by omega)) ?_
                    refine WS.rd rfl rfl rfl (Rd.get (g := vs) (xs := o1) (k := i) (a := o1[i]!) rfl C9 rfl List.mem_cons_self (get!_of_lt (by omega))) ?_
                    refine WS.rd rfl rfl rfl (Rd.move rfl rfl) ?_
                    refine WS.rd rfl rfl rfl (Rd.move rfl rfl) ?_
                    refine WS.rd rfl rfl rfl (Rd.idx1 (enc := SL.one vs) (xs := o1) (k := k) rfl S28 rfl rfl rfl List.mem_cons_self (by omega)) ?_
                    refine WS.rd rfl rfl rfl (Rd.get (g := vs) (xs := o1) (k := k) (a := o1[k]!) rfl C9 rfl List.mem_cons_self (get!_of_lt (by omega))) ?_
                    refine WS.rd rfl rfl rfl (Rd.seql rfl rfl rfl) ?_
                    refine WS.say 111 (u := .bool (decide False)) rfl (vb ⟨fun e => by
                    have := nodup_inj hond.1 (by omega) (by omega) e
                    omega, False.elim⟩) ?_
                    refine WS.rd rfl rfl rfl (Rd.move rfl rfl) ?_
                    refine WS.case 112 rfl (fun hg112 => ?_) (fun hg112 => ?_)
                    · skip
                      simp at hg112
                    · skip
                      refine WS.rd_yes rfl rfl rfl rfl rfl rfl (Rd.move rfl rfl) ?_
                      refine WS.rd_yes rfl rfl rfl rfl rfl rfl (Rd.move rfl rfl) ?_
                      refine WS.rd_yes rfl rfl rfl rfl rfl rfl (Rd.move rfl rfl) ?_
                      refine WS.rd_yes rfl rfl rfl rfl rfl rfl (Rd.idx1 (enc := SL.one vs) (xs := o1) (k := k) rfl S28 rfl rfl rfl List.mem_cons_self (by omega)) ?_
                      refine WS.rd_yes rfl rfl rfl rfl rfl rfl (Rd.get (g := vs) (xs := o1) (k := k) (a := o1[k]!) rfl C9 rfl List.mem_cons_self (get!_of_lt (by omega))) ?_
                      refine WS.rd_yes rfl rfl rfl rfl rfl rfl (Rd.move rfl rfl) ?_
                      refine WS.rd_yes rfl rfl rfl rfl rfl rfl (Rd.move rfl rfl) ?_
                      refine WS.rd_yes rfl rfl rfl rfl rfl rfl (Rd.idx1 (enc := SL.one vs) (xs := o1) (k := i) rfl S28 rfl rfl rfl List.mem_cons_self (by omega)) ?_
                      refine WS.rd_yes rfl rfl rfl rfl rfl rfl (Rd.get (g := vs) (xs := o1) (k := i) (a := o1[i]!) rfl C9 rfl List.mem_cons_self (get!_of_lt (by omega))) ?_
                      refine WS.switch ?_
                      refine WL.op_yes rfl rfl rfl rfl ?_
                      refine OpW.call rfl rfl (by repeat (first | exact Evs.nil | apply Evs.cons rfl)) (by kernel_rfl) rfl rfl rfl ?_
                      refine anc_spec hG2 hcl hS ?_
                      refine WL.say 122 (u := .bool (decide False)) rfl (vb ⟨fun h => by
                      have hi : i < o1.length := by omega
                      have := log_path (fun x h => h.mem hcl) (fun x y hx hp => hx.path hp) ho1 k (by omega) o1[i]! (hond.2 _ (get!_mem hi)) (come_one.1 h).2
                      obtain ⟨j, hj, e⟩ := mem_get! this
                      rw [List.length_take] at hj
                      rw [getElem!_pos (o1.take (k + 1)) j (by rw [List.length_take]; omega), List.getElem_take, ← getElem!_pos o1 j (by omega)] at e
                      have := nodup_inj hond.1 (by omega) hi e
                      omega, False.elim⟩) ?_
                      refine WL.rd rfl rfl rfl (Rd.pick_f rfl rfl rfl) ?_
                      refine WL.nil ?_
                      refine thenQ.normal ?_
                      first | refine WC.ite rfl (fun hc7 => ?_) (fun hc7 => ?_) | refine WC.cond rfl (fun hc7 => ?_) (fun hc7 => ?_)
                      · skip
                        simp at hc7
                      · skip
                        refine WC.skip ?_
                        refine blockQ.normal ?_
                        refine thenQ.normal ?_
                        refine WC.region ?_
                        refine WL.rd rfl rfl rfl (Rd.move rfl rfl) ?_
                        refine WL.rd rfl rfl rfl (Rd.add rfl rfl rfl (by omega)) ?_
                        refine WL.rd rfl rfl rfl (Rd.assign rfl rfl) ?_
                        refine WL.nil ?_
                        exact loopQ1.mk (k + 1) (by omega) (by omega) (by repeat (first | exact Sub.nil | refine Sub.cons rfl (by first | rfl | (congr 1; omega) | assumption) ?_)) (fun w h => OwnL.sat (by repeat (first | exact OwnL.refl | apply OwnL.take (by repeat (first | exact Take.head _ | apply Take.tail)) | apply OwnL.drop)) w (h.thin (SubL.mem (by repeat (first | exact SubL.refl | refine SubL.cons (by repeat (first | assumption | exact mS | apply mT)) ?_ | refine SubL.skip ?_)))))
                  · skip
                    refine WC.exit ?_
                    refine thenQ.exit ?_
                    refine loopQ1.exit ?_
                    refine blockQ.exit ?_
                    refine blockQ.normal ?_
                    refine thenQ.normal ?_
                    refine WC.region ?_
                    refine WL.rd rfl rfl rfl (Rd.move rfl rfl) ?_
                    refine WL.rd rfl rfl rfl (Rd.add rfl rfl rfl (by omega)) ?_
                    refine WL.rd rfl rfl rfl (Rd.assign rfl rfl) ?_
                    refine WL.nil ?_
                    exact loopQ1.mk (i + 1) (by omega) (by omega) (by repeat (first | exact Sub.nil | refine Sub.cons rfl (by first | rfl | (congr 1; omega) | assumption) ?_)) (fun w h => OwnL.sat (by repeat (first | exact OwnL.refl | apply OwnL.take (by repeat (first | exact Take.head _ | apply Take.tail)) | apply OwnL.drop)) w (h.thin (SubL.mem (by repeat (first | exact SubL.refl | refine SubL.cons (by repeat (first | assumption | exact mS | apply mT)) ?_ | refine SubL.skip ?_)))))
                · skip
                  refine WC.exit ?_
                  refine thenQ.exit ?_
                  refine loopQ1.exit ?_
                  refine blockQ.exit ?_
                  refine thenQ.normal ?_
                  refine WC.seq ?_
                  refine WC.region ?_
                  refine WL.rd rfl rfl rfl (Rd.assign rfl rfl) ?_
                  refine WL.nil ?_
                  refine thenQ.normal ?_
                  refine WC.heap (R' := R) (O' := O) (fun w h => h.thin (fun p hp => by repeat (first | exact hp | apply List.mem_cons_of_mem))) ?_
                  refine WC.ret (Ret.one Try.results6 rfl ?_)
                  exact hk
end
end Go.Proofs.Ytfenbhaehkkkeaa
