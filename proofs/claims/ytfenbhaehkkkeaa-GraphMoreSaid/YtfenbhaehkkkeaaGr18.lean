/-
  Layer 18: GraphWays.
-/
import Derived.Test.YtfenbhaehkkkeaaGr17
namespace Go.Proofs.Ytfenbhaehkkkeaa
open Go Go.SL
def pk (p : Int) : T := nm (land .i64 p 15)
theorem pk_lt (p : Int) : land .i64 p 15 < 16 := Nat.lt_succ_of_le (land_le .i64 p 15)
def pks (k : Nat) (l : List Int) : List T := (l.take k).map pk
theorem pks_zero {l : List Int} : pks 0 l = [] := rfl
theorem pks_next {l : List Int} {k : Nat} (h : k < l.length) : pks (k + 1) l = pks k l ++ [pk l[k]!] := by
  unfold pks
  rw [take_snoc' h, List.map_append]; rfl
theorem pks_len (k : Nat) (l : List Int) : (pks k l).length ≤ k := by
  unfold pks
  rw [List.length_map, List.length_take]; omega
theorem in_len {L : List Nd} {ks : List T} (h1 : ks.Nodup) (h2 : ∀ k ∈ ks, k ∈ ids L) : ks.length ≤ L.length := by
  have := nodup_len' h1 h2
  unfold ids at this
  rwa [List.length_map] at this
section
variable {R : List RO} {O O' : List Own} {POST : Value → List RO → List Own → Prop}
set_option maxRecDepth 20000 in
set_option maxHeartbeats 4000000 in
theorem ways_spec {lv frv : Value} {qs : List Qn} {frm : List Int} {x y : Int} (hl : SlE encQ lv qs ∈ R) (hq : AllQ QQ qs ∈ R) (hf : SlE (SL.one vi) frv frm ∈ R) (hk : POST (.bool true) R O) :
    Fun Try.prog 5 #[lv, frv, .agg #[vi x, vi y]] R O POST := by
  refine Fun.len hf fun hfl => ?_
  obtain ⟨L, hL⟩ : ∃ L, mk true qs = L := ⟨_, rfl⟩
  have hn := mk_nodup true qs
  have hbk := mk_back qs
  have hle := mk_len true qs
  have hsm := mk_small true qs
  have hsm2 := mk_small2 true qs
  rw [hL] at hn hbk hle hsm hsm2
  have hcl := hbk.closed hn
  have hcy := hbk.free hn
  have hS : Small (gOf L) := gOf_small (by omega) hsm
  refine Fun.enter (l := [_, _, _]) Try.func5 rfl Try.ntmps5 rfl (L0 := [(0, _), (1, _), (2, _)]) rfl ?_
  refine WC.seq ?_
  refine WC.region ?_
  refine WL.op rfl ?_
  refine OpW.box rfl rfl (by repeat (first | exact NF.nil | apply NF.cons)) rfl rfl ?_; intro b5
  refine WL.rd rfl rfl rfl (Rd.assign rfl rfl) ?_
  refine WL.nil ?_
  refine thenQ.normal ?_
  refine WC.seq ?_
  refine WC.seq ?_
  refine WC.region ?_
  refine WL.op rfl ?_
  refine OpW.call rfl rfl (by repeat (first | exact Evs.nil | apply Evs.cons rfl)) (by kernel_rfl) rfl rfl rfl ?_
  refine speaks_spec ?_
  refine WL.say 17 (u := .bool (decide True)) rfl (by simp) ?_
  refine WL.rd rfl rfl rfl ((by first | exact Rd.notd rfl rfl | exact Rd.not rfl rfl)) ?_
  refine WL.nil ?_
  refine thenQ.normal ?_
  first | refine WC.ite rfl (fun hc1 => ?_) (fun hc1 => ?_) | refine WC.cond rfl (fun hc1 => ?_) (fun hc1 => ?_)
  · skip
    exact absurd trivial hc1
  · skip
    refine WC.skip ?_
    refine thenQ.normal ?_
    refine WC.seq ?_
    refine WC.region ?_
    refine WL.rd rfl rfl rfl (Rd.move rfl rfl) ?_
    refine WL.op rfl ?_
    refine OpW.call rfl rfl (by repeat (first | exact Evs.nil | apply Evs.cons rfl)) (by kernel_rfl) rfl rfl rfl ?_
    refine nodes_spec (back := true) hl hq ?_; intro av bv na nb ha hb
    refine WL.rd rfl rfl rfl (Rd.move rfl rfl) ?_
    refine WL.rd rfl rfl rfl (Rd.extract rfl rfl rfl) ?_
    refine WL.rd rfl rfl rfl (Rd.extract rfl rfl rfl) ?_
    refine WL.rd rfl rfl rfl (Rd.assign rfl rfl) ?_
    refine WL.rd rfl rfl rfl (Rd.assign rfl rfl) ?_
    refine WL.nil ?_
    refine thenQ.normal ?_
    refine WC.seq ?_
    have hNa0 := fun R' v h1 h2 => (ha.nls (back := true) (R := R') (v := v) h1 h2)
    have hNb0 := fun R' v h1 h2 => (hb.nls (back := true) (R := R') (v := v) h1 h2)
    rw [hL] at hNa0 hNb0
    refine WC.heap (R' := SlE encN bv nb :: SlE encN av na :: ndsP na L :: ndsP nb L :: R) (fun w h => by
      rw [hL] at h
      have h3 := Sat.shareA (xs := na) (by repeat (first | assumption | exact Take.head _ | apply Take.tail)) h
      exact Sat.shareA (xs := nb) (by repeat (first | assumption | exact Take.head _ | apply Take.tail)) h3) ?_
    have hNa := hNa0 (SlE encN bv nb :: SlE encN av na :: ndsP na L :: ndsP nb L :: R) av (by simp) (by simp)
    have hNb := hNb0 (SlE encN bv nb :: SlE encN av na :: ndsP na L :: ndsP nb L :: R) bv (by simp) (by simp)
    refine WC.region ?_
    refine WL.rd rfl rfl rfl (Rd.move rfl rfl) ?_
    refine WL.op rfl ?_
    refine OpW.call rfl rfl (by repeat (first | exact Evs.nil | apply Evs.cons rfl)) (by kernel_rfl) rfl rfl rfl ?_
    refine newOk_spec ⟨na, hNa⟩ hn hbk (by omega) hsm ?_; intro gv p1 p2 p3 hone hG
    refine WL.rd rfl rfl rfl (Rd.move rfl rfl) ?_
    refine WL.rd rfl rfl rfl (Rd.extract rfl rfl rfl) ?_
    refine WL.rd rfl rfl rfl (Rd.extract rfl rfl rfl) ?_
    refine WL.rd rfl rfl rfl (Rd.assign rfl rfl) ?_
    refine WL.rd rfl rfl rfl (Rd.assign rfl rfl) ?_
    refine WL.nil ?_
    refine thenQ.normal ?_
    refine WC.seq ?_
    refine WC.seq ?_
    refine WC.region ?_
    refine WL.rd rfl rfl rfl (Rd.move rfl rfl) ?_
    refine WL.rd rfl rfl rfl (Rd.neq rfl rfl rfl) ?_
    refine WL.nil ?_
    refine thenQ.normal ?_
    first | refine WC.ite rfl (fun hc2 => ?_) (fun hc2 => ?_) | refine WC.cond rfl (fun hc2 => ?_) (fun hc2 => ?_)
    · skip
      exact absurd rfl hc2
    · skip
      refine WC.skip ?_
      refine thenQ.normal ?_
      refine WC.seq ?_
      refine WC.region ?_
      refine WL.rd rfl rfl rfl (Rd.assign rfl rfl) ?_
      refine WL.nil ?_
      refine thenQ.normal ?_
      refine WC.seq ?_
      refine WC.seq ?_
      refine WC.heap (fun w h => Sat.accNil (e := 9) (size := 1) (enc := SL.one vs) h) ?_
      refine WC.region ?_
      refine WL.rd rfl rfl rfl (Rd.assign rfl rfl) ?_
      refine WL.nil ?_
      refine thenQ.normal ?_
      refine WC.block ?_
      refine WC.pick [12, 11, 1, 5, 8, 9] (by repeat (first | exact Pick.nil | apply Pick.cons rfl)) ?_
      refine WC.loop2 2 (fun (i : Nat) (sv : Value) => [(12, vi i), (11, sv)]) (fun (i : Nat) (sv : Value) => accT sv (pks i frm) :: rowC b5 38 [vi x, vi y] :: O) (fun (i : Nat) (sv : Value) => i ≤ min frm.length 6) (fun (i : Nat) (sv : Value) => 6 - i) (0) (nilS) (by repeat (first | exact Split.zero | apply Split.succ)) ?hinv1 (by repeat (first | exact Sub.nil | refine Sub.cons rfl (by first | rfl | (congr 1; omega) | assumption) ?_)) (fun w h => by rw [pks_zero]; exact (fun w h => OwnL.sat (by repeat (first | exact OwnL.refl | apply OwnL.take (by repeat (first | exact Take.head _ | apply Take.tail)) | apply OwnL.drop)) w (h.thin (SubL.mem (by repeat (first | exact SubL.refl | refine SubL.cons (by repeat (first | assumption | exact mS | apply mT)) ?_ | refine SubL.skip ?_))))) w h) ?_
      case hinv1 =>
        exact Nat.zero_le _
      intro i sv
      rintro i1
      refine WC.seq ?_
      refine WC.pick [1, 5, 8, 9, 11, 12] (by repeat (first | exact Pick.nil | apply Pick.cons rfl)) ?_
      refine WC.val 38 (.bool (decide ((i : Int) < (frm.length : Int) ∧ (i : Int) < 6))) ?_ ?_
      · skip
        refine WC.region ?_
        refine WL.rd rfl rfl rfl (Rd.move rfl rfl) ?_
        refine WL.rd rfl rfl rfl (Rd.move rfl rfl) ?_
        refine WL.rd rfl rfl rfl (Rd.lenE (enc := SL.one vi) (xs := frm) rfl rfl Try.underlying44 (by repeat (first | exact hf | apply List.mem_cons_of_mem))) ?_
        refine WL.rd rfl rfl rfl (Rd.lss rfl rfl rfl) ?_
        refine WL.rd rfl rfl rfl (Rd.move rfl rfl) ?_
        refine WL.case 35 rfl (fun hg35 => ?_) (fun hg35 => ?_)
        · skip
          refine WL.rd_yes rfl rfl rfl rfl rfl rfl (Rd.move rfl rfl) ?_
          refine WL.rd_yes rfl rfl rfl rfl rfl rfl (Rd.lss rfl rfl rfl) ?_
          refine WL.rd rfl rfl rfl (Rd.pick_t rfl rfl rfl) ?_
          refine WL.nil ?_
          exact ⟨by repeat (first | exact Sub.nil | refine Sub.cons rfl (by first | rfl | (first | exact vb ⟨fun h => ⟨hg35, h⟩, fun h => h.2⟩ | exact vb_f (fun h => hg35 h.1))) ?_), by first | exact (fun _ h => h.thin (SubL.mem (by repeat (first | exact SubL.refl | refine SubL.cons (by repeat (first | assumption | exact mS | apply mT)) ?_ | refine SubL.skip ?_)))) | exact (fun w h => OwnL.sat (by repeat (first | exact OwnL.refl | apply OwnL.take (by repeat (first | exact Take.head _ | apply Take.tail)) | apply OwnL.drop)) w (h.thin (SubL.mem (by repeat (first | exact SubL.refl | refine SubL.cons (by repeat (first | assumption | exact mS | apply mT)) ?_ | refine SubL.skip ?_)))))⟩
        · skip
          refine WL.no rfl rfl rfl rfl rfl rfl ?_
          refine WL.no rfl rfl rfl rfl rfl rfl ?_
          refine WL.rd rfl rfl rfl (Rd.pick_f rfl rfl rfl) ?_
          refine WL.nil ?_
          exact ⟨by repeat (first | exact Sub.nil | refine Sub.cons rfl (by first | rfl | (first | exact vb ⟨fun h => ⟨hg35, h⟩, fun h => h.2⟩ | exact vb_f (fun h => hg35 h.1))) ?_), by first | exact (fun _ h => h.thin (SubL.mem (by repeat (first | exact SubL.refl | refine SubL.cons (by repeat (first | assumption | exact mS | apply mT)) ?_ | refine SubL.skip ?_)))) | exact (fun w h => OwnL.sat (by repeat (first | exact OwnL.refl | apply OwnL.take (by repeat (first | exact Take.head _ | apply Take.tail)) | apply OwnL.drop)) w (h.thin (SubL.mem (by repeat (first | exact SubL.refl | refine SubL.cons (by repeat (first | assumption | exact mS | apply mT)) ?_ | refine SubL.skip ?_)))))⟩
      · skip
        first | refine WC.ite rfl (fun hc3 => ?_) (fun hc3 => ?_) | refine WC.cond rfl (fun hc3 => ?_) (fun hc3 => ?_)
        · skip
          have hil : i < frm.length := by omega
          have hpl := pks_len i frm
          have hlt := pk_lt frm[i]!
          have hroom : Room ((pks i frm).length + 1) 16 := room1 (by omega)
          refine WC.skip ?_
          refine thenQ.normal ?_
          refine WC.seq ?_
          refine WC.block ?_
          refine WC.region ?_
          refine WL.rd rfl rfl rfl (Rd.move rfl rfl) ?_
          refine WL.rd rfl rfl rfl (Rd.move rfl rfl) ?_
          refine WL.rd rfl rfl rfl (Rd.move rfl rfl) ?_
          refine WL.rd rfl rfl rfl (Rd.idx1 (enc := SL.one vi) (xs := frm) (k := i) rfl S44 rfl rfl rfl (by repeat (first | exact hf | apply List.mem_cons_of_mem)) hil) ?_
          refine WL.rd rfl rfl rfl (Rd.get (g := vi) (xs := frm) (k := i) (a := frm[i]!) rfl C3 rfl (by repeat (first | exact hf | apply List.mem_cons_of_mem)) (get!_of_lt hil)) ?_
          refine WL.rd rfl rfl rfl (Rd.andm (m := 15) rfl rfl rfl rfl (by decide)) ?_
          refine WL.op rfl ?_
          refine OpW.call rfl rfl (by repeat (first | exact Evs.nil | apply Evs.cons rfl)) (by kernel_rfl) rfl rfl rfl ?_
          refine name_spec (i := land .i64 frm[i]! 15) hlt ?_
          refine WL.op rfl ?_
          refine OpW.buildSl (ps := [(0, _)]) rfl S28 (by repeat (first | exact Evs.nil | apply Evs.cons rfl)) rfl rfl (by repeat (first | exact CellsOf.nil | apply CellsOf.cons rfl)) (by kernel_rfl) rfl rfl rfl ?_; intro b48
          refine WL.op rfl ?_
          refine OpW.appendRow (enc := SL.one vs) rfl S28 rfl rfl (by repeat (first | assumption | exact Take.head _ | apply Take.tail)) (by repeat (first | assumption | exact Take.head _ | apply Take.tail)) [pk frm[i]!] rfl (by rfl) rfl (by intro x; first | rfl | (cases x; rfl) | (rcases x with ⟨_, _, _⟩; rfl) | (rcases x with ⟨_, _, _, _⟩; rfl)) (by intro x; first | rfl | (cases x; rfl) | (rcases x with ⟨_, _, _⟩; rfl) | (rcases x with ⟨_, _, _, _⟩; rfl)) (by first | assumption | exact ⟨by simp only [maxLen, List.length_append, List.length_nil, List.length_cons, List.length_drop, List.length_take, List.length_map]; omega, by first | omega | (simp only [List.length_append, List.length_nil, List.length_cons, List.length_drop, List.length_take, List.length_map]; omega)⟩) rfl rfl ?_; intro v49 hv49
          refine WL.rd rfl rfl rfl (Rd.assign rfl rfl) ?_
          refine WL.nil ?_
          refine blockQ.normal ?_
          refine thenQ.normal ?_
          refine WC.region ?_
          refine WL.rd rfl rfl rfl (Rd.move rfl rfl) ?_
          refine WL.rd rfl rfl rfl (Rd.add rfl rfl rfl (by omega)) ?_
          refine WL.rd rfl rfl rfl (Rd.assign rfl rfl) ?_
          refine WL.nil ?_
          exact loopQ2.mk (i + 1) v49 (by omega) (by omega) (by repeat (first | exact Sub.nil | refine Sub.cons rfl (by first | rfl | (congr 1; omega) | assumption) ?_)) (fun w h => by rw [pks_next hil]; exact (fun w h => OwnL.sat (by repeat (first | exact OwnL.refl | apply OwnL.take (by repeat (first | exact Take.head _ | apply Take.tail)) | apply OwnL.drop)) w (h.thin (SubL.mem (by repeat (first | exact SubL.refl | refine SubL.cons (by repeat (first | assumption | exact mS | apply mT)) ?_ | refine SubL.skip ?_))))) w h)
        · skip
          obtain rfl : i = min frm.length 6 := by omega
          have hpl := pks_len (min frm.length 6) frm
          obtain ⟨S, hSS⟩ : ∃ S, pks (min frm.length 6) frm = S := ⟨_, rfl⟩
          rw [hSS] at hpl
          have hlx := pk_lt x
          have hly := pk_lt y
          obtain ⟨X, hX⟩ : ∃ X, pk x = X := ⟨_, rfl⟩
          obtain ⟨Y, hY⟩ : ∃ Y, pk y = Y := ⟨_, rfl⟩
          refine WC.exit ?_
          refine thenQ.exit ?_
          refine loopQ2.exit ?_
          refine blockQ.exit ?_
          refine thenQ.normal ?_
          refine WC.cut (α := Unit) (fun _ => [(13, vs X), (14, vs Y), (11, sv), (9, gv), (8, bv)]) (fun _ => SlE (SL.one vs) sv S :: p1 :: p2 :: p3 :: SlE encN bv nb :: SlE encN av na :: ndsP na L :: ndsP nb L :: R) (fun _ => O) (fun _ => True) ?_ ?_
          · skip
            refine WC.drawnA 10 rfl mixed ?_
            refine WD.take 0 rfl (by kernel_rfl) Held.all rfl rfl rfl ((by first | exact Rd.idxArr1 (k := 0) rfl A38 rfl rfl rfl (by first | omega | (dsimp only; omega)) | exact Rd.idxArr (k := 0) rfl A38 rfl rfl rfl (by first | omega | (dsimp only; omega)) rfl)) ?_
            refine WD.take 1 rfl (by kernel_rfl) Held.all rfl rfl rfl (Rd.row1 (b := b5) (off := 0) (u := vi x) rfl C3 rfl (by repeat (first | assumption | exact mS | apply mT)) rfl) ?_
            refine WD.take 2 rfl (by kernel_rfl) Held.all rfl rfl rfl (Rd.andm (m := 15) rfl rfl rfl rfl (by decide)) ?_
            refine WD.take 4 rfl (by kernel_rfl) Held.all rfl rfl rfl ((by first | exact Rd.idxArr1 (k := 1) rfl A38 rfl rfl rfl (by first | omega | (dsimp only; omega)) | exact Rd.idxArr (k := 1) rfl A38 rfl rfl rfl (by first | omega | (dsimp only; omega)) rfl)) ?_
            refine WD.take 5 rfl (by kernel_rfl) Held.all rfl rfl rfl (Rd.row1 (b := b5) (off := 1) (u := vi y) rfl C3 rfl (by repeat (first | assumption | exact mS | apply mT)) rfl) ?_
            refine WD.take 6 rfl (by kernel_rfl) Held.all rfl rfl rfl (Rd.andm (m := 15) rfl rfl rfl rfl (by decide)) ?_
            refine WD.one 3 rfl (by kernel_rfl) rfl ?_
            refine OpW.call rfl rfl (by repeat (first | exact Evs.nil | apply Evs.cons rfl)) (by kernel_rfl) rfl rfl rfl ?_
            refine name_spec (i := land .i64 x 15) hlx ?_
            refine ⟨(Held.mk' (by repeat (first | exact SubL.refl | refine SubL.cons (by repeat (first | assumption | exact mS | apply mT)) ?_ | refine SubL.skip ?_)) (by repeat (first | exact OwnL.refl | apply OwnL.take (by repeat (first | exact Take.head _ | apply Take.tail)) | apply OwnL.drop))), ?_⟩
            refine WD.one 7 rfl (by kernel_rfl) rfl ?_
            refine OpW.call rfl rfl (by repeat (first | exact Evs.nil | apply Evs.cons rfl)) (by kernel_rfl) rfl rfl rfl ?_
            refine name_spec (i := land .i64 y 15) hly ?_
            refine ⟨(Held.mk' (by repeat (first | exact SubL.refl | refine SubL.cons (by repeat (first | assumption | exact mS | apply mT)) ?_ | refine SubL.skip ?_)) (by repeat (first | exact OwnL.refl | apply OwnL.take (by repeat (first | exact Take.head _ | apply Take.tail)) | apply OwnL.drop))), ?_⟩
            refine WD.take 8 rfl (by kernel_rfl) (Held.mk' (by repeat (first | exact SubL.refl | refine SubL.cons (by repeat (first | assumption | exact mS | apply mT)) ?_ | refine SubL.skip ?_)) (by repeat (first | exact OwnL.refl | apply OwnL.take (by repeat (first | exact Take.head _ | apply Take.tail)) | apply OwnL.drop))) rfl rfl rfl (Rd.assign rfl rfl) ?_
            refine WD.take 9 rfl (by kernel_rfl) (Held.mk' (by repeat (first | exact SubL.refl | refine SubL.cons (by repeat (first | assumption | exact mS | apply mT)) ?_ | refine SubL.skip ?_)) (by repeat (first | exact OwnL.refl | apply OwnL.take (by repeat (first | exact Take.head _ | apply Take.tail)) | apply OwnL.drop))) rfl rfl rfl (Rd.assign rfl rfl) ?_
            refine WD.done (by kernel_rfl) ?_
            exact ⟨(), trivial, (by repeat (first | exact Sub.nil | refine Sub.cons rfl (by first | rfl | (rw [← hX]; rfl) | (rw [← hY]; rfl)) ?_)), (fun w h => by
            have h3 := Sat.shareA (xs := pks (min frm.length 6) frm) (by repeat (first | assumption | exact Take.head _ | apply Take.tail)) h
            rw [hSS] at h3
            exact OwnL.sat (by repeat (first | exact OwnL.refl | apply OwnL.take (by repeat (first | exact Take.head _ | apply Take.tail)) | apply OwnL.drop)) w h3)⟩
          · skip
            rintro ⟨⟩ -
            have hNb2 : NLs bv L (SlE (SL.one vs) sv S :: p1 :: p2 :: p3 :: SlE encN bv nb :: SlE encN av na :: ndsP na L :: ndsP nb L :: R) nb := (hNb.mono fun p hp => by repeat (first | exact hp | apply List.mem_cons_of_mem))
            have hG2 : GV gv (gOf L) (SlE (SL.one vs) sv S :: p1 :: p2 :: p3 :: SlE encN bv nb :: SlE encN av na :: ndsP na L :: ndsP nb L :: R) := (hG.mono fun p hp => by repeat (first | exact hp | apply List.mem_cons_of_mem))
            refine WC.seq ?_
            refine WC.region ?_
            refine WL.rd rfl rfl rfl (Rd.move rfl rfl) ?_
            refine WL.rd rfl rfl rfl (Rd.move rfl rfl) ?_
            refine WL.op rfl ?_
            refine OpW.buildSl (ps := [(0, _)]) rfl S28 (by repeat (first | exact Evs.nil | apply Evs.cons rfl)) rfl rfl (by repeat (first | exact CellsOf.nil | apply CellsOf.cons rfl)) (by kernel_rfl) rfl rfl rfl ?_; intro b60
            refine WL.heap (fun w h => Sat.shareRow (enc := SL.one vs) (xs := [Y]) (by repeat (first | assumption | exact Take.head _ | apply Take.tail)) rfl rfl (by show (1 : Nat) ≤ _; decide) h) ?_
            refine WL.op rfl ?_
            refine OpW.call rfl rfl (by repeat (first | exact Evs.nil | apply Evs.cons rfl)) (by kernel_rfl) rfl rfl rfl ?_
            refine rcome_spec (fs := [Y]) (hNb2.mono fun p hp => by repeat (first | exact hp | apply List.mem_cons_of_mem)) hn List.mem_cons_self (by omega) (by show (1 : Nat) ≤ _; decide) hsm2 ?_; intro v61 bs hbs
            refine WL.rd rfl rfl rfl (Rd.assign rfl rfl) ?_
            refine WL.nil ?_
            refine thenQ.normal ?_
            refine WC.seq ?_
            refine WC.region ?_
            refine WL.rd rfl rfl rfl (Rd.move rfl rfl) ?_
            refine WL.rd rfl rfl rfl (Rd.move rfl rfl) ?_
            refine WL.op rfl ?_
            refine OpW.call rfl rfl (by repeat (first | exact Evs.nil | apply Evs.cons rfl)) (by kernel_rfl) rfl rfl rfl ?_
            refine rfind_spec (hNb2.mono fun p hp => by repeat (first | exact hp | apply List.mem_cons_of_mem)) (by omega) ?_; intro k hk64
            refine WL.rd rfl rfl rfl (Rd.assign rfl rfl) ?_
            refine WL.nil ?_
            refine thenQ.normal ?_
            refine WC.seq ?_
            refine WC.seq ?_
            have hXk : X ∈ (gOf L).ks ↔ 0 ≤ k := by
              rcases hk64 with ⟨rfl, h⟩ | ⟨m, rfl, m1, m2, m3⟩
              · exact ⟨fun g => absurd g h, fun g => by omega⟩
              · exact ⟨fun _ => by omega, fun _ => mem_ids.2 ⟨m, m1, m2⟩⟩
            refine WC.region ?_
            refine WL.rd rfl rfl rfl (Rd.move rfl rfl) ?_
            refine WL.rd rfl rfl rfl (Rd.move rfl rfl) ?_
            refine WL.op rfl ?_
            refine OpW.call rfl rfl (by repeat (first | exact Evs.nil | apply Evs.cons rfl)) (by kernel_rfl) rfl rfl rfl ?_
            refine has_spec (hG2.mono fun p hp => by repeat (first | exact hp | apply List.mem_cons_of_mem)) ?_
            refine WL.rd rfl rfl rfl (Rd.move rfl rfl) ?_
            refine WL.rd rfl rfl rfl (Rd.geq rfl rfl rfl) ?_
            refine WL.rd rfl rfl rfl (Rd.bneq rfl rfl rfl Try.underlying4) ?_
            refine WL.say 70 (u := .bool (decide False)) rfl (by simp [hXk]) ?_
            refine WL.rd rfl rfl rfl (Rd.move rfl rfl) ?_
            refine WL.case 71 rfl (fun hg71 => ?_) (fun hg71 => ?_)
            · skip
              simp at hg71
            · skip
              refine WL.rd_yes rfl rfl rfl rfl rfl rfl (Rd.move rfl rfl) ?_
              refine WL.rd_yes rfl rfl rfl rfl rfl rfl (Rd.move rfl rfl) ?_
              refine WL.rd_yes rfl rfl rfl rfl rfl rfl (Rd.move rfl rfl) ?_
              refine WL.op_yes rfl rfl rfl rfl ?_
              refine OpW.call rfl rfl (by repeat (first | exact Evs.nil | apply Evs.cons rfl)) (by kernel_rfl) rfl rfl rfl ?_
              refine anc_spec (hG2.mono fun p hp => by repeat (first | exact hp | apply List.mem_cons_of_mem)) hcl hS ?_
              refine WL.rd_yes rfl rfl rfl rfl rfl rfl (Rd.move rfl rfl) ?_
              refine WL.rd_yes rfl rfl rfl rfl rfl rfl (Rd.geq rfl rfl rfl) ?_
              refine WL.rd_yes rfl rfl rfl rfl rfl rfl (Rd.move rfl rfl) ?_
              refine WL.case 78 rfl (fun hg78 => ?_) (fun hg78 => ?_)
              · skip
                obtain ⟨m, rfl, m1, m2, m3⟩ : ∃ m : Nat, k = m ∧ m < L.length ∧ L[m]!.1 = X ∧ ∀ j, j < m → L[j]!.1 ≠ X := by
                  rcases hk64 with ⟨rfl, _⟩ | h
                  · omega
                  · exact h
                have hcx : Come (gOf L) [Y] X ↔ bs[m]! = true := by rw [hbs.2 m m1, m2]
                have hbl := hbs.1
                refine WL.rd_yes rfl rfl rfl rfl rfl rfl (Rd.move rfl rfl) ?_
                refine WL.rd_yes rfl rfl rfl rfl rfl rfl (Rd.move rfl rfl) ?_
                refine WL.rd_yes rfl rfl rfl rfl rfl rfl (Rd.idxA1 (enc := SL.one vbl) (xs := bs) (k := m) rfl S45 rfl rfl rfl (by repeat (first | assumption | exact mS | apply mT)) (by omega)) ?_
                refine WL.rd_yes rfl rfl rfl rfl rfl rfl (Rd.getA (g := vbl) (xs := bs) (k := m) rfl C4 rfl (by repeat (first | assumption | exact mS | apply mT)) (get!_of_lt (by omega))) ?_
                refine WL.rd_yes rfl rfl rfl rfl rfl rfl (Rd.pick_t rfl rfl rfl) ?_
                refine WL.say 83 (u := .bool (decide (Come (gOf L) [Y] X))) rfl (by first | exact (vbl_dec _).trans (vb hcx.symm) | exact vb_f hcx) ?_
                refine WL.rd_yes rfl rfl rfl rfl rfl rfl (Rd.bneq rfl rfl rfl Try.underlying4) ?_
                refine WL.say 84 (u := .bool (decide False)) rfl (by simp) ?_
                refine WL.rd rfl rfl rfl (Rd.pick_f rfl rfl rfl) ?_
                refine WL.nil ?_
                refine thenQ.normal ?_
                first | refine WC.ite rfl (fun hc4 => ?_) (fun hc4 => ?_) | refine WC.cond rfl (fun hc4 => ?_) (fun hc4 => ?_)
                · skip
                  simp at hc4
                · skip
                  refine WC.skip ?_
                  refine thenQ.normal ?_
                  refine WC.seq ?_
                  refine WC.region ?_
                  refine WL.rd rfl rfl rfl (Rd.move rfl rfl) ?_
                  refine WL.op rfl ?_
                  refine OpW.buildSl (ps := []) rfl S28 (by repeat (first | exact Evs.nil | apply Evs.cons rfl)) rfl rfl (by repeat (first | exact CellsOf.nil | apply CellsOf.cons rfl)) (by kernel_rfl) rfl rfl rfl ?_; intro b87
                  refine WL.heap (fun w h => Sat.accRow (enc := SL.one vs) (size := 1) (xs := ([] : List T)) (by repeat (first | assumption | exact Take.head _ | apply Take.tail)) rfl rfl (fun x => rfl) (by decide) h) ?_
                  refine WL.rd rfl rfl rfl (Rd.move rfl rfl) ?_
                  refine WL.op rfl ?_
                  refine OpW.appendE (enc := SL.one vs) (xs := ([] : List T)) (ys := S) rfl S28 Try.underlying28 rfl rfl (by repeat (first | assumption | exact Take.head _ | apply Take.tail)) (by repeat (first | assumption | exact mS | apply mT)) (by intro x; first | rfl | (cases x; rfl) | (rcases x with ⟨_, _, _⟩; rfl) | (rcases x with ⟨_, _, _, _⟩; rfl)) (by intro x; first | rfl | (cases x; rfl) | (rcases x with ⟨_, _, _⟩; rfl) | (rcases x with ⟨_, _, _, _⟩; rfl)) ⟨by show _ ≤ 9223372036854775807; rw [List.length_nil]; omega, by rw [List.length_nil]; omega⟩ rfl rfl ?_; intro v89 hv89
                  refine WL.heap (fun w h => Sat.shareA (xs := [] ++ S) (by repeat (first | assumption | exact Take.head _ | apply Take.tail)) h) ?_
                  refine WL.op rfl ?_
                  refine OpW.call rfl rfl (by repeat (first | exact Evs.nil | apply Evs.cons rfl)) (by kernel_rfl) rfl rfl rfl ?_
                  refine reach_spec (fs := S) (hG2.mono fun p hp => by repeat (first | exact hp | apply List.mem_cons_of_mem)) hcl hS List.mem_cons_self (by omega) ?_; intro v90 ks hka hks
                  refine WL.rd rfl rfl rfl (Rd.move rfl rfl) ?_
                  refine WL.rd rfl rfl rfl (Rd.move rfl rfl) ?_
                  refine WL.rd rfl rfl rfl (Rd.move rfl rfl) ?_
                  refine WL.op rfl ?_
                  refine OpW.call rfl rfl (by repeat (first | exact Evs.nil | apply Evs.cons rfl)) (by kernel_rfl) rfl rfl rfl ?_
                  refine rcome_spec (fs := S) (hNb2.mono fun p hp => by repeat (first | exact hp | apply List.mem_cons_of_mem)) hn (by repeat (first | assumption | exact mS | apply mT)) (by omega) (by omega) hsm2 ?_; intro v94 cs2 hcs2
                  refine WL.heap (fun w h => Sat.shareA (xs := cs2) (by repeat (first | assumption | exact Take.head _ | apply Take.tail)) h) ?_
                  refine WL.op rfl ?_
                  refine OpW.call rfl rfl (by repeat (first | exact Evs.nil | apply Evs.cons rfl)) (by kernel_rfl) rfl rfl rfl ?_
                  refine rsorted_spec (hNb2.mono fun p hp => by repeat (first | exact hp | apply List.mem_cons_of_mem)) hn List.mem_cons_self hcs2.1 (by omega) ?_; intro v95 out hoa hos
                  have hkid : ∀ k ∈ ks, k ∈ ids L := fun k h => ((hks k).1 h).mem hcl
                  have hkl := in_len hka.nodup hkid
                  obtain rfl : ks = out := Asc.uniq hka hoa fun z => by
                    rw [hks, hos]
                    constructor
                    · intro h
                      obtain ⟨j, hj, rfl⟩ := mem_ids.1 (h.mem hcl)
                      exact ⟨j, hj, (hcs2.2 j hj).2 h, rfl⟩
                    · rintro ⟨j, hj, h, rfl⟩
                      exact (hcs2.2 j hj).1 h
                  refine WL.heap (fun w h => Sat.shareA (v := v90) (xs := ks) (by repeat (first | assumption | exact Take.head _ | apply Take.tail)) h) ?_
                  refine WL.heap (fun w h => Sat.shareA (v := v95) (xs := ks) (by repeat (first | assumption | exact Take.head _ | apply Take.tail)) h) ?_
                  refine WL.op rfl ?_
                  refine OpW.call rfl rfl (by repeat (first | exact Evs.nil | apply Evs.cons rfl)) (by kernel_rfl) rfl rfl rfl ?_
                  refine texts_spec (xs := ks) (ys := ks) (List.mem_cons_of_mem _ List.mem_cons_self) List.mem_cons_self (by omega) (by omega) ?_
                  refine WL.say 96 (u := .bool (decide True)) rfl (by simp) ?_
                  refine WL.rd rfl rfl rfl (Rd.move rfl rfl) ?_
                  refine WL.case 97 rfl (fun hg97 => ?_) (fun hg97 => ?_)
                  · skip
                    refine WL.rd_yes rfl rfl rfl rfl rfl rfl (Rd.move rfl rfl) ?_
                    refine WL.rd_yes rfl rfl rfl rfl rfl rfl (Rd.move rfl rfl) ?_
                    refine WL.rd_yes rfl rfl rfl rfl rfl rfl (Rd.move rfl rfl) ?_
                    refine WL.op_yes rfl rfl rfl rfl ?_
                    refine OpW.call rfl rfl (by repeat (first | exact Evs.nil | apply Evs.cons rfl)) (by kernel_rfl) rfl rfl rfl ?_
                    refine bases_spec (hG2.mono fun p hp => by repeat (first | exact hp | apply List.mem_cons_of_mem)) hcl hS ?_; intro v101 bs1 hb1a hb1
                    refine WL.rd_yes rfl rfl rfl rfl rfl rfl (Rd.move rfl rfl) ?_
                    refine WL.rd_yes rfl rfl rfl rfl rfl rfl (Rd.move rfl rfl) ?_
                    refine WL.rd_yes rfl rfl rfl rfl rfl rfl (Rd.move rfl rfl) ?_
                    refine WL.op_yes rfl rfl rfl rfl ?_
                    refine OpW.call rfl rfl (by repeat (first | exact Evs.nil | apply Evs.cons rfl)) (by kernel_rfl) rfl rfl rfl ?_
                    refine rbases_spec (hNb2.mono fun p hp => by repeat (first | exact hp | apply List.mem_cons_of_mem)) hn hcl hcy (by omega) hsm2 ?_; intro v105 bs2 hb2a hb2
                    have hbid : ∀ k ∈ bs1, k ∈ ids L := fun k h => ((hb1 k).1 h).1.1.mem hcl
                    have hbbl := in_len hb1a.nodup hbid
                    obtain rfl : bs1 = bs2 := Asc.uniq hb1a hb2a fun z => (hb1 z).trans (hb2 z).symm
                    refine WL.heap (fun w h => Sat.shareA (v := v101) (xs := bs1) (by repeat (first | assumption | exact Take.head _ | apply Take.tail)) h) ?_
                    refine WL.heap (fun w h => Sat.shareA (v := v105) (xs := bs1) (by repeat (first | assumption | exact Take.head _ | apply Take.tail)) h) ?_
                    refine WL.op_yes rfl rfl rfl rfl ?_
                    refine OpW.call rfl rfl (by repeat (first | exact Evs.nil | apply Evs.cons rfl)) (by kernel_rfl) rfl rfl rfl ?_
                    refine texts_spec (xs := bs1) (ys := bs1) (List.mem_cons_of_mem _ List.mem_cons_self) List.mem_cons_self (by omega) (by omega) ?_
                    refine WL.say 106 (u := .bool (decide True)) rfl (by simp) ?_
                    refine WL.rd rfl rfl rfl (Rd.pick_t rfl rfl rfl) ?_
                    refine WL.rd rfl rfl rfl (Rd.move rfl rfl) ?_
                    refine WL.case 108 rfl (fun hg108 => ?_) (fun hg108 => ?_)
                    · skip
                      refine WL.rd_yes rfl rfl rfl rfl rfl rfl (Rd.move rfl rfl) ?_
                      refine WL.op_yes rfl rfl rfl rfl ?_
                      refine OpW.buildSl (ps := []) rfl S28 (by repeat (first | exact Evs.nil | apply Evs.cons rfl)) rfl rfl (by repeat (first | exact CellsOf.nil | apply CellsOf.cons rfl)) (by kernel_rfl) rfl rfl rfl ?_; intro b110
                      refine WL.heap (fun w h => Sat.accRow (enc := SL.one vs) (size := 1) (xs := ([] : List T)) (by repeat (first | assumption | exact Take.head _ | apply Take.tail)) rfl rfl (fun x => rfl) (by decide) h) ?_
                      refine WL.rd_yes rfl rfl rfl rfl rfl rfl (Rd.move rfl rfl) ?_
                      refine WL.op_yes rfl rfl rfl rfl ?_
                      refine OpW.appendE (enc := SL.one vs) (xs := ([] : List T)) (ys := S) rfl S28 Try.underlying28 rfl rfl (by repeat (first | assumption | exact Take.head _ | apply Take.tail)) (by repeat (first | assumption | exact mS | apply mT)) (by intro x; first | rfl | (cases x; rfl) | (rcases x with ⟨_, _, _⟩; rfl) | (rcases x with ⟨_, _, _, _⟩; rfl)) (by intro x; first | rfl | (cases x; rfl) | (rcases x with ⟨_, _, _⟩; rfl) | (rcases x with ⟨_, _, _, _⟩; rfl)) ⟨by show _ ≤ 9223372036854775807; rw [List.length_nil]; omega, by rw [List.length_nil]; omega⟩ rfl rfl ?_; intro v112 hv112
                      refine WL.heap (fun w h => Sat.shareA (xs := [] ++ S) (by repeat (first | assumption | exact Take.head _ | apply Take.tail)) h) ?_
                      refine WL.op_yes rfl rfl rfl rfl ?_
                      refine OpW.call rfl rfl (by repeat (first | exact Evs.nil | apply Evs.cons rfl)) (by kernel_rfl) rfl rfl rfl ?_
                      refine log_spec (fs := S) (hG2.mono fun p hp => by repeat (first | exact hp | apply List.mem_cons_of_mem)) hcl hS List.mem_cons_self (by omega) ?_; intro v113 lg1 hlg1
                      refine WL.rd_yes rfl rfl rfl rfl rfl rfl (Rd.move rfl rfl) ?_
                      refine WL.rd_yes rfl rfl rfl rfl rfl rfl (Rd.move rfl rfl) ?_
                      refine WL.op_yes rfl rfl rfl rfl ?_
                      refine OpW.call rfl rfl (by repeat (first | exact Evs.nil | apply Evs.cons rfl)) (by kernel_rfl) rfl rfl rfl ?_
                      refine rlog_spec (fs := S) (hNb2.mono fun p hp => by repeat (first | exact hp | apply List.mem_cons_of_mem)) hn hcl (by repeat (first | assumption | exact mS | apply mT)) (by omega) (by omega) hsm2 ?_; intro v116 lg2 hlg2
                      obtain rfl := hlg1.uniq hlg2
                      have hlgl := in_len hlg1.nodup.1 (fun k h => (hlg1.nodup.2 k h).mem hcl)
                      refine WL.heap (fun w h => Sat.shareA (v := v113) (xs := lg1) (by repeat (first | assumption | exact Take.head _ | apply Take.tail)) h) ?_
                      refine WL.heap (fun w h => Sat.shareA (v := v116) (xs := lg1) (by repeat (first | assumption | exact Take.head _ | apply Take.tail)) h) ?_
                      refine WL.op_yes rfl rfl rfl rfl ?_
                      refine OpW.call rfl rfl (by repeat (first | exact Evs.nil | apply Evs.cons rfl)) (by kernel_rfl) rfl rfl rfl ?_
                      refine texts_spec (xs := lg1) (ys := lg1) (List.mem_cons_of_mem _ List.mem_cons_self) List.mem_cons_self (by omega) (by omega) ?_
                      refine WL.say 117 (u := .bool true) rfl (by simp) ?_
                      refine WL.rd rfl rfl rfl (Rd.pick_t rfl rfl rfl) ?_
                      refine WL.rd rfl rfl rfl (Rd.assign rfl rfl) ?_
                      refine WL.nil ?_
                      refine thenQ.normal ?_
                      refine WC.heap (R' := R) (O' := O) (fun w h => OwnL.sat (by repeat (first | exact OwnL.refl | apply OwnL.take (by repeat (first | exact Take.head _ | apply Take.tail)) | apply OwnL.drop)) w (h.thin (fun p hp => by repeat (first | exact hp | apply List.mem_cons_of_mem)))) ?_
                      refine WC.ret (Ret.one Try.results5 rfl ?_)
                      exact hk
                    · skip
                      exact absurd trivial hg108
                  · skip
                    exact absurd trivial hg97
              · skip
                have hcx : ¬ Come (gOf L) [Y] X := fun h => by
                  have := hXk.1 (h.mem hcl)
                  omega
                refine WL.no rfl rfl rfl rfl rfl rfl ?_
                refine WL.no rfl rfl rfl rfl rfl rfl ?_
                refine WL.no rfl rfl rfl rfl rfl rfl ?_
                refine WL.no rfl rfl rfl rfl rfl rfl ?_
                refine WL.rd_yes rfl rfl rfl rfl rfl rfl (Rd.pick_f rfl rfl rfl) ?_
                refine WL.say 83 (u := .bool (decide (Come (gOf L) [Y] X))) rfl (by first | exact (vbl_dec _).trans (vb hcx.symm) | exact vb_f hcx) ?_
                refine WL.rd_yes rfl rfl rfl rfl rfl rfl (Rd.bneq rfl rfl rfl Try.underlying4) ?_
                refine WL.say 84 (u := .bool (decide False)) rfl (by simp) ?_
                refine WL.rd rfl rfl rfl (Rd.pick_f rfl rfl rfl) ?_
                refine WL.nil ?_
                refine thenQ.normal ?_
                first | refine WC.ite rfl (fun hc4 => ?_) (fun hc4 => ?_) | refine WC.cond rfl (fun hc4 => ?_) (fun hc4 => ?_)
                · skip
                  simp at hc4
                · skip
                  refine WC.skip ?_
                  refine thenQ.normal ?_
                  refine WC.seq ?_
                  refine WC.region ?_
                  refine WL.rd rfl rfl rfl (Rd.move rfl rfl) ?_
                  refine WL.op rfl ?_
                  refine OpW.buildSl (ps := []) rfl S28 (by repeat (first | exact Evs.nil | apply Evs.cons rfl)) rfl rfl (by repeat (first | exact CellsOf.nil | apply CellsOf.cons rfl)) (by kernel_rfl) rfl rfl rfl ?_; intro b87
                  refine WL.heap (fun w h => Sat.accRow (enc := SL.one vs) (size := 1) (xs := ([] : List T)) (by repeat (first | assumption | exact Take.head _ | apply Take.tail)) rfl rfl (fun x => rfl) (by decide) h) ?_
                  refine WL.rd rfl rfl rfl (Rd.move rfl rfl) ?_
                  refine WL.op rfl ?_
                  refine OpW.appendE (enc := SL.one vs) (xs := ([] : List T)) (ys := S) rfl S28 Try.underlying28 rfl rfl (by repeat (first | assumption | exact Take.head _ | apply Take.tail)) (by repeat (first | assumption | exact mS | apply mT)) (by intro x; first | rfl | (cases x; rfl) | (rcases x with ⟨_, _, _⟩; rfl) | (rcases x with ⟨_, _, _, _⟩; rfl)) (by intro x; first | rfl | (cases x; rfl) | (rcases x with ⟨_, _, _⟩; rfl) | (rcases x with ⟨_, _, _, _⟩; rfl)) ⟨by show _ ≤ 9223372036854775807; rw [List.length_nil]; omega, by rw [List.length_nil]; omega⟩ rfl rfl ?_; intro v89 hv89
                  refine WL.heap (fun w h => Sat.shareA (xs := [] ++ S) (by repeat (first | assumption | exact Take.head _ | apply Take.tail)) h) ?_
                  refine WL.op rfl ?_
                  refine OpW.call rfl rfl (by repeat (first | exact Evs.nil | apply Evs.cons rfl)) (by kernel_rfl) rfl rfl rfl ?_
                  refine reach_spec (fs := S) (hG2.mono fun p hp => by repeat (first | exact hp | apply List.mem_cons_of_mem)) hcl hS List.mem_cons_self (by omega) ?_; intro v90 ks hka hks
                  refine WL.rd rfl rfl rfl (Rd.move rfl rfl) ?_
                  refine WL.rd rfl rfl rfl (Rd.move rfl rfl) ?_
                  refine WL.rd rfl rfl rfl (Rd.move rfl rfl) ?_
                  refine WL.op rfl ?_
                  refine OpW.call rfl rfl (by repeat (first | exact Evs.nil | apply Evs.cons rfl)) (by kernel_rfl) rfl rfl rfl ?_
                  refine rcome_spec (fs := S) (hNb2.mono fun p hp => by repeat (first | exact hp | apply List.mem_cons_of_mem)) hn (by repeat (first | assumption | exact mS | apply mT)) (by omega) (by omega) hsm2 ?_; intro v94 cs2 hcs2
                  refine WL.heap (fun w h => Sat.shareA (xs := cs2) (by repeat (first | assumption | exact Take.head _ | apply Take.tail)) h) ?_
                  refine WL.op rfl ?_
                  refine OpW.call rfl rfl (by repeat (first | exact Evs.nil | apply Evs.cons rfl)) (by kernel_rfl) rfl rfl rfl ?_
                  refine rsorted_spec (hNb2.mono fun p hp => by repeat (first | exact hp | apply List.mem_cons_of_mem)) hn List.mem_cons_self hcs2.1 (by omega) ?_; intro v95 out hoa hos
                  have hkid : ∀ k ∈ ks, k ∈ ids L := fun k h => ((hks k).1 h).mem hcl
                  have hkl := in_len hka.nodup hkid
                  obtain rfl : ks = out := Asc.uniq hka hoa fun z => by
                    rw [hks, hos]
                    constructor
                    · intro h
                      obtain ⟨j, hj, rfl⟩ := mem_ids.1 (h.mem hcl)
                      exact ⟨j, hj, (hcs2.2 j hj).2 h, rfl⟩
                    · rintro ⟨j, hj, h, rfl⟩
                      exact (hcs2.2 j hj).1 h
                  refine WL.heap (fun w h => Sat.shareA (v := v90) (xs := ks) (by repeat (first | assumption | exact Take.head _ | apply Take.tail)) h) ?_
                  refine WL.heap (fun w h => Sat.shareA (v := v95) (xs := ks) (by repeat (first | assumption | exact Take.head _ | apply Take.tail)) h) ?_
                  refine WL.op rfl ?_
                  refine OpW.call rfl rfl (by repeat (first | exact Evs.nil | apply Evs.cons rfl)) (by kernel_rfl) rfl rfl rfl ?_
                  refine texts_spec (xs := ks) (ys := ks) (List.mem_cons_of_mem _ List.mem_cons_self) List.mem_cons_self (by omega) (by omega) ?_
                  refine WL.say 96 (u := .bool (decide True)) rfl (by simp) ?_
                  refine WL.rd rfl rfl rfl (Rd.move rfl rfl) ?_
                  refine WL.case 97 rfl (fun hg97 => ?_) (fun hg97 => ?_)
                  · skip
                    refine WL.rd_yes rfl rfl rfl rfl rfl rfl (Rd.move rfl rfl) ?_
                    refine WL.rd_yes rfl rfl rfl rfl rfl rfl (Rd.move rfl rfl) ?_
                    refine WL.rd_yes rfl rfl rfl rfl rfl rfl (Rd.move rfl rfl) ?_
                    refine WL.op_yes rfl rfl rfl rfl ?_
                    refine OpW.call rfl rfl (by repeat (first | exact Evs.nil | apply Evs.cons rfl)) (by kernel_rfl) rfl rfl rfl ?_
                    refine bases_spec (hG2.mono fun p hp => by repeat (first | exact hp | apply List.mem_cons_of_mem)) hcl hS ?_; intro v101 bs1 hb1a hb1
                    refine WL.rd_yes rfl rfl rfl rfl rfl rfl (Rd.move rfl rfl) ?_
                    refine WL.rd_yes rfl rfl rfl rfl rfl rfl (Rd.move rfl rfl) ?_
                    refine WL.rd_yes rfl rfl rfl rfl rfl rfl (Rd.move rfl rfl) ?_
                    refine WL.op_yes rfl rfl rfl rfl ?_
                    refine OpW.call rfl rfl (by repeat (first | exact Evs.nil | apply Evs.cons rfl)) (by kernel_rfl) rfl rfl rfl ?_
                    refine rbases_spec (hNb2.mono fun p hp => by repeat (first | exact hp | apply List.mem_cons_of_mem)) hn hcl hcy (by omega) hsm2 ?_; intro v105 bs2 hb2a hb2
                    have hbid : ∀ k ∈ bs1, k ∈ ids L := fun k h => ((hb1 k).1 h).1.1.mem hcl
                    have hbbl := in_len hb1a.nodup hbid
                    obtain rfl : bs1 = bs2 := Asc.uniq hb1a hb2a fun z => (hb1 z).trans (hb2 z).symm
                    refine WL.heap (fun w h => Sat.shareA (v := v101) (xs := bs1) (by repeat (first | assumption | exact Take.head _ | apply Take.tail)) h) ?_
                    refine WL.heap (fun w h => Sat.shareA (v := v105) (xs := bs1) (by repeat (first | assumption | exact Take.head _ | apply Take.tail)) h) ?_
                    refine WL.op_yes rfl rfl rfl rfl ?_
                    refine OpW.call rfl rfl (by repeat (first | exact Evs.nil | apply Evs.cons rfl)) (by kernel_rfl) rfl rfl rfl ?_
                    refine texts_spec (xs := bs1) (ys := bs1) (List.mem_cons_of_mem _ List.mem_cons_self) List.mem_cons_self (by omega) (by omega) ?_
                    refine WL.say 106 (u := .bool (decide True)) rfl (by simp) ?_
                    refine WL.rd rfl rfl rfl (Rd.pick_t rfl rfl rfl) ?_
                    refine WL.rd rfl rfl rfl (Rd.move rfl rfl) ?_
                    refine WL.case 108 rfl (fun hg108 => ?_) (fun hg108 => ?_)
                    · skip
                      refine WL.rd_yes rfl rfl rfl rfl rfl rfl (Rd.move rfl rfl) ?_
                      refine WL.op_yes rfl rfl rfl rfl ?_
                      refine OpW.buildSl (ps := []) rfl S28 (by repeat (first | exact Evs.nil | apply Evs.cons rfl)) rfl rfl (by repeat (first | exact CellsOf.nil | apply CellsOf.cons rfl)) (by kernel_rfl) rfl rfl rfl ?_; intro b110
                      refine WL.heap (fun w h => Sat.accRow (enc := SL.one vs) (size := 1) (xs := ([] : List T)) (by repeat (first | assumption | exact Take.head _ | apply Take.tail)) rfl rfl (fun x => rfl) (by decide) h) ?_
                      refine WL.rd_yes rfl rfl rfl rfl rfl rfl (Rd.move rfl rfl) ?_
                      refine WL.op_yes rfl rfl rfl rfl ?_
                      refine OpW.appendE (enc := SL.one vs) (xs := ([] : List T)) (ys := S) rfl S28 Try.underlying28 rfl rfl (by repeat (first | assumption | exact Take.head _ | apply Take.tail)) (by repeat (first | assumption | exact mS | apply mT)) (by intro x; first | rfl | (cases x; rfl) | (rcases x with ⟨_, _, _⟩; rfl) | (rcases x with ⟨_, _, _, _⟩; rfl)) (by intro x; first | rfl | (cases x; rfl) | (rcases x with ⟨_, _, _⟩; rfl) | (rcases x with ⟨_, _, _, _⟩; rfl)) ⟨by show _ ≤ 9223372036854775807; rw [List.length_nil]; omega, by rw [List.length_nil]; omega⟩ rfl rfl ?_; intro v112 hv112
                      refine WL.heap (fun w h => Sat.shareA (xs := [] ++ S) (by repeat (first | assumption | exact Take.head _ | apply Take.tail)) h) ?_
                      refine WL.op_yes rfl rfl rfl rfl ?_
                      refine OpW.call rfl rfl (by repeat (first | exact Evs.nil | apply Evs.cons rfl)) (by kernel_rfl) rfl rfl rfl ?_
                      refine log_spec (fs := S) (hG2.mono fun p hp => by repeat (first | exact hp | apply List.mem_cons_of_mem)) hcl hS List.mem_cons_self (by omega) ?_; intro v113 lg1 hlg1
                      refine WL.rd_yes rfl rfl rfl rfl rfl rfl (Rd.move rfl rfl) ?_
                      refine WL.rd_yes rfl rfl rfl rfl rfl rfl (Rd.move rfl rfl) ?_
                      refine WL.op_yes rfl rfl rfl rfl ?_
                      refine OpW.call rfl rfl (by repeat (first | exact Evs.nil | apply Evs.cons rfl)) (by kernel_rfl) rfl rfl rfl ?_
                      refine rlog_spec (fs := S) (hNb2.mono fun p hp => by repeat (first | exact hp | apply List.mem_cons_of_mem)) hn hcl (by repeat (first | assumption | exact mS | apply mT)) (by omega) (by omega) hsm2 ?_; intro v116 lg2 hlg2
                      obtain rfl := hlg1.uniq hlg2
                      have hlgl := in_len hlg1.nodup.1 (fun k h => (hlg1.nodup.2 k h).mem hcl)
                      refine WL.heap (fun w h => Sat.shareA (v := v113) (xs := lg1) (by repeat (first | assumption | exact Take.head _ | apply Take.tail)) h) ?_
                      refine WL.heap (fun w h => Sat.shareA (v := v116) (xs := lg1) (by repeat (first | assumption | exact Take.head _ | apply Take.tail)) h) ?_
                      refine WL.op_yes rfl rfl rfl rfl ?_
                      refine OpW.call rfl rfl (by repeat (first | exact Evs.nil | apply Evs.cons rfl)) (by kernel_rfl) rfl rfl rfl ?_
                      refine texts_spec (xs := lg1) (ys := lg1) (List.mem_cons_of_mem _ List.mem_cons_self) List.mem_cons_self (by omega) (by omega) ?_
                      refine WL.say 117 (u := .bool true) rfl (by simp) ?_
                      refine WL.rd rfl rfl rfl (Rd.pick_t rfl rfl rfl) ?_
                      refine WL.rd rfl rfl rfl (Rd.assign rfl rfl) ?_
                      refine WL.nil ?_
                      refine thenQ.normal ?_
                      refine WC.heap (R' := R) (O' := O) (fun w h => OwnL.sat (by repeat (first | exact OwnL.refl | apply OwnL.take (by repeat (first | exact Take.head _ | apply Take.tail)) | apply OwnL.drop)) w (h.thin (fun p hp => by repeat (first | exact hp | apply List.mem_cons_of_mem)))) ?_
                      refine WC.ret (Ret.one Try.results5 rfl ?_)
                      exact hk
                    · skip
                      exact absurd trivial hg108
                  · skip
                    exact absurd trivial hg97
end
end Go.Proofs.Ytfenbhaehkkkeaa
