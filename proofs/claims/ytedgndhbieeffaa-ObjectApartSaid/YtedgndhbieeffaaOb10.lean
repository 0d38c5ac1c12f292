/-
  Layer 11: the document's Decode.
-/
import Derived.Test.YtedgndhbieeffaaOb9
namespace Go.Proofs.Ytedgndhbieeffaa
open Go Go.SL Go.RowKit

theorem parts_pos {s r : List UInt8} {l : List (List UInt8)} (h : Parts s l r) : r.length ≤ s.length ∧ r = s.drop (s.length - r.length) := by
  obtain ⟨e, _, _⟩ := h.join
  have hl : s.length = (joinE l).length + r.length := by rw [e, List.length_append]
  refine ⟨by omega, ?_⟩
  rw [show s.length - r.length = (joinE l).length from by omega, e, List.drop_left]
section
variable {R : List RO} {O : List Own} {POST : Value → List RO → List Own → Prop} {b : Nat} {o : Ob} {ev pv : Value}
set_option maxRecDepth 20000 in
set_option maxHeartbeats 8000000 in
theorem refDecode_spec {s : List UInt8} (hs : s.length ≤ 8000000000000) (hk : ∀ o e ev pv b2 cs, DecP s o e → POST (.tuple #[obV o ev pv, .int .i64 e]) (SlE encT ev o.ents :: SlE (one vs) pv o.pars :: R) (rowC b2 33 cs :: O)) : Fun Try.prog 15 #[vs s] R O POST := by
  have hfin : ∀ o e, DecP s o e = _ := fun o e => DecP.eq_1 s o e
  refine Fun.enter (l := [_]) Try.func15 rfl Try.ntmps15 rfl (L0 := [(0, _)]) rfl ?_
  refine WC.seq ?_
  refine WC.region ?_
  refine WL.op rfl ?_
  refine OpW.alloc rfl I33 rfl (by repeat (first | exact NF.nil | apply NF.cons)) rfl rfl ?_; intro b2
  refine WL.rd rfl rfl rfl (Rd.assign rfl rfl) ?_
  refine WL.nil ?_
  refine thenQ.normal ?_
  refine WC.seq ?_
  refine WC.seq ?_
  refine WC.region ?_
  refine WL.rd rfl rfl rfl (Rd.move rfl rfl) ?_
  refine WL.rd rfl rfl rfl (Rd.seql rfl rfl rfl) ?_
  refine WL.nil ?_
  refine thenQ.normal ?_
  first | refine WC.ite rfl (fun hc1 => ?_) (fun hc1 => ?_) | refine WC.cond rfl (fun hc1 => ?_) (fun hc1 => ?_)
  · skip
    simp only [if_pos hc1] at hfin
    refine WC.seq ?_
    refine WC.region ?_
    refine WL.rd rfl rfl rfl (Rd.buildN (ps := []) rfl Bs33 I33 rfl (by repeat (first | exact Evs.nil | apply Evs.cons rfl)) (by repeat (first | exact CellsOf.nil | apply CellsOf.cons rfl)) (by apply NFo.mk; repeat (first | exact NF.nil | apply NF.cons))) ?_
    refine WL.op rfl ?_
    refine OpW.storeS rfl G33 rfl rfl (by repeat (first | exact NF.nil | apply NF.cons)) (by repeat (first | assumption | exact Take.head _ | apply Take.tail)) rfl rfl (by repeat (first | exact NF.nil | apply NF.cons)) rfl ?_
    refine WL.rd rfl rfl rfl (Rd.assign rfl rfl) ?_
    refine WL.nil ?_
    refine thenQ.normal ?_
    refine WC.heap (fun w h => Sat.nilE (α := List UInt8) (enc := one vs) h) ?_
    refine WC.heap (fun w h => Sat.nilE (α := ET) (enc := encT) h) ?_
    refine WC.ret (Ret.cellTmp Try.results15 rfl rfl (by repeat (first | assumption | exact mS | apply mT)) G33 rfl ?_)
    exact hk zOb 3 _ _ _ _ (by rw [hfin]; exact ⟨rfl, rfl⟩)
  · skip
    have h0 : 0 < s.length := List.length_pos_iff.2 hc1
    simp only [if_neg hc1] at hfin
    refine WC.skip ?_
    refine thenQ.normal ?_
    refine WC.seq ?_
    refine WC.region ?_
    refine WL.rd rfl rfl rfl (Rd.move rfl rfl) ?_
    refine WL.rd rfl rfl rfl (Rd.sidx (k := 0) (b := s[0]!) rfl Try.underlying9 rfl rfl rfl (get!_of_lt (by omega))) ?_
    refine WL.rd rfl rfl rfl (Rd.conv (kd' := .i64) rfl rfl Try.underlying3 (wrap_i64 (by have := UInt8.toNat_lt s[0]!; omega)) (hS := Try.underlying5)) ?_
    obtain ⟨k, hkv⟩ : ∃ k, k = kOf s := ⟨_, rfl⟩
    refine WL.say 24 (u := .int .i64 k) rfl (by rw [hkv]; rfl) ?_
    rw [← hkv] at hfin
    refine WL.rd rfl rfl rfl (Rd.assign rfl rfl) ?_
    refine WL.nil ?_
    refine thenQ.normal ?_
    refine WC.seq ?_
    refine WC.pick [0, 2, 4] (by repeat (first | exact Pick.nil | apply Pick.cons rfl)) ?_
    refine WC.val 30 (.bool (decide (¬ (1 ≤ k ∧ k ≤ 4)))) ?_ ?_
    · skip
      refine WC.region ?_
      refine WL.rd rfl rfl rfl (Rd.move rfl rfl) ?_
      refine WL.rd rfl rfl rfl (Rd.lss rfl rfl rfl) ?_
      refine WL.rd rfl rfl rfl (Rd.move rfl rfl) ?_
      refine WL.case 27 rfl (fun hg27 => ?_) (fun hg27 => ?_)
      · skip
        refine WL.no rfl rfl rfl rfl rfl rfl ?_
        refine WL.no rfl rfl rfl rfl rfl rfl ?_
        refine WL.rd rfl rfl rfl (Rd.pick_t rfl rfl rfl) ?_
        refine WL.nil ?_
        exact ⟨by repeat (first | exact Sub.nil | refine Sub.cons rfl (by first | rfl | (first | exact vb_t (by omega) | exact vb (by omega))) ?_), by first | exact (fun _ h => h.thin (SubL.mem (by repeat (first | exact SubL.refl | refine SubL.cons (by repeat (first | assumption | exact mS | apply mT)) ?_ | refine SubL.skip ?_)))) | exact (fun w h => OwnL.sat (by repeat (first | exact OwnL.refl | apply OwnL.take (by repeat (first | exact Take.head _ | apply Take.tail)) | apply OwnL.drop)) w (h.thin (SubL.mem (by repeat (first | exact SubL.refl | refine SubL.cons (by repeat (first | assumption | exact mS | apply mT)) ?_ | refine SubL.skip ?_)))))⟩
      · skip
        refine WL.rd_yes rfl rfl rfl rfl rfl rfl (Rd.move rfl rfl) ?_
        refine WL.rd_yes rfl rfl rfl rfl rfl rfl (Rd.gtr rfl rfl rfl) ?_
        refine WL.rd rfl rfl rfl (Rd.pick_f rfl rfl rfl) ?_
        refine WL.nil ?_
        exact ⟨by repeat (first | exact Sub.nil | refine Sub.cons rfl (by first | rfl | (first | exact vb_t (by omega) | exact vb (by omega))) ?_), by first | exact (fun _ h => h.thin (SubL.mem (by repeat (first | exact SubL.refl | refine SubL.cons (by repeat (first | assumption | exact mS | apply mT)) ?_ | refine SubL.skip ?_)))) | exact (fun w h => OwnL.sat (by repeat (first | exact OwnL.refl | apply OwnL.take (by repeat (first | exact Take.head _ | apply Take.tail)) | apply OwnL.drop)) w (h.thin (SubL.mem (by repeat (first | exact SubL.refl | refine SubL.cons (by repeat (first | assumption | exact mS | apply mT)) ?_ | refine SubL.skip ?_)))))⟩
    · skip
      first | refine WC.ite rfl (fun hc2 => ?_) (fun hc2 => ?_) | refine WC.cond rfl (fun hc2 => ?_) (fun hc2 => ?_)
      · skip
        simp only [if_pos hc2] at hfin
        refine WC.seq ?_
        refine WC.region ?_
        refine WL.rd rfl rfl rfl (Rd.buildN (ps := []) rfl Bs33 I33 rfl (by repeat (first | exact Evs.nil | apply Evs.cons rfl)) (by repeat (first | exact CellsOf.nil | apply CellsOf.cons rfl)) (by apply NFo.mk; repeat (first | exact NF.nil | apply NF.cons))) ?_
        refine WL.op rfl ?_
        refine OpW.storeS rfl G33 rfl rfl (by repeat (first | exact NF.nil | apply NF.cons)) (by repeat (first | assumption | exact Take.head _ | apply Take.tail)) rfl rfl (by repeat (first | exact NF.nil | apply NF.cons)) rfl ?_
        refine WL.rd rfl rfl rfl (Rd.assign rfl rfl) ?_
        refine WL.nil ?_
        refine thenQ.normal ?_
        refine WC.heap (fun w h => Sat.nilE (α := List UInt8) (enc := one vs) h) ?_
        refine WC.heap (fun w h => Sat.nilE (α := ET) (enc := encT) h) ?_
        refine WC.ret (Ret.cellTmp Try.results15 rfl rfl (by repeat (first | assumption | exact mS | apply mT)) G33 rfl ?_)
        exact hk zOb 15 _ _ _ _ (by rw [hfin]; exact ⟨rfl, rfl⟩)
      · skip
        have hkk : 1 ≤ k ∧ k ≤ 4 := Decidable.not_not.1 hc2
        simp only [if_neg hc2] at hfin
        refine WC.skip ?_
        refine thenQ.normal ?_
        refine WC.seq ?_
        refine WC.seq ?_
        refine WC.region ?_
        refine WL.rd rfl rfl rfl (Rd.move rfl rfl) ?_
        refine WL.rd rfl rfl rfl (Rd.slen (ts := #[]) (ty := 0) rfl rfl Try.underlying9) ?_
        refine WL.rd rfl rfl rfl (Rd.gtr rfl rfl rfl) ?_
        refine WL.nil ?_
        refine thenQ.normal ?_
        first | refine WC.ite rfl (fun hc3 => ?_) (fun hc3 => ?_) | refine WC.cond rfl (fun hc3 => ?_) (fun hc3 => ?_)
        · skip
          simp only [if_pos (show 262208 < s.length by omega)] at hfin
          refine WC.seq ?_
          refine WC.region ?_
          refine WL.rd rfl rfl rfl (Rd.buildN (ps := []) rfl Bs33 I33 rfl (by repeat (first | exact Evs.nil | apply Evs.cons rfl)) (by repeat (first | exact CellsOf.nil | apply CellsOf.cons rfl)) (by apply NFo.mk; repeat (first | exact NF.nil | apply NF.cons))) ?_
          refine WL.op rfl ?_
          refine OpW.storeS rfl G33 rfl rfl (by repeat (first | exact NF.nil | apply NF.cons)) (by repeat (first | assumption | exact Take.head _ | apply Take.tail)) rfl rfl (by repeat (first | exact NF.nil | apply NF.cons)) rfl ?_
          refine WL.rd rfl rfl rfl (Rd.assign rfl rfl) ?_
          refine WL.nil ?_
          refine thenQ.normal ?_
          refine WC.heap (fun w h => Sat.nilE (α := List UInt8) (enc := one vs) h) ?_
          refine WC.heap (fun w h => Sat.nilE (α := ET) (enc := encT) h) ?_
          refine WC.ret (Ret.cellTmp Try.results15 rfl rfl (by repeat (first | assumption | exact mS | apply mT)) G33 rfl ?_)
          exact hk zOb 6 _ _ _ _ (by rw [hfin]; exact ⟨rfl, rfl⟩)
        · skip
          have hsl : s.length ≤ 262208 := by omega
          simp only [if_neg (show ¬ 262208 < s.length by omega)] at hfin
          refine WC.skip ?_
          refine thenQ.normal ?_
          refine WC.seq ?_
          refine WC.region ?_
          refine WL.rd rfl rfl rfl (Rd.assign rfl rfl) ?_
          refine WL.nil ?_
          refine thenQ.normal ?_
          refine WC.seq ?_
          refine WC.seq ?_
          refine WC.region ?_
          refine WL.rd rfl rfl rfl (Rd.assign rfl rfl) ?_
          refine WL.say 6 (u := .int .i64 ((s.length - (s.drop 1).length : Nat) : Int)) rfl (by rw [List.length_drop]; congr 1; omega) ?_
          refine WL.nil ?_
          refine thenQ.normal ?_
          refine WC.block ?_
          refine WC.pick [5, 6, 0, 2, 4] (by repeat (first | exact Pick.nil | apply Pick.cons rfl)) ?_
          refine WC.loop3 2 (fun (r : List UInt8) (l : List (List UInt8)) (v : Value) => [(5, v), (6, .int .i64 ((s.length - r.length : Nat) : Int))]) (fun (r : List UInt8) (l : List (List UInt8)) (v : Value) => accC 9 1 (one vs) v l :: rowC b2 33 zC :: O) (fun (r : List UInt8) (l : List (List UInt8)) (v : Value) => Parts (s.drop 1) l r ∧ OneV v) (fun (r : List UInt8) (l : List (List UInt8)) (v : Value) => r.length) (s.drop 1) ([]) (.slice none 0 0) (by repeat (first | exact Split.zero | apply Split.succ)) ?hinv1 (by repeat (first | exact Sub.nil | refine Sub.cons rfl (by first | rfl | (congr 1; omega) | assumption) ?_)) (fun w h => by
          have g1 := h.accNil (α := List UInt8) (e := 9) (size := 1) (enc := one vs)
          exact (fun w h => OwnL.sat (by repeat (first | exact OwnL.refl | apply OwnL.take (by repeat (first | exact Take.head _ | apply Take.tail)) | apply OwnL.drop)) w (h.thin (SubL.mem (by repeat (first | exact SubL.refl | refine SubL.cons (by repeat (first | assumption | exact mS | apply mT)) ?_ | refine SubL.skip ?_))))) w g1) ?_
          case hinv1 =>
            exact ⟨.nil, OneV.sl⟩
          intro r l v
          rintro ⟨hP, hv⟩
          
          obtain ⟨hj, hsm, hln⟩ := hP.join
          obtain ⟨hrl, hrd⟩ := parts_pos hP
          rw [List.length_drop] at hrl hrd hln
          have hrd2 : s.drop (s.length - r.length) = r := by conv => rhs; rw [hrd, List.drop_drop, show 1 + (s.length - 1 - r.length) = s.length - r.length from by omega]
          refine WC.seq ?_
          refine WC.seq ?_
          refine WC.region ?_
          refine WL.rd rfl rfl rfl (Rd.move rfl rfl) ?_
          refine WL.rd rfl rfl rfl (Rd.move rfl rfl) ?_
          refine WL.rd rfl rfl rfl (Rd.slen (ts := #[]) (ty := 0) rfl rfl Try.underlying9) ?_
          refine WL.rd rfl rfl rfl (Rd.lss rfl rfl rfl) ?_
          refine WL.nil ?_
          refine thenQ.normal ?_
          first | refine WC.ite rfl (fun hc4 => ?_) (fun hc4 => ?_) | refine WC.cond rfl (fun hc4 => ?_) (fun hc4 => ?_)
          · skip
            refine WC.skip ?_
            refine thenQ.normal ?_
            refine WC.block ?_
            refine WC.seq ?_
            refine WC.region ?_
            refine WL.rd rfl rfl rfl (Rd.move rfl rfl) ?_
            refine WL.rd rfl rfl rfl (Rd.move rfl rfl) ?_
            refine WL.rd rfl rfl rfl (Rd.scut_l (lo := s.length - r.length) rfl Try.underlying9 rfl rfl rfl (by omega)) ?_
            refine WL.say 43 (u := vs r) rfl (by rw [hrd2]) ?_
            refine WL.op rfl ?_
            refine OpW.call rfl rfl (by repeat (first | exact Evs.nil | apply Evs.cons rfl)) (by kernel_rfl) rfl rfl rfl ?_
            refine rnext_spec (by omega) ?_
            refine WL.rd rfl rfl rfl (Rd.move rfl rfl) ?_
            refine WL.rd rfl rfl rfl (Rd.extract rfl rfl rfl) ?_
            refine WL.rd rfl rfl rfl (Rd.extract rfl rfl rfl) ?_
            refine WL.rd rfl rfl rfl (Rd.extract rfl rfl rfl) ?_
            refine WL.rd rfl rfl rfl (Rd.assign rfl rfl) ?_
            refine WL.rd rfl rfl rfl (Rd.assign rfl rfl) ?_
            refine WL.rd rfl rfl rfl (Rd.assign rfl rfl) ?_
            refine WL.nil ?_
            refine thenQ.normal ?_
            refine WC.seq ?_
            refine WC.seq ?_
            refine WC.region ?_
            refine WL.rd rfl rfl rfl (Rd.move rfl rfl) ?_
            refine WL.rd rfl rfl rfl (Rd.neq rfl rfl rfl) ?_
            refine WL.nil ?_
            refine thenQ.normal ?_
            first | refine WC.ite rfl (fun hc5 => ?_) (fun hc5 => ?_) | refine WC.cond rfl (fun hc5 => ?_) (fun hc5 => ?_)
            · skip
              refine WC.seq ?_
              refine WC.region ?_
              refine WL.rd rfl rfl rfl (Rd.buildN (ps := []) rfl Bs33 I33 rfl (by repeat (first | exact Evs.nil | apply Evs.cons rfl)) (by repeat (first | exact CellsOf.nil | apply CellsOf.cons rfl)) (by apply NFo.mk; repeat (first | exact NF.nil | apply NF.cons))) ?_
              refine WL.rd rfl rfl rfl (Rd.move rfl rfl) ?_
              refine WL.op rfl ?_
              refine OpW.storeS rfl G33 rfl rfl (by repeat (first | exact NF.nil | apply NF.cons)) (by repeat (first | assumption | exact Take.head _ | apply Take.tail)) rfl rfl (by repeat (first | exact NF.nil | apply NF.cons)) rfl ?_
              refine WL.rd rfl rfl rfl (Rd.assign rfl rfl) ?_
              refine WL.nil ?_
              refine thenQ.normal ?_
              refine WC.heap (R' := SlE encT (.slice none 0 0) ([] : List ET) :: SlE (one vs) (.slice none 0 0) ([] : List (List UInt8)) :: R) (O' := rowC b2 33 zC :: O) (fun w h => by
              have g1 := Sat.nilE (α := List UInt8) (enc := one vs) h
              have g2 := Sat.nilE (α := ET) (enc := encT) g1
              exact (fun w h => OwnL.sat (by repeat (first | exact OwnL.refl | apply OwnL.take (by repeat (first | exact Take.head _ | apply Take.tail)) | apply OwnL.drop)) w (h.thin (SubL.mem (by repeat (first | exact SubL.refl | refine SubL.cons (by repeat (first | assumption | exact mS | apply mT)) ?_ | refine SubL.skip ?_))))) w g2) ?_
              refine WC.ret (Ret.cellTmp Try.results15 rfl rfl (by repeat (first | assumption | exact mS | apply mT)) G33 rfl ?_)
              exact hk zOb (nextE r).2.2 _ _ _ _ (by rw [hfin]; exact ⟨l, r, hP, .inl ⟨fun h => by rw [h] at hc4; simp at hc4, hc5, rfl, rfl⟩⟩)
            · skip
              obtain ⟨rest, e1, e2, e3, e4⟩ := nextE_ok (s := r) (Decidable.not_not.1 hc5)
              have e5 := congrArg List.length e1
              rw [List.length_append, List.length_append, putE_length] at e5
              rw [putE_length] at e3
              refine WC.skip ?_
              refine thenQ.normal ?_
              refine WC.seq ?_
              refine WC.region ?_
              refine WL.rd rfl rfl rfl (Rd.move rfl rfl) ?_
              refine WL.rd rfl rfl rfl (Rd.move rfl rfl) ?_
              refine WL.op rfl ?_
              refine OpW.buildSl (ps := [(0, _)]) rfl S23 (by repeat (first | exact Evs.nil | apply Evs.cons rfl)) rfl rfl (by repeat (first | exact CellsOf.nil | apply CellsOf.cons rfl)) (by kernel_rfl) rfl rfl rfl ?_; intro b54
              refine WL.op rfl ?_
              refine OpW.appendRow (enc := one vs) rfl S23 rfl rfl (by repeat (first | assumption | exact Take.head _ | apply Take.tail)) (by repeat (first | assumption | exact Take.head _ | apply Take.tail)) [(nextE r).1] rfl (by rfl) rfl (by intro x; first | rfl | (cases x; rfl) | (rcases x with ⟨_, _, _⟩; rfl) | (rcases x with ⟨_, _, _, _⟩; rfl)) (by intro x; first | rfl | (cases x; rfl) | (rcases x with ⟨_, _, _⟩; rfl) | (rcases x with ⟨_, _, _, _⟩; rfl)) ⟨by simp only [maxLen, List.length_append, List.length_nil, List.length_cons, List.length_drop, List.length_take, List.length_map]; omega, by first | omega | (simp only [List.length_append, List.length_nil, List.length_cons, List.length_drop, List.length_take, List.length_map]; omega)⟩ rfl rfl ?_; intro v55 hv55
              refine WL.rd rfl rfl rfl (Rd.assign rfl rfl) ?_
              refine WL.nil ?_
              refine thenQ.normal ?_
              refine WC.region ?_
              refine WL.rd rfl rfl rfl (Rd.move rfl rfl) ?_
              refine WL.rd rfl rfl rfl (Rd.move rfl rfl) ?_
              refine WL.rd rfl rfl rfl (Rd.add rfl rfl rfl (by omega)) ?_
              refine WL.rd rfl rfl rfl (Rd.assign rfl rfl) ?_
              refine WL.nil ?_
              refine blockQ.normal ?_
              exact loopQ3.mk (r.drop (nextE r).2.1.toNat) (l ++ [(nextE r).1]) v55 ⟨hP.snoc (Decidable.not_not.1 hc5), hv55⟩ (by rw [e4]; omega) (by refine Sub.cons rfl rfl ?_; refine Sub.cons rfl (by rw [e4]; congr 1; omega) ?_; exact (by repeat (first | exact Sub.nil | refine Sub.cons rfl (by first | rfl | (congr 1; omega) | assumption) ?_))) (fun w h => OwnL.sat (by repeat (first | exact OwnL.refl | apply OwnL.take (by repeat (first | exact Take.head _ | apply Take.tail)) | apply OwnL.drop)) w (h.thin (SubL.mem (by repeat (first | exact SubL.refl | refine SubL.cons (by repeat (first | assumption | exact mS | apply mT)) ?_ | refine SubL.skip ?_)))))
          · skip
            obtain rfl : r = [] := List.length_eq_zero_iff.1 (by omega)
            have hds := fun hsh => doc_iff (s := s) (l := l) hc1 (by rw [← hkv]; exact hkk) hsl hP hsh
            rw [← hkv] at hds
            refine WC.heap (R' := SlE (one vs) v l :: R) (O' := rowC b2 33 zC :: O) (fun w h => by
              have g1 := Sat.shareA (xs := l) (by repeat (first | assumption | exact Take.head _ | apply Take.tail)) h
              exact (fun w h => OwnL.sat (by repeat (first | exact OwnL.refl | apply OwnL.take (by repeat (first | exact Take.head _ | apply Take.tail)) | apply OwnL.drop)) w (h.thin (SubL.mem (by repeat (first | exact SubL.refl | refine SubL.cons (by repeat (first | assumption | exact mS | apply mT)) ?_ | refine SubL.skip ?_))))) w g1) ?_
            refine WC.exit ?_
            refine thenQ.exit ?_
            refine loopQ3.exit ?_
            refine blockQ.exit ?_
            refine thenQ.normal ?_
            refine WC.seq ?_
            refine WC.region ?_
            refine WL.rd rfl rfl rfl (Rd.move rfl rfl) ?_
            refine WL.rd rfl rfl rfl (Rd.buildN (ps := [(0, _)]) rfl Bs33 I33 rfl (by repeat (first | exact Evs.nil | apply Evs.cons rfl)) (by repeat (first | exact CellsOf.nil | apply CellsOf.cons rfl)) (by apply NFo.mk; repeat (first | exact NF.nil | apply NF.cons))) ?_
            refine WL.op rfl ?_
            refine OpW.alloc rfl I33 rfl (by repeat (first | exact NF.nil | apply NF.cons)) rfl rfl ?_; intro b10
            refine WL.op rfl ?_
            refine OpW.storeS rfl G33 rfl rfl (by repeat (first | exact NF.nil | apply NF.cons)) (by repeat (first | assumption | exact Take.head _ | apply Take.tail)) rfl rfl (by repeat (first | exact NF.nil | apply NF.cons)) rfl ?_
            refine WL.nil ?_
            refine thenQ.normal ?_
            refine WC.seq ?_
            refine WC.region ?_
            refine WL.rd rfl rfl rfl (Rd.move rfl rfl) ?_
            refine WL.rd rfl rfl rfl ((by first | exact Rd.lenE rfl rfl Try.underlying23 (by repeat (first | assumption | exact mS | apply mT)) | exact Rd.lenA rfl rfl Try.underlying23 (by repeat (first | assumption | exact mS | apply mT)) | exact Rd.len rfl rfl Try.underlying23)) ?_
            refine WL.op rfl ?_
            refine OpW.buildSl (ps := [(0, _), (1, _), (2, _), (3, _), (4, _)]) rfl S72 (by repeat (first | exact Evs.nil | apply Evs.cons rfl)) rfl rfl (by repeat (first | exact CellsOf.nil | apply CellsOf.cons rfl)) (by kernel_rfl) rfl rfl rfl ?_; intro b63
            refine WL.heap (fun w h => Sat.shareRow (enc := one vi) (xs := [0, 1, (l.length : Int), 5, 3]) (m := 5) (by repeat (first | assumption | exact Take.head _ | apply Take.tail)) rfl rfl (by decide) h) ?_
            refine WL.rd rfl rfl rfl (Rd.move rfl rfl) ?_
            refine WL.rd rfl rfl rfl (Rd.idx1 (k := k.toNat) rfl S72 rfl rfl (by omega) (enc := one vi) (xs := [0, 1, (l.length : Int), 5, 3]) (by repeat (first | assumption | exact mS | apply mT)) (by show k.toNat < 5; omega)) ?_
            refine WL.rd rfl rfl rfl (Rd.get (k := k.toNat) (g := vi) (xs := [0, 1, (l.length : Int), 5, 3]) rfl C3 rfl (by repeat (first | assumption | exact mS | apply mT)) (get!_of_lt (by show k.toNat < 5; omega))) ?_
            obtain ⟨W, hWd⟩ : ∃ W, W = [0, 1, (l.length : Int), 5, 3][k.toNat]! := ⟨_, rfl⟩
            have hW : (k = 1 → W = 1) ∧ (k = 2 → W = (l.length : Int)) ∧ (k = 3 → W = 5) ∧ (k = 4 → W = 3) := ⟨fun h => by rw [hWd, h]; rfl, fun h => by rw [hWd, h]; rfl, fun h => by rw [hWd, h]; rfl, fun h => by rw [hWd, h]; rfl⟩
            obtain ⟨hW1, hW2, hW3, hW4⟩ := hW
            refine WL.say 66 (u := .int .i64 W) rfl (by rw [hWd]) ?_
            refine WL.rd rfl rfl rfl (Rd.assign rfl rfl) ?_
            refine WL.nil ?_
            refine thenQ.normal ?_
            refine WC.seq ?_
            refine WC.pick [0, 2, 4, 5, 10, 11] (by repeat (first | exact Pick.nil | apply Pick.cons rfl)) ?_
            refine WC.val 80 (.bool (decide (¬ ShapeP k l))) ?_ ?_
            · skip
              refine WC.region ?_
              refine WL.rd rfl rfl rfl (Rd.move rfl rfl) ?_
              refine WL.rd rfl rfl rfl ((by first | exact Rd.lenE rfl rfl Try.underlying23 (by repeat (first | assumption | exact mS | apply mT)) | exact Rd.lenA rfl rfl Try.underlying23 (by repeat (first | assumption | exact mS | apply mT)) | exact Rd.len rfl rfl Try.underlying23)) ?_
              refine WL.rd rfl rfl rfl (Rd.move rfl rfl) ?_
              refine WL.rd rfl rfl rfl (Rd.neq rfl rfl rfl) ?_
              refine WL.rd rfl rfl rfl (Rd.move rfl rfl) ?_
              refine WL.case 71 rfl (fun hg71 => ?_) (fun hg71 => ?_)
              · skip
                refine WL.no rfl rfl rfl rfl rfl rfl ?_
                refine WL.no rfl rfl rfl rfl rfl rfl ?_
                refine WL.no rfl rfl rfl rfl rfl rfl ?_
                refine WL.noU rfl rfl rfl rfl rfl rfl ?_
                refine WL.noU rfl rfl rfl rfl rfl rfl ?_
                refine WL.noU rfl rfl rfl rfl rfl rfl ?_
                refine WL.noU rfl rfl rfl rfl rfl rfl ?_
                refine WL.no rfl rfl rfl rfl rfl rfl ?_
                refine WL.rd rfl rfl rfl (Rd.pick_t rfl rfl rfl) ?_
                refine WL.nil ?_
                exact ⟨by repeat (first | exact Sub.nil | refine Sub.cons rfl (by first | rfl | ((unfold ShapeP; first | exact vb_t (by omega) | exact vb_f (by omega) | exact vb (by omega)))) ?_), by first | exact (fun _ h => h.thin (SubL.mem (by repeat (first | exact SubL.refl | refine SubL.cons (by repeat (first | assumption | exact mS | apply mT)) ?_ | refine SubL.skip ?_)))) | exact (fun w h => OwnL.sat (by repeat (first | exact OwnL.refl | apply OwnL.take (by repeat (first | exact Take.head _ | apply Take.tail)) | apply OwnL.drop)) w (h.thin (SubL.mem (by repeat (first | exact SubL.refl | refine SubL.cons (by repeat (first | assumption | exact mS | apply mT)) ?_ | refine SubL.skip ?_)))))⟩
              · skip
                refine WL.rd_yes rfl rfl rfl rfl rfl rfl (Rd.move rfl rfl) ?_
                refine WL.rd_yes rfl rfl rfl rfl rfl rfl (Rd.eql rfl rfl rfl) ?_
                refine WL.rd_yes rfl rfl rfl rfl rfl rfl (Rd.move rfl rfl) ?_
                refine WL.case 74 rfl (fun hg74 => ?_) (fun hg74 => ?_)
                · skip
                  refine WL.rd_yes rfl rfl rfl rfl rfl rfl (Rd.move rfl rfl) ?_
                  refine WL.rd_yes rfl rfl rfl rfl rfl rfl ((by first | exact Rd.lenE rfl rfl Try.underlying23 (by repeat (first | assumption | exact mS | apply mT)) | exact Rd.lenA rfl rfl Try.underlying23 (by repeat (first | assumption | exact mS | apply mT)) | exact Rd.len rfl rfl Try.underlying23)) ?_
                  refine WL.rd_yes rfl rfl rfl rfl rfl rfl (Rd.remN (b := 2) rfl rfl rfl rfl rfl (by decide)) ?_
                  refine WL.rd_yes rfl rfl rfl rfl rfl rfl (Rd.eql rfl rfl rfl) ?_
                  refine WL.rd_yes rfl rfl rfl rfl rfl rfl (Rd.pick_t rfl rfl rfl) ?_
                  refine WL.rd rfl rfl rfl (Rd.pick_f rfl rfl rfl) ?_
                  refine WL.nil ?_
                  exact ⟨by repeat (first | exact Sub.nil | refine Sub.cons rfl (by first | rfl | ((unfold ShapeP; first | exact vb_t (by omega) | exact vb_f (by omega) | exact vb (by omega)))) ?_), by first | exact (fun _ h => h.thin (SubL.mem (by repeat (first | exact SubL.refl | refine SubL.cons (by repeat (first | assumption | exact mS | apply mT)) ?_ | refine SubL.skip ?_)))) | exact (fun w h => OwnL.sat (by repeat (first | exact OwnL.refl | apply OwnL.take (by repeat (first | exact Take.head _ | apply Take.tail)) | apply OwnL.drop)) w (h.thin (SubL.mem (by repeat (first | exact SubL.refl | refine SubL.cons (by repeat (first | assumption | exact mS | apply mT)) ?_ | refine SubL.skip ?_)))))⟩
                · skip
                  refine WL.no rfl rfl rfl rfl rfl rfl ?_
                  refine WL.no rfl rfl rfl rfl rfl rfl ?_
                  refine WL.no rfl rfl rfl rfl rfl rfl ?_
                  refine WL.no rfl rfl rfl rfl rfl rfl ?_
                  refine WL.rd_yes rfl rfl rfl rfl rfl rfl (Rd.pick_f rfl rfl rfl) ?_
                  refine WL.rd rfl rfl rfl (Rd.pick_f rfl rfl rfl) ?_
                  refine WL.nil ?_
                  exact ⟨by repeat (first | exact Sub.nil | refine Sub.cons rfl (by first | rfl | ((unfold ShapeP; first | exact vb_t (by omega) | exact vb_f (by omega) | exact vb (by omega)))) ?_), by first | exact (fun _ h => h.thin (SubL.mem (by repeat (first | exact SubL.refl | refine SubL.cons (by repeat (first | assumption | exact mS | apply mT)) ?_ | refine SubL.skip ?_)))) | exact (fun w h => OwnL.sat (by repeat (first | exact OwnL.refl | apply OwnL.take (by repeat (first | exact Take.head _ | apply Take.tail)) | apply OwnL.drop)) w (h.thin (SubL.mem (by repeat (first | exact SubL.refl | refine SubL.cons (by repeat (first | assumption | exact mS | apply mT)) ?_ | refine SubL.skip ?_)))))⟩
            · skip
              first | refine WC.ite rfl (fun hc6 => ?_) (fun hc6 => ?_) | refine WC.cond rfl (fun hc6 => ?_) (fun hc6 => ?_)
              · skip
                refine WC.seq ?_
                refine WC.region ?_
                refine WL.rd rfl rfl rfl (Rd.buildN (ps := []) rfl Bs33 I33 rfl (by repeat (first | exact Evs.nil | apply Evs.cons rfl)) (by repeat (first | exact CellsOf.nil | apply CellsOf.cons rfl)) (by apply NFo.mk; repeat (first | exact NF.nil | apply NF.cons))) ?_
                refine WL.op rfl ?_
                refine OpW.storeS rfl G33 rfl rfl (by repeat (first | exact NF.nil | apply NF.cons)) (by repeat (first | assumption | exact Take.head _ | apply Take.tail)) rfl rfl (by repeat (first | exact NF.nil | apply NF.cons)) rfl ?_
                refine WL.rd rfl rfl rfl (Rd.assign rfl rfl) ?_
                refine WL.nil ?_
                refine thenQ.normal ?_
                refine WC.heap (R' := SlE encT (.slice none 0 0) ([] : List ET) :: SlE (one vs) (.slice none 0 0) ([] : List (List UInt8)) :: R) (O' := rowC b2 33 zC :: O) (fun w h => by
                have g1 := Sat.nilE (α := List UInt8) (enc := one vs) h
                have g2 := Sat.nilE (α := ET) (enc := encT) g1
                exact (fun w h => OwnL.sat (by repeat (first | exact OwnL.refl | apply OwnL.take (by repeat (first | exact Take.head _ | apply Take.tail)) | apply OwnL.drop)) w (h.thin (SubL.mem (by repeat (first | exact SubL.refl | refine SubL.cons (by repeat (first | assumption | exact mS | apply mT)) ?_ | refine SubL.skip ?_))))) w g2) ?_
                refine WC.ret (Ret.cellTmp Try.results15 rfl rfl (by repeat (first | assumption | exact mS | apply mT)) G33 rfl ?_)
                exact hk zOb 2 _ _ _ _ (by
                rw [hfin]
                refine ⟨l, [], hP, .inr ⟨rfl, ?_⟩⟩
                rw [if_neg (fun h => by rw [shape_no hkk hc6] at h; cases h.1)]
                exact ⟨rfl, rfl⟩)
              · skip
                have hsh : ShapeP k l := Decidable.not_not.1 hc6
                obtain ⟨hdi, hdo⟩ := hds hsh
                obtain ⟨sh1, sh2, sh3, sh4⟩ := hsh
                refine WC.skip ?_
                refine thenQ.normal ?_
                refine WC.cut (α := Value × Value) (fun y => [(0, vs s), (2, .pointer (some ⟨b2, 0, none⟩)), (10, .pointer (some ⟨b10, 0, none⟩))]) (fun y => SlE encT y.1 (docOb k l).ents :: SlE (one vs) y.2 (docOb k l).pars :: R) (fun y => rowC b10 33 (obC (docOb k l) y.1 y.2) :: rowC b2 33 zC :: O) (fun y => OneV y.1 ∧ OneV y.2) ?_ ?_
                · skip
                  refine WC.seq ?_
                  refine WC.region ?_
                  refine WL.rd rfl rfl rfl (Rd.move rfl rfl) ?_
                  refine WL.nil ?_
                  refine thenQ.normal ?_
                  refine WC.block ?_
                  refine WC.seq ?_
                  refine WC.region ?_
                  refine WL.rd rfl rfl rfl (Rd.eql rfl rfl rfl) ?_
                  refine WL.rd rfl rfl rfl (Rd.assign rfl rfl) ?_
                  refine WL.nil ?_
                  refine thenQ.normal ?_
                  first | refine WC.ite rfl (fun hc7 => ?_) (fun hc7 => ?_) | refine WC.cond rfl (fun hc7 => ?_) (fun hc7 => ?_)
                  · skip
                    refine WC.region ?_
                    refine WL.rd rfl rfl rfl (Rd.move rfl rfl) ?_
                    refine WL.rd rfl rfl rfl ((by first | exact Rd.idx1 (k := 0) rfl S23 rfl rfl rfl (by repeat (first | assumption | exact mS | apply mT)) (by first | omega | (simp only [List.length_cons, List.length_nil, List.length_append, List.length_map]; omega)) | exact Rd.idxA1 (k := 0) rfl S23 rfl rfl rfl (by repeat (first | assumption | exact mS | apply mT)) (by first | omega | (simp only [List.length_cons, List.length_nil, List.length_append, List.length_map]; omega)) | exact Rd.idxR1 (k := 0) rfl S23 rfl rfl rfl (by omega))) ?_
                    refine WL.rd rfl rfl rfl (Rd.get (k := 0) (g := vs) (a := l[0]!) (xs := l) rfl C9 rfl (by repeat (first | assumption | exact mS | apply mT)) (get!_of_lt (by omega))) ?_
                    refine WL.rd rfl rfl rfl ((by first | exact Rd.field rfl F33_1 rfl rfl | exact Rd.fieldE rfl F33_1 rfl (by repeat (first | assumption | exact mS | apply mT)) (by omega) | exact Rd.fieldA rfl F33_1 rfl (by repeat (first | assumption | exact mS | apply mT)) (by omega))) ?_
                    refine WL.op rfl ?_
                    refine OpW.store1 rfl Z9 rfl rfl (by first | exact ⟨rfl, rfl⟩ | assumption) (by repeat (first | assumption | exact Take.head _ | apply Take.tail)) (by first | (simp; done) | omega | exact of_decide_eq_true rfl | (simp only [List.length_append, List.length_replicate, List.length_map, List.length_set]; omega)) rfl ?_
                    refine WL.nil ?_
                    refine blockQ.normal ?_
                    have hd : docOb k l = { zOb with kind := 1, body := l[0]! } := by unfold docOb; rw [if_pos hc7]
                    have hk1 : k = 1 := hc7
                    exact ⟨(.slice none 0 0, .slice none 0 0), ⟨OneV.sl, OneV.sl⟩, (by repeat (first | exact Sub.nil | refine Sub.cons rfl (by first | rfl | (congr 1; omega) | assumption) ?_)), fun w h => by
                      have g1 := Sat.nilE (α := List UInt8) (enc := one vs) h
                      have g2 := Sat.nilE (α := ET) (enc := encT) g1
                      simp only [hd]
                      rw [hk1] at g2
                      exact (fun w h => OwnL.sat (by repeat (first | exact OwnL.refl | apply OwnL.take (by repeat (first | exact Take.head _ | apply Take.tail)) | apply OwnL.drop)) w (h.thin (SubL.mem (by repeat (first | exact SubL.refl | refine SubL.cons (by repeat (first | assumption | exact mS | apply mT)) ?_ | refine SubL.skip ?_))))) w g2⟩
                  · skip
                    refine WC.seq ?_
                    refine WC.region ?_
                    refine WL.rd rfl rfl rfl (Rd.eql rfl rfl rfl) ?_
                    refine WL.rd rfl rfl rfl (Rd.assign rfl rfl) ?_
                    refine WL.nil ?_
                    refine thenQ.normal ?_
                    first | refine WC.ite rfl (fun hc8 => ?_) (fun hc8 => ?_) | refine WC.cond rfl (fun hc8 => ?_) (fun hc8 => ?_)
                    · skip
                      refine WC.seq ?_
                      refine WC.region ?_
                      refine WL.rd rfl rfl rfl (Rd.assign rfl rfl) ?_
                      refine WL.nil ?_
                      refine thenQ.normal ?_
                      refine WC.block ?_
                      refine WC.pick [12, 0, 2, 5, 10] (by repeat (first | exact Pick.nil | apply Pick.cons rfl)) ?_
                      refine WC.loop2 1 (fun (j : Nat) (v2 : Value) => [(12, .int .i64 ((2 * j : Nat) : Int))]) (fun (j : Nat) (v2 : Value) => rowC b10 33 (tC k v2) :: accC 52 2 encT v2 (pairsE l j) :: rowC b2 33 zC :: O) (fun (j : Nat) (v2 : Value) => 2 * j ≤ l.length ∧ OneV v2) (fun (j : Nat) (v2 : Value) => l.length - j) (0) (.slice none 0 0) (by repeat (first | exact Split.zero | apply Split.succ)) ?hinv2 (by repeat (first | exact Sub.nil | refine Sub.cons rfl (by first | rfl | (congr 1; omega) | assumption) ?_)) (fun w h => by
                      have g1 := h.accNil (α := ET) (e := 52) (size := 2) (enc := encT)
                      exact (fun w h => OwnL.sat (by repeat (first | exact OwnL.refl | apply OwnL.take (by repeat (first | exact Take.head _ | apply Take.tail)) | apply OwnL.drop)) w (h.thin (SubL.mem (by repeat (first | exact SubL.refl | refine SubL.cons (by repeat (first | assumption | exact mS | apply mT)) ?_ | refine SubL.skip ?_))))) w g1) ?_
                      case hinv2 =>
                        exact ⟨Nat.zero_le _, OneV.sl⟩
                      intro j v2
                      rintro ⟨i1, i2⟩
                      refine WC.seq ?_
                      refine WC.seq ?_
                      refine WC.region ?_
                      refine WL.rd rfl rfl rfl (Rd.move rfl rfl) ?_
                      refine WL.rd rfl rfl rfl (Rd.move rfl rfl) ?_
                      refine WL.rd rfl rfl rfl ((by first | exact Rd.lenE rfl rfl Try.underlying23 (by repeat (first | assumption | exact mS | apply mT)) | exact Rd.lenA rfl rfl Try.underlying23 (by repeat (first | assumption | exact mS | apply mT)) | exact Rd.len rfl rfl Try.underlying23)) ?_
                      refine WL.rd rfl rfl rfl (Rd.lss rfl rfl rfl) ?_
                      refine WL.nil ?_
                      refine thenQ.normal ?_
                      first | refine WC.ite rfl (fun hc9 => ?_) (fun hc9 => ?_) | refine WC.cond rfl (fun hc9 => ?_) (fun hc9 => ?_)
                      · skip
                        have hml := pairs_len l j
                        have hnx := pairs_next l j
                        have hev2 := sh2 hc8
                        obtain ⟨cs, hcs⟩ : ∃ cs, cs = pairsE l j := ⟨_, rfl⟩
                        rw [← hcs] at hnx hml ⊢
                        refine WC.skip ?_
                        refine thenQ.normal ?_
                        refine WC.seq ?_
                        refine WC.block ?_
                        refine WC.drawn (O) 16 rfl mixed ?_
                        refine WD.take 0 rfl (by kernel_rfl) (Held.mk' (by repeat (first | exact SubL.refl | refine SubL.cons (by repeat (first | assumption | exact mS | apply mT)) ?_ | refine SubL.skip ?_)) (by repeat (first | exact OwnL.refl | apply OwnL.take (by repeat (first | exact Take.head _ | apply Take.tail)) | apply OwnL.drop))) rfl rfl rfl ((by first | exact Rd.field rfl F33_2 rfl rfl | exact Rd.fieldE rfl F33_2 rfl (by repeat (first | assumption | exact mS | apply mT)) (by omega) | exact Rd.fieldA rfl F33_2 rfl (by repeat (first | assumption | exact mS | apply mT)) (by omega))) ?_
                        refine WD.take 2 rfl (by kernel_rfl) (Held.mk' (by repeat (first | exact SubL.refl | refine SubL.cons (by repeat (first | assumption | exact mS | apply mT)) ?_ | refine SubL.skip ?_)) (by repeat (first | exact OwnL.refl | apply OwnL.take (by repeat (first | exact Take.head _ | apply Take.tail)) | apply OwnL.drop))) rfl rfl rfl (Rd.move rfl rfl) ?_
                        refine WD.take 3 rfl (by kernel_rfl) (Held.mk' (by repeat (first | exact SubL.refl | refine SubL.cons (by repeat (first | assumption | exact mS | apply mT)) ?_ | refine SubL.skip ?_)) (by repeat (first | exact OwnL.refl | apply OwnL.take (by repeat (first | exact Take.head _ | apply Take.tail)) | apply OwnL.drop))) rfl rfl rfl (Rd.move rfl rfl) ?_
                        refine WD.take 4 rfl (by kernel_rfl) (Held.mk' (by repeat (first | exact SubL.refl | refine SubL.cons (by repeat (first | assumption | exact mS | apply mT)) ?_ | refine SubL.skip ?_)) (by repeat (first | exact OwnL.refl | apply OwnL.take (by repeat (first | exact Take.head _ | apply Take.tail)) | apply OwnL.drop))) rfl rfl rfl (Rd.idx1 (k := 2 * j) rfl S23 rfl rfl rfl (enc := one vs) (xs := l) (by repeat (first | assumption | exact mS | apply mT)) (by omega)) ?_
                        refine WD.take 5 rfl (by kernel_rfl) (Held.mk' (by repeat (first | exact SubL.refl | refine SubL.cons (by repeat (first | assumption | exact mS | apply mT)) ?_ | refine SubL.skip ?_)) (by repeat (first | exact OwnL.refl | apply OwnL.take (by repeat (first | exact Take.head _ | apply Take.tail)) | apply OwnL.drop))) rfl rfl rfl (Rd.get (k := 2 * j) (g := vs) (a := l[2 * j]!) (xs := l) rfl C9 rfl (by repeat (first | assumption | exact mS | apply mT)) (get!_of_lt (by omega))) ?_
                        refine WD.take 6 rfl (by kernel_rfl) (Held.mk' (by repeat (first | exact SubL.refl | refine SubL.cons (by repeat (first | assumption | exact mS | apply mT)) ?_ | refine SubL.skip ?_)) (by repeat (first | exact OwnL.refl | apply OwnL.take (by repeat (first | exact Take.head _ | apply Take.tail)) | apply OwnL.drop))) rfl rfl rfl (Rd.move rfl rfl) ?_
                        refine WD.take 7 rfl (by kernel_rfl) (Held.mk' (by repeat (first | exact SubL.refl | refine SubL.cons (by repeat (first | assumption | exact mS | apply mT)) ?_ | refine SubL.skip ?_)) (by repeat (first | exact OwnL.refl | apply OwnL.take (by repeat (first | exact Take.head _ | apply Take.tail)) | apply OwnL.drop))) rfl rfl rfl (Rd.move rfl rfl) ?_
                        refine WD.take 8 rfl (by kernel_rfl) (Held.mk' (by repeat (first | exact SubL.refl | refine SubL.cons (by repeat (first | assumption | exact mS | apply mT)) ?_ | refine SubL.skip ?_)) (by repeat (first | exact OwnL.refl | apply OwnL.take (by repeat (first | exact Take.head _ | apply Take.tail)) | apply OwnL.drop))) rfl rfl rfl (Rd.add rfl rfl rfl (by omega)) ?_
                        refine WD.take 9 rfl (by kernel_rfl) (Held.mk' (by repeat (first | exact SubL.refl | refine SubL.cons (by repeat (first | assumption | exact mS | apply mT)) ?_ | refine SubL.skip ?_)) (by repeat (first | exact OwnL.refl | apply OwnL.take (by repeat (first | exact Take.head _ | apply Take.tail)) | apply OwnL.drop))) rfl rfl rfl (Rd.idx1 (k := 2 * j + 1) rfl S23 rfl rfl rfl (enc := one vs) (xs := l) (by repeat (first | assumption | exact mS | apply mT)) (by omega)) ?_
                        refine WD.take 10 rfl (by kernel_rfl) (Held.mk' (by repeat (first | exact SubL.refl | refine SubL.cons (by repeat (first | assumption | exact mS | apply mT)) ?_ | refine SubL.skip ?_)) (by repeat (first | exact OwnL.refl | apply OwnL.take (by repeat (first | exact Take.head _ | apply Take.tail)) | apply OwnL.drop))) rfl rfl rfl (Rd.get (k := 2 * j + 1) (g := vs) (a := l[2 * j + 1]!) (xs := l) rfl C9 rfl (by repeat (first | assumption | exact mS | apply mT)) (get!_of_lt (by omega))) ?_
                        refine WD.take 11 rfl (by kernel_rfl) (Held.mk' (by repeat (first | exact SubL.refl | refine SubL.cons (by repeat (first | assumption | exact mS | apply mT)) ?_ | refine SubL.skip ?_)) (by repeat (first | exact OwnL.refl | apply OwnL.take (by repeat (first | exact Take.head _ | apply Take.tail)) | apply OwnL.drop))) rfl rfl rfl (Rd.buildN (ps := [(0, _), (1, _)]) rfl Bs52 I52 rfl (by repeat (first | exact Evs.nil | apply Evs.cons rfl)) (by repeat (first | exact CellsOf.nil | apply CellsOf.cons rfl)) (by apply NFo.mk; repeat (first | exact NF.nil | apply NF.cons))) ?_
                        refine WD.two 1 12 rfl rfl (by kernel_rfl) rfl rfl ?_ ?_
                        · skip
                          refine OpW.rd rfl rfl (Rd.row1 (b := b10) (off := 2) (u := v2) rfl C31 rfl (by repeat (first | assumption | exact mS | apply mT)) rfl) ?_
                          refine ⟨(Held.mk' (by repeat (first | exact SubL.refl | refine SubL.cons (by repeat (first | assumption | exact mS | apply mT)) ?_ | refine SubL.skip ?_)) (by repeat (first | exact OwnL.refl | apply OwnL.take (by repeat (first | exact Take.head _ | apply Take.tail)) | apply OwnL.drop))), ?_⟩
                          refine WD.one 12 rfl (by kernel_rfl) rfl ?_
                          refine OpW.buildSl (ps := [(0, _)]) rfl S31 (by repeat (first | exact Evs.nil | apply Evs.cons rfl)) rfl rfl (by repeat (first | exact CellsOf.nil | apply CellsOf.cons rfl)) (by kernel_rfl) rfl rfl rfl ?_; intro b121
                          refine ⟨(Held.mk' (by repeat (first | exact SubL.refl | refine SubL.cons (by repeat (first | assumption | exact mS | apply mT)) ?_ | refine SubL.skip ?_)) (by repeat (first | exact OwnL.refl | apply OwnL.take (by repeat (first | exact Take.head _ | apply Take.tail)) | apply OwnL.drop))), ?_⟩
                          refine WD.one 13 rfl (by kernel_rfl) rfl ?_
                          refine OpW.appendRow (enc := encT) rfl S31 rfl rfl (by repeat (first | assumption | exact Take.head _ | apply Take.tail)) (by repeat (first | assumption | exact Take.head _ | apply Take.tail)) [(l[2 * j]!, l[2 * j + 1]!)] rfl (by rfl) rfl (by intro x; first | rfl | (cases x; rfl) | (rcases x with ⟨_, _, _⟩; rfl) | (rcases x with ⟨_, _, _, _⟩; rfl)) (by intro x; first | rfl | (cases x; rfl) | (rcases x with ⟨_, _, _⟩; rfl) | (rcases x with ⟨_, _, _, _⟩; rfl)) ⟨by simp only [maxLen, List.length_append, List.length_nil, List.length_cons, List.length_drop, List.length_take, List.length_map]; omega, by first | omega | (simp only [List.length_append, List.length_nil, List.length_cons, List.length_drop, List.length_take, List.length_map]; omega)⟩ rfl rfl ?_; intro v122 hv122
                          refine ⟨(Held.mk' (by repeat (first | exact SubL.refl | refine SubL.cons (by repeat (first | assumption | exact mS | apply mT)) ?_ | refine SubL.skip ?_)) (by repeat (first | exact OwnL.refl | apply OwnL.take (by repeat (first | exact Take.head _ | apply Take.tail)) | apply OwnL.drop))), ?_⟩
                          refine WD.take 14 rfl (by kernel_rfl) (Held.mk' (by repeat (first | exact SubL.refl | refine SubL.cons (by repeat (first | assumption | exact mS | apply mT)) ?_ | refine SubL.skip ?_)) (by repeat (first | exact OwnL.refl | apply OwnL.take (by repeat (first | exact Take.head _ | apply Take.tail)) | apply OwnL.drop))) rfl rfl rfl ((by first | exact Rd.field rfl F33_2 rfl rfl | exact Rd.fieldE rfl F33_2 rfl (by repeat (first | assumption | exact mS | apply mT)) (by omega) | exact Rd.fieldA rfl F33_2 rfl (by repeat (first | assumption | exact mS | apply mT)) (by omega))) ?_
                          refine WD.one 15 rfl (by kernel_rfl) rfl ?_
                          refine OpW.store1 rfl Z31 rfl rfl (by first | exact ⟨rfl, rfl⟩ | assumption) (by repeat (first | assumption | exact Take.head _ | apply Take.tail)) (by first | (simp; done) | omega | exact of_decide_eq_true rfl | (simp only [List.length_append, List.length_replicate, List.length_map, List.length_set]; omega)) rfl ?_
                          refine ⟨(Held.mk' (by repeat (first | exact SubL.refl | refine SubL.cons (by repeat (first | assumption | exact mS | apply mT)) ?_ | refine SubL.skip ?_)) (by repeat (first | exact OwnL.refl | apply OwnL.take (by repeat (first | exact Take.head _ | apply Take.tail)) | apply OwnL.drop))), ?_⟩
                          refine WD.done (by kernel_rfl) ?_
                          refine blockQ.normal ?_
                          refine thenQ.normal ?_
                          refine WC.region ?_
                          refine WL.rd rfl rfl rfl (Rd.move rfl rfl) ?_
                          refine WL.rd rfl rfl rfl (Rd.add rfl rfl rfl (by omega)) ?_
                          refine WL.rd rfl rfl rfl (Rd.assign rfl rfl) ?_
                          refine WL.nil ?_
                          exact loopQ2.mk (j + 1) v122 ⟨by omega, hv122⟩ (by omega) (by repeat (first | exact Sub.nil | refine Sub.cons rfl (by first | rfl | (congr 1; omega) | assumption) ?_)) (fun w h => by rw [hnx]; exact (fun w h => OwnL.sat (by repeat (first | exact OwnL.refl | apply OwnL.take (by repeat (first | exact Take.head _ | apply Take.tail)) | apply OwnL.drop)) w (h.thin (SubL.mem (by repeat (first | exact SubL.refl | refine SubL.cons (by repeat (first | assumption | exact mS | apply mT)) ?_ | refine SubL.skip ?_))))) w h)
                        · skip
                          refine OpW.buildSl (ps := [(0, _)]) rfl S31 (by repeat (first | exact Evs.nil | apply Evs.cons rfl)) rfl rfl (by repeat (first | exact CellsOf.nil | apply CellsOf.cons rfl)) (by kernel_rfl) rfl rfl rfl ?_; intro b121
                          refine ⟨(Held.mk' (by repeat (first | exact SubL.refl | refine SubL.cons (by repeat (first | assumption | exact mS | apply mT)) ?_ | refine SubL.skip ?_)) (by repeat (first | exact OwnL.refl | apply OwnL.take (by repeat (first | exact Take.head _ | apply Take.tail)) | apply OwnL.drop))), ?_⟩
                          refine WD.one 1 rfl (by kernel_rfl) rfl ?_
                          refine OpW.rd rfl rfl (Rd.row1 (b := b10) (off := 2) (u := v2) rfl C31 rfl (by repeat (first | assumption | exact mS | apply mT)) rfl) ?_
                          refine ⟨(Held.mk' (by repeat (first | exact SubL.refl | refine SubL.cons (by repeat (first | assumption | exact mS | apply mT)) ?_ | refine SubL.skip ?_)) (by repeat (first | exact OwnL.refl | apply OwnL.take (by repeat (first | exact Take.head _ | apply Take.tail)) | apply OwnL.drop))), ?_⟩
                          refine WD.one 13 rfl (by kernel_rfl) rfl ?_
                          refine OpW.appendRow (enc := encT) rfl S31 rfl rfl (by repeat (first | assumption | exact Take.head _ | apply Take.tail)) (by repeat (first | assumption | exact Take.head _ | apply Take.tail)) [(l[2 * j]!, l[2 * j + 1]!)] rfl (by rfl) rfl (by intro x; first | rfl | (cases x; rfl) | (rcases x with ⟨_, _, _⟩; rfl) | (rcases x with ⟨_, _, _, _⟩; rfl)) (by intro x; first | rfl | (cases x; rfl) | (rcases x with ⟨_, _, _⟩; rfl) | (rcases x with ⟨_, _, _, _⟩; rfl)) ⟨by simp only [maxLen, List.length_append, List.length_nil, List.length_cons, List.length_drop, List.length_take, List.length_map]; omega, by first | omega | (simp only [List.length_append, List.length_nil, List.length_cons, List.length_drop, List.length_take, List.length_map]; omega)⟩ rfl rfl ?_; intro v122 hv122
                          refine ⟨(Held.mk' (by repeat (first | exact SubL.refl | refine SubL.cons (by repeat (first | assumption | exact mS | apply mT)) ?_ | refine SubL.skip ?_)) (by repeat (first | exact OwnL.refl | apply OwnL.take (by repeat (first | exact Take.head _ | apply Take.tail)) | apply OwnL.drop))), ?_⟩
                          refine WD.take 14 rfl (by kernel_rfl) (Held.mk' (by repeat (first | exact SubL.refl | refine SubL.cons (by repeat (first | assumption | exact mS | apply mT)) ?_ | refine SubL.skip ?_)) (by repeat (first | exact OwnL.refl | apply OwnL.take (by repeat (first | exact Take.head _ | apply Take.tail)) | apply OwnL.drop))) rfl rfl rfl ((by first | exact Rd.field rfl F33_2 rfl rfl | exact Rd.fieldE rfl F33_2 rfl (by repeat (first | assumption | exact mS | apply mT)) (by omega) | exact Rd.fieldA rfl F33_2 rfl (by repeat (first | assumption | exact mS | apply mT)) (by omega))) ?_
                          refine WD.one 15 rfl (by kernel_rfl) rfl ?_
                          refine OpW.store1 rfl Z31 rfl rfl (by first | exact ⟨rfl, rfl⟩ | assumption) (by repeat (first | assumption | exact Take.head _ | apply Take.tail)) (by first | (simp; done) | omega | exact of_decide_eq_true rfl | (simp only [List.length_append, List.length_replicate, List.length_map, List.length_set]; omega)) rfl ?_
                          refine ⟨(Held.mk' (by repeat (first | exact SubL.refl | refine SubL.cons (by repeat (first | assumption | exact mS | apply mT)) ?_ | refine SubL.skip ?_)) (by repeat (first | exact OwnL.refl | apply OwnL.take (by repeat (first | exact Take.head _ | apply Take.tail)) | apply OwnL.drop))), ?_⟩
                          refine WD.done (by kernel_rfl) ?_
                          refine blockQ.normal ?_
                          refine thenQ.normal ?_
                          refine WC.region ?_
                          refine WL.rd rfl rfl rfl (Rd.move rfl rfl) ?_
                          refine WL.rd rfl rfl rfl (Rd.add rfl rfl rfl (by omega)) ?_
                          refine WL.rd rfl rfl rfl (Rd.assign rfl rfl) ?_
                          refine WL.nil ?_
                          exact loopQ2.mk (j + 1) v122 ⟨by omega, hv122⟩ (by omega) (by repeat (first | exact Sub.nil | refine Sub.cons rfl (by first | rfl | (congr 1; omega) | assumption) ?_)) (fun w h => by rw [hnx]; exact (fun w h => OwnL.sat (by repeat (first | exact OwnL.refl | apply OwnL.take (by repeat (first | exact Take.head _ | apply Take.tail)) | apply OwnL.drop)) w (h.thin (SubL.mem (by repeat (first | exact SubL.refl | refine SubL.cons (by repeat (first | assumption | exact mS | apply mT)) ?_ | refine SubL.skip ?_))))) w h)
                      · skip
                        have hev2 := sh2 hc8
                        obtain rfl : j = l.length / 2 := by omega
                        refine WC.exit ?_
                        refine thenQ.exit ?_
                        refine loopQ2.exit ?_
                        refine blockQ.exit ?_
                        refine blockQ.normal ?_
                        have hd : docOb k l = { zOb with kind := 2, ents := pairsE l (l.length / 2) } := by unfold docOb; rw [if_neg hc7, if_pos hc8]
                        have hk1 : k = 2 := hc8
                        exact ⟨(v2, .slice none 0 0), ⟨i2, OneV.sl⟩, (by repeat (first | exact Sub.nil | refine Sub.cons rfl (by first | rfl | (congr 1; omega) | assumption) ?_)), fun w h => by
                          have g1 := Sat.nilE (α := List UInt8) (enc := one vs) h
                          have g2 := Sat.shareA (xs := pairsE l (l.length / 2)) (by repeat (first | assumption | exact Take.head _ | apply Take.tail)) g1
                          simp only [hd]
                          rw [hk1] at g2
                          exact (fun w h => OwnL.sat (by repeat (first | exact OwnL.refl | apply OwnL.take (by repeat (first | exact Take.head _ | apply Take.tail)) | apply OwnL.drop)) w (h.thin (SubL.mem (by repeat (first | exact SubL.refl | refine SubL.cons (by repeat (first | assumption | exact mS | apply mT)) ?_ | refine SubL.skip ?_))))) w g2⟩
                    · skip
                      refine WC.seq ?_
                      refine WC.region ?_
                      refine WL.rd rfl rfl rfl (Rd.eql rfl rfl rfl) ?_
                      refine WL.rd rfl rfl rfl (Rd.assign rfl rfl) ?_
                      refine WL.nil ?_
                      refine thenQ.normal ?_
                      first | refine WC.ite rfl (fun hc10 => ?_) (fun hc10 => ?_) | refine WC.cond rfl (fun hc10 => ?_) (fun hc10 => ?_)
                      · skip
                        have hl5 := sh3 hc10
                        obtain ⟨t, ht⟩ : ∃ t, t = l[1]! := ⟨_, rfl⟩
                        obtain ⟨m, hm⟩ : ∃ m, m = t.length / 32 := ⟨_, rfl⟩
                        have htl : t.length ≤ 262144 := by rw [ht, getElem!_pos l 1 (by omega)]; exact hsm _ (List.getElem_mem _)
                        have h4l : l[4]!.length ≤ 262144 := by rw [getElem!_pos l 4 (by omega)]; exact hsm _ (List.getElem_mem _)
                        refine WC.seq ?_
                        refine WC.drawn (O) 15 rfl mixed ?_
                        refine WD.take 0 rfl (by kernel_rfl) (Held.mk' (by repeat (first | exact SubL.refl | refine SubL.cons (by repeat (first | assumption | exact mS | apply mT)) ?_ | refine SubL.skip ?_)) (by repeat (first | exact OwnL.refl | apply OwnL.take (by repeat (first | exact Take.head _ | apply Take.tail)) | apply OwnL.drop))) rfl rfl rfl (Rd.move rfl rfl) ?_
                        refine WD.take 1 rfl (by kernel_rfl) (Held.mk' (by repeat (first | exact SubL.refl | refine SubL.cons (by repeat (first | assumption | exact mS | apply mT)) ?_ | refine SubL.skip ?_)) (by repeat (first | exact OwnL.refl | apply OwnL.take (by repeat (first | exact Take.head _ | apply Take.tail)) | apply OwnL.drop))) rfl rfl rfl ((by first | exact Rd.idx1 (k := 0) rfl S23 rfl rfl rfl (by repeat (first | assumption | exact mS | apply mT)) (by first | omega | (simp only [List.length_cons, List.length_nil, List.length_append, List.length_map]; omega)) | exact Rd.idxA1 (k := 0) rfl S23 rfl rfl rfl (by repeat (first | assumption | exact mS | apply mT)) (by first | omega | (simp only [List.length_cons, List.length_nil, List.length_append, List.length_map]; omega)) | exact Rd.idxR1 (k := 0) rfl S23 rfl rfl rfl (by omega))) ?_
                        refine WD.take 2 rfl (by kernel_rfl) (Held.mk' (by repeat (first | exact SubL.refl | refine SubL.cons (by repeat (first | assumption | exact mS | apply mT)) ?_ | refine SubL.skip ?_)) (by repeat (first | exact OwnL.refl | apply OwnL.take (by repeat (first | exact Take.head _ | apply Take.tail)) | apply OwnL.drop))) rfl rfl rfl (Rd.get (k := 0) (g := vs) (a := l[0]!) (xs := l) rfl C9 rfl (by repeat (first | assumption | exact mS | apply mT)) (get!_of_lt (by omega))) ?_
                        refine WD.take 3 rfl (by kernel_rfl) (Held.mk' (by repeat (first | exact SubL.refl | refine SubL.cons (by repeat (first | assumption | exact mS | apply mT)) ?_ | refine SubL.skip ?_)) (by repeat (first | exact OwnL.refl | apply OwnL.take (by repeat (first | exact Take.head _ | apply Take.tail)) | apply OwnL.drop))) rfl rfl rfl (Rd.move rfl rfl) ?_
                        refine WD.take 4 rfl (by kernel_rfl) (Held.mk' (by repeat (first | exact SubL.refl | refine SubL.cons (by repeat (first | assumption | exact mS | apply mT)) ?_ | refine SubL.skip ?_)) (by repeat (first | exact OwnL.refl | apply OwnL.take (by repeat (first | exact Take.head _ | apply Take.tail)) | apply OwnL.drop))) rfl rfl rfl ((by first | exact Rd.idx1 (k := 2) rfl S23 rfl rfl rfl (by repeat (first | assumption | exact mS | apply mT)) (by first | omega | (simp only [List.length_cons, List.length_nil, List.length_append, List.length_map]; omega)) | exact Rd.idxA1 (k := 2) rfl S23 rfl rfl rfl (by repeat (first | assumption | exact mS | apply mT)) (by first | omega | (simp only [List.length_cons, List.length_nil, List.length_append, List.length_map]; omega)) | exact Rd.idxR1 (k := 2) rfl S23 rfl rfl rfl (by omega))) ?_
                        refine WD.take 5 rfl (by kernel_rfl) (Held.mk' (by repeat (first | exact SubL.refl | refine SubL.cons (by repeat (first | assumption | exact mS | apply mT)) ?_ | refine SubL.skip ?_)) (by repeat (first | exact OwnL.refl | apply OwnL.take (by repeat (first | exact Take.head _ | apply Take.tail)) | apply OwnL.drop))) rfl rfl rfl (Rd.get (k := 2) (g := vs) (a := l[2]!) (xs := l) rfl C9 rfl (by repeat (first | assumption | exact mS | apply mT)) (get!_of_lt (by omega))) ?_
                        refine WD.take 6 rfl (by kernel_rfl) (Held.mk' (by repeat (first | exact SubL.refl | refine SubL.cons (by repeat (first | assumption | exact mS | apply mT)) ?_ | refine SubL.skip ?_)) (by repeat (first | exact OwnL.refl | apply OwnL.take (by repeat (first | exact Take.head _ | apply Take.tail)) | apply OwnL.drop))) rfl rfl rfl (Rd.move rfl rfl) ?_
                        refine WD.take 7 rfl (by kernel_rfl) (Held.mk' (by repeat (first | exact SubL.refl | refine SubL.cons (by repeat (first | assumption | exact mS | apply mT)) ?_ | refine SubL.skip ?_)) (by repeat (first | exact OwnL.refl | apply OwnL.take (by repeat (first | exact Take.head _ | apply Take.tail)) | apply OwnL.drop))) rfl rfl rfl ((by first | exact Rd.idx1 (k := 3) rfl S23 rfl rfl rfl (by repeat (first | assumption | exact mS | apply mT)) (by first | omega | (simp only [List.length_cons, List.length_nil, List.length_append, List.length_map]; omega)) | exact Rd.idxA1 (k := 3) rfl S23 rfl rfl rfl (by repeat (first | assumption | exact mS | apply mT)) (by first | omega | (simp only [List.length_cons, List.length_nil, List.length_append, List.length_map]; omega)) | exact Rd.idxR1 (k := 3) rfl S23 rfl rfl rfl (by omega))) ?_
                        refine WD.take 8 rfl (by kernel_rfl) (Held.mk' (by repeat (first | exact SubL.refl | refine SubL.cons (by repeat (first | assumption | exact mS | apply mT)) ?_ | refine SubL.skip ?_)) (by repeat (first | exact OwnL.refl | apply OwnL.take (by repeat (first | exact Take.head _ | apply Take.tail)) | apply OwnL.drop))) rfl rfl rfl (Rd.get (k := 3) (g := vs) (a := l[3]!) (xs := l) rfl C9 rfl (by repeat (first | assumption | exact mS | apply mT)) (get!_of_lt (by omega))) ?_
                        refine WD.take 9 rfl (by kernel_rfl) (Held.mk' (by repeat (first | exact SubL.refl | refine SubL.cons (by repeat (first | assumption | exact mS | apply mT)) ?_ | refine SubL.skip ?_)) (by repeat (first | exact OwnL.refl | apply OwnL.take (by repeat (first | exact Take.head _ | apply Take.tail)) | apply OwnL.drop))) rfl rfl rfl ((by first | exact Rd.field rfl F33_3 rfl rfl | exact Rd.fieldE rfl F33_3 rfl (by repeat (first | assumption | exact mS | apply mT)) (by omega) | exact Rd.fieldA rfl F33_3 rfl (by repeat (first | assumption | exact mS | apply mT)) (by omega))) ?_
                        refine WD.one 10 rfl (by kernel_rfl) rfl ?_
                        refine OpW.store1 rfl Z9 rfl rfl (by first | exact ⟨rfl, rfl⟩ | assumption) (by repeat (first | assumption | exact Take.head _ | apply Take.tail)) (by first | (simp; done) | omega | exact of_decide_eq_true rfl | (simp only [List.length_append, List.length_replicate, List.length_map, List.length_set]; omega)) rfl ?_
                        refine ⟨(Held.mk' (by repeat (first | exact SubL.refl | refine SubL.cons (by repeat (first | assumption | exact mS | apply mT)) ?_ | refine SubL.skip ?_)) (by repeat (first | exact OwnL.refl | apply OwnL.take (by repeat (first | exact Take.head _ | apply Take.tail)) | apply OwnL.drop))), ?_⟩
                        refine WD.take 11 rfl (by kernel_rfl) (Held.mk' (by repeat (first | exact SubL.refl | refine SubL.cons (by repeat (first | assumption | exact mS | apply mT)) ?_ | refine SubL.skip ?_)) (by repeat (first | exact OwnL.refl | apply OwnL.take (by repeat (first | exact Take.head _ | apply Take.tail)) | apply OwnL.drop))) rfl rfl rfl ((by first | exact Rd.field rfl F33_5 rfl rfl | exact Rd.fieldE rfl F33_5 rfl (by repeat (first | assumption | exact mS | apply mT)) (by omega) | exact Rd.fieldA rfl F33_5 rfl (by repeat (first | assumption | exact mS | apply mT)) (by omega))) ?_
                        refine WD.one 12 rfl (by kernel_rfl) rfl ?_
                        refine OpW.store1 rfl Z9 rfl rfl (by first | exact ⟨rfl, rfl⟩ | assumption) (by repeat (first | assumption | exact Take.head _ | apply Take.tail)) (by first | (simp; done) | omega | exact of_decide_eq_true rfl | (simp only [List.length_append, List.length_replicate, List.length_map, List.length_set]; omega)) rfl ?_
                        refine ⟨(Held.mk' (by repeat (first | exact SubL.refl | refine SubL.cons (by repeat (first | assumption | exact mS | apply mT)) ?_ | refine SubL.skip ?_)) (by repeat (first | exact OwnL.refl | apply OwnL.take (by repeat (first | exact Take.head _ | apply Take.tail)) | apply OwnL.drop))), ?_⟩
                        refine WD.take 13 rfl (by kernel_rfl) (Held.mk' (by repeat (first | exact SubL.refl | refine SubL.cons (by repeat (first | assumption | exact mS | apply mT)) ?_ | refine SubL.skip ?_)) (by repeat (first | exact OwnL.refl | apply OwnL.take (by repeat (first | exact Take.head _ | apply Take.tail)) | apply OwnL.drop))) rfl rfl rfl ((by first | exact Rd.field rfl F33_6 rfl rfl | exact Rd.fieldE rfl F33_6 rfl (by repeat (first | assumption | exact mS | apply mT)) (by omega) | exact Rd.fieldA rfl F33_6 rfl (by repeat (first | assumption | exact mS | apply mT)) (by omega))) ?_
                        refine WD.one 14 rfl (by kernel_rfl) rfl ?_
                        refine OpW.store1 rfl Z9 rfl rfl (by first | exact ⟨rfl, rfl⟩ | assumption) (by repeat (first | assumption | exact Take.head _ | apply Take.tail)) (by first | (simp; done) | omega | exact of_decide_eq_true rfl | (simp only [List.length_append, List.length_replicate, List.length_map, List.length_set]; omega)) rfl ?_
                        refine ⟨(Held.mk' (by repeat (first | exact SubL.refl | refine SubL.cons (by repeat (first | assumption | exact mS | apply mT)) ?_ | refine SubL.skip ?_)) (by repeat (first | exact OwnL.refl | apply OwnL.take (by repeat (first | exact Take.head _ | apply Take.tail)) | apply OwnL.drop))), ?_⟩
                        refine WD.done (by kernel_rfl) ?_
                        refine thenQ.normal ?_
                        refine WC.seq ?_
                        refine WC.seq ?_
                        refine WC.region ?_
                        refine WL.rd rfl rfl rfl (Rd.assign rfl rfl) ?_
                        refine WL.nil ?_
                        refine thenQ.normal ?_
                        refine WC.block ?_
                        refine WC.pick [13, 0, 2, 5, 10] (by repeat (first | exact Pick.nil | apply Pick.cons rfl)) ?_
                        refine WC.loop2 1 (fun (j : Nat) (v2 : Value) => [(13, .int .i64 ((32 * j : Nat) : Int))]) (fun (j : Nat) (v2 : Value) => rowC b10 33 [.int .i64 k, vs [], .slice none 0 0, vs l[0]!, v2, vs l[2]!, vs l[3]!, .int .i64 0, vs [], vs []] :: accC 9 1 (one vs) v2 (chunks t j) :: rowC b2 33 zC :: O) (fun (j : Nat) (v2 : Value) => j ≤ m ∧ OneV v2) (fun (j : Nat) (v2 : Value) => m - j) (0) (.slice none 0 0) (by repeat (first | exact Split.zero | apply Split.succ)) ?hinv3 (by repeat (first | exact Sub.nil | refine Sub.cons rfl (by first | rfl | (congr 1; omega) | assumption) ?_)) (fun w h => by
                        have g1 := h.accNil (α := List UInt8) (e := 9) (size := 1) (enc := one vs)
                        exact (fun w h => OwnL.sat (by repeat (first | exact OwnL.refl | apply OwnL.take (by repeat (first | exact Take.head _ | apply Take.tail)) | apply OwnL.drop)) w (h.thin (SubL.mem (by repeat (first | exact SubL.refl | refine SubL.cons (by repeat (first | assumption | exact mS | apply mT)) ?_ | refine SubL.skip ?_))))) w g1) ?_
                        case hinv3 =>
                          exact ⟨Nat.zero_le _, OneV.sl⟩
                        intro j v2
                        rintro ⟨i1, i2⟩
                        refine WC.seq ?_
                        refine WC.seq ?_
                        refine WC.region ?_
                        refine WL.rd rfl rfl rfl (Rd.move rfl rfl) ?_
                        refine WL.rd rfl rfl rfl (Rd.add rfl rfl rfl (by omega)) ?_
                        refine WL.rd rfl rfl rfl (Rd.move rfl rfl) ?_
                        refine WL.rd rfl rfl rfl ((by first | exact Rd.idx1 (k := 1) rfl S23 rfl rfl rfl (by repeat (first | assumption | exact mS | apply mT)) (by first | omega | (simp only [List.length_cons, List.length_nil, List.length_append, List.length_map]; omega)) | exact Rd.idxA1 (k := 1) rfl S23 rfl rfl rfl (by repeat (first | assumption | exact mS | apply mT)) (by first | omega | (simp only [List.length_cons, List.length_nil, List.length_append, List.length_map]; omega)) | exact Rd.idxR1 (k := 1) rfl S23 rfl rfl rfl (by omega))) ?_
                        refine WL.rd rfl rfl rfl (Rd.get (k := 1) (g := vs) (a := t) (xs := l) rfl C9 rfl (by repeat (first | assumption | exact mS | apply mT)) (by rw [ht]; exact get!_of_lt (by omega))) ?_
                        refine WL.rd rfl rfl rfl (Rd.slen (ts := #[]) (ty := 0) rfl rfl Try.underlying9) ?_
                        refine WL.rd rfl rfl rfl (Rd.leq rfl rfl rfl) ?_
                        refine WL.nil ?_
                        refine thenQ.normal ?_
                        first | refine WC.ite rfl (fun hc11 => ?_) (fun hc11 => ?_) | refine WC.cond rfl (fun hc11 => ?_) (fun hc11 => ?_)
                        · skip
                          have hml := chunks_len t j
                          have hnx := chunks_next t j
                          obtain ⟨cs, hcs⟩ : ∃ cs, cs = chunks t j := ⟨_, rfl⟩
                          rw [← hcs] at hnx hml ⊢
                          refine WC.skip ?_
                          refine thenQ.normal ?_
                          refine WC.seq ?_
                          refine WC.block ?_
                          refine WC.drawn (O) 13 rfl mixed ?_
                          refine WD.take 0 rfl (by kernel_rfl) (Held.mk' (by repeat (first | exact SubL.refl | refine SubL.cons (by repeat (first | assumption | exact mS | apply mT)) ?_ | refine SubL.skip ?_)) (by repeat (first | exact OwnL.refl | apply OwnL.take (by repeat (first | exact Take.head _ | apply Take.tail)) | apply OwnL.drop))) rfl rfl rfl ((by first | exact Rd.field rfl F33_4 rfl rfl | exact Rd.fieldE rfl F33_4 rfl (by repeat (first | assumption | exact mS | apply mT)) (by omega) | exact Rd.fieldA rfl F33_4 rfl (by repeat (first | assumption | exact mS | apply mT)) (by omega))) ?_
                          refine WD.take 2 rfl (by kernel_rfl) (Held.mk' (by repeat (first | exact SubL.refl | refine SubL.cons (by repeat (first | assumption | exact mS | apply mT)) ?_ | refine SubL.skip ?_)) (by repeat (first | exact OwnL.refl | apply OwnL.take (by repeat (first | exact Take.head _ | apply Take.tail)) | apply OwnL.drop))) rfl rfl rfl (Rd.move rfl rfl) ?_
                          refine WD.take 3 rfl (by kernel_rfl) (Held.mk' (by repeat (first | exact SubL.refl | refine SubL.cons (by repeat (first | assumption | exact mS | apply mT)) ?_ | refine SubL.skip ?_)) (by repeat (first | exact OwnL.refl | apply OwnL.take (by repeat (first | exact Take.head _ | apply Take.tail)) | apply OwnL.drop))) rfl rfl rfl ((by first | exact Rd.idx1 (k := 1) rfl S23 rfl rfl rfl (by repeat (first | assumption | exact mS | apply mT)) (by first | omega | (simp only [List.length_cons, List.length_nil, List.length_append, List.length_map]; omega)) | exact Rd.idxA1 (k := 1) rfl S23 rfl rfl rfl (by repeat (first | assumption | exact mS | apply mT)) (by first | omega | (simp only [List.length_cons, List.length_nil, List.length_append, List.length_map]; omega)) | exact Rd.idxR1 (k := 1) rfl S23 rfl rfl rfl (by omega))) ?_
                          refine WD.take 4 rfl (by kernel_rfl) (Held.mk' (by repeat (first | exact SubL.refl | refine SubL.cons (by repeat (first | assumption | exact mS | apply mT)) ?_ | refine SubL.skip ?_)) (by repeat (first | exact OwnL.refl | apply OwnL.take (by repeat (first | exact Take.head _ | apply Take.tail)) | apply OwnL.drop))) rfl rfl rfl (Rd.get (k := 1) (g := vs) (a := t) (xs := l) rfl C9 rfl (by repeat (first | assumption | exact mS | apply mT)) (by rw [ht]; exact get!_of_lt (by omega))) ?_
                          refine WD.take 5 rfl (by kernel_rfl) (Held.mk' (by repeat (first | exact SubL.refl | refine SubL.cons (by repeat (first | assumption | exact mS | apply mT)) ?_ | refine SubL.skip ?_)) (by repeat (first | exact OwnL.refl | apply OwnL.take (by repeat (first | exact Take.head _ | apply Take.tail)) | apply OwnL.drop))) rfl rfl rfl (Rd.move rfl rfl) ?_
                          refine WD.take 6 rfl (by kernel_rfl) (Held.mk' (by repeat (first | exact SubL.refl | refine SubL.cons (by repeat (first | assumption | exact mS | apply mT)) ?_ | refine SubL.skip ?_)) (by repeat (first | exact OwnL.refl | apply OwnL.take (by repeat (first | exact Take.head _ | apply Take.tail)) | apply OwnL.drop))) rfl rfl rfl (Rd.move rfl rfl) ?_
                          refine WD.take 7 rfl (by kernel_rfl) (Held.mk' (by repeat (first | exact SubL.refl | refine SubL.cons (by repeat (first | assumption | exact mS | apply mT)) ?_ | refine SubL.skip ?_)) (by repeat (first | exact OwnL.refl | apply OwnL.take (by repeat (first | exact Take.head _ | apply Take.tail)) | apply OwnL.drop))) rfl rfl rfl (Rd.add rfl rfl rfl (by omega)) ?_
                          refine WD.take 8 rfl (by kernel_rfl) (Held.mk' (by repeat (first | exact SubL.refl | refine SubL.cons (by repeat (first | assumption | exact mS | apply mT)) ?_ | refine SubL.skip ?_)) (by repeat (first | exact OwnL.refl | apply OwnL.take (by repeat (first | exact Take.head _ | apply Take.tail)) | apply OwnL.drop))) rfl rfl rfl (Rd.scut_lh (lo := 32 * j) (hi := 32 * j + 32) rfl Try.underlying9 rfl rfl rfl rfl rfl (by omega) (by omega)) ?_
                          refine WD.say 155 (u := vs ((t.drop (32 * j)).take 32)) rfl (by rw [List.drop_take, show 32 * j + 32 - 32 * j = 32 from by omega]) ?_
                          refine WD.two 1 9 rfl rfl (by kernel_rfl) rfl rfl ?_ ?_
                          · skip
                            refine OpW.rd rfl rfl (Rd.row1 (b := b10) (off := 4) (u := v2) rfl C23 rfl (by repeat (first | assumption | exact mS | apply mT)) rfl) ?_
                            refine ⟨(Held.mk' (by repeat (first | exact SubL.refl | refine SubL.cons (by repeat (first | assumption | exact mS | apply mT)) ?_ | refine SubL.skip ?_)) (by repeat (first | exact OwnL.refl | apply OwnL.take (by repeat (first | exact Take.head _ | apply Take.tail)) | apply OwnL.drop))), ?_⟩
                            refine WD.one 9 rfl (by kernel_rfl) rfl ?_
                            refine OpW.buildSl (ps := [(0, _)]) rfl S23 (by repeat (first | exact Evs.nil | apply Evs.cons rfl)) rfl rfl (by repeat (first | exact CellsOf.nil | apply CellsOf.cons rfl)) (by kernel_rfl) rfl rfl rfl ?_; intro b156
                            refine ⟨(Held.mk' (by repeat (first | exact SubL.refl | refine SubL.cons (by repeat (first | assumption | exact mS | apply mT)) ?_ | refine SubL.skip ?_)) (by repeat (first | exact OwnL.refl | apply OwnL.take (by repeat (first | exact Take.head _ | apply Take.tail)) | apply OwnL.drop))), ?_⟩
                            refine WD.one 10 rfl (by kernel_rfl) rfl ?_
                            refine OpW.appendRow (enc := one vs) rfl S23 rfl rfl (by repeat (first | assumption | exact Take.head _ | apply Take.tail)) (by repeat (first | assumption | exact Take.head _ | apply Take.tail)) [(t.drop (32 * j)).take 32] rfl (by rfl) rfl (by intro x; first | rfl | (cases x; rfl) | (rcases x with ⟨_, _, _⟩; rfl) | (rcases x with ⟨_, _, _, _⟩; rfl)) (by intro x; first | rfl | (cases x; rfl) | (rcases x with ⟨_, _, _⟩; rfl) | (rcases x with ⟨_, _, _, _⟩; rfl)) ⟨by simp only [maxLen, List.length_append, List.length_nil, List.length_cons, List.length_drop, List.length_take, List.length_map]; omega, by first | omega | (simp only [List.length_append, List.length_nil, List.length_cons, List.length_drop, List.length_take, List.length_map]; omega)⟩ rfl rfl ?_; intro v157 hv157
                            refine ⟨(Held.mk' (by repeat (first | exact SubL.refl | refine SubL.cons (by repeat (first | assumption | exact mS | apply mT)) ?_ | refine SubL.skip ?_)) (by repeat (first | exact OwnL.refl | apply OwnL.take (by repeat (first | exact Take.head _ | apply Take.tail)) | apply OwnL.drop))), ?_⟩
                            refine WD.take 11 rfl (by kernel_rfl) (Held.mk' (by repeat (first | exact SubL.refl | refine SubL.cons (by repeat (first | assumption | exact mS | apply mT)) ?_ | refine SubL.skip ?_)) (by repeat (first | exact OwnL.refl | apply OwnL.take (by repeat (first | exact Take.head _ | apply Take.tail)) | apply OwnL.drop))) rfl rfl rfl ((by first | exact Rd.field rfl F33_4 rfl rfl | exact Rd.fieldE rfl F33_4 rfl (by repeat (first | assumption | exact mS | apply mT)) (by omega) | exact Rd.fieldA rfl F33_4 rfl (by repeat (first | assumption | exact mS | apply mT)) (by omega))) ?_
                            refine WD.one 12 rfl (by kernel_rfl) rfl ?_
                            refine OpW.store1 rfl Z23 rfl rfl (by first | exact ⟨rfl, rfl⟩ | assumption) (by repeat (first | assumption | exact Take.head _ | apply Take.tail)) (by first | (simp; done) | omega | exact of_decide_eq_true rfl | (simp only [List.length_append, List.length_replicate, List.length_map, List.length_set]; omega)) rfl ?_
                            refine ⟨(Held.mk' (by repeat (first | exact SubL.refl | refine SubL.cons (by repeat (first | assumption | exact mS | apply mT)) ?_ | refine SubL.skip ?_)) (by repeat (first | exact OwnL.refl | apply OwnL.take (by repeat (first | exact Take.head _ | apply Take.tail)) | apply OwnL.drop))), ?_⟩
                            refine WD.done (by kernel_rfl) ?_
                            refine blockQ.normal ?_
                            refine thenQ.normal ?_
                            refine WC.region ?_
                            refine WL.rd rfl rfl rfl (Rd.move rfl rfl) ?_
                            refine WL.rd rfl rfl rfl (Rd.add rfl rfl rfl (by omega)) ?_
                            refine WL.rd rfl rfl rfl (Rd.assign rfl rfl) ?_
                            refine WL.nil ?_
                            exact loopQ2.mk (j + 1) v157 ⟨by omega, hv157⟩ (by omega) (by repeat (first | exact Sub.nil | refine Sub.cons rfl (by first | rfl | (congr 1; omega) | assumption) ?_)) (fun w h => by rw [hnx]; exact (fun w h => OwnL.sat (by repeat (first | exact OwnL.refl | apply OwnL.take (by repeat (first | exact Take.head _ | apply Take.tail)) | apply OwnL.drop)) w (h.thin (SubL.mem (by repeat (first | exact SubL.refl | refine SubL.cons (by repeat (first | assumption | exact mS | apply mT)) ?_ | refine SubL.skip ?_))))) w h)
                          · skip
                            refine OpW.buildSl (ps := [(0, _)]) rfl S23 (by repeat (first | exact Evs.nil | apply Evs.cons rfl)) rfl rfl (by repeat (first | exact CellsOf.nil | apply CellsOf.cons rfl)) (by kernel_rfl) rfl rfl rfl ?_; intro b156
                            refine ⟨(Held.mk' (by repeat (first | exact SubL.refl | refine SubL.cons (by repeat (first | assumption | exact mS | apply mT)) ?_ | refine SubL.skip ?_)) (by repeat (first | exact OwnL.refl | apply OwnL.take (by repeat (first | exact Take.head _ | apply Take.tail)) | apply OwnL.drop))), ?_⟩
                            refine WD.one 1 rfl (by kernel_rfl) rfl ?_
                            refine OpW.rd rfl rfl (Rd.row1 (b := b10) (off := 4) (u := v2) rfl C23 rfl (by repeat (first | assumption | exact mS | apply mT)) rfl) ?_
                            refine ⟨(Held.mk' (by repeat (first | exact SubL.refl | refine SubL.cons (by repeat (first | assumption | exact mS | apply mT)) ?_ | refine SubL.skip ?_)) (by repeat (first | exact OwnL.refl | apply OwnL.take (by repeat (first | exact Take.head _ | apply Take.tail)) | apply OwnL.drop))), ?_⟩
                            refine WD.one 10 rfl (by kernel_rfl) rfl ?_
                            refine OpW.appendRow (enc := one vs) rfl S23 rfl rfl (by repeat (first | assumption | exact Take.head _ | apply Take.tail)) (by repeat (first | assumption | exact Take.head _ | apply Take.tail)) [(t.drop (32 * j)).take 32] rfl (by rfl) rfl (by intro x; first | rfl | (cases x; rfl) | (rcases x with ⟨_, _, _⟩; rfl) | (rcases x with ⟨_, _, _, _⟩; rfl)) (by intro x; first | rfl | (cases x; rfl) | (rcases x with ⟨_, _, _⟩; rfl) | (rcases x with ⟨_, _, _, _⟩; rfl)) ⟨by simp only [maxLen, List.length_append, List.length_nil, List.length_cons, List.length_drop, List.length_take, List.length_map]; omega, by first | omega | (simp only [List.length_append, List.length_nil, List.length_cons, List.length_drop, List.length_take, List.length_map]; omega)⟩ rfl rfl ?_; intro v157 hv157
                            refine ⟨(Held.mk' (by repeat (first | exact SubL.refl | refine SubL.cons (by repeat (first | assumption | exact mS | apply mT)) ?_ | refine SubL.skip ?_)) (by repeat (first | exact OwnL.refl | apply OwnL.take (by repeat (first | exact Take.head _ | apply Take.tail)) | apply OwnL.drop))), ?_⟩
                            refine WD.take 11 rfl (by kernel_rfl) (Held.mk' (by repeat (first | exact SubL.refl | refine SubL.cons (by repeat (first | assumption | exact mS | apply mT)) ?_ | refine SubL.skip ?_)) (by repeat (first | exact OwnL.refl | apply OwnL.take (by repeat (first | exact Take.head _ | apply Take.tail)) | apply OwnL.drop))) rfl rfl rfl ((by first | exact Rd.field rfl F33_4 rfl rfl | exact Rd.fieldE rfl F33_4 rfl (by repeat (first | assumption | exact mS | apply mT)) (by omega) | exact Rd.fieldA rfl F33_4 rfl (by repeat (first | assumption | exact mS | apply mT)) (by omega))) ?_
                            refine WD.one 12 rfl (by kernel_rfl) rfl ?_
                            refine OpW.store1 rfl Z23 rfl rfl (by first | exact ⟨rfl, rfl⟩ | assumption) (by repeat (first | assumption | exact Take.head _ | apply Take.tail)) (by first | (simp; done) | omega | exact of_decide_eq_true rfl | (simp only [List.length_append, List.length_replicate, List.length_map, List.length_set]; omega)) rfl ?_
                            refine ⟨(Held.mk' (by repeat (first | exact SubL.refl | refine SubL.cons (by repeat (first | assumption | exact mS | apply mT)) ?_ | refine SubL.skip ?_)) (by repeat (first | exact OwnL.refl | apply OwnL.take (by repeat (first | exact Take.head _ | apply Take.tail)) | apply OwnL.drop))), ?_⟩
                            refine WD.done (by kernel_rfl) ?_
                            refine blockQ.normal ?_
                            refine thenQ.normal ?_
                            refine WC.region ?_
                            refine WL.rd rfl rfl rfl (Rd.move rfl rfl) ?_
                            refine WL.rd rfl rfl rfl (Rd.add rfl rfl rfl (by omega)) ?_
                            refine WL.rd rfl rfl rfl (Rd.assign rfl rfl) ?_
                            refine WL.nil ?_
                            exact loopQ2.mk (j + 1) v157 ⟨by omega, hv157⟩ (by omega) (by repeat (first | exact Sub.nil | refine Sub.cons rfl (by first | rfl | (congr 1; omega) | assumption) ?_)) (fun w h => by rw [hnx]; exact (fun w h => OwnL.sat (by repeat (first | exact OwnL.refl | apply OwnL.take (by repeat (first | exact Take.head _ | apply Take.tail)) | apply OwnL.drop)) w (h.thin (SubL.mem (by repeat (first | exact SubL.refl | refine SubL.cons (by repeat (first | assumption | exact mS | apply mT)) ?_ | refine SubL.skip ?_))))) w h)
                        · skip
                          obtain rfl : j = m := by omega
                          refine WC.exit ?_
                          refine thenQ.exit ?_
                          refine loopQ2.exit ?_
                          refine blockQ.exit ?_
                          refine thenQ.normal ?_
                          refine WC.seq ?_
                          refine WC.region ?_
                          refine WL.rd rfl rfl rfl (Rd.move rfl rfl) ?_
                          refine WL.rd rfl rfl rfl ((by first | exact Rd.idx1 (k := 4) rfl S23 rfl rfl rfl (by repeat (first | assumption | exact mS | apply mT)) (by first | omega | (simp only [List.length_cons, List.length_nil, List.length_append, List.length_map]; omega)) | exact Rd.idxA1 (k := 4) rfl S23 rfl rfl rfl (by repeat (first | assumption | exact mS | apply mT)) (by first | omega | (simp only [List.length_cons, List.length_nil, List.length_append, List.length_map]; omega)) | exact Rd.idxR1 (k := 4) rfl S23 rfl rfl rfl (by omega))) ?_
                          refine WL.rd rfl rfl rfl (Rd.get (k := 4) (g := vs) (a := l[4]!) (xs := l) rfl C9 rfl (by repeat (first | assumption | exact mS | apply mT)) (get!_of_lt (by omega))) ?_
                          refine WL.op rfl ?_
                          refine OpW.call rfl rfl (by repeat (first | exact Evs.nil | apply Evs.cons rfl)) (by kernel_rfl) rfl rfl rfl ?_
                          refine rget_spec (by omega) ?_
                          refine WL.rd rfl rfl rfl (Rd.move rfl rfl) ?_
                          refine WL.rd rfl rfl rfl (Rd.extract rfl rfl rfl) ?_
                          refine WL.rd rfl rfl rfl (Rd.extract rfl rfl rfl) ?_
                          refine WL.rd rfl rfl rfl (Rd.extract rfl rfl rfl) ?_
                          refine WL.rd rfl rfl rfl (Rd.assign rfl rfl) ?_
                          refine WL.rd rfl rfl rfl (Rd.assign rfl rfl) ?_
                          refine WL.rd rfl rfl rfl (Rd.assign rfl rfl) ?_
                          refine WL.nil ?_
                          refine thenQ.normal ?_
                          refine WC.seq ?_
                          refine WC.seq ?_
                          refine WC.region ?_
                          refine WL.rd rfl rfl rfl (Rd.move rfl rfl) ?_
                          refine WL.rd rfl rfl rfl (Rd.neq rfl rfl rfl) ?_
                          refine WL.nil ?_
                          refine thenQ.normal ?_
                          first | refine WC.ite rfl (fun hc12 => ?_) (fun hc12 => ?_) | refine WC.cond rfl (fun hc12 => ?_) (fun hc12 => ?_)
                          · skip
                            refine WC.seq ?_
                            refine WC.region ?_
                            refine WL.rd rfl rfl rfl (Rd.buildN (ps := []) rfl Bs33 I33 rfl (by repeat (first | exact Evs.nil | apply Evs.cons rfl)) (by repeat (first | exact CellsOf.nil | apply CellsOf.cons rfl)) (by apply NFo.mk; repeat (first | exact NF.nil | apply NF.cons))) ?_
                            refine WL.op rfl ?_
                            refine OpW.storeS rfl G33 rfl rfl (by repeat (first | exact NF.nil | apply NF.cons)) (by repeat (first | assumption | exact Take.head _ | apply Take.tail)) rfl rfl (by repeat (first | exact NF.nil | apply NF.cons)) rfl ?_
                            refine WL.rd rfl rfl rfl (Rd.assign rfl rfl) ?_
                            refine WL.nil ?_
                            refine thenQ.normal ?_
                            refine WC.heap (R' := SlE encT (.slice none 0 0) ([] : List ET) :: SlE (one vs) (.slice none 0 0) ([] : List (List UInt8)) :: R) (O' := rowC b2 33 zC :: O) (fun w h => by
                            have g1 := Sat.nilE (α := List UInt8) (enc := one vs) h
                            have g2 := Sat.nilE (α := ET) (enc := encT) g1
                            exact (fun w h => OwnL.sat (by repeat (first | exact OwnL.refl | apply OwnL.take (by repeat (first | exact Take.head _ | apply Take.tail)) | apply OwnL.drop)) w (h.thin (SubL.mem (by repeat (first | exact SubL.refl | refine SubL.cons (by repeat (first | assumption | exact mS | apply mT)) ?_ | refine SubL.skip ?_))))) w g2) ?_
                            refine WC.ret (Ret.cellTmp Try.results15 rfl rfl (by repeat (first | assumption | exact mS | apply mT)) G33 rfl ?_)
                            exact hk zOb 2 _ _ _ _ (by
                            rw [hfin]
                            refine ⟨l, [], hP, .inr ⟨rfl, ?_⟩⟩
                            rw [if_neg (fun h => by rw [get_no hc10 hc12] at h; cases h.1)]
                            exact ⟨rfl, rfl⟩)
                          · skip
                            refine WC.skip ?_
                            refine thenQ.normal ?_
                            refine WC.region ?_
                            refine WL.rd rfl rfl rfl (Rd.move rfl rfl) ?_
                            refine WL.rd rfl rfl rfl ((by first | exact Rd.field rfl F33_7 rfl rfl | exact Rd.fieldE rfl F33_7 rfl (by repeat (first | assumption | exact mS | apply mT)) (by omega) | exact Rd.fieldA rfl F33_7 rfl (by repeat (first | assumption | exact mS | apply mT)) (by omega))) ?_
                            refine WL.op rfl ?_
                            refine OpW.store1 rfl Z3 rfl rfl (by first | exact ⟨rfl, rfl⟩ | assumption) (by repeat (first | assumption | exact Take.head _ | apply Take.tail)) (by first | (simp; done) | omega | exact of_decide_eq_true rfl | (simp only [List.length_append, List.length_replicate, List.length_map, List.length_set]; omega)) rfl ?_
                            refine WL.nil ?_
                            refine blockQ.normal ?_
                            have hd : docOb k l = { zOb with kind := 3, tree := l[0]!, pars := chunks t j, author := l[2]!, text := l[3]!, time := (getE l[4]!).1 } := by unfold docOb; rw [if_neg hc7, if_neg hc8, if_pos hc10]; unfold commitOb; rw [← ht, hm]
                            have hk1 : k = 3 := hc10
                            exact ⟨(.slice none 0 0, v2), ⟨OneV.sl, i2⟩, (by repeat (first | exact Sub.nil | refine Sub.cons rfl (by first | rfl | (congr 1; omega) | assumption) ?_)), fun w h => by
                              have g1 := Sat.shareA (xs := chunks t j) (by repeat (first | assumption | exact Take.head _ | apply Take.tail)) h
                              have g2 := Sat.nilE (α := ET) (enc := encT) g1
                              simp only [hd]
                              rw [hk1] at g2
                              exact (fun w h => OwnL.sat (by repeat (first | exact OwnL.refl | apply OwnL.take (by repeat (first | exact Take.head _ | apply Take.tail)) | apply OwnL.drop)) w (h.thin (SubL.mem (by repeat (first | exact SubL.refl | refine SubL.cons (by repeat (first | assumption | exact mS | apply mT)) ?_ | refine SubL.skip ?_))))) w g2⟩
                      · skip
                        have hl3 := sh4 (by omega)
                        refine WC.drawn (O) 15 rfl mixed ?_
                        refine WD.take 0 rfl (by kernel_rfl) (Held.mk' (by repeat (first | exact SubL.refl | refine SubL.cons (by repeat (first | assumption | exact mS | apply mT)) ?_ | refine SubL.skip ?_)) (by repeat (first | exact OwnL.refl | apply OwnL.take (by repeat (first | exact Take.head _ | apply Take.tail)) | apply OwnL.drop))) rfl rfl rfl (Rd.move rfl rfl) ?_
                        refine WD.take 1 rfl (by kernel_rfl) (Held.mk' (by repeat (first | exact SubL.refl | refine SubL.cons (by repeat (first | assumption | exact mS | apply mT)) ?_ | refine SubL.skip ?_)) (by repeat (first | exact OwnL.refl | apply OwnL.take (by repeat (first | exact Take.head _ | apply Take.tail)) | apply OwnL.drop))) rfl rfl rfl ((by first | exact Rd.idx1 (k := 0) rfl S23 rfl rfl rfl (by repeat (first | assumption | exact mS | apply mT)) (by first | omega | (simp only [List.length_cons, List.length_nil, List.length_append, List.length_map]; omega)) | exact Rd.idxA1 (k := 0) rfl S23 rfl rfl rfl (by repeat (first | assumption | exact mS | apply mT)) (by first | omega | (simp only [List.length_cons, List.length_nil, List.length_append, List.length_map]; omega)) | exact Rd.idxR1 (k := 0) rfl S23 rfl rfl rfl (by omega))) ?_
                        refine WD.take 2 rfl (by kernel_rfl) (Held.mk' (by repeat (first | exact SubL.refl | refine SubL.cons (by repeat (first | assumption | exact mS | apply mT)) ?_ | refine SubL.skip ?_)) (by repeat (first | exact OwnL.refl | apply OwnL.take (by repeat (first | exact Take.head _ | apply Take.tail)) | apply OwnL.drop))) rfl rfl rfl (Rd.get (k := 0) (g := vs) (a := l[0]!) (xs := l) rfl C9 rfl (by repeat (first | assumption | exact mS | apply mT)) (get!_of_lt (by omega))) ?_
                        refine WD.take 3 rfl (by kernel_rfl) (Held.mk' (by repeat (first | exact SubL.refl | refine SubL.cons (by repeat (first | assumption | exact mS | apply mT)) ?_ | refine SubL.skip ?_)) (by repeat (first | exact OwnL.refl | apply OwnL.take (by repeat (first | exact Take.head _ | apply Take.tail)) | apply OwnL.drop))) rfl rfl rfl (Rd.move rfl rfl) ?_
                        refine WD.take 4 rfl (by kernel_rfl) (Held.mk' (by repeat (first | exact SubL.refl | refine SubL.cons (by repeat (first | assumption | exact mS | apply mT)) ?_ | refine SubL.skip ?_)) (by repeat (first | exact OwnL.refl | apply OwnL.take (by repeat (first | exact Take.head _ | apply Take.tail)) | apply OwnL.drop))) rfl rfl rfl ((by first | exact Rd.idx1 (k := 1) rfl S23 rfl rfl rfl (by repeat (first | assumption | exact mS | apply mT)) (by first | omega | (simp only [List.length_cons, List.length_nil, List.length_append, List.length_map]; omega)) | exact Rd.idxA1 (k := 1) rfl S23 rfl rfl rfl (by repeat (first | assumption | exact mS | apply mT)) (by first | omega | (simp only [List.length_cons, List.length_nil, List.length_append, List.length_map]; omega)) | exact Rd.idxR1 (k := 1) rfl S23 rfl rfl rfl (by omega))) ?_
                        refine WD.take 5 rfl (by kernel_rfl) (Held.mk' (by repeat (first | exact SubL.refl | refine SubL.cons (by repeat (first | assumption | exact mS | apply mT)) ?_ | refine SubL.skip ?_)) (by repeat (first | exact OwnL.refl | apply OwnL.take (by repeat (first | exact Take.head _ | apply Take.tail)) | apply OwnL.drop))) rfl rfl rfl (Rd.get (k := 1) (g := vs) (a := l[1]!) (xs := l) rfl C9 rfl (by repeat (first | assumption | exact mS | apply mT)) (get!_of_lt (by omega))) ?_
                        refine WD.take 6 rfl (by kernel_rfl) (Held.mk' (by repeat (first | exact SubL.refl | refine SubL.cons (by repeat (first | assumption | exact mS | apply mT)) ?_ | refine SubL.skip ?_)) (by repeat (first | exact OwnL.refl | apply OwnL.take (by repeat (first | exact Take.head _ | apply Take.tail)) | apply OwnL.drop))) rfl rfl rfl (Rd.move rfl rfl) ?_
                        refine WD.take 7 rfl (by kernel_rfl) (Held.mk' (by repeat (first | exact SubL.refl | refine SubL.cons (by repeat (first | assumption | exact mS | apply mT)) ?_ | refine SubL.skip ?_)) (by repeat (first | exact OwnL.refl | apply OwnL.take (by repeat (first | exact Take.head _ | apply Take.tail)) | apply OwnL.drop))) rfl rfl rfl ((by first | exact Rd.idx1 (k := 2) rfl S23 rfl rfl rfl (by repeat (first | assumption | exact mS | apply mT)) (by first | omega | (simp only [List.length_cons, List.length_nil, List.length_append, List.length_map]; omega)) | exact Rd.idxA1 (k := 2) rfl S23 rfl rfl rfl (by repeat (first | assumption | exact mS | apply mT)) (by first | omega | (simp only [List.length_cons, List.length_nil, List.length_append, List.length_map]; omega)) | exact Rd.idxR1 (k := 2) rfl S23 rfl rfl rfl (by omega))) ?_
                        refine WD.take 8 rfl (by kernel_rfl) (Held.mk' (by repeat (first | exact SubL.refl | refine SubL.cons (by repeat (first | assumption | exact mS | apply mT)) ?_ | refine SubL.skip ?_)) (by repeat (first | exact OwnL.refl | apply OwnL.take (by repeat (first | exact Take.head _ | apply Take.tail)) | apply OwnL.drop))) rfl rfl rfl (Rd.get (k := 2) (g := vs) (a := l[2]!) (xs := l) rfl C9 rfl (by repeat (first | assumption | exact mS | apply mT)) (get!_of_lt (by omega))) ?_
                        refine WD.take 9 rfl (by kernel_rfl) (Held.mk' (by repeat (first | exact SubL.refl | refine SubL.cons (by repeat (first | assumption | exact mS | apply mT)) ?_ | refine SubL.skip ?_)) (by repeat (first | exact OwnL.refl | apply OwnL.take (by repeat (first | exact Take.head _ | apply Take.tail)) | apply OwnL.drop))) rfl rfl rfl ((by first | exact Rd.field rfl F33_8 rfl rfl | exact Rd.fieldE rfl F33_8 rfl (by repeat (first | assumption | exact mS | apply mT)) (by omega) | exact Rd.fieldA rfl F33_8 rfl (by repeat (first | assumption | exact mS | apply mT)) (by omega))) ?_
                        refine WD.one 10 rfl (by kernel_rfl) rfl ?_
                        refine OpW.store1 rfl Z9 rfl rfl (by first | exact ⟨rfl, rfl⟩ | assumption) (by repeat (first | assumption | exact Take.head _ | apply Take.tail)) (by first | (simp; done) | omega | exact of_decide_eq_true rfl | (simp only [List.length_append, List.length_replicate, List.length_map, List.length_set]; omega)) rfl ?_
                        refine ⟨(Held.mk' (by repeat (first | exact SubL.refl | refine SubL.cons (by repeat (first | assumption | exact mS | apply mT)) ?_ | refine SubL.skip ?_)) (by repeat (first | exact OwnL.refl | apply OwnL.take (by repeat (first | exact Take.head _ | apply Take.tail)) | apply OwnL.drop))), ?_⟩
                        refine WD.take 11 rfl (by kernel_rfl) (Held.mk' (by repeat (first | exact SubL.refl | refine SubL.cons (by repeat (first | assumption | exact mS | apply mT)) ?_ | refine SubL.skip ?_)) (by repeat (first | exact OwnL.refl | apply OwnL.take (by repeat (first | exact Take.head _ | apply Take.tail)) | apply OwnL.drop))) rfl rfl rfl ((by first | exact Rd.field rfl F33_9 rfl rfl | exact Rd.fieldE rfl F33_9 rfl (by repeat (first | assumption | exact mS | apply mT)) (by omega) | exact Rd.fieldA rfl F33_9 rfl (by repeat (first | assumption | exact mS | apply mT)) (by omega))) ?_
                        refine WD.one 12 rfl (by kernel_rfl) rfl ?_
                        refine OpW.store1 rfl Z9 rfl rfl (by first | exact ⟨rfl, rfl⟩ | assumption) (by repeat (first | assumption | exact Take.head _ | apply Take.tail)) (by first | (simp; done) | omega | exact of_decide_eq_true rfl | (simp only [List.length_append, List.length_replicate, List.length_map, List.length_set]; omega)) rfl ?_
                        refine ⟨(Held.mk' (by repeat (first | exact SubL.refl | refine SubL.cons (by repeat (first | assumption | exact mS | apply mT)) ?_ | refine SubL.skip ?_)) (by repeat (first | exact OwnL.refl | apply OwnL.take (by repeat (first | exact Take.head _ | apply Take.tail)) | apply OwnL.drop))), ?_⟩
                        refine WD.take 13 rfl (by kernel_rfl) (Held.mk' (by repeat (first | exact SubL.refl | refine SubL.cons (by repeat (first | assumption | exact mS | apply mT)) ?_ | refine SubL.skip ?_)) (by repeat (first | exact OwnL.refl | apply OwnL.take (by repeat (first | exact Take.head _ | apply Take.tail)) | apply OwnL.drop))) rfl rfl rfl ((by first | exact Rd.field rfl F33_6 rfl rfl | exact Rd.fieldE rfl F33_6 rfl (by repeat (first | assumption | exact mS | apply mT)) (by omega) | exact Rd.fieldA rfl F33_6 rfl (by repeat (first | assumption | exact mS | apply mT)) (by omega))) ?_
                        refine WD.one 14 rfl (by kernel_rfl) rfl ?_
                        refine OpW.store1 rfl Z9 rfl rfl (by first | exact ⟨rfl, rfl⟩ | assumption) (by repeat (first | assumption | exact Take.head _ | apply Take.tail)) (by first | (simp; done) | omega | exact of_decide_eq_true rfl | (simp only [List.length_append, List.length_replicate, List.length_map, List.length_set]; omega)) rfl ?_
                        refine ⟨(Held.mk' (by repeat (first | exact SubL.refl | refine SubL.cons (by repeat (first | assumption | exact mS | apply mT)) ?_ | refine SubL.skip ?_)) (by repeat (first | exact OwnL.refl | apply OwnL.take (by repeat (first | exact Take.head _ | apply Take.tail)) | apply OwnL.drop))), ?_⟩
                        refine WD.done (by kernel_rfl) ?_
                        refine blockQ.normal ?_
                        have hd : docOb k l = { zOb with kind := 4, target := l[0]!, name := l[1]!, text := l[2]! } := by unfold docOb; rw [if_neg hc7, if_neg hc8, if_neg hc10]
                        have hk1 : k = 4 := by omega
                        exact ⟨(.slice none 0 0, .slice none 0 0), ⟨OneV.sl, OneV.sl⟩, (by repeat (first | exact Sub.nil | refine Sub.cons rfl (by first | rfl | (congr 1; omega) | assumption) ?_)), fun w h => by
                          have g1 := Sat.nilE (α := List UInt8) (enc := one vs) h
                          have g2 := Sat.nilE (α := ET) (enc := encT) g1
                          simp only [hd]
                          rw [hk1] at g2
                          exact (fun w h => OwnL.sat (by repeat (first | exact OwnL.refl | apply OwnL.take (by repeat (first | exact Take.head _ | apply Take.tail)) | apply OwnL.drop)) w (h.thin (SubL.mem (by repeat (first | exact SubL.refl | refine SubL.cons (by repeat (first | assumption | exact mS | apply mT)) ?_ | refine SubL.skip ?_))))) w g2⟩
                · skip
                  rintro ⟨ev, pv⟩ ⟨hev, hpv⟩
                  simp only
                  have hnm : Names (docOb k l) := by
                    have hg : ∀ j : Nat, (l[j]!).length ≤ 262144 := fun j => by
                      by_cases hj : j < l.length
                      · rw [getElem!_pos l j hj]; exact hsm _ (List.getElem_mem _)
                      · rw [getElem!_neg l j hj]; exact Nat.zero_le _
                    unfold docOb
                    split
                    · exact ⟨fun x hx => absurd hx List.not_mem_nil, Nat.zero_le _⟩
                    · split
                      · refine ⟨fun x hx => ?_, Nat.zero_le _⟩
                        obtain ⟨j, _, rfl⟩ := List.mem_map.1 hx
                        have := hg (2 * j)
                        show l[2 * j]!.length ≤ _
                        omega
                      · split
                        · exact ⟨fun x hx => absurd hx List.not_mem_nil, Nat.zero_le _⟩
                        · refine ⟨fun x hx => absurd hx List.not_mem_nil, ?_⟩
                          have := hg 1
                          show l[1]!.length ≤ _
                          omega
                  obtain ⟨D, hD⟩ : ∃ D, D = docOb k l := ⟨_, rfl⟩
                  rw [← hD] at hnm hdi hdo ⊢
                  refine WC.seq ?_
                  refine WC.region ?_
                  refine WL.rd rfl rfl rfl (Rd.rowS (b := b10) rfl G33 rfl (by repeat (first | assumption | exact mS | apply mT)) (by repeat (first | exact NF.nil | apply NF.cons)) rfl) ?_
                  refine WL.op rfl ?_
                  refine OpW.call rfl rfl (by repeat (first | exact Evs.nil | apply Evs.cons rfl)) (by kernel_rfl) rfl rfl rfl ?_
                  refine refEncode_spec (o := D) (ev := ev) (pv := pv) (by repeat (first | assumption | exact mS | apply mT)) (by repeat (first | assumption | exact mS | apply mT)) hnm ?_
                  refine WL.rd rfl rfl rfl (Rd.move rfl rfl) ?_
                  refine WL.rd rfl rfl rfl (Rd.extract rfl rfl rfl) ?_
                  refine WL.rd rfl rfl rfl (Rd.extract rfl rfl rfl) ?_
                  refine WL.rd rfl rfl rfl (Rd.assign rfl rfl) ?_
                  refine WL.rd rfl rfl rfl (Rd.assign rfl rfl) ?_
                  refine WL.nil ?_
                  refine thenQ.normal ?_
                  refine WC.seq ?_
                  refine WC.pick [0, 2, 10, 17, 18] (by repeat (first | exact Pick.nil | apply Pick.cons rfl)) ?_
                  refine WC.val 183 (.bool (decide (encE D ≠ (s, 0)))) ?_ ?_
                  · skip
                    refine WC.region ?_
                    refine WL.rd rfl rfl rfl (Rd.move rfl rfl) ?_
                    refine WL.rd rfl rfl rfl (Rd.neq rfl rfl rfl) ?_
                    refine WL.rd rfl rfl rfl (Rd.move rfl rfl) ?_
                    refine WL.case 179 rfl (fun hg179 => ?_) (fun hg179 => ?_)
                    · skip
                      refine WL.no rfl rfl rfl rfl rfl rfl ?_
                      refine WL.no rfl rfl rfl rfl rfl rfl ?_
                      refine WL.no rfl rfl rfl rfl rfl rfl ?_
                      refine WL.rd rfl rfl rfl (Rd.pick_t rfl rfl rfl) ?_
                      refine WL.nil ?_
                      exact ⟨by repeat (first | exact Sub.nil | refine Sub.cons rfl (by first | rfl | (first | exact vb_t (fun h => by rw [h] at hg179; exact absurd rfl hg179) | exact vb ⟨fun h h2 => h (by rw [h2]), fun h h2 => h (Prod.ext h2 (by show (encE D).2 = 0; omega))⟩)) ?_), by first | exact (fun _ h => h.thin (SubL.mem (by repeat (first | exact SubL.refl | refine SubL.cons (by repeat (first | assumption | exact mS | apply mT)) ?_ | refine SubL.skip ?_)))) | exact (fun w h => OwnL.sat (by repeat (first | exact OwnL.refl | apply OwnL.take (by repeat (first | exact Take.head _ | apply Take.tail)) | apply OwnL.drop)) w (h.thin (SubL.mem (by repeat (first | exact SubL.refl | refine SubL.cons (by repeat (first | assumption | exact mS | apply mT)) ?_ | refine SubL.skip ?_)))))⟩
                    · skip
                      refine WL.rd_yes rfl rfl rfl rfl rfl rfl (Rd.move rfl rfl) ?_
                      refine WL.rd_yes rfl rfl rfl rfl rfl rfl (Rd.move rfl rfl) ?_
                      refine WL.rd_yes rfl rfl rfl rfl rfl rfl (Rd.sneq rfl rfl rfl) ?_
                      refine WL.rd rfl rfl rfl (Rd.pick_f rfl rfl rfl) ?_
                      refine WL.nil ?_
                      exact ⟨by repeat (first | exact Sub.nil | refine Sub.cons rfl (by first | rfl | (first | exact vb_t (fun h => by rw [h] at hg179; exact absurd rfl hg179) | exact vb ⟨fun h h2 => h (by rw [h2]), fun h h2 => h (Prod.ext h2 (by show (encE D).2 = 0; omega))⟩)) ?_), by first | exact (fun _ h => h.thin (SubL.mem (by repeat (first | exact SubL.refl | refine SubL.cons (by repeat (first | assumption | exact mS | apply mT)) ?_ | refine SubL.skip ?_)))) | exact (fun w h => OwnL.sat (by repeat (first | exact OwnL.refl | apply OwnL.take (by repeat (first | exact Take.head _ | apply Take.tail)) | apply OwnL.drop)) w (h.thin (SubL.mem (by repeat (first | exact SubL.refl | refine SubL.cons (by repeat (first | assumption | exact mS | apply mT)) ?_ | refine SubL.skip ?_)))))⟩
                  · skip
                    first | refine WC.ite rfl (fun hc13 => ?_) (fun hc13 => ?_) | refine WC.cond rfl (fun hc13 => ?_) (fun hc13 => ?_)
                    · skip
                      refine WC.seq ?_
                      refine WC.region ?_
                      refine WL.rd rfl rfl rfl (Rd.buildN (ps := []) rfl Bs33 I33 rfl (by repeat (first | exact Evs.nil | apply Evs.cons rfl)) (by repeat (first | exact CellsOf.nil | apply CellsOf.cons rfl)) (by apply NFo.mk; repeat (first | exact NF.nil | apply NF.cons))) ?_
                      refine WL.op rfl ?_
                      refine OpW.storeS rfl G33 rfl rfl (by repeat (first | exact NF.nil | apply NF.cons)) (by repeat (first | assumption | exact Take.head _ | apply Take.tail)) rfl rfl (by repeat (first | exact NF.nil | apply NF.cons)) rfl ?_
                      refine WL.rd rfl rfl rfl (Rd.assign rfl rfl) ?_
                      refine WL.nil ?_
                      refine thenQ.normal ?_
                      refine WC.heap (R' := SlE encT (.slice none 0 0) ([] : List ET) :: SlE (one vs) (.slice none 0 0) ([] : List (List UInt8)) :: R) (O' := rowC b2 33 zC :: O) (fun w h => by
                      have g1 := Sat.nilE (α := List UInt8) (enc := one vs) h
                      have g2 := Sat.nilE (α := ET) (enc := encT) g1
                      exact (fun w h => OwnL.sat (by repeat (first | exact OwnL.refl | apply OwnL.take (by repeat (first | exact Take.head _ | apply Take.tail)) | apply OwnL.drop)) w (h.thin (SubL.mem (by repeat (first | exact SubL.refl | refine SubL.cons (by repeat (first | assumption | exact mS | apply mT)) ?_ | refine SubL.skip ?_))))) w g2) ?_
                      refine WC.ret (Ret.cellTmp Try.results15 rfl rfl (by repeat (first | assumption | exact mS | apply mT)) G33 rfl ?_)
                      exact hk zOb 2 _ _ _ _ (by
                      rw [hfin]
                      refine ⟨l, [], hP, .inr ⟨rfl, ?_⟩⟩
                      rw [if_neg (fun h => hc13 (hdi.2 h))]
                      exact ⟨rfl, rfl⟩)
                    · skip
                      refine WC.skip ?_
                      refine thenQ.normal ?_
                      refine WC.seq ?_
                      refine WC.region ?_
                      refine WL.rd rfl rfl rfl (Rd.rowS (b := b10) rfl G33 rfl (by repeat (first | assumption | exact mS | apply mT)) (by repeat (first | exact NF.nil | apply NF.cons)) rfl) ?_
                      refine WL.op rfl ?_
                      refine OpW.storeS rfl G33 rfl rfl (by repeat (first | exact NF.nil | apply NF.cons)) (by repeat (first | assumption | exact Take.head _ | apply Take.tail)) rfl rfl (by repeat (first | exact NF.nil | apply NF.cons)) rfl (h1 := by have h1 := hev.one; have h2 := hpv.one; simp only [List.all_cons, List.all_nil, h1, h2]; rfl) ?_
                      refine WL.rd rfl rfl rfl (Rd.assign rfl rfl) ?_
                      refine WL.nil ?_
                      refine thenQ.normal ?_
                      refine WC.heap (R' := SlE encT ev D.ents :: SlE (one vs) pv D.pars :: R) (O' := rowC b2 33 (obC D ev pv) :: O) (fun w h => OwnL.sat (by repeat (first | exact OwnL.refl | apply OwnL.take (by repeat (first | exact Take.head _ | apply Take.tail)) | apply OwnL.drop)) w (h.thin (SubL.mem (by repeat (first | exact SubL.refl | refine SubL.cons (by repeat (first | assumption | exact mS | apply mT)) ?_ | refine SubL.skip ?_))))) ?_
                      refine WC.ret (Ret.cellTmp Try.results15 rfl rfl (by repeat (first | assumption | exact mS | apply mT)) G33 rfl ?_)
                      exact hk D 0 _ _ _ _ (by
                      rw [hfin]
                      refine ⟨l, [], hP, .inr ⟨rfl, ?_⟩⟩
                      have hh := hdi.1 (Decidable.not_not.1 hc13)
                      rw [if_pos hh]
                      exact ⟨(hdo hh.1).symm, rfl⟩)
end
end Go.Proofs.Ytedgndhbieeffaa
