/-
  Layer 21: two lists as one (shuffle).
-/
import Derived.Test.YtpicbbkmcbhnpaaTh5
import Derived.Test.YtpicbbkmcbhnpaaGrow
namespace Go.Proofs.Ytpicbbkmcbhnpaa
open Go Go.SL

theorem lists3 {R : List RO} {u v w : Value} {a b c : List (List UInt8)} (h1 : SlE (one vs) u a ∈ R) (h2 : SlE (one vs) v b ∈ R) (h3 : SlE (one vs) w c ∈ R) : ListsOf [u, v, w] [a, b, c] R := by
  refine ⟨rfl, fun j hj => ?_⟩
  match j, hj with
  | 0, _ => exact h1
  | 1, _ => exact h2
  | 2, _ => exact h3
set_option maxHeartbeats 2000000 in
theorem shuffle_spec {R : List RO} {O : List Own} {POST : Value → List RO → List Own → Prop} {xs ys : List (List UInt8)} {av bv : Value} (ha : SlE (one vs) av xs ∈ R) (hb : SlE (one vs) bv ys ∈ R) (hnx : xs.Nodup) (hny : ys.Nodup)
    (hlx : xs.length ≤ 4294967296) (hly : ys.length ≤ 4294967296)
    (hk1 : ∀ r v, shufE xs ys [] = (r, none) → POST (.tuple #[v, .slice none 0 0]) (SlE (one vs) v r :: R) O)
    (hk2 : ∀ a b v, shufE xs ys [] = ([], some (a, b)) → POST (.tuple #[.slice none 0 0, v]) (SlE (one vs) v [a, b] :: R) O) : Fun Try.prog 21 #[av, bv] R O POST := by
  refine Fun.enter (l := [_, _]) Try.func21 rfl Try.ntmps21 rfl (L0 := [(0, _), (1, _)]) rfl ?_
  refine WC.seq ?_
  refine WC.region ?_
  refine WL.rd rfl rfl rfl (Rd.assign rfl rfl) ?_
  refine WL.rd rfl rfl rfl (Rd.assign rfl rfl) ?_
  refine WL.nil ?_
  refine thenQ.normal ?_
  refine WC.seq ?_
  refine WC.region ?_
  refine WL.rd rfl rfl rfl (Rd.move rfl rfl) ?_
  refine WL.op rfl ?_
  refine OpW.call rfl rfl (by repeat (first | exact Evs.nil | apply Evs.cons rfl)) (by kernel_rfl) rfl rfl rfl ?_
  refine set_spec ha (fun _ bA mA0 hA0 => ?_) (fun hn => absurd hnx hn)
  refine WL.rd rfl rfl rfl (Rd.move rfl rfl) ?_
  refine WL.rd rfl rfl rfl (Rd.extract rfl rfl rfl) ?_
  refine WL.rd rfl rfl rfl (Rd.extract rfl rfl rfl) ?_
  refine WL.rd rfl rfl rfl (Rd.assign rfl rfl) ?_
  refine WL.rd rfl rfl rfl (Rd.assign rfl rfl) ?_
  refine WL.nil ?_
  refine thenQ.normal ?_
  refine WC.seq ?_
  refine WC.region ?_
  refine WL.rd rfl rfl rfl (Rd.move rfl rfl) ?_
  refine WL.op rfl ?_
  refine OpW.call rfl rfl (by repeat (first | exact Evs.nil | apply Evs.cons rfl)) (by kernel_rfl) rfl rfl rfl ?_
  refine set_spec hb (fun _ bB mB0 hB0 => ?_) (fun hn => absurd hny hn)
  refine WL.rd rfl rfl rfl (Rd.move rfl rfl) ?_
  refine WL.rd rfl rfl rfl (Rd.extract rfl rfl rfl) ?_
  refine WL.rd rfl rfl rfl (Rd.extract rfl rfl rfl) ?_
  refine WL.rd rfl rfl rfl (Rd.assign rfl rfl) ?_
  refine WL.rd rfl rfl rfl (Rd.assign rfl rfl) ?_
  refine WL.nil ?_
  refine thenQ.normal ?_
  refine WC.seq ?_
  refine WC.region ?_
  refine WL.rd rfl rfl rfl (Rd.assign rfl rfl) ?_
  refine WL.nil ?_
  refine thenQ.normal ?_
  refine WC.seq ?_
  refine WC.block ?_
  refine WC.pick [0, 1, 10, 6, 8] (by repeat (first | exact Pick.nil | apply Pick.cons rfl)) ?_
  refine WC.loop7r 3 (fun (xv : Value) (yv : Value) (u : Value) (q : List (List UInt8) × List (List UInt8)) (out : List (List UInt8)) (mA : GoMap (List UInt8) Bool) (mB : GoMap (List UInt8) Bool) => [(0, xv), (1, yv), (10, u)]) (fun (xv : Value) (yv : Value) (u : Value) (q : List (List UInt8) × List (List UInt8)) (out : List (List UInt8)) (mA : GoMap (List UInt8) Bool) (mB : GoMap (List UInt8) Bool) => SlE (one vs) xv q.1 :: SlE (one vs) yv q.2 :: R) (fun (xv : Value) (yv : Value) (u : Value) (q : List (List UInt8) × List (List UInt8)) (out : List (List UInt8)) (mA : GoMap (List UInt8) Bool) (mB : GoMap (List UInt8) Bool) => accC 9 1 (one vs) u out :: mapC vs vbl bA mA :: mapC vs vbl bB mB :: O) (fun (xv : Value) (yv : Value) (u : Value) (q : List (List UInt8) × List (List UInt8)) (out : List (List UInt8)) (mA : GoMap (List UInt8) Bool) (mB : GoMap (List UInt8) Bool) => q.1.Nodup ∧ q.2.Nodup ∧ SetOf mA q.1 ∧ SetOf mB q.2 ∧ shufE q.1 q.2 out = shufE xs ys [] ∧ out.length + q.1.length + q.2.length ≤ xs.length + ys.length ∧ OneV u) (fun (xv : Value) (yv : Value) (u : Value) (q : List (List UInt8) × List (List UInt8)) (out : List (List UInt8)) (mA : GoMap (List UInt8) Bool) (mB : GoMap (List UInt8) Bool) => q.1.length + q.2.length) (av) (bv) (.slice none 0 0) ((xs, ys)) ([]) (mA0) (mB0) (by repeat (first | exact Split.zero | apply Split.succ)) ?hinv1 (by repeat (first | exact Sub.nil | refine Sub.cons rfl (by first | rfl | (congr 1; omega) | assumption) ?_)) (fun w h => by
  have h1 := h.accNil (α := List UInt8) (e := 9) (size := 1) (enc := one vs)
  have h2 := h1.weaken hb (q := SlE (one vs) bv ys) (fun w hp => hp)
  have h3 := h2.weaken (List.mem_cons_of_mem _ ha) (q := SlE (one vs) av xs) (fun w hp => hp)
  exact (fun w h => OwnL.sat (by repeat (first | exact OwnL.refl | apply OwnL.take (by repeat (first | exact Take.head _ | apply Take.tail)) | apply OwnL.drop)) w (h.thin (SubL.mem (by repeat (first | exact SubL.refl | refine SubL.cons (by repeat (first | assumption | exact List.mem_cons_self | refine List.mem_cons_of_mem _ ?_)) ?_ | refine SubL.skip ?_))))) w h3) ?_
  case hinv1 =>
    exact ⟨hnx, hny, hA0, hB0, rfl, by simp, OneV.sl⟩
  intro xv yv u q out mA mB
  rintro ⟨i1, i2, i3, i4, i5, i6, i7⟩
  obtain ⟨x, y⟩ := q
  refine WC.seq ?_
  refine WC.pick [0, 1, 6, 8, 10] (by repeat (first | exact Pick.nil | apply Pick.cons rfl)) ?_
  refine WC.val 28 (.bool (decide (0 < x.length ∧ 0 < y.length))) ?_ ?_
  · skip
    refine WC.region ?_
    refine WL.rd rfl rfl rfl (Rd.move rfl rfl) ?_
    refine WL.rd rfl rfl rfl ((by first | exact Rd.lenE rfl rfl Try.underlying22 (by repeat (first | assumption | exact List.mem_cons_self | refine List.mem_cons_of_mem _ ?_)) | exact Rd.lenA rfl rfl Try.underlying22 (by repeat (first | assumption | exact List.mem_cons_self | refine List.mem_cons_of_mem _ ?_)) | exact Rd.len rfl rfl Try.underlying22)) ?_
    refine WL.rd rfl rfl rfl (Rd.gtr rfl rfl rfl) ?_
    refine WL.rd rfl rfl rfl (Rd.move rfl rfl) ?_
    refine WL.case 24 rfl (fun hg24 => ?_) (fun hg24 => ?_)
    · skip
      refine WL.rd_yes rfl rfl rfl rfl rfl rfl (Rd.move rfl rfl) ?_
      refine WL.rd_yes rfl rfl rfl rfl rfl rfl ((by first | exact Rd.lenE rfl rfl Try.underlying22 (by repeat (first | assumption | exact List.mem_cons_self | refine List.mem_cons_of_mem _ ?_)) | exact Rd.lenA rfl rfl Try.underlying22 (by repeat (first | assumption | exact List.mem_cons_self | refine List.mem_cons_of_mem _ ?_)) | exact Rd.len rfl rfl Try.underlying22)) ?_
      refine WL.rd_yes rfl rfl rfl rfl rfl rfl (Rd.gtr rfl rfl rfl) ?_
      refine WL.rd rfl rfl rfl (Rd.pick_t rfl rfl rfl) ?_
      refine WL.nil ?_
      exact ⟨by repeat (first | exact Sub.nil | refine Sub.cons rfl (by first | rfl | (first | rfl | exact vb (by omega) | exact vb_t (by omega) | exact vb_f (by omega) | (simp [*]; done) | (simp_all; done))) ?_), by first | exact (fun _ h => h.thin (SubL.mem (by repeat (first | exact SubL.refl | refine SubL.cons (by repeat (first | assumption | exact List.mem_cons_self | refine List.mem_cons_of_mem _ ?_)) ?_ | refine SubL.skip ?_)))) | exact (fun w h => OwnL.sat (by repeat (first | exact OwnL.refl | apply OwnL.take (by repeat (first | exact Take.head _ | apply Take.tail)) | apply OwnL.drop)) w (h.thin (SubL.mem (by repeat (first | exact SubL.refl | refine SubL.cons (by repeat (first | assumption | exact List.mem_cons_self | refine List.mem_cons_of_mem _ ?_)) ?_ | refine SubL.skip ?_)))))⟩
    · skip
      refine WL.no rfl rfl rfl rfl rfl rfl ?_
      refine WL.no rfl rfl rfl rfl rfl rfl ?_
      refine WL.no rfl rfl rfl rfl rfl rfl ?_
      refine WL.rd rfl rfl rfl (Rd.pick_f rfl rfl rfl) ?_
      refine WL.nil ?_
      exact ⟨by repeat (first | exact Sub.nil | refine Sub.cons rfl (by first | rfl | (first | rfl | exact vb (by omega) | exact vb_t (by omega) | exact vb_f (by omega) | (simp [*]; done) | (simp_all; done))) ?_), by first | exact (fun _ h => h.thin (SubL.mem (by repeat (first | exact SubL.refl | refine SubL.cons (by repeat (first | assumption | exact List.mem_cons_self | refine List.mem_cons_of_mem _ ?_)) ?_ | refine SubL.skip ?_)))) | exact (fun w h => OwnL.sat (by repeat (first | exact OwnL.refl | apply OwnL.take (by repeat (first | exact Take.head _ | apply Take.tail)) | apply OwnL.drop)) w (h.thin (SubL.mem (by repeat (first | exact SubL.refl | refine SubL.cons (by repeat (first | assumption | exact List.mem_cons_self | refine List.mem_cons_of_mem _ ?_)) ?_ | refine SubL.skip ?_)))))⟩
  · skip
    first | refine WC.ite rfl (fun hc1 => ?_) (fun hc1 => ?_) | refine WC.cond rfl (fun hc1 => ?_) (fun hc1 => ?_)
    · skip
      obtain ⟨hc1a, hc1b⟩ := hc1
      obtain ⟨a, x, rfl⟩ : ∃ a x', x = a :: x' := by cases x with | nil => simp at hc1a | cons a x => exact ⟨a, x, rfl⟩
      obtain ⟨b, y, rfl⟩ : ∃ a x', y = a :: x' := by cases y with | nil => simp at hc1b | cons a x => exact ⟨a, x, rfl⟩
      dsimp only at i1 i2 i3 i4 i5 i6
      simp only [List.length_cons] at i6
      have hax : SlE (one vs) xv (a :: x) ∈ SlE (one vs) xv (a :: x) :: SlE (one vs) yv (b :: y) :: R := List.mem_cons_self
      have hby : SlE (one vs) yv (b :: y) ∈ SlE (one vs) xv (a :: x) :: SlE (one vs) yv (b :: y) :: R := List.mem_cons_of_mem _ List.mem_cons_self
      refine WC.heap (R' := SlE (one vs) xv (a :: x) :: SlE (one vs) yv (b :: y) :: R) (O' := accC 9 1 (one vs) u out :: mapC vs vbl bA mA :: mapC vs vbl bB mB :: O) (fun w h => h) ?_
      refine WC.skip ?_
      refine thenQ.normal ?_
      refine WC.block ?_
      refine WC.block ?_
      refine WC.seq ?_
      refine WC.still mixed (by kernel_rfl) ?_
      refine WA.rd rfl rfl rfl (Rd.move rfl rfl) ?_
      refine WA.rd rfl rfl rfl (Rd.idx1 (k := 0) rfl S22 rfl rfl rfl hax (by simp)) ?_
      refine WA.rd rfl rfl rfl (Rd.get (k := 0) (a := a) rfl C9 rfl hax rfl) ?_
      refine WA.rd rfl rfl rfl (Rd.move rfl rfl) ?_
      refine WA.rd rfl rfl rfl (Rd.idx1 (k := 0) rfl S22 rfl rfl rfl hby (by simp)) ?_
      refine WA.rd rfl rfl rfl (Rd.get (k := 0) (a := b) rfl C9 rfl hby rfl) ?_
      refine WA.rd rfl rfl rfl (Rd.seql rfl rfl rfl) ?_
      refine WA.rd rfl rfl rfl (Rd.assign rfl rfl) ?_
      refine WA.nil ?_
      refine thenQ.normal ?_
      first | refine WC.ite rfl (fun hc2 => ?_) (fun hc2 => ?_) | refine WC.cond rfl (fun hc2 => ?_) (fun hc2 => ?_)
      · skip
        refine WC.seq ?_
        refine WC.region ?_
        refine WL.rd rfl rfl rfl (Rd.move rfl rfl) ?_
        refine WL.rd rfl rfl rfl (Rd.move rfl rfl) ?_
        refine WL.rd rfl rfl rfl (Rd.idx1 (k := 0) rfl S22 rfl rfl rfl hax (by simp)) ?_
        refine WL.rd rfl rfl rfl (Rd.get (k := 0) (a := a) rfl C9 rfl hax rfl) ?_
        refine WL.op rfl ?_
        refine OpW.buildSl (ps := [(0, _)]) rfl S22 (by repeat (first | exact Evs.nil | apply Evs.cons rfl)) rfl rfl (by repeat (first | exact CellsOf.nil | apply CellsOf.cons rfl)) (by kernel_rfl) rfl rfl rfl ?_; intro b48
        refine WL.op rfl ?_
        refine OpW.appendRow (enc := one vs) rfl S22 rfl rfl (by repeat (first | assumption | exact Take.head _ | apply Take.tail)) (by repeat (first | assumption | exact Take.head _ | apply Take.tail)) [_] rfl (by rfl) rfl (by intro x; first | rfl | (cases x; rfl) | (rcases x with ⟨_, _, _⟩; rfl) | (rcases x with ⟨_, _, _, _⟩; rfl)) (by intro x; first | rfl | (cases x; rfl) | (rcases x with ⟨_, _, _⟩; rfl) | (rcases x with ⟨_, _, _, _⟩; rfl)) ⟨by simp only [maxLen, List.length_append, List.length_nil, List.length_cons, List.length_drop, List.length_take, List.length_map]; omega, by first | omega | (simp only [List.length_append, List.length_nil, List.length_cons, List.length_drop, List.length_take, List.length_map]; omega)⟩ rfl rfl ?_; intro v49 hv49
        refine WL.rd rfl rfl rfl (Rd.assign rfl rfl) ?_
        refine WL.nil ?_
        refine thenQ.normal ?_
        refine WC.seq ?_
        refine WC.region ?_
        refine WL.rd rfl rfl rfl (Rd.move rfl rfl) ?_
        refine WL.rd rfl rfl rfl (Rd.move rfl rfl) ?_
        refine WL.rd rfl rfl rfl (Rd.idx1 (k := 0) rfl S22 rfl rfl rfl hax (by simp)) ?_
        refine WL.rd rfl rfl rfl (Rd.get (k := 0) (a := a) rfl C9 rfl hax rfl) ?_
        refine WL.op rfl ?_
        refine OpW.delete (k := a) M45 K9 rfl rfl rfl (by repeat (first | assumption | exact Take.head _ | apply Take.tail)) rfl rfl ?_
        refine WL.nil ?_
        refine thenQ.normal ?_
        refine WC.seq ?_
        refine WC.region ?_
        refine WL.rd rfl rfl rfl (Rd.move rfl rfl) ?_
        refine WL.rd rfl rfl rfl (Rd.move rfl rfl) ?_
        refine WL.rd rfl rfl rfl (Rd.idx1 (k := 0) rfl S22 rfl rfl rfl hax (by simp)) ?_
        refine WL.rd rfl rfl rfl (Rd.get (k := 0) (a := a) rfl C9 rfl hax rfl) ?_
        refine WL.op rfl ?_
        refine OpW.delete (k := a) M45 K9 rfl rfl rfl (by repeat (first | assumption | exact Take.head _ | apply Take.tail)) rfl rfl ?_
        refine WL.nil ?_
        refine thenQ.normal ?_
        refine WC.still mixed (by kernel_rfl) ?_
        refine WA.rd rfl rfl rfl (Rd.move rfl rfl) ?_
        refine WA.rd rfl rfl rfl (Rd.cut_l (lo := 1) rfl S22 rfl rfl rfl hax (by simp)) ?_
        refine WA.rd rfl rfl rfl (Rd.move rfl rfl) ?_
        refine WA.rd rfl rfl rfl (Rd.cut_l (lo := 1) rfl S22 rfl rfl rfl hby (by simp)) ?_
        refine WA.rd rfl rfl rfl (Rd.assign rfl rfl) ?_
        refine WA.rd rfl rfl rfl (Rd.assign rfl rfl) ?_
        refine WA.nil ?_
        refine blockQ.normal ?_
        refine blockQ.normal ?_
        -- next1_1
        exact loopQ7.mk (subSl xv 1 1 (a :: x).length) (subSl yv 1 1 (b :: y).length) v49 (x, y) (out ++ [a]) (mA.del a) (mB.del a) ⟨(List.nodup_cons.1 i1).2, (List.nodup_cons.1 i2).2, i3.del i1, by rw [hc2]; exact i4.del i2, by rw [← i5, shufE, if_pos hc2], by simp only [List.length_append, List.length_cons, List.length_nil]; omega, hv49⟩ (by simp only [List.length_cons]; omega) (by repeat (first | exact Sub.nil | refine Sub.cons rfl (by first | rfl | (congr 1; omega) | assumption) ?_)) (fun w h => by
          have h1 := h.weaken hax (fun w hp => SlE.subl (size := 1) (lo := 1) (fun _ => rfl) (by simp) hp)
          have h2 := h1.weaken (List.mem_cons_of_mem _ hby) (fun w hp => SlE.subl (size := 1) (lo := 1) (fun _ => rfl) (by simp) hp)
          exact (fun w h => OwnL.sat (by repeat (first | exact OwnL.refl | apply OwnL.take (by repeat (first | exact Take.head _ | apply Take.tail)) | apply OwnL.drop)) w (h.thin (SubL.mem (by repeat (first | exact SubL.refl | refine SubL.cons (by repeat (first | assumption | exact List.mem_cons_self | refine List.mem_cons_of_mem _ ?_)) ?_ | refine SubL.skip ?_))))) w h2)
      · skip
        refine WC.seq ?_
        refine WC.region ?_
        refine WL.rd rfl rfl rfl (Rd.move rfl rfl) ?_
        refine WL.rd rfl rfl rfl (Rd.move rfl rfl) ?_
        refine WL.rd rfl rfl rfl (Rd.idx1 (k := 0) rfl S22 rfl rfl rfl hax (by simp)) ?_
        refine WL.rd rfl rfl rfl (Rd.get (k := 0) (a := a) rfl C9 rfl hax rfl) ?_
        refine WL.rd rfl rfl rfl ((by first | exact Rd.lookup M45 K9 rfl rfl rfl (by repeat (first | assumption | exact List.mem_cons_self | refine List.mem_cons_of_mem _ ?_)) (by rfl) | exact Rd.lookupR M45 K9 rfl rfl rfl (by repeat (first | assumption | exact List.mem_cons_self | refine List.mem_cons_of_mem _ ?_)) (by rfl))) ?_
        refine WL.say 67 (u := .bool (decide (a ∈ b :: y))) rfl (i4.look a) ?_
        refine WL.rd rfl rfl rfl ((by first | exact Rd.notd rfl rfl | exact Rd.not rfl rfl)) ?_
        refine WL.rd rfl rfl rfl (Rd.assign rfl rfl) ?_
        refine WL.nil ?_
        refine thenQ.normal ?_
        first | refine WC.ite rfl (fun hc3 => ?_) (fun hc3 => ?_) | refine WC.cond rfl (fun hc3 => ?_) (fun hc3 => ?_)
        · skip
          refine WC.seq ?_
          refine WC.region ?_
          refine WL.rd rfl rfl rfl (Rd.move rfl rfl) ?_
          refine WL.rd rfl rfl rfl (Rd.move rfl rfl) ?_
          refine WL.rd rfl rfl rfl (Rd.idx1 (k := 0) rfl S22 rfl rfl rfl hax (by simp)) ?_
          refine WL.rd rfl rfl rfl (Rd.get (k := 0) (a := a) rfl C9 rfl hax rfl) ?_
          refine WL.op rfl ?_
          refine OpW.buildSl (ps := [(0, _)]) rfl S22 (by repeat (first | exact Evs.nil | apply Evs.cons rfl)) rfl rfl (by repeat (first | exact CellsOf.nil | apply CellsOf.cons rfl)) (by kernel_rfl) rfl rfl rfl ?_; intro b73
          refine WL.op rfl ?_
          refine OpW.appendRow (enc := one vs) rfl S22 rfl rfl (by repeat (first | assumption | exact Take.head _ | apply Take.tail)) (by repeat (first | assumption | exact Take.head _ | apply Take.tail)) [_] rfl (by rfl) rfl (by intro x; first | rfl | (cases x; rfl) | (rcases x with ⟨_, _, _⟩; rfl) | (rcases x with ⟨_, _, _, _⟩; rfl)) (by intro x; first | rfl | (cases x; rfl) | (rcases x with ⟨_, _, _⟩; rfl) | (rcases x with ⟨_, _, _, _⟩; rfl)) ⟨by simp only [maxLen, List.length_append, List.length_nil, List.length_cons, List.length_drop, List.length_take, List.length_map]; omega, by first | omega | (simp only [List.length_append, List.length_nil, List.length_cons, List.length_drop, List.length_take, List.length_map]; omega)⟩ rfl rfl ?_; intro v74 hv74
          refine WL.rd rfl rfl rfl (Rd.assign rfl rfl) ?_
          refine WL.nil ?_
          refine thenQ.normal ?_
          refine WC.seq ?_
          refine WC.region ?_
          refine WL.rd rfl rfl rfl (Rd.move rfl rfl) ?_
          refine WL.rd rfl rfl rfl (Rd.move rfl rfl) ?_
          refine WL.rd rfl rfl rfl (Rd.idx1 (k := 0) rfl S22 rfl rfl rfl hax (by simp)) ?_
          refine WL.rd rfl rfl rfl (Rd.get (k := 0) (a := a) rfl C9 rfl hax rfl) ?_
          refine WL.op rfl ?_
          refine OpW.delete (k := a) M45 K9 rfl rfl rfl (by repeat (first | assumption | exact Take.head _ | apply Take.tail)) rfl rfl ?_
          refine WL.nil ?_
          refine thenQ.normal ?_
          refine WC.region ?_
          refine WL.rd rfl rfl rfl (Rd.move rfl rfl) ?_
          refine WL.rd rfl rfl rfl (Rd.cut_l (lo := 1) rfl S22 rfl rfl rfl hax (by simp)) ?_
          refine WL.rd rfl rfl rfl (Rd.assign rfl rfl) ?_
          refine WL.nil ?_
          refine blockQ.normal ?_
          refine blockQ.normal ?_
          -- next1_2
          exact loopQ7.mk (subSl xv 1 1 (a :: x).length) yv v74 (x, b :: y) (out ++ [a]) (mA.del a) mB ⟨(List.nodup_cons.1 i1).2, i2, i3.del i1, i4, by rw [← i5, shufE, if_neg hc2, if_pos hc3], by simp only [List.length_append, List.length_cons, List.length_nil]; omega, hv74⟩ (by simp only [List.length_cons]; omega) (by repeat (first | exact Sub.nil | refine Sub.cons rfl (by first | rfl | (congr 1; omega) | assumption) ?_)) (fun w h => by
            have h1 := h.weaken hax (fun w hp => SlE.subl (size := 1) (lo := 1) (fun _ => rfl) (by simp) hp)
            exact (fun w h => OwnL.sat (by repeat (first | exact OwnL.refl | apply OwnL.take (by repeat (first | exact Take.head _ | apply Take.tail)) | apply OwnL.drop)) w (h.thin (SubL.mem (by repeat (first | exact SubL.refl | refine SubL.cons (by repeat (first | assumption | exact List.mem_cons_self | refine List.mem_cons_of_mem _ ?_)) ?_ | refine SubL.skip ?_))))) w h1)
        · skip
          refine WC.seq ?_
          refine WC.region ?_
          refine WL.rd rfl rfl rfl (Rd.move rfl rfl) ?_
          refine WL.rd rfl rfl rfl (Rd.move rfl rfl) ?_
          refine WL.rd rfl rfl rfl (Rd.idx1 (k := 0) rfl S22 rfl rfl rfl hby (by simp)) ?_
          refine WL.rd rfl rfl rfl (Rd.get (k := 0) (a := b) rfl C9 rfl hby rfl) ?_
          refine WL.rd rfl rfl rfl ((by first | exact Rd.lookup M45 K9 rfl rfl rfl (by repeat (first | assumption | exact List.mem_cons_self | refine List.mem_cons_of_mem _ ?_)) (by rfl) | exact Rd.lookupR M45 K9 rfl rfl rfl (by repeat (first | assumption | exact List.mem_cons_self | refine List.mem_cons_of_mem _ ?_)) (by rfl))) ?_
          refine WL.say 86 (u := .bool (decide (b ∈ a :: x))) rfl (i3.look b) ?_
          refine WL.rd rfl rfl rfl ((by first | exact Rd.notd rfl rfl | exact Rd.not rfl rfl)) ?_
          refine WL.rd rfl rfl rfl (Rd.assign rfl rfl) ?_
          refine WL.nil ?_
          refine thenQ.normal ?_
          first | refine WC.ite rfl (fun hc4 => ?_) (fun hc4 => ?_) | refine WC.cond rfl (fun hc4 => ?_) (fun hc4 => ?_)
          · skip
            refine WC.seq ?_
            refine WC.region ?_
            refine WL.rd rfl rfl rfl (Rd.move rfl rfl) ?_
            refine WL.rd rfl rfl rfl (Rd.move rfl rfl) ?_
            refine WL.rd rfl rfl rfl (Rd.idx1 (k := 0) rfl S22 rfl rfl rfl hby (by simp)) ?_
            refine WL.rd rfl rfl rfl (Rd.get (k := 0) (a := b) rfl C9 rfl hby rfl) ?_
            refine WL.op rfl ?_
            refine OpW.buildSl (ps := [(0, _)]) rfl S22 (by repeat (first | exact Evs.nil | apply Evs.cons rfl)) rfl rfl (by repeat (first | exact CellsOf.nil | apply CellsOf.cons rfl)) (by kernel_rfl) rfl rfl rfl ?_; intro b92
            refine WL.op rfl ?_
            refine OpW.appendRow (enc := one vs) rfl S22 rfl rfl (by repeat (first | assumption | exact Take.head _ | apply Take.tail)) (by repeat (first | assumption | exact Take.head _ | apply Take.tail)) [_] rfl (by rfl) rfl (by intro x; first | rfl | (cases x; rfl) | (rcases x with ⟨_, _, _⟩; rfl) | (rcases x with ⟨_, _, _, _⟩; rfl)) (by intro x; first | rfl | (cases x; rfl) | (rcases x with ⟨_, _, _⟩; rfl) | (rcases x with ⟨_, _, _, _⟩; rfl)) ⟨by simp only [maxLen, List.length_append, List.length_nil, List.length_cons, List.length_drop, List.length_take, List.length_map]; omega, by first | omega | (simp only [List.length_append, List.length_nil, List.length_cons, List.length_drop, List.length_take, List.length_map]; omega)⟩ rfl rfl ?_; intro v93 hv93
            refine WL.rd rfl rfl rfl (Rd.assign rfl rfl) ?_
            refine WL.nil ?_
            refine thenQ.normal ?_
            refine WC.seq ?_
            refine WC.region ?_
            refine WL.rd rfl rfl rfl (Rd.move rfl rfl) ?_
            refine WL.rd rfl rfl rfl (Rd.move rfl rfl) ?_
            refine WL.rd rfl rfl rfl (Rd.idx1 (k := 0) rfl S22 rfl rfl rfl hby (by simp)) ?_
            refine WL.rd rfl rfl rfl (Rd.get (k := 0) (a := b) rfl C9 rfl hby rfl) ?_
            refine WL.op rfl ?_
            refine OpW.delete (k := b) M45 K9 rfl rfl rfl (by repeat (first | assumption | exact Take.head _ | apply Take.tail)) rfl rfl ?_
            refine WL.nil ?_
            refine thenQ.normal ?_
            refine WC.region ?_
            refine WL.rd rfl rfl rfl (Rd.move rfl rfl) ?_
            refine WL.rd rfl rfl rfl (Rd.cut_l (lo := 1) rfl S22 rfl rfl rfl hby (by simp)) ?_
            refine WL.rd rfl rfl rfl (Rd.assign rfl rfl) ?_
            refine WL.nil ?_
            refine blockQ.normal ?_
            refine blockQ.normal ?_
            -- next1_3
            exact loopQ7.mk xv (subSl yv 1 1 (b :: y).length) v93 (a :: x, y) (out ++ [b]) mA (mB.del b) ⟨i1, (List.nodup_cons.1 i2).2, i3, i4.del i2, by rw [← i5, shufE, if_neg hc2, if_neg hc3, if_pos hc4], by simp only [List.length_append, List.length_cons, List.length_nil]; omega, hv93⟩ (by simp only [List.length_cons]; omega) (by repeat (first | exact Sub.nil | refine Sub.cons rfl (by first | rfl | (congr 1; omega) | assumption) ?_)) (fun w h => by
              have h1 := h.weaken hby (fun w hp => SlE.subl (size := 1) (lo := 1) (fun _ => rfl) (by simp) hp)
              exact (fun w h => OwnL.sat (by repeat (first | exact OwnL.refl | apply OwnL.take (by repeat (first | exact Take.head _ | apply Take.tail)) | apply OwnL.drop)) w (h.thin (SubL.mem (by repeat (first | exact SubL.refl | refine SubL.cons (by repeat (first | assumption | exact List.mem_cons_self | refine List.mem_cons_of_mem _ ?_)) ?_ | refine SubL.skip ?_))))) w h1)
          · skip
            refine WC.seq ?_
            refine WC.drawnA 9 rfl mixed ?_
            refine WD.take 0 rfl (by kernel_rfl) (Held.mk' (by repeat (first | exact SubL.refl | refine SubL.cons (by repeat (first | assumption | exact List.mem_cons_self | refine List.mem_cons_of_mem _ ?_)) ?_ | refine SubL.skip ?_)) (by repeat (first | exact OwnL.refl | apply OwnL.take (by repeat (first | exact Take.head _ | apply Take.tail)) | apply OwnL.drop))) rfl rfl rfl (Rd.move rfl rfl) ?_
            refine WD.take 1 rfl (by kernel_rfl) (Held.mk' (by repeat (first | exact SubL.refl | refine SubL.cons (by repeat (first | assumption | exact List.mem_cons_self | refine List.mem_cons_of_mem _ ?_)) ?_ | refine SubL.skip ?_)) (by repeat (first | exact OwnL.refl | apply OwnL.take (by repeat (first | exact Take.head _ | apply Take.tail)) | apply OwnL.drop))) rfl rfl rfl (Rd.idx1 (k := 0) rfl S22 rfl rfl rfl hax (by simp)) ?_
            refine WD.take 2 rfl (by kernel_rfl) (Held.mk' (by repeat (first | exact SubL.refl | refine SubL.cons (by repeat (first | assumption | exact List.mem_cons_self | refine List.mem_cons_of_mem _ ?_)) ?_ | refine SubL.skip ?_)) (by repeat (first | exact OwnL.refl | apply OwnL.take (by repeat (first | exact Take.head _ | apply Take.tail)) | apply OwnL.drop))) rfl rfl rfl (Rd.get (k := 0) (a := a) rfl C9 rfl hax rfl) ?_
            refine WD.take 3 rfl (by kernel_rfl) (Held.mk' (by repeat (first | exact SubL.refl | refine SubL.cons (by repeat (first | assumption | exact List.mem_cons_self | refine List.mem_cons_of_mem _ ?_)) ?_ | refine SubL.skip ?_)) (by repeat (first | exact OwnL.refl | apply OwnL.take (by repeat (first | exact Take.head _ | apply Take.tail)) | apply OwnL.drop))) rfl rfl rfl (Rd.move rfl rfl) ?_
            refine WD.take 4 rfl (by kernel_rfl) (Held.mk' (by repeat (first | exact SubL.refl | refine SubL.cons (by repeat (first | assumption | exact List.mem_cons_self | refine List.mem_cons_of_mem _ ?_)) ?_ | refine SubL.skip ?_)) (by repeat (first | exact OwnL.refl | apply OwnL.take (by repeat (first | exact Take.head _ | apply Take.tail)) | apply OwnL.drop))) rfl rfl rfl (Rd.idx1 (k := 0) rfl S22 rfl rfl rfl hby (by simp)) ?_
            refine WD.take 5 rfl (by kernel_rfl) (Held.mk' (by repeat (first | exact SubL.refl | refine SubL.cons (by repeat (first | assumption | exact List.mem_cons_self | refine List.mem_cons_of_mem _ ?_)) ?_ | refine SubL.skip ?_)) (by repeat (first | exact OwnL.refl | apply OwnL.take (by repeat (first | exact Take.head _ | apply Take.tail)) | apply OwnL.drop))) rfl rfl rfl (Rd.get (k := 0) (a := b) rfl C9 rfl hby rfl) ?_
            refine WD.take 7 rfl (by kernel_rfl) (Held.mk' (by repeat (first | exact SubL.refl | refine SubL.cons (by repeat (first | assumption | exact List.mem_cons_self | refine List.mem_cons_of_mem _ ?_)) ?_ | refine SubL.skip ?_)) (by repeat (first | exact OwnL.refl | apply OwnL.take (by repeat (first | exact Take.head _ | apply Take.tail)) | apply OwnL.drop))) rfl rfl rfl (Rd.assign rfl rfl) ?_
            refine WD.one 6 rfl (by kernel_rfl) rfl ?_
            refine OpW.buildSl (ps := [(0, _), (1, _)]) rfl S22 (by repeat (first | exact Evs.nil | apply Evs.cons rfl)) rfl rfl (by repeat (first | exact CellsOf.nil | apply CellsOf.cons rfl)) (by kernel_rfl) rfl rfl rfl ?_; intro b35
            refine ⟨(Held.mk' (by repeat (first | exact SubL.refl | refine SubL.cons (by repeat (first | assumption | exact List.mem_cons_self | refine List.mem_cons_of_mem _ ?_)) ?_ | refine SubL.skip ?_)) (by repeat (first | exact OwnL.refl | apply OwnL.take (by repeat (first | exact Take.head _ | apply Take.tail)) | apply OwnL.drop))), ?_⟩
            refine WD.take 8 rfl (by kernel_rfl) (Held.mk' (by repeat (first | exact SubL.refl | refine SubL.cons (by repeat (first | assumption | exact List.mem_cons_self | refine List.mem_cons_of_mem _ ?_)) ?_ | refine SubL.skip ?_)) (by repeat (first | exact OwnL.refl | apply OwnL.take (by repeat (first | exact Take.head _ | apply Take.tail)) | apply OwnL.drop))) rfl rfl rfl (Rd.assign rfl rfl) ?_
            refine WD.done (by kernel_rfl) ?_
            refine thenQ.normal ?_
            -- ret_1
            refine WC.heap (R' := SlE (one vs) (.slice (some ⟨b35, 0, none⟩) 2 2) [a, b] :: R) (O' := O) (fun w h => by
              have h1 := Sat.shareRow (enc := one vs) (xs := [a, b]) (m := 2) (by repeat (first | assumption | exact Take.head _ | apply Take.tail)) rfl rfl (by decide) h
              exact (fun w h => OwnL.sat (by repeat (first | exact OwnL.refl | apply OwnL.take (by repeat (first | exact Take.head _ | apply Take.tail)) | apply OwnL.drop)) w (h.thin (SubL.mem (by repeat (first | exact SubL.refl | refine SubL.cons (by repeat (first | assumption | exact List.mem_cons_self | refine List.mem_cons_of_mem _ ?_)) ?_ | refine SubL.skip ?_))))) w h1) ?_
            refine WC.ret (Ret.two Try.results21 rfl rfl ?_)
            exact hk2 a b _ (by rw [← i5, shufE, if_neg hc2, if_neg hc3, if_neg hc4])
    · skip
      have hfin : shufE x y out = (out ++ x ++ y, none) := by
        cases x with
        | nil => rw [shufE]; simp
        | cons a x =>
          cases y with
          | nil => rw [shufE]; simp
          | cons b y => exact absurd ⟨by simp, by simp⟩ hc1
      rw [hfin] at i5
      refine WC.heap (R' := SlE (one vs) u out :: SlE (one vs) xv x :: SlE (one vs) yv y :: R) (O' := mapC vs vbl bA mA :: mapC vs vbl bB mB :: O) (fun w h => Sat.shareA (Take.head _) h) ?_
      refine WC.know (p := SlE (one vs) xv x) (by repeat (first | assumption | exact List.mem_cons_self | refine List.mem_cons_of_mem _ ?_)) (fun w h => h.oneV) fun hxv => ?_
      refine WC.know (p := SlE (one vs) yv y) (by repeat (first | assumption | exact List.mem_cons_self | refine List.mem_cons_of_mem _ ?_)) (fun w h => h.oneV) fun hyv => ?_
      refine WC.exit ?_
      refine thenQ.exit ?_
      refine loopQ7.exit ?_
      refine blockQ.exit ?_
      refine thenQ.normal ?_
      refine WC.seq ?_
      refine WC.region ?_
      refine WL.rd rfl rfl rfl (Rd.move rfl rfl) ?_
      refine WL.rd rfl rfl rfl (Rd.move rfl rfl) ?_
      refine WL.rd rfl rfl rfl (Rd.move rfl rfl) ?_
      refine WL.op rfl ?_
      refine OpW.buildSl (ps := [(0, _), (1, _), (2, _)]) (cells := [u, xv, yv]) rfl S41 (by repeat (first | exact Evs.nil | apply Evs.cons rfl)) rfl rfl (CellsOf.cons i7.cells (CellsOf.cons hxv.cells (CellsOf.cons hyv.cells CellsOf.nil))) rfl rfl rfl rfl ?_; intro b103
      refine WL.heap (R' := SlE (one vid) (.slice (some ⟨b103, 0, none⟩) 3 3) [u, xv, yv] :: SlE (one vs) u out :: SlE (one vs) xv x :: SlE (one vs) yv y :: R) (O' := O) (fun w h => by
      have h1 := Sat.shareRow (enc := one vid) (xs := [u, xv, yv]) (m := 3) (by repeat (first | assumption | exact Take.head _ | apply Take.tail)) rfl rfl (by decide) h
      exact (fun w h => OwnL.sat (by repeat (first | exact OwnL.refl | apply OwnL.take (by repeat (first | exact Take.head _ | apply Take.tail)) | apply OwnL.drop)) w (h.thin (SubL.mem (by repeat (first | exact SubL.refl | refine SubL.cons (by repeat (first | assumption | exact List.mem_cons_self | refine List.mem_cons_of_mem _ ?_)) ?_ | refine SubL.skip ?_))))) w h1) ?_
      refine WL.op rfl ?_
      refine OpW.call rfl rfl (by repeat (first | exact Evs.nil | apply Evs.cons rfl)) (by kernel_rfl) rfl rfl rfl ?_
      refine concat_spec (ll := [out, x, y]) List.mem_cons_self (lists3 (by repeat (first | assumption | exact List.mem_cons_self | refine List.mem_cons_of_mem _ ?_)) (by repeat (first | assumption | exact List.mem_cons_self | refine List.mem_cons_of_mem _ ?_)) (by repeat (first | assumption | exact List.mem_cons_self | refine List.mem_cons_of_mem _ ?_))) (by simp only [List.flatten_cons, List.flatten_nil, List.length_append, List.length_nil]; dsimp only at i6; omega) ?_; intro v104 hv104
      refine WL.rd rfl rfl rfl (Rd.assign rfl rfl) ?_
      refine WL.rd rfl rfl rfl (Rd.assign rfl rfl) ?_
      refine WL.nil ?_
      refine thenQ.normal ?_
      -- ret_2
      refine WC.heap (R' := SlE (one vs) v104 (out ++ x ++ y) :: R) (O' := O) (fun w h => by
        have h1 := Sat.shareA (Take.head _) h
        have e : [out, x, y].flatten = out ++ x ++ y := by simp
        rw [e] at h1
        exact (fun w h => OwnL.sat (by repeat (first | exact OwnL.refl | apply OwnL.take (by repeat (first | exact Take.head _ | apply Take.tail)) | apply OwnL.drop)) w (h.thin (SubL.mem (by repeat (first | exact SubL.refl | refine SubL.cons (by repeat (first | assumption | exact List.mem_cons_self | refine List.mem_cons_of_mem _ ?_)) ?_ | refine SubL.skip ?_))))) w h1) ?_
      refine WC.ret (Ret.two Try.results21 rfl rfl ?_)
      exact hk1 _ v104 i5.symm
end Go.Proofs.Ytpicbbkmcbhnpaa
