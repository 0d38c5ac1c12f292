/-
  Layer 21: sets of items; one side's list; lists that are too long.
-/
import Derived.Test.YtpicbbkmcbhnpaaTh1
namespace Go.Proofs.Ytpicbbkmcbhnpaa
open Go Go.SL

/-- The map that is a list's set. -/
def SetOf (m : GoMap (List UInt8) Bool) (l : List (List UInt8)) : Prop := ∀ s, m.get s = if s ∈ l then some true else none
theorem SetOf.look {m : GoMap (List UInt8) Bool} {l : List (List UInt8)} (h : SetOf m l) (s : List UInt8) : ((m.get s).map vbl).getD (.bool false) = .bool (decide (s ∈ l)) := by
  rw [h s]
  by_cases e : s ∈ l
  · rw [if_pos e, decide_eq_true e]; rfl
  · rw [if_neg e, decide_eq_false e]; rfl
theorem SetOf.step {m : GoMap (List UInt8) Bool} {l : List (List UInt8)} {i : Nat} (hi : i < l.length) (h : SetOf m (l.take i)) : SetOf (m.set l[i]! true) (l.take (i + 1)) := by
  intro s
  rw [GoMap.get_set, List.take_add_one, get!_of_lt hi]
  by_cases e : s = l[i]!
  · rw [if_pos e, if_pos (by simp [e])]
  · rw [if_neg e, h s]
    have : (s ∈ l.take i ++ (some l[i]!).toList) ↔ s ∈ l.take i := by simp only [Option.toList_some, List.mem_append, List.mem_singleton, e, or_false]
    simp only [this]
set_option maxHeartbeats 1000000 in
theorem set_spec {R : List RO} {O : List Own} {POST : Value → List RO → List Own → Prop} {xs : List (List UInt8)} {av : Value} (ha : SlE (one vs) av xs ∈ R)
    (hk1 : xs.Nodup → ∀ b m, SetOf m xs → POST (.tuple #[.map (some b), .bool true]) R (mapC vs vbl b m :: O)) (hk2 : ¬ xs.Nodup → POST (.tuple #[.map none, .bool false]) R O) : Fun Try.prog 18 #[av] R O POST := by
  refine Fun.len ha fun hla => ?_
  refine Fun.enter (l := [_]) Try.func18 rfl Try.ntmps18 rfl (L0 := [(0, _)]) rfl ?_
  refine WC.seq ?_
  refine WC.region ?_
  refine WL.rd rfl rfl rfl (Rd.assign rfl rfl) ?_
  refine WL.rd rfl rfl rfl (Rd.assign rfl rfl) ?_
  refine WL.nil ?_
  refine thenQ.normal ?_
  refine WC.seq ?_
  refine WC.region ?_
  refine WL.op rfl ?_
  refine OpW.makeMap vs vbl rfl rfl rfl ?_; intro b7
  refine WL.rd rfl rfl rfl (Rd.assign rfl rfl) ?_
  refine WL.nil ?_
  refine thenQ.normal ?_
  refine WC.seq ?_
  refine WC.seq ?_
  refine WC.region ?_
  refine WL.rd rfl rfl rfl (Rd.move rfl rfl) ?_
  refine WL.rd rfl rfl rfl ((by first | exact Rd.lenE rfl rfl Try.underlying22 (by repeat (first | assumption | exact List.mem_cons_self | refine List.mem_cons_of_mem _ ?_)) | exact Rd.lenA rfl rfl Try.underlying22 (by repeat (first | assumption | exact List.mem_cons_self | refine List.mem_cons_of_mem _ ?_)) | exact Rd.len rfl rfl Try.underlying22)) ?_
  refine WL.rd rfl rfl rfl (Rd.move rfl rfl) ?_
  refine WL.nil ?_
  refine thenQ.normal ?_
  refine WC.block ?_
  refine WC.pick [10, 4, 8, 9] (by repeat (first | exact Pick.nil | apply Pick.cons rfl)) ?_
  refine WC.loop2 1 (fun (i : Nat) (m : GoMap (List UInt8) Bool) => [(10, .int .i64 (i : Int))]) (fun (i : Nat) (m : GoMap (List UInt8) Bool) => mapC vs vbl b7 m :: O) (fun (i : Nat) (m : GoMap (List UInt8) Bool) => i ≤ xs.length ∧ (xs.take i).Nodup ∧ SetOf m (xs.take i)) (fun (i : Nat) (m : GoMap (List UInt8) Bool) => xs.length - i) (0) (GoMap.empty) (by repeat (first | exact Split.zero | apply Split.succ)) ?hinv1 (by repeat (first | exact Sub.nil | refine Sub.cons rfl (by first | rfl | (congr 1; omega) | assumption) ?_)) (fun _ h => h) ?_
  case hinv1 =>
    exact ⟨Nat.zero_le _, by simp, fun s => by simp⟩
  intro i m
  rintro ⟨i1, i2, i3⟩
  refine WC.seq ?_
  refine WC.region ?_
  refine WL.rd rfl rfl rfl (Rd.lss rfl rfl rfl) ?_
  refine WL.nil ?_
  refine thenQ.normal ?_
  refine WC.seq ?_
  first | refine WC.ite rfl (fun hc1 => ?_) (fun hc1 => ?_) | refine WC.cond rfl (fun hc1 => ?_) (fun hc1 => ?_)
  · skip
    refine WC.skip ?_
    refine thenQ.normal ?_
    refine WC.seq ?_
    refine WC.block ?_
    refine WC.seq ?_
    refine WC.region ?_
    refine WL.rd rfl rfl rfl ((by first | exact Rd.idx1 (k := i) rfl S22 rfl rfl (by omega) (by repeat (first | assumption | exact List.mem_cons_self | refine List.mem_cons_of_mem _ ?_)) (by first | omega | (simp only [List.length_cons, List.length_nil, List.length_append, List.length_map]; omega)) | exact Rd.idxA1 (k := i) rfl S22 rfl rfl (by omega) (by repeat (first | assumption | exact List.mem_cons_self | refine List.mem_cons_of_mem _ ?_)) (by first | omega | (simp only [List.length_cons, List.length_nil, List.length_append, List.length_map]; omega)) | exact Rd.idxR1 (k := i) rfl S22 rfl rfl (by omega) (by omega))) ?_
    refine WL.rd rfl rfl rfl ((by first | exact Rd.get rfl C9 rfl (by repeat (first | assumption | exact List.mem_cons_self | refine List.mem_cons_of_mem _ ?_)) (by first | assumption | rfl | exact get!_of_lt (by omega)) | exact Rd.getA rfl C9 rfl (by repeat (first | assumption | exact List.mem_cons_self | refine List.mem_cons_of_mem _ ?_)) (by first | assumption | rfl | exact get!_of_lt (by omega)) | exact Rd.row1 rfl C9 rfl (by repeat (first | assumption | exact List.mem_cons_self | refine List.mem_cons_of_mem _ ?_)) (by rfl) | exact Rd.getF rfl C9 rfl (by repeat (first | assumption | exact List.mem_cons_self | refine List.mem_cons_of_mem _ ?_)) (by intro x; first | rfl | (cases x; rfl) | (rcases x with ⟨_, _, _⟩; rfl) | (rcases x with ⟨_, _, _, _⟩; rfl)) rfl (by first | assumption | rfl | exact get!_of_lt (by omega)) (by rfl) | exact Rd.getFA rfl C9 rfl (by repeat (first | assumption | exact List.mem_cons_self | refine List.mem_cons_of_mem _ ?_)) (by intro x; first | rfl | (cases x; rfl) | (rcases x with ⟨_, _, _⟩; rfl) | (rcases x with ⟨_, _, _, _⟩; rfl)) rfl (by first | assumption | rfl | exact get!_of_lt (by omega)) (by rfl))) ?_
    refine WL.rd rfl rfl rfl (Rd.assign rfl rfl) ?_
    refine WL.nil ?_
    refine thenQ.normal ?_
    refine WC.seq ?_
    refine WC.seq ?_
    refine WC.region ?_
    refine WL.rd rfl rfl rfl (Rd.move rfl rfl) ?_
    refine WL.rd rfl rfl rfl (Rd.move rfl rfl) ?_
    refine WL.rd rfl rfl rfl ((by first | exact Rd.lookup M45 K9 rfl rfl rfl (by repeat (first | assumption | exact List.mem_cons_self | refine List.mem_cons_of_mem _ ?_)) (by rfl) | exact Rd.lookupR M45 K9 rfl rfl rfl (by repeat (first | assumption | exact List.mem_cons_self | refine List.mem_cons_of_mem _ ?_)) (by rfl))) ?_
    refine WL.say 16 (u := .bool (decide (xs[i]! ∈ xs.take i))) rfl (i3.look _) ?_
    refine WL.nil ?_
    refine thenQ.normal ?_
    first | refine WC.ite rfl (fun hc2 => ?_) (fun hc2 => ?_) | refine WC.cond rfl (fun hc2 => ?_) (fun hc2 => ?_)
    · skip
      refine WC.seq ?_
      refine WC.region ?_
      refine WL.rd rfl rfl rfl (Rd.assign rfl rfl) ?_
      refine WL.rd rfl rfl rfl (Rd.assign rfl rfl) ?_
      refine WL.nil ?_
      refine thenQ.normal ?_
      -- ret_1
      refine WC.heap (R' := R) (O' := O) (fun w h => OwnL.sat (by repeat (first | exact OwnL.refl | apply OwnL.take (by repeat (first | exact Take.head _ | apply Take.tail)) | apply OwnL.drop)) w (h.thin (SubL.mem (by repeat (first | exact SubL.refl | refine SubL.cons (by repeat (first | assumption | exact List.mem_cons_self | refine List.mem_cons_of_mem _ ?_)) ?_ | refine SubL.skip ?_))))) ?_
      refine WC.ret (Ret.two Try.results18 rfl rfl ?_)
      exact hk2 fun h => ((take_nodup (l := xs) (i := i) (by omega)).1 (h.sublist (List.take_sublist _ _))).2 hc2
    · skip
      refine WC.skip ?_
      refine thenQ.normal ?_
      refine WC.region ?_
      refine WL.rd rfl rfl rfl (Rd.move rfl rfl) ?_
      refine WL.rd rfl rfl rfl (Rd.move rfl rfl) ?_
      refine WL.op rfl ?_
      refine OpW.mapUpdate M45 K9 rfl rfl rfl rfl (by repeat (first | assumption | exact Take.head _ | apply Take.tail)) (by rfl) (by rfl) rfl ?_
      refine WL.nil ?_
      refine blockQ.normal ?_
      refine thenQ.normal ?_
      refine WC.region ?_
      refine WL.rd rfl rfl rfl (Rd.add rfl rfl rfl (by omega)) ?_
      refine WL.rd rfl rfl rfl (Rd.move rfl rfl) ?_
      refine WL.nil ?_
      -- next1_1
      exact loopQ2.mk (i + 1) (m.set xs[i]! true) ⟨by omega, (take_nodup (by omega)).2 ⟨i2, hc2⟩, i3.step (by omega)⟩ (by omega) (by repeat (first | exact Sub.nil | refine Sub.cons rfl (by first | rfl | (congr 1; omega) | assumption) ?_)) (fun w h => OwnL.sat (by repeat (first | exact OwnL.refl | apply OwnL.take (by repeat (first | exact Take.head _ | apply Take.tail)) | apply OwnL.drop)) w (h.thin (SubL.mem (by repeat (first | exact SubL.refl | refine SubL.cons (by repeat (first | assumption | exact List.mem_cons_self | refine List.mem_cons_of_mem _ ?_)) ?_ | refine SubL.skip ?_)))))
  · skip
    refine WC.exit ?_
    refine thenQ.exit ?_
    refine loopQ2.exit ?_
    refine blockQ.exit ?_
    refine thenQ.normal ?_
    refine WC.seq ?_
    refine WC.region ?_
    refine WL.rd rfl rfl rfl (Rd.move rfl rfl) ?_
    refine WL.rd rfl rfl rfl (Rd.assign rfl rfl) ?_
    refine WL.rd rfl rfl rfl (Rd.assign rfl rfl) ?_
    refine WL.nil ?_
    refine thenQ.normal ?_
    -- ret_2
    refine WC.ret (Ret.two Try.results18 rfl rfl ?_)
    rw [List.take_of_length_le (by omega)] at i2 i3
    exact hk1 i2 b7 m i3
/-- One side's list, where that is what comes. -/
def oneE (base ours theirs : List (List UInt8)) : Option (List (List UInt8)) :=
  if ours = theirs ∨ theirs = base then some ours else if ours = base then some theirs else none
theorem one_spec {R : List RO} {O : List Own} {POST : Value → List RO → List Own → Prop} {base ours theirs : List (List UInt8)} {bv ov tv : Value} (hb : SlE (one vs) bv base ∈ R) (ho : SlE (one vs) ov ours ∈ R) (ht : SlE (one vs) tv theirs ∈ R)
    (hlo : ours.length ≤ 4294967296) (hlt : theirs.length ≤ 4294967296)
    (hk1 : ∀ r v, oneE base ours theirs = some r → OneV v → POST (.tuple #[v, .bool true]) R (accC 9 1 (one vs) v r :: O)) (hk2 : oneE base ours theirs = none → POST (.tuple #[.slice none 0 0, .bool false]) R O) : Fun Try.prog 19 #[bv, ov, tv] R O POST := by
  refine Fun.enter (l := [_, _, _]) Try.func19 rfl Try.ntmps19 rfl (L0 := [(0, _), (1, _), (2, _)]) rfl ?_
  refine WC.seq ?_
  refine WC.region ?_
  refine WL.rd rfl rfl rfl (Rd.assign rfl rfl) ?_
  refine WL.rd rfl rfl rfl (Rd.assign rfl rfl) ?_
  refine WL.nil ?_
  refine thenQ.normal ?_
  refine WC.seq ?_
  refine WC.block ?_
  refine WC.seq ?_
  refine WC.seq ?_
  refine WC.region ?_
  refine WL.rd rfl rfl rfl (Rd.move rfl rfl) ?_
  refine WL.rd rfl rfl rfl (Rd.move rfl rfl) ?_
  refine WL.op rfl ?_
  refine OpW.call rfl rfl (by repeat (first | exact Evs.nil | apply Evs.cons rfl)) (by kernel_rfl) rfl rfl rfl ?_
  refine equal_spec ho ht ?_
  refine WL.rd rfl rfl rfl (Rd.assign rfl rfl) ?_
  refine WL.nil ?_
  refine thenQ.normal ?_
  first | refine WC.ite rfl (fun hc1 => ?_) (fun hc1 => ?_) | refine WC.cond rfl (fun hc1 => ?_) (fun hc1 => ?_)
  · skip
    refine WC.skip ?_
    refine thenQ.normal ?_
    first | refine WC.ite rfl (fun hc2 => ?_) (fun hc2 => ?_) | refine WC.cond rfl (fun hc2 => ?_) (fun hc2 => ?_)
    · skip
      refine WC.seq ?_
      refine WC.region ?_
      refine WL.rd rfl rfl rfl (Rd.move rfl rfl) ?_
      refine WL.op rfl ?_
      refine OpW.call rfl rfl (by repeat (first | exact Evs.nil | apply Evs.cons rfl)) (by kernel_rfl) rfl rfl rfl ?_
      refine clone_spec ho hlo ?_; intro v16 hv16
      refine WL.rd rfl rfl rfl (Rd.assign rfl rfl) ?_
      refine WL.rd rfl rfl rfl (Rd.assign rfl rfl) ?_
      refine WL.nil ?_
      refine thenQ.normal ?_
      -- ret_1
      refine WC.ret (Ret.two Try.results19 rfl rfl ?_)
      exact hk1 ours v16 (by unfold oneE; rw [if_pos (by first | exact .inl (by assumption) | exact .inr (by assumption))]) hv16
    · skip
      refine WC.seq ?_
      refine WC.region ?_
      refine WL.rd rfl rfl rfl (Rd.move rfl rfl) ?_
      refine WL.rd rfl rfl rfl (Rd.move rfl rfl) ?_
      refine WL.op rfl ?_
      refine OpW.call rfl rfl (by repeat (first | exact Evs.nil | apply Evs.cons rfl)) (by kernel_rfl) rfl rfl rfl ?_
      refine equal_spec ho hb ?_
      refine WL.rd rfl rfl rfl (Rd.assign rfl rfl) ?_
      refine WL.nil ?_
      refine thenQ.normal ?_
      first | refine WC.ite rfl (fun hc3 => ?_) (fun hc3 => ?_) | refine WC.cond rfl (fun hc3 => ?_) (fun hc3 => ?_)
      · skip
        refine WC.seq ?_
        refine WC.region ?_
        refine WL.rd rfl rfl rfl (Rd.move rfl rfl) ?_
        refine WL.op rfl ?_
        refine OpW.call rfl rfl (by repeat (first | exact Evs.nil | apply Evs.cons rfl)) (by kernel_rfl) rfl rfl rfl ?_
        refine clone_spec ht hlt ?_; intro v22 hv22
        refine WL.rd rfl rfl rfl (Rd.assign rfl rfl) ?_
        refine WL.rd rfl rfl rfl (Rd.assign rfl rfl) ?_
        refine WL.nil ?_
        refine thenQ.normal ?_
        -- ret_2
        refine WC.ret (Ret.two Try.results19 rfl rfl ?_)
        exact hk1 theirs v22 (by unfold oneE; rw [if_neg (by rintro (h | h) <;> contradiction), if_pos (by assumption)]) hv22
      · skip
        refine WC.skip ?_
        refine blockQ.normal ?_
        refine thenQ.normal ?_
        refine WC.seq ?_
        refine WC.region ?_
        refine WL.rd rfl rfl rfl (Rd.assign rfl rfl) ?_
        refine WL.rd rfl rfl rfl (Rd.assign rfl rfl) ?_
        refine WL.nil ?_
        refine thenQ.normal ?_
        -- ret_3
        refine WC.ret (Ret.two Try.results19 rfl rfl ?_)
        exact hk2 (by unfold oneE; rw [if_neg (by rintro (h | h) <;> contradiction), if_neg (by assumption)])
  · skip
    refine WC.region ?_
    refine WL.rd rfl rfl rfl (Rd.move rfl rfl) ?_
    refine WL.rd rfl rfl rfl (Rd.move rfl rfl) ?_
    refine WL.op rfl ?_
    refine OpW.call rfl rfl (by repeat (first | exact Evs.nil | apply Evs.cons rfl)) (by kernel_rfl) rfl rfl rfl ?_
    refine equal_spec ht hb ?_
    refine WL.rd rfl rfl rfl (Rd.assign rfl rfl) ?_
    refine WL.nil ?_
    refine thenQ.normal ?_
    first | refine WC.ite rfl (fun hc2 => ?_) (fun hc2 => ?_) | refine WC.cond rfl (fun hc2 => ?_) (fun hc2 => ?_)
    · skip
      refine WC.seq ?_
      refine WC.region ?_
      refine WL.rd rfl rfl rfl (Rd.move rfl rfl) ?_
      refine WL.op rfl ?_
      refine OpW.call rfl rfl (by repeat (first | exact Evs.nil | apply Evs.cons rfl)) (by kernel_rfl) rfl rfl rfl ?_
      refine clone_spec ho hlo ?_; intro v16 hv16
      refine WL.rd rfl rfl rfl (Rd.assign rfl rfl) ?_
      refine WL.rd rfl rfl rfl (Rd.assign rfl rfl) ?_
      refine WL.nil ?_
      refine thenQ.normal ?_
      -- ret_4
      refine WC.ret (Ret.two Try.results19 rfl rfl ?_)
      exact hk1 ours v16 (by unfold oneE; rw [if_pos (by first | exact .inl (by assumption) | exact .inr (by assumption))]) hv16
    · skip
      refine WC.seq ?_
      refine WC.region ?_
      refine WL.rd rfl rfl rfl (Rd.move rfl rfl) ?_
      refine WL.rd rfl rfl rfl (Rd.move rfl rfl) ?_
      refine WL.op rfl ?_
      refine OpW.call rfl rfl (by repeat (first | exact Evs.nil | apply Evs.cons rfl)) (by kernel_rfl) rfl rfl rfl ?_
      refine equal_spec ho hb ?_
      refine WL.rd rfl rfl rfl (Rd.assign rfl rfl) ?_
      refine WL.nil ?_
      refine thenQ.normal ?_
      first | refine WC.ite rfl (fun hc3 => ?_) (fun hc3 => ?_) | refine WC.cond rfl (fun hc3 => ?_) (fun hc3 => ?_)
      · skip
        refine WC.seq ?_
        refine WC.region ?_
        refine WL.rd rfl rfl rfl (Rd.move rfl rfl) ?_
        refine WL.op rfl ?_
        refine OpW.call rfl rfl (by repeat (first | exact Evs.nil | apply Evs.cons rfl)) (by kernel_rfl) rfl rfl rfl ?_
        refine clone_spec ht hlt ?_; intro v22 hv22
        refine WL.rd rfl rfl rfl (Rd.assign rfl rfl) ?_
        refine WL.rd rfl rfl rfl (Rd.assign rfl rfl) ?_
        refine WL.nil ?_
        refine thenQ.normal ?_
        -- ret_5
        refine WC.ret (Ret.two Try.results19 rfl rfl ?_)
        exact hk1 theirs v22 (by unfold oneE; rw [if_neg (by rintro (h | h) <;> contradiction), if_pos (by assumption)]) hv22
      · skip
        refine WC.skip ?_
        refine blockQ.normal ?_
        refine thenQ.normal ?_
        refine WC.seq ?_
        refine WC.region ?_
        refine WL.rd rfl rfl rfl (Rd.assign rfl rfl) ?_
        refine WL.rd rfl rfl rfl (Rd.assign rfl rfl) ?_
        refine WL.nil ?_
        refine thenQ.normal ?_
        -- ret_6
        refine WC.ret (Ret.two Try.results19 rfl rfl ?_)
        exact hk2 (by unfold oneE; rw [if_neg (by rintro (h | h) <;> contradiction), if_neg (by assumption)])
theorem long1_spec {R : List RO} {O : List Own} {POST : Value → List RO → List Own → Prop} {xs : List (List UInt8)} {av : Value} (ha : SlE (one vs) av xs ∈ R) (hk : POST (.bool (decide (4096 < xs.length))) R O) : Fun Try.prog 29 #[av] R O POST := by
  refine Fun.enter (l := [_]) Try.func29 rfl Try.ntmps29 rfl (L0 := [(0, _)]) rfl ?_
  refine WC.seq ?_
  refine WC.region ?_
  refine WL.rd rfl rfl rfl (Rd.assign rfl rfl) ?_
  refine WL.nil ?_
  refine thenQ.normal ?_
  refine WC.seq ?_
  refine WC.region ?_
  refine WL.rd rfl rfl rfl (Rd.move rfl rfl) ?_
  refine WL.rd rfl rfl rfl ((by first | exact Rd.lenE rfl rfl Try.underlying22 (by repeat (first | assumption | exact List.mem_cons_self | refine List.mem_cons_of_mem _ ?_)) | exact Rd.lenA rfl rfl Try.underlying22 (by repeat (first | assumption | exact List.mem_cons_self | refine List.mem_cons_of_mem _ ?_)) | exact Rd.len rfl rfl Try.underlying22)) ?_
  refine WL.rd rfl rfl rfl (Rd.gtr rfl rfl rfl) ?_
  refine WL.rd rfl rfl rfl (Rd.assign rfl rfl) ?_
  refine WL.nil ?_
  refine thenQ.normal ?_
  -- ret_1
  refine WC.ret (Ret.one Try.results29 rfl ?_)
  rw [show (decide ((4096 : Int) < (xs.length : Int))) = decide (4096 < xs.length) from decide_eq_decide.2 (by omega)]
  exact hk
/-- Slices of lists, of which it is said what they are. -/
def ListsOf (vsl : List Value) (ll : List (List (List UInt8))) (R : List RO) : Prop := vsl.length = ll.length ∧ ∀ j, j < ll.length → SlE (one vs) vsl[j]! ll[j]! ∈ R
theorem idx_spec {R : List RO} {O : List Own} {POST : Value → List RO → List Own → Prop} {vsl : List Value} {ll : List (List (List UInt8))} {lv : Value} (hl : SlE (one vid) lv vsl ∈ R) (hL : ListsOf vsl ll R)
    (hk : ∀ k : Int, (0 ≤ k ↔ ∃ j, j < ll.length ∧ 4096 < ll[j]!.length) → POST (.int .i64 k) R O) : Fun Try.prog 38 #[lv, .func (.func 29) #[] #[]] R O POST := by
  refine Fun.len hl fun hll => ?_
  obtain ⟨hL1, hL2⟩ := hL
  refine Fun.enter (l := [_, _]) Try.func38 rfl Try.ntmps38 rfl (L0 := [(0, _), (1, _)]) rfl ?_
  refine WC.seq ?_
  refine WC.region ?_
  refine WL.rd rfl rfl rfl (Rd.assign rfl rfl) ?_
  refine WL.nil ?_
  refine thenQ.normal ?_
  refine WC.seq ?_
  refine WC.seq ?_
  refine WC.region ?_
  refine WL.rd rfl rfl rfl (Rd.move rfl rfl) ?_
  refine WL.rd rfl rfl rfl ((by first | exact Rd.lenE rfl rfl Try.underlying41 (by repeat (first | assumption | exact List.mem_cons_self | refine List.mem_cons_of_mem _ ?_)) | exact Rd.lenA rfl rfl Try.underlying41 (by repeat (first | assumption | exact List.mem_cons_self | refine List.mem_cons_of_mem _ ?_)) | exact Rd.len rfl rfl Try.underlying41)) ?_
  refine WL.rd rfl rfl rfl (Rd.move rfl rfl) ?_
  refine WL.nil ?_
  refine thenQ.normal ?_
  refine WC.block ?_
  refine WC.pick [8, 0, 1, 7] (by repeat (first | exact Pick.nil | apply Pick.cons rfl)) ?_
  refine WC.loop1o 1 (fun (i : Nat) => [(8, .int .i64 (i : Int))]) (fun (i : Nat) => i ≤ vsl.length ∧ ∀ j, j < i → ¬ 4096 < ll[j]!.length) (fun (i : Nat) => vsl.length - i) (0) (by repeat (first | exact Split.zero | apply Split.succ)) ?hinv1 (by repeat (first | exact Sub.nil | refine Sub.cons rfl (by first | rfl | (congr 1; omega) | assumption) ?_)) (fun _ h => h) ?_
  case hinv1 =>
    exact ⟨Nat.zero_le _, fun j hj => absurd hj (Nat.not_lt_zero _)⟩
  intro i
  rintro ⟨i1, i2⟩
  refine WC.seq ?_
  refine WC.region ?_
  refine WL.rd rfl rfl rfl (Rd.lss rfl rfl rfl) ?_
  refine WL.nil ?_
  refine thenQ.normal ?_
  refine WC.seq ?_
  first | refine WC.ite rfl (fun hc1 => ?_) (fun hc1 => ?_) | refine WC.cond rfl (fun hc1 => ?_) (fun hc1 => ?_)
  · skip
    refine WC.skip ?_
    refine thenQ.normal ?_
    refine WC.seq ?_
    refine WC.block ?_
    refine WC.seq ?_
    refine WC.region ?_
    refine WL.rd rfl rfl rfl (Rd.move rfl rfl) ?_
    refine WL.rd rfl rfl rfl (Rd.assign rfl rfl) ?_
    refine WL.nil ?_
    refine thenQ.normal ?_
    refine WC.seq ?_
    refine WC.region ?_
    refine WL.rd rfl rfl rfl (Rd.move rfl rfl) ?_
    refine WL.rd rfl rfl rfl (Rd.move rfl rfl) ?_
    refine WL.rd rfl rfl rfl (Rd.move rfl rfl) ?_
    refine WL.rd rfl rfl rfl ((by first | exact Rd.idx1 (k := i) rfl S41 rfl rfl (by omega) (by repeat (first | assumption | exact List.mem_cons_self | refine List.mem_cons_of_mem _ ?_)) (by first | omega | (simp only [List.length_cons, List.length_nil, List.length_append, List.length_map]; omega)) | exact Rd.idxA1 (k := i) rfl S41 rfl rfl (by omega) (by repeat (first | assumption | exact List.mem_cons_self | refine List.mem_cons_of_mem _ ?_)) (by first | omega | (simp only [List.length_cons, List.length_nil, List.length_append, List.length_map]; omega)) | exact Rd.idxR1 (k := i) rfl S41 rfl rfl (by omega) (by omega))) ?_
    refine WL.rd rfl rfl rfl (Rd.get (xs := vsl) (k := i) rfl C22 rfl hl (get!_of_lt (by omega))) ?_
    refine WL.op rfl ?_
    refine OpW.call rfl rfl (by repeat (first | exact Evs.nil | apply Evs.cons rfl)) (by kernel_rfl) rfl rfl rfl ?_
    refine long1_spec (hL2 i (by omega)) ?_
    refine WL.nil ?_
    refine thenQ.normal ?_
    first | refine WC.ite rfl (fun hc2 => ?_) (fun hc2 => ?_) | refine WC.cond rfl (fun hc2 => ?_) (fun hc2 => ?_)
    · skip
      refine WC.seq ?_
      refine WC.region ?_
      refine WL.rd rfl rfl rfl (Rd.move rfl rfl) ?_
      refine WL.rd rfl rfl rfl (Rd.assign rfl rfl) ?_
      refine WL.nil ?_
      refine thenQ.normal ?_
      -- ret_1
      refine WC.ret (Ret.one Try.results38 rfl ?_)
      exact hk _ ⟨fun _ => ⟨i, by omega, hc2⟩, fun _ => by omega⟩
    · skip
      refine WC.skip ?_
      refine blockQ.normal ?_
      refine thenQ.normal ?_
      refine WC.region ?_
      refine WL.rd rfl rfl rfl (Rd.add rfl rfl rfl (by omega)) ?_
      refine WL.rd rfl rfl rfl (Rd.move rfl rfl) ?_
      refine WL.nil ?_
      -- next1_1
      exact loopQ1.mk (i + 1) ⟨by omega, fun j hj => by
      rcases Nat.lt_or_ge j i with h | h
      · exact i2 j h
      · obtain rfl : j = i := by omega
        exact hc2⟩ (by omega) (by repeat (first | exact Sub.nil | refine Sub.cons rfl (by first | rfl | (congr 1; omega) | assumption) ?_)) (fun w h => OwnL.sat (by repeat (first | exact OwnL.refl | apply OwnL.take (by repeat (first | exact Take.head _ | apply Take.tail)) | apply OwnL.drop)) w (h.thin (SubL.mem (by repeat (first | exact SubL.refl | refine SubL.cons (by repeat (first | assumption | exact List.mem_cons_self | refine List.mem_cons_of_mem _ ?_)) ?_ | refine SubL.skip ?_)))))
  · skip
    refine WC.exit ?_
    refine thenQ.exit ?_
    refine loopQ1.exit ?_
    refine blockQ.exit ?_
    refine thenQ.normal ?_
    refine WC.seq ?_
    refine WC.region ?_
    refine WL.rd rfl rfl rfl (Rd.assign rfl rfl) ?_
    refine WL.nil ?_
    refine thenQ.normal ?_
    -- ret_2
    refine WC.ret (Ret.one Try.results38 rfl ?_)
    exact hk _ ⟨fun h => absurd h (by decide), fun ⟨j, h1, h2⟩ => absurd h2 (i2 j (by omega))⟩
theorem has0_spec {R : List RO} {O : List Own} {POST : Value → List RO → List Own → Prop} {vsl : List Value} {ll : List (List (List UInt8))} {lv : Value} (hl : SlE (one vid) lv vsl ∈ R) (hL : ListsOf vsl ll R)
    (hk : ∀ b : Bool, (b = true ↔ ∃ j, j < ll.length ∧ 4096 < ll[j]!.length) → POST (.bool b) R O) : Fun Try.prog 28 #[lv, .func (.func 29) #[] #[]] R O POST := by
  refine Fun.enter (l := [_, _]) Try.func28 rfl Try.ntmps28 rfl (L0 := [(0, _), (1, _)]) rfl ?_
  refine WC.seq ?_
  refine WC.region ?_
  refine WL.rd rfl rfl rfl (Rd.assign rfl rfl) ?_
  refine WL.nil ?_
  refine thenQ.normal ?_
  refine WC.seq ?_
  refine WC.region ?_
  refine WL.rd rfl rfl rfl (Rd.move rfl rfl) ?_
  refine WL.rd rfl rfl rfl (Rd.move rfl rfl) ?_
  refine WL.op rfl ?_
  refine OpW.call rfl rfl (by repeat (first | exact Evs.nil | apply Evs.cons rfl)) (by kernel_rfl) rfl rfl rfl ?_
  refine idx_spec hl hL ?_; intro k hk7
  refine WL.rd rfl rfl rfl (Rd.geq rfl rfl rfl) ?_
  refine WL.rd rfl rfl rfl (Rd.assign rfl rfl) ?_
  refine WL.nil ?_
  refine thenQ.normal ?_
  -- ret_1
  refine WC.ret (Ret.one Try.results28 rfl ?_)
  exact hk _ (by rw [decide_eq_true_iff]; exact hk7)
theorem has_spec {R : List RO} {O : List Own} {POST : Value → List RO → List Own → Prop} {vsl : List Value} {ll : List (List (List UInt8))} {lv : Value} (hl : SlE (one vid) lv vsl ∈ R) (hL : ListsOf vsl ll R)
    (hk : ∀ b : Bool, (b = true ↔ ∃ j, j < ll.length ∧ 4096 < ll[j]!.length) → POST (.bool b) R O) : Fun Try.prog 17 #[lv] R O POST := by
  refine Fun.enter (l := [_]) Try.func17 rfl Try.ntmps17 rfl (L0 := [(0, _)]) rfl ?_
  refine WC.seq ?_
  refine WC.region ?_
  refine WL.rd rfl rfl rfl (Rd.assign rfl rfl) ?_
  refine WL.nil ?_
  refine thenQ.normal ?_
  refine WC.seq ?_
  refine WC.region ?_
  refine WL.rd rfl rfl rfl (Rd.move rfl rfl) ?_
  refine WL.op rfl ?_
  refine OpW.call rfl rfl (by repeat (first | exact Evs.nil | apply Evs.cons rfl)) (by kernel_rfl) rfl rfl rfl ?_
  refine has0_spec hl hL ?_; intro b hb
  refine WL.rd rfl rfl rfl (Rd.assign rfl rfl) ?_
  refine WL.nil ?_
  refine thenQ.normal ?_
  -- ret_1
  refine WC.ret (Ret.one Try.results17 rfl ?_)
  exact hk b hb
end Go.Proofs.Ytpicbbkmcbhnpaa
