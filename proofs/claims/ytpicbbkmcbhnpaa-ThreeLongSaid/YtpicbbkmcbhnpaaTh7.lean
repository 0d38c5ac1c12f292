/-
  Layer 21: Lists.
-/
import Derived.Test.YtpicbbkmcbhnpaaTh6
namespace Go.Proofs.Ytpicbbkmcbhnpaa
open Go Go.SL

/-- A map, or none. -/
def optC (mo : Option Nat) (m : GoMap (List UInt8) Bool) : Own := match mo with
  | some b => mapC vs vbl b m
  | none => { blks := [], pred := fun _ => True }
theorem set2_spec {R : List RO} {O : List Own} {POST : Value → List RO → List Own → Prop} {xs : List (List UInt8)} {av : Value} (ha : SlE (one vs) av xs ∈ R)
    (hk : ∀ mo m, (xs.Nodup → ∃ b, mo = some b ∧ SetOf m xs) → POST (.tuple #[.map mo, .bool (decide xs.Nodup)]) R (optC mo m :: O)) : Fun Try.prog 18 #[av] R O POST := by
  refine Fun.thin (post' := fun v R' O' => (∃ mo m, (xs.Nodup → ∃ b, mo = some b ∧ SetOf m xs) ∧ v = .tuple #[.map mo, .bool (decide xs.Nodup)] ∧ R' = R ∧ (O' = optC mo m :: O ∨ (O' = O ∧ mo = none)))) (set_spec ha (fun hn b m hm => ?_) (fun hn => ?_)) ?_
  · exact ⟨some b, m, fun _ => ⟨b, rfl, hm⟩, by rw [decide_eq_true hn], rfl, .inl rfl⟩
  · exact ⟨none, GoMap.empty, fun h => absurd h hn, by rw [decide_eq_false hn], rfl, .inr ⟨rfl, rfl⟩⟩
  · rintro v R' O' ⟨mo, m, h1, rfl, rfl, h2⟩
    refine ⟨_, _, hk mo m h1, ?_⟩
    rcases h2 with rfl | ⟨rfl, rfl⟩
    · exact fun w h => h
    · exact fun w h => h.emp _ rfl (fun _ => trivial)
theorem one2_spec {R : List RO} {O : List Own} {POST : Value → List RO → List Own → Prop} {base ours theirs : List (List UInt8)} {bv ov tv : Value} (hb : SlE (one vs) bv base ∈ R) (ho : SlE (one vs) ov ours ∈ R) (ht : SlE (one vs) tv theirs ∈ R)
    (hlo : ours.length ≤ 4294967296) (hlt : theirs.length ≤ 4294967296)
    (hk : ∀ v, OneV v → POST (.tuple #[v, .bool (oneE base ours theirs).isSome]) R (accC 9 1 (one vs) v ((oneE base ours theirs).getD []) :: O)) : Fun Try.prog 19 #[bv, ov, tv] R O POST := by
  refine Fun.thin (post' := fun v R' O' => (∃ u, OneV u ∧ v = .tuple #[u, .bool (oneE base ours theirs).isSome] ∧ R' = R ∧ (O' = accC 9 1 (one vs) u ((oneE base ours theirs).getD []) :: O ∨ (O' = O ∧ u = .slice none 0 0 ∧ oneE base ours theirs = none)))) (one_spec hb ho ht hlo hlt (fun r v hr hv => ?_) (fun hn => ?_)) ?_
  · exact ⟨v, hv, by rw [hr]; rfl, rfl, .inl (by rw [hr]; rfl)⟩
  · exact ⟨_, OneV.sl, by rw [hn]; rfl, rfl, .inr ⟨rfl, rfl, hn⟩⟩
  · rintro v R' O' ⟨u, h1, rfl, rfl, h2⟩
    refine ⟨_, _, hk u h1, ?_⟩
    rcases h2 with rfl | ⟨rfl, rfl, hn⟩
    · exact fun w h => h
    · rw [hn]; exact fun w h => h.accNil
/-- Both results of shuffle. -/
def shufR (xs ys : List (List UInt8)) : List (List UInt8) × List (List UInt8) := match shufE xs ys [] with
  | (r, none) => (r, [])
  | (_, some (a, b)) => ([], [a, b])
theorem shuffle2_spec {R : List RO} {O : List Own} {POST : Value → List RO → List Own → Prop} {xs ys : List (List UInt8)} {av bv : Value} (ha : SlE (one vs) av xs ∈ R) (hb : SlE (one vs) bv ys ∈ R) (hnx : xs.Nodup) (hny : ys.Nodup)
    (hlx : xs.length ≤ 4294967296) (hly : ys.length ≤ 4294967296)
    (hk : ∀ v w, POST (.tuple #[v, w]) (SlE (one vs) v (shufR xs ys).1 :: SlE (one vs) w (shufR xs ys).2 :: R) O) : Fun Try.prog 21 #[av, bv] R O POST := by
  refine Fun.thin (post' := fun v R' O' => (∃ u1 u2, v = .tuple #[u1, u2] ∧ O' = O ∧ ((u2 = .slice none 0 0 ∧ ∃ r, shufE xs ys [] = (r, none) ∧ R' = SlE (one vs) u1 r :: R) ∨ (u1 = .slice none 0 0 ∧ ∃ a b, shufE xs ys [] = ([], some (a, b)) ∧ R' = SlE (one vs) u2 [a, b] :: R)))) (shuffle_spec ha hb hnx hny hlx hly (fun r v h => ?_) (fun a b v h => ?_)) ?_
  · exact ⟨_, _, rfl, rfl, .inl ⟨rfl, r, h, rfl⟩⟩
  · exact ⟨_, _, rfl, rfl, .inr ⟨rfl, a, b, h, rfl⟩⟩
  · rintro v R' O' ⟨u1, u2, rfl, rfl, h⟩
    refine ⟨_, _, hk u1 u2, ?_⟩
    rcases h with ⟨rfl, r, h, rfl⟩ | ⟨rfl, a, b, h, rfl⟩ <;> unfold shufR <;> rw [h] <;> intro w hs
    · exact (fun w h => OwnL.sat (by repeat (first | exact OwnL.refl | apply OwnL.take (by repeat (first | exact Take.head _ | apply Take.tail)) | apply OwnL.drop)) w (h.thin (SubL.mem (by repeat (first | exact SubL.refl | refine SubL.cons (by repeat (first | assumption | exact List.mem_cons_self | refine List.mem_cons_of_mem _ ?_)) ?_ | refine SubL.skip ?_))))) w (hs.nilE (α := List UInt8) (enc := one vs))
    · exact (fun w h => OwnL.sat (by repeat (first | exact OwnL.refl | apply OwnL.take (by repeat (first | exact Take.head _ | apply Take.tail)) | apply OwnL.drop)) w (h.thin (SubL.mem (by repeat (first | exact SubL.refl | refine SubL.cons (by repeat (first | assumption | exact List.mem_cons_self | refine List.mem_cons_of_mem _ ?_)) ?_ | refine SubL.skip ?_))))) w (hs.nilE (α := List UInt8) (enc := one vs))

/-- What Lists comes to, of lists that aren't too long: a list, two items, the error's number. -/
def listsE (base ours theirs : List (List UInt8)) : List (List UInt8) × List (List UInt8) × Nat :=
  if ¬ (base.Nodup ∧ ours.Nodup ∧ theirs.Nodup) then ([], [], 10)
  else if (oneE base ours theirs).isSome then ((oneE base ours theirs).getD [], [], 0)
  else ((shufR (ours.filter (staysB ours theirs base)) (theirs.filter (staysB ours theirs base))).1, (shufR (ours.filter (staysB ours theirs base)) (theirs.filter (staysB ours theirs base))).2, 0)

set_option maxHeartbeats 2000000 in
theorem lists_spec {R : List RO} {O : List Own} {POST : Value → List RO → List Own → Prop} {base ours theirs : List (List UInt8)} {bv ov tv : Value} (hb : SlE (one vs) bv base ∈ R) (ho : SlE (one vs) ov ours ∈ R) (ht : SlE (one vs) tv theirs ∈ R)
    (hk6 : (4096 < base.length ∨ 4096 < ours.length ∨ 4096 < theirs.length) → POST (.tuple #[.slice none 0 0, .slice none 0 0, .int .i64 6]) R O)
    (hk : base.length ≤ 4096 → ours.length ≤ 4096 → theirs.length ≤ 4096 → ∀ u v, POST (.tuple #[u, v, .int .i64 ((listsE base ours theirs).2.2 : Nat)]) (SlE (one vs) u (listsE base ours theirs).1 :: SlE (one vs) v (listsE base ours theirs).2.1 :: R) O) :
    Fun Try.prog 10 #[bv, ov, tv] R O POST := by
  refine Fun.oneV hb fun hob => ?_
  refine Fun.oneV ho fun hoo => ?_
  refine Fun.oneV ht fun hot => ?_
  refine Fun.enter (l := [_, _, _]) Try.func10 rfl Try.ntmps10 rfl (L0 := [(0, _), (1, _), (2, _)]) rfl ?_
  refine WC.seq ?_
  refine WC.region ?_
  refine WL.rd rfl rfl rfl (Rd.assign rfl rfl) ?_
  refine WL.rd rfl rfl rfl (Rd.assign rfl rfl) ?_
  refine WL.rd rfl rfl rfl (Rd.assign rfl rfl) ?_
  refine WL.nil ?_
  refine thenQ.normal ?_
  refine WC.seq ?_
  refine WC.seq ?_
  refine WC.region ?_
  refine WL.rd rfl rfl rfl (Rd.move rfl rfl) ?_
  refine WL.rd rfl rfl rfl (Rd.move rfl rfl) ?_
  refine WL.rd rfl rfl rfl (Rd.move rfl rfl) ?_
  refine WL.op rfl ?_
  refine OpW.buildSl (ps := [(0, _), (1, _), (2, _)]) (cells := [bv, ov, tv]) rfl S41 (by repeat (first | exact Evs.nil | apply Evs.cons rfl)) rfl rfl (CellsOf.cons hob.cells (CellsOf.cons hoo.cells (CellsOf.cons hot.cells CellsOf.nil))) rfl rfl rfl rfl ?_; intro b23
  refine WL.heap (R' := SlE (one vid) (.slice (some ⟨b23, 0, none⟩) 3 3) [bv, ov, tv] :: R) (O' := O) (fun w h => Sat.shareRow (enc := one vid) (xs := [bv, ov, tv]) (m := 3) (by repeat (first | assumption | exact Take.head _ | apply Take.tail)) rfl rfl (by decide) h) ?_
  refine WL.op rfl ?_
  refine OpW.call rfl rfl (by repeat (first | exact Evs.nil | apply Evs.cons rfl)) (by kernel_rfl) rfl rfl rfl ?_
  refine has_spec (ll := [base, ours, theirs]) List.mem_cons_self (lists3 (by repeat (first | assumption | exact List.mem_cons_self | refine List.mem_cons_of_mem _ ?_)) (by repeat (first | assumption | exact List.mem_cons_self | refine List.mem_cons_of_mem _ ?_)) (by repeat (first | assumption | exact List.mem_cons_self | refine List.mem_cons_of_mem _ ?_))) ?_; intro b hb24
  refine WL.nil ?_
  refine thenQ.normal ?_
  first | refine WC.ite rfl (fun hc1 => ?_) (fun hc1 => ?_) | refine WC.cond rfl (fun hc1 => ?_) (fun hc1 => ?_)
  · skip
    refine WC.seq ?_
    refine WC.region ?_
    refine WL.rd rfl rfl rfl (Rd.assign rfl rfl) ?_
    refine WL.rd rfl rfl rfl (Rd.assign rfl rfl) ?_
    refine WL.rd rfl rfl rfl (Rd.assign rfl rfl) ?_
    refine WL.nil ?_
    refine thenQ.normal ?_
    -- ret_1
    refine WC.heap (R' := R) (O' := O) (fun w h => OwnL.sat (by repeat (first | exact OwnL.refl | apply OwnL.take (by repeat (first | exact Take.head _ | apply Take.tail)) | apply OwnL.drop)) w (h.thin (SubL.mem (by repeat (first | exact SubL.refl | refine SubL.cons (by repeat (first | assumption | exact List.mem_cons_self | refine List.mem_cons_of_mem _ ?_)) ?_ | refine SubL.skip ?_))))) ?_
    refine WC.ret (Ret.three Try.results10 rfl rfl rfl ?_)
    refine hk6 ?_
    obtain ⟨j, h1, h2⟩ := hb24.1 hc1
    match j, h1 with
    | 0, _ => exact .inl h2
    | 1, _ => exact .inr (.inl h2)
    | 2, _ => exact .inr (.inr h2)
  · skip
    have l1 : base.length ≤ 4096 := Nat.le_of_not_lt fun h => by have h2 := hb24.2 ⟨0, by simp, h⟩; rw [hc1] at h2; cases h2
    have l2 : ours.length ≤ 4096 := Nat.le_of_not_lt fun h => by have h2 := hb24.2 ⟨1, by simp, h⟩; rw [hc1] at h2; cases h2
    have l3 : theirs.length ≤ 4096 := Nat.le_of_not_lt fun h => by have h2 := hb24.2 ⟨2, by simp, h⟩; rw [hc1] at h2; cases h2
    replace hk := hk l1 l2 l3
    refine WC.heap (R' := R) (O' := O) (fun w h => OwnL.sat (by repeat (first | exact OwnL.refl | apply OwnL.take (by repeat (first | exact Take.head _ | apply Take.tail)) | apply OwnL.drop)) w (h.thin (SubL.mem (by repeat (first | exact SubL.refl | refine SubL.cons (by repeat (first | assumption | exact List.mem_cons_self | refine List.mem_cons_of_mem _ ?_)) ?_ | refine SubL.skip ?_))))) ?_
    refine WC.skip ?_
    refine thenQ.normal ?_
    refine WC.seq ?_
    refine WC.region ?_
    refine WL.rd rfl rfl rfl (Rd.move rfl rfl) ?_
    refine WL.op rfl ?_
    refine OpW.call rfl rfl (by repeat (first | exact Evs.nil | apply Evs.cons rfl)) (by kernel_rfl) rfl rfl rfl ?_
    refine set2_spec hb ?_; intro mo1 m1 hm1
    refine WL.rd rfl rfl rfl (Rd.move rfl rfl) ?_
    refine WL.rd rfl rfl rfl (Rd.extract rfl rfl rfl) ?_
    refine WL.rd rfl rfl rfl (Rd.extract rfl rfl rfl) ?_
    refine WL.op rfl ?_
    refine OpW.alloc rfl I45 rfl (by repeat (first | exact NF.nil | apply NF.cons)) rfl rfl ?_; intro b9
    refine WL.op rfl ?_
    refine OpW.store1 rfl Z45 rfl rfl (by first | exact ⟨rfl, rfl⟩ | assumption) (by repeat (first | assumption | exact Take.head _ | apply Take.tail)) (by first | (simp; done) | omega | exact of_decide_eq_true rfl | (simp only [List.length_append, List.length_replicate, List.length_map, List.length_set]; omega)) rfl ?_
    refine WL.rd rfl rfl rfl (Rd.assign rfl rfl) ?_
    refine WL.nil ?_
    refine thenQ.normal ?_
    refine WC.seq ?_
    refine WC.region ?_
    refine WL.rd rfl rfl rfl (Rd.move rfl rfl) ?_
    refine WL.op rfl ?_
    refine OpW.call rfl rfl (by repeat (first | exact Evs.nil | apply Evs.cons rfl)) (by kernel_rfl) rfl rfl rfl ?_
    refine set2_spec ho ?_; intro mo2 m2 hm2
    refine WL.rd rfl rfl rfl (Rd.move rfl rfl) ?_
    refine WL.rd rfl rfl rfl (Rd.extract rfl rfl rfl) ?_
    refine WL.rd rfl rfl rfl (Rd.extract rfl rfl rfl) ?_
    refine WL.op rfl ?_
    refine OpW.alloc rfl I45 rfl (by repeat (first | exact NF.nil | apply NF.cons)) rfl rfl ?_; intro b11
    refine WL.op rfl ?_
    refine OpW.store1 rfl Z45 rfl rfl (by first | exact ⟨rfl, rfl⟩ | assumption) (by repeat (first | assumption | exact Take.head _ | apply Take.tail)) (by first | (simp; done) | omega | exact of_decide_eq_true rfl | (simp only [List.length_append, List.length_replicate, List.length_map, List.length_set]; omega)) rfl ?_
    refine WL.rd rfl rfl rfl (Rd.assign rfl rfl) ?_
    refine WL.nil ?_
    refine thenQ.normal ?_
    refine WC.seq ?_
    refine WC.region ?_
    refine WL.rd rfl rfl rfl (Rd.move rfl rfl) ?_
    refine WL.op rfl ?_
    refine OpW.call rfl rfl (by repeat (first | exact Evs.nil | apply Evs.cons rfl)) (by kernel_rfl) rfl rfl rfl ?_
    refine set2_spec ht ?_; intro mo3 m3 hm3
    refine WL.rd rfl rfl rfl (Rd.move rfl rfl) ?_
    refine WL.rd rfl rfl rfl (Rd.extract rfl rfl rfl) ?_
    refine WL.rd rfl rfl rfl (Rd.extract rfl rfl rfl) ?_
    refine WL.op rfl ?_
    refine OpW.alloc rfl I45 rfl (by repeat (first | exact NF.nil | apply NF.cons)) rfl rfl ?_; intro b13
    refine WL.op rfl ?_
    refine OpW.store1 rfl Z45 rfl rfl (by first | exact ⟨rfl, rfl⟩ | assumption) (by repeat (first | assumption | exact Take.head _ | apply Take.tail)) (by first | (simp; done) | omega | exact of_decide_eq_true rfl | (simp only [List.length_append, List.length_replicate, List.length_map, List.length_set]; omega)) rfl ?_
    refine WL.rd rfl rfl rfl (Rd.assign rfl rfl) ?_
    refine WL.nil ?_
    refine thenQ.normal ?_
    refine WC.seq ?_
    refine WC.pick [0, 1, 2, 9, 10, 11, 12, 13, 14] (by repeat (first | exact Pick.nil | apply Pick.cons rfl)) ?_
    refine WC.val 49 (.bool (decide (¬ (base.Nodup ∧ ours.Nodup ∧ theirs.Nodup)))) ?_ ?_
    · skip
      refine WC.region ?_
      refine WL.rd rfl rfl rfl (Rd.move rfl rfl) ?_
      refine WL.rd rfl rfl rfl ((by first | exact Rd.notd rfl rfl | exact Rd.not rfl rfl)) ?_
      refine WL.rd rfl rfl rfl (Rd.move rfl rfl) ?_
      refine WL.case 42 rfl (fun hg42 => ?_) (fun hg42 => ?_)
      · skip
        refine WL.no rfl rfl rfl rfl rfl rfl ?_
        refine WL.no rfl rfl rfl rfl rfl rfl ?_
        refine WL.rd rfl rfl rfl (Rd.pick_t rfl rfl rfl) ?_
        refine WL.rd rfl rfl rfl (Rd.move rfl rfl) ?_
        refine WL.no rfl rfl rfl rfl rfl rfl ?_
        refine WL.no rfl rfl rfl rfl rfl rfl ?_
        refine WL.rd rfl rfl rfl (Rd.pick_t rfl rfl rfl) ?_
        refine WL.nil ?_
        exact ⟨by repeat (first | exact Sub.nil | refine Sub.cons rfl (by first | rfl | (first | rfl | exact vb (by omega) | exact vb_t (by omega) | exact vb_f (by omega) | (simp [*]; done) | (simp_all; done))) ?_), by first | exact (fun _ h => h.thin (SubL.mem (by repeat (first | exact SubL.refl | refine SubL.cons (by repeat (first | assumption | exact List.mem_cons_self | refine List.mem_cons_of_mem _ ?_)) ?_ | refine SubL.skip ?_)))) | exact (fun w h => OwnL.sat (by repeat (first | exact OwnL.refl | apply OwnL.take (by repeat (first | exact Take.head _ | apply Take.tail)) | apply OwnL.drop)) w (h.thin (SubL.mem (by repeat (first | exact SubL.refl | refine SubL.cons (by repeat (first | assumption | exact List.mem_cons_self | refine List.mem_cons_of_mem _ ?_)) ?_ | refine SubL.skip ?_)))))⟩
      · skip
        refine WL.rd_yes rfl rfl rfl rfl rfl rfl (Rd.move rfl rfl) ?_
        refine WL.rd_yes rfl rfl rfl rfl rfl rfl ((by first | exact Rd.notd rfl rfl | exact Rd.not rfl rfl)) ?_
        refine WL.rd rfl rfl rfl (Rd.pick_f rfl rfl rfl) ?_
        refine WL.rd rfl rfl rfl (Rd.move rfl rfl) ?_
        refine WL.case 46 rfl (fun hg46 => ?_) (fun hg46 => ?_)
        · skip
          refine WL.no rfl rfl rfl rfl rfl rfl ?_
          refine WL.no rfl rfl rfl rfl rfl rfl ?_
          refine WL.rd rfl rfl rfl (Rd.pick_t rfl rfl rfl) ?_
          refine WL.nil ?_
          exact ⟨by repeat (first | exact Sub.nil | refine Sub.cons rfl (by first | rfl | (first | rfl | exact vb (by omega) | exact vb_t (by omega) | exact vb_f (by omega) | (simp [*]; done) | (simp_all; done))) ?_), by first | exact (fun _ h => h.thin (SubL.mem (by repeat (first | exact SubL.refl | refine SubL.cons (by repeat (first | assumption | exact List.mem_cons_self | refine List.mem_cons_of_mem _ ?_)) ?_ | refine SubL.skip ?_)))) | exact (fun w h => OwnL.sat (by repeat (first | exact OwnL.refl | apply OwnL.take (by repeat (first | exact Take.head _ | apply Take.tail)) | apply OwnL.drop)) w (h.thin (SubL.mem (by repeat (first | exact SubL.refl | refine SubL.cons (by repeat (first | assumption | exact List.mem_cons_self | refine List.mem_cons_of_mem _ ?_)) ?_ | refine SubL.skip ?_)))))⟩
        · skip
          refine WL.rd_yes rfl rfl rfl rfl rfl rfl (Rd.move rfl rfl) ?_
          refine WL.rd_yes rfl rfl rfl rfl rfl rfl ((by first | exact Rd.notd rfl rfl | exact Rd.not rfl rfl)) ?_
          refine WL.rd rfl rfl rfl (Rd.pick_f rfl rfl rfl) ?_
          refine WL.nil ?_
          exact ⟨by repeat (first | exact Sub.nil | refine Sub.cons rfl (by first | rfl | (first | rfl | exact vb (by omega) | exact vb_t (by omega) | exact vb_f (by omega) | (simp [*]; done) | (simp_all; done))) ?_), by first | exact (fun _ h => h.thin (SubL.mem (by repeat (first | exact SubL.refl | refine SubL.cons (by repeat (first | assumption | exact List.mem_cons_self | refine List.mem_cons_of_mem _ ?_)) ?_ | refine SubL.skip ?_)))) | exact (fun w h => OwnL.sat (by repeat (first | exact OwnL.refl | apply OwnL.take (by repeat (first | exact Take.head _ | apply Take.tail)) | apply OwnL.drop)) w (h.thin (SubL.mem (by repeat (first | exact SubL.refl | refine SubL.cons (by repeat (first | assumption | exact List.mem_cons_self | refine List.mem_cons_of_mem _ ?_)) ?_ | refine SubL.skip ?_)))))⟩
    · skip
      first | refine WC.ite rfl (fun hc2 => ?_) (fun hc2 => ?_) | refine WC.cond rfl (fun hc2 => ?_) (fun hc2 => ?_)
      · skip
        refine WC.seq ?_
        refine WC.region ?_
        refine WL.rd rfl rfl rfl (Rd.assign rfl rfl) ?_
        refine WL.rd rfl rfl rfl (Rd.assign rfl rfl) ?_
        refine WL.rd rfl rfl rfl (Rd.assign rfl rfl) ?_
        refine WL.nil ?_
        refine thenQ.normal ?_
        -- ret_2
        refine WC.heap (R' := SlE (one vs) (.slice none 0 0) [] :: SlE (one vs) (.slice none 0 0) [] :: R) (O' := O) (fun w h => (fun w h => OwnL.sat (by repeat (first | exact OwnL.refl | apply OwnL.take (by repeat (first | exact Take.head _ | apply Take.tail)) | apply OwnL.drop)) w (h.thin (SubL.mem (by repeat (first | exact SubL.refl | refine SubL.cons (by repeat (first | assumption | exact List.mem_cons_self | refine List.mem_cons_of_mem _ ?_)) ?_ | refine SubL.skip ?_))))) w ((h.nilE (α := List UInt8) (enc := one vs)).nilE (α := List UInt8) (enc := one vs))) ?_
        refine WC.ret (Ret.three Try.results10 rfl rfl rfl ?_)
        have e : listsE base ours theirs = ([], [], 10) := by unfold listsE; rw [if_pos hc2]
        rw [e] at hk
        exact hk _ _
      · skip
        obtain ⟨n1, n2, n3⟩ := Decidable.not_not.1 hc2
        obtain ⟨c1, rfl, hs1⟩ := hm1 n1
        obtain ⟨c2, rfl, hs2⟩ := hm2 n2
        obtain ⟨c3, rfl, hs3⟩ := hm3 n3
        refine WC.heap (R' := R) (O' := rowC b13 45 [.map (some c3)] :: mapC vs vbl c3 m3 :: rowC b11 45 [.map (some c2)] :: mapC vs vbl c2 m2 :: rowC b9 45 [.map (some c1)] :: mapC vs vbl c1 m1 :: O) (fun w h => h) ?_
        refine WC.skip ?_
        refine thenQ.normal ?_
        refine WC.seq ?_
        refine WC.seq ?_
        refine WC.region ?_
        refine WL.rd rfl rfl rfl (Rd.move rfl rfl) ?_
        refine WL.rd rfl rfl rfl (Rd.move rfl rfl) ?_
        refine WL.rd rfl rfl rfl (Rd.move rfl rfl) ?_
        refine WL.op rfl ?_
        refine OpW.call rfl rfl (by repeat (first | exact Evs.nil | apply Evs.cons rfl)) (by kernel_rfl) rfl rfl rfl ?_
        refine one2_spec hb ho ht (by omega) (by omega) ?_; intro v54 hv54
        refine WL.rd rfl rfl rfl (Rd.move rfl rfl) ?_
        refine WL.rd rfl rfl rfl (Rd.extract rfl rfl rfl) ?_
        refine WL.rd rfl rfl rfl (Rd.extract rfl rfl rfl) ?_
        refine WL.rd rfl rfl rfl (Rd.assign rfl rfl) ?_
        refine WL.rd rfl rfl rfl (Rd.assign rfl rfl) ?_
        refine WL.nil ?_
        refine thenQ.normal ?_
        refine WC.seq ?_
        refine WC.region ?_
        refine WL.rd rfl rfl rfl (Rd.move rfl rfl) ?_
        refine WL.nil ?_
        refine thenQ.normal ?_
        first | refine WC.ite rfl (fun hc3 => ?_) (fun hc3 => ?_) | refine WC.cond rfl (fun hc3 => ?_) (fun hc3 => ?_)
        · skip
          refine WC.seq ?_
          refine WC.region ?_
          refine WL.rd rfl rfl rfl (Rd.move rfl rfl) ?_
          refine WL.rd rfl rfl rfl (Rd.assign rfl rfl) ?_
          refine WL.rd rfl rfl rfl (Rd.assign rfl rfl) ?_
          refine WL.rd rfl rfl rfl (Rd.assign rfl rfl) ?_
          refine WL.nil ?_
          refine thenQ.normal ?_
          -- ret_3
          refine WC.heap (R' := SlE (one vs) v54 ((oneE base ours theirs).getD []) :: SlE (one vs) (.slice none 0 0) [] :: R) (O' := O) (fun w h => (fun w h => OwnL.sat (by repeat (first | exact OwnL.refl | apply OwnL.take (by repeat (first | exact Take.head _ | apply Take.tail)) | apply OwnL.drop)) w (h.thin (SubL.mem (by repeat (first | exact SubL.refl | refine SubL.cons (by repeat (first | assumption | exact List.mem_cons_self | refine List.mem_cons_of_mem _ ?_)) ?_ | refine SubL.skip ?_))))) w (Sat.shareA (Take.head _) (h.nilE (α := List UInt8) (enc := one vs)))) ?_
          refine WC.ret (Ret.three Try.results10 rfl rfl rfl ?_)
          have e : listsE base ours theirs = ((oneE base ours theirs).getD [], [], 0) := by unfold listsE; rw [if_neg hc2, if_pos hc3]
          rw [e] at hk
          exact hk _ _
        · skip
          refine WC.skip ?_
          refine thenQ.normal ?_
          refine WC.seq ?_
          refine WC.region ?_
          refine WL.rd rfl rfl rfl (Rd.func rfl (by repeat (first | exact Evs.nil | apply Evs.cons rfl)) (by repeat (first | exact Evs.nil | apply Evs.cons rfl)) ⟨_, rfl⟩) ?_
          refine WL.rd rfl rfl rfl (Rd.assign rfl rfl) ?_
          refine WL.nil ?_
          refine thenQ.normal ?_
          refine WC.seq ?_
          refine WC.region ?_
          refine WL.rd rfl rfl rfl (Rd.move rfl rfl) ?_
          refine WL.rd rfl rfl rfl (Rd.move rfl rfl) ?_
          refine WL.op rfl ?_
          refine OpW.call rfl rfl (by repeat (first | exact Evs.nil | apply Evs.cons rfl)) (by kernel_rfl) rfl rfl rfl ?_
          refine pick_spec ho (us := ours) (them := theirs) (was := base) ⟨⟨_, _, hs2, (by repeat (first | assumption | exact List.mem_cons_self | refine List.mem_cons_of_mem _ ?_)), (by repeat (first | assumption | exact List.mem_cons_self | refine List.mem_cons_of_mem _ ?_))⟩, ⟨_, _, hs3, (by repeat (first | assumption | exact List.mem_cons_self | refine List.mem_cons_of_mem _ ?_)), (by repeat (first | assumption | exact List.mem_cons_self | refine List.mem_cons_of_mem _ ?_))⟩, ⟨_, _, hs1, (by repeat (first | assumption | exact List.mem_cons_self | refine List.mem_cons_of_mem _ ?_)), (by repeat (first | assumption | exact List.mem_cons_self | refine List.mem_cons_of_mem _ ?_))⟩⟩ (by omega) ?_; intro u63
          refine WL.rd rfl rfl rfl (Rd.move rfl rfl) ?_
          refine WL.rd rfl rfl rfl (Rd.move rfl rfl) ?_
          refine WL.op rfl ?_
          refine OpW.call rfl rfl (by repeat (first | exact Evs.nil | apply Evs.cons rfl)) (by kernel_rfl) rfl rfl rfl ?_
          refine pick_spec (List.mem_cons_of_mem _ ht) (us := ours) (them := theirs) (was := base) ⟨⟨_, _, hs2, (by repeat (first | assumption | exact List.mem_cons_self | refine List.mem_cons_of_mem _ ?_)), (by repeat (first | assumption | exact List.mem_cons_self | refine List.mem_cons_of_mem _ ?_))⟩, ⟨_, _, hs3, (by repeat (first | assumption | exact List.mem_cons_self | refine List.mem_cons_of_mem _ ?_)), (by repeat (first | assumption | exact List.mem_cons_self | refine List.mem_cons_of_mem _ ?_))⟩, ⟨_, _, hs1, (by repeat (first | assumption | exact List.mem_cons_self | refine List.mem_cons_of_mem _ ?_)), (by repeat (first | assumption | exact List.mem_cons_self | refine List.mem_cons_of_mem _ ?_))⟩⟩ (by omega) ?_; intro u66
          refine WL.op rfl ?_
          refine OpW.call rfl rfl (by repeat (first | exact Evs.nil | apply Evs.cons rfl)) (by kernel_rfl) rfl rfl rfl ?_
          refine shuffle2_spec (xs := ours.filter (staysB ours theirs base)) (ys := theirs.filter (staysB ours theirs base)) (by repeat (first | assumption | exact List.mem_cons_self | refine List.mem_cons_of_mem _ ?_)) (by repeat (first | assumption | exact List.mem_cons_self | refine List.mem_cons_of_mem _ ?_)) (n2.filter _) (n3.filter _) (by have := List.length_filter_le (staysB ours theirs base) ours; omega) (by have := List.length_filter_le (staysB ours theirs base) theirs; omega) ?_; intro v67 z67
          refine WL.rd rfl rfl rfl (Rd.move rfl rfl) ?_
          refine WL.rd rfl rfl rfl (Rd.extract rfl rfl rfl) ?_
          refine WL.rd rfl rfl rfl (Rd.extract rfl rfl rfl) ?_
          refine WL.rd rfl rfl rfl (Rd.assign rfl rfl) ?_
          refine WL.rd rfl rfl rfl (Rd.assign rfl rfl) ?_
          refine WL.nil ?_
          refine thenQ.normal ?_
          refine WC.seq ?_
          refine WC.region ?_
          refine WL.rd rfl rfl rfl (Rd.move rfl rfl) ?_
          refine WL.rd rfl rfl rfl (Rd.move rfl rfl) ?_
          refine WL.rd rfl rfl rfl (Rd.assign rfl rfl) ?_
          refine WL.rd rfl rfl rfl (Rd.assign rfl rfl) ?_
          refine WL.rd rfl rfl rfl (Rd.assign rfl rfl) ?_
          refine WL.nil ?_
          refine thenQ.normal ?_
          -- ret_4
          refine WC.heap (R' := SlE (one vs) v67 (shufR (ours.filter (staysB ours theirs base)) (theirs.filter (staysB ours theirs base))).1 :: SlE (one vs) z67 (shufR (ours.filter (staysB ours theirs base)) (theirs.filter (staysB ours theirs base))).2 :: R) (O' := O) (fun w h => OwnL.sat (by repeat (first | exact OwnL.refl | apply OwnL.take (by repeat (first | exact Take.head _ | apply Take.tail)) | apply OwnL.drop)) w (h.thin (SubL.mem (by repeat (first | exact SubL.refl | refine SubL.cons (by repeat (first | assumption | exact List.mem_cons_self | refine List.mem_cons_of_mem _ ?_)) ?_ | refine SubL.skip ?_))))) ?_
          refine WC.ret (Ret.three Try.results10 rfl rfl rfl ?_)
          have e : listsE base ours theirs = ((shufR (ours.filter (staysB ours theirs base)) (theirs.filter (staysB ours theirs base))).1, (shufR (ours.filter (staysB ours theirs base)) (theirs.filter (staysB ours theirs base))).2, 0) := by unfold listsE; rw [if_neg hc2, if_neg (by rw [hc3]; simp)]
          rw [e] at hk
          exact hk _ _
end Go.Proofs.Ytpicbbkmcbhnpaa
