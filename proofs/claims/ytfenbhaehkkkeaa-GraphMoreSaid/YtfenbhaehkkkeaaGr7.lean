/-
  Layer 18: Bases.
-/
import Derived.Test.YtfenbhaehkkkeaaGr6
namespace Go.Proofs.Ytfenbhaehkkkeaa
open Go Go.SL
def Common (G : PG) (a b k : T) : Prop := Come G [a] k ∧ Come G [b] k
def BaseP (G : PG) (a b k : T) : Prop := Common G a b k ∧ ¬ ∃ c, Common G a b c ∧ ∃ p ∈ G.pars c, Path G p k
section
variable {R : List RO} {O O' : List Own} {POST : Value → List RO → List Own → Prop} {gv : Value} {G : PG}
set_option maxRecDepth 20000 in
theorem ofNot_spec {s : T} {v : Bool} {bx bo : Nat} {m : GoMap T Bool} {fs : List T} (hm : mapP vs vbl bo m ∈ R) (hmk : MarkIs G fs m) (hbx : rowC bx 69 [.map (some bo)] ∈ O) (hk : ∀ g : Bool, (g = true ↔ ¬ Come G fs s) → POST (.bool g) R O) :
    Fun Try.prog 34 #[vs s, .bool v, .pointer (some ⟨bx, 0, none⟩)] R O POST := by
  refine Fun.enter (l := [_, _, _]) Try.func34 rfl Try.ntmps34 rfl (L0 := [(0, _), (1, _), (2, _)]) rfl ?_
  refine WC.seq ?_
  refine WC.region ?_
  refine WL.rd rfl rfl rfl (Rd.assign rfl rfl) ?_
  refine WL.nil ?_
  refine thenQ.normal ?_
  refine WC.seq ?_
  refine WC.region ?_
  refine WL.rd rfl rfl rfl (Rd.row1 (off := 0) (u := .map (some bo)) rfl C69 rfl hbx rfl) ?_
  refine WL.rd rfl rfl rfl (Rd.move rfl rfl) ?_
  refine WL.rd rfl rfl rfl (Rd.lookupR (k := s) M69 K9 rfl rfl rfl hm rfl) ?_
  refine WL.say 8 (u := .bool (decide (m.get s = some true))) rfl boolAt ?_
  refine WL.rd rfl rfl rfl ((by first | exact Rd.notd rfl rfl | exact Rd.not rfl rfl)) ?_
  refine WL.rd rfl rfl rfl (Rd.assign rfl rfl) ?_
  refine WL.nil ?_
  refine thenQ.normal ?_
  refine WC.ret (Ret.one Try.results34 rfl ?_)
  exact hk _ (by rw [decide_eq_true_eq, hmk.iff])
set_option maxRecDepth 20000 in
theorem isWorse_spec {s : T} {v : Bool} {bx bo : Nat} {m : GoMap T Bool} {fs : List T} (hm : mapP vs vbl bo m ∈ R) (hmk : MarkIs G fs m) (hbx : rowC bx 69 [.map (some bo)] ∈ O) (hk : ∀ g : Bool, (g = true ↔ Come G fs s) → POST (.bool g) R O) :
    Fun Try.prog 35 #[vs s, .bool v, .pointer (some ⟨bx, 0, none⟩)] R O POST := by
  refine Fun.enter (l := [_, _, _]) Try.func35 rfl Try.ntmps35 rfl (L0 := [(0, _), (1, _), (2, _)]) rfl ?_
  refine WC.seq ?_
  refine WC.region ?_
  refine WL.rd rfl rfl rfl (Rd.assign rfl rfl) ?_
  refine WL.nil ?_
  refine thenQ.normal ?_
  refine WC.seq ?_
  refine WC.region ?_
  refine WL.rd rfl rfl rfl (Rd.row1 (off := 0) (u := .map (some bo)) rfl C69 rfl hbx rfl) ?_
  refine WL.rd rfl rfl rfl (Rd.move rfl rfl) ?_
  refine WL.rd rfl rfl rfl (Rd.lookupR (k := s) M69 K9 rfl rfl rfl hm rfl) ?_
  refine WL.say 8 (u := .bool (decide (m.get s = some true))) rfl boolAt ?_
  refine WL.rd rfl rfl rfl (Rd.assign rfl rfl) ?_
  refine WL.nil ?_
  refine thenQ.normal ?_
  refine WC.ret (Ret.one Try.results35 rfl ?_)
  exact hk _ (by rw [decide_eq_true_eq, hmk.iff])
set_option maxRecDepth 20000 in
set_option maxHeartbeats 4000000 in
theorem bases_spec {a b : T} (hG : GV gv G R) (hc : Closed G) (hS : Small G) (hk : ∀ v ks, Asc ks → (∀ k, k ∈ ks ↔ BaseP G a b k) → POST v R (accT v ks :: O)) :
    Fun Try.prog 14 #[gv, vs a, vs b] R O POST := by
  have hr := hS.rest fun _ => false
  have hn := hS.n
  refine Fun.enter (l := [_, _, _]) Try.func14 rfl Try.ntmps14 rfl (L0 := [(0, _), (1, _), (2, _)]) rfl ?_
  refine WC.seq ?_
  refine WC.region ?_
  refine WL.rd rfl rfl rfl (Rd.assign rfl rfl) ?_
  refine WL.nil ?_
  refine thenQ.normal ?_
  refine WC.seq ?_
  refine WC.region ?_
  refine WL.rd rfl rfl rfl (Rd.move rfl rfl) ?_
  refine WL.rd rfl rfl rfl (Rd.move rfl rfl) ?_
  refine WL.op rfl ?_
  refine OpW.buildSl (ps := [(0, _)]) rfl S28 (by repeat (first | exact Evs.nil | apply Evs.cons rfl)) rfl rfl (by repeat (first | exact CellsOf.nil | apply CellsOf.cons rfl)) (by kernel_rfl) rfl rfl rfl ?_; intro b14
  refine WL.heap (fun w h => Sat.shareRow (enc := SL.one vs) (xs := [a]) (by repeat (first | assumption | exact Take.head _ | apply Take.tail)) rfl rfl (by simp) h) ?_
  refine WL.op rfl ?_
  refine OpW.call rfl rfl (by repeat (first | exact Evs.nil | apply Evs.cons rfl)) (by kernel_rfl) rfl rfl rfl ?_
  refine mark_spec (fs := [a]) (hG.mono fun p hp => List.mem_cons_of_mem _ hp) hc List.mem_cons_self (by simp; omega) ?_; intro b15 m1 hm1 hml1
  refine WL.rd rfl rfl rfl (Rd.assign rfl rfl) ?_
  refine WL.nil ?_
  refine thenQ.normal ?_
  refine WC.seq ?_
  refine WC.region ?_
  refine WL.rd rfl rfl rfl (Rd.move rfl rfl) ?_
  refine WL.rd rfl rfl rfl (Rd.move rfl rfl) ?_
  refine WL.op rfl ?_
  refine OpW.buildSl (ps := [(0, _)]) rfl S28 (by repeat (first | exact Evs.nil | apply Evs.cons rfl)) rfl rfl (by repeat (first | exact CellsOf.nil | apply CellsOf.cons rfl)) (by kernel_rfl) rfl rfl rfl ?_; intro b18
  refine WL.heap (fun w h => Sat.shareRow (enc := SL.one vs) (xs := [b]) (by repeat (first | assumption | exact Take.head _ | apply Take.tail)) rfl rfl (by simp) h) ?_
  refine WL.op rfl ?_
  refine OpW.call rfl rfl (by repeat (first | exact Evs.nil | apply Evs.cons rfl)) (by kernel_rfl) rfl rfl rfl ?_
  refine mark_spec (fs := [b]) (hG.mono fun p hp => List.mem_cons_of_mem _ (List.mem_cons_of_mem _ hp)) hc List.mem_cons_self (by simp; omega) ?_; intro b19 m2 hm2 hml2
  refine WL.heap (fun w h => Sat.shareM (m := m2) (by repeat (first | assumption | exact Take.head _ | apply Take.tail)) h) ?_
  refine WL.op rfl ?_
  refine OpW.alloc rfl I69 rfl (by repeat (first | exact NF.nil | apply NF.cons)) rfl rfl ?_; intro b8
  refine WL.op rfl ?_
  refine OpW.store1 rfl Z69 rfl rfl (by first | exact ⟨rfl, rfl⟩ | assumption) (by repeat (first | assumption | exact Take.head _ | apply Take.tail)) (by first | (simp; done) | omega | exact of_decide_eq_true rfl | (simp only [List.length_append, List.length_replicate, List.length_map, List.length_set]; omega)) rfl ?_
  refine WL.nil ?_
  refine thenQ.normal ?_
  refine WC.seq ?_
  refine WC.region ?_
  refine WL.rd rfl rfl rfl (Rd.move rfl rfl) ?_
  refine WL.rd rfl rfl rfl (Rd.func rfl (by repeat (first | exact Evs.nil | apply Evs.cons rfl)) (by repeat (first | exact Evs.nil | apply Evs.cons rfl)) ⟨_, rfl⟩) ?_
  refine WL.op rfl ?_
  refine OpW.call rfl rfl (by repeat (first | exact Evs.nil | apply Evs.cons rfl)) (by kernel_rfl) rfl rfl rfl ?_
  refine Fun.heap (R' := mapP vs vbl b19 m2 :: R) (O' := mapC vs vbl b15 m1 :: rowC b8 69 [.map (some b19)] :: O) (fun w h => OwnL.sat (by repeat (first | exact OwnL.refl | apply OwnL.take (by repeat (first | exact Take.head _ | apply Take.tail)) | apply OwnL.drop)) w (h.thin (SubL.mem (by repeat (first | exact SubL.refl | refine SubL.cons (by repeat (first | assumption | exact mS | apply mT)) ?_ | refine SubL.skip ?_))))) ?_
  refine strike_spec (bx := b8) (m := m1) (gone := fun s => ¬ Come G [b] s) (by kernel_rfl) List.mem_cons_self (fun s => Classical.em _) (fun s v O' POST h1 h2 => ofNot_spec List.mem_cons_self hm2 h1 h2) ?_
  intro m3 hm3 hml3
  have hcm : ∀ id v, m3.get id = some v ↔ v = true ∧ Common G a b id := fun id v => by
    rw [hm3, Classical.not_not]
    constructor
    · rintro ⟨h1, h2⟩; exact ⟨(hm1.get id v h2).1, (hm1.get id v h2).2, h1⟩
    · rintro ⟨rfl, h1, h2⟩; exact ⟨h2, hm1.all id h1⟩
  have hck : ∀ id, id ∈ m3.ks ↔ Common G a b id := fun id => by
    rw [GoMap.mem_ks]
    exact ⟨fun ⟨v, e⟩ => ((hcm id v).1 e).2, fun e => ⟨true, (hcm id true).2 ⟨rfl, e⟩⟩⟩
  refine WL.heap (R' := R) (O' := mapC vs vbl b15 m3 :: O) (fun w h => OwnL.sat (by repeat (first | exact OwnL.refl | apply OwnL.take (by repeat (first | exact Take.head _ | apply Take.tail)) | apply OwnL.drop)) w (h.thin (SubL.mem (by repeat (first | exact SubL.refl | refine SubL.cons (by repeat (first | assumption | exact mS | apply mT)) ?_ | refine SubL.skip ?_))))) ?_
  refine WL.nil ?_
  refine thenQ.normal ?_
  refine WC.seq ?_
  refine WC.region ?_
  refine WL.rd rfl rfl rfl (Rd.assign rfl rfl) ?_
  refine WL.nil ?_
  refine thenQ.normal ?_
  refine WC.seq ?_
  refine WC.seq ?_
  refine WC.region ?_
  refine WL.rd rfl rfl rfl (Rd.move rfl rfl) ?_
  refine WL.op rfl ?_
  refine OpW.rangeMO (kenc := vs) (venc := vbl) (m := m3) M69 rfl rfl (by repeat (first | assumption | exact mS | apply mT)) rfl rfl ?_; intro it
  refine WL.heap (fun w h => Sat.accNil (e := 9) (size := 1) (enc := SL.one vs) h) ?_
  refine WL.nil ?_
  refine thenQ.normal ?_
  refine WC.block ?_
  refine WC.pick [9, 0, 7, 24] (by repeat (first | exact Pick.nil | apply Pick.cons rfl)) ?_
  refine WC.loop3 1 (fun (xs : List T) (seen : List Nat) (av : Value) => [(9, av)]) (fun (xs : List T) (seen : List Nat) (av : Value) => iterC it b15 m3.clock seen :: accT av (xs.flatMap G.pars) :: mapC vs vbl b15 m3 :: O) (fun (xs : List T) (seen : List Nat) (av : Value) => Came m3 xs seen) (fun (xs : List T) (seen : List Nat) (av : Value) => m3.l.length - xs.length) ([]) ([]) (nilS) (by repeat (first | exact Split.zero | apply Split.succ)) ?hinv1 (by repeat (first | exact Sub.nil | refine Sub.cons rfl (by first | rfl | (congr 1; omega) | assumption) ?_)) (fun w h => OwnL.sat (by repeat (first | exact OwnL.refl | apply OwnL.take (by repeat (first | exact Take.head _ | apply Take.tail)) | apply OwnL.drop)) w (h.thin (SubL.mem (by repeat (first | exact SubL.refl | refine SubL.cons (by repeat (first | assumption | exact mS | apply mT)) ?_ | refine SubL.skip ?_))))) ?_
  case hinv1 =>
    exact Came.start m3
  intro xs seen av
  rintro i1
  refine WC.seq ?_
  refine WC.region ?_
  refine WL.op rfl ?_
  refine OpW.nextMO (kenc := vs) (venc := vbl) (m := m3) (seen := seen) rfl rfl (by repeat (first | assumption | exact mS | apply mT)) (by repeat (first | assumption | exact Take.head _ | apply Take.tail)) rfl rfl ?_; intro r hr
  refine WL.rd rfl rfl rfl (Rd.stepOn rfl rfl) ?_
  refine WL.nil ?_
  refine thenQ.normal ?_
  refine WC.seq ?_
  first | refine WC.ite rfl (fun hc1 => ?_) (fun hc1 => ?_) | refine WC.cond rfl (fun hc1 => ?_) (fun hc1 => ?_)
  · skip
    obtain ⟨x, rfl⟩ := Option.isSome_iff_exists.1 hc1
    have hlt := i1.lt hr.1 hr.2
    have hxk : x.1 ∈ G.ks := ((hck x.1).1 (GoMap.mem_ks.2 ⟨x.2.1, GoMap.get_iff.2 ⟨x.2.2, hr.1⟩⟩)).1.mem hc
    have hfs := flat_small hS xs
    have hps := hS.p x.1
    rcases hG with ⟨rfl, h0⟩ | ⟨b, bm, gm, rfl, hb, hgm, hp, hMG⟩
    · rw [h0] at hxk; cases hxk
    obtain ⟨q, hq⟩ := (hMG.keys x.1).1 hxk
    refine WC.skip ?_
    refine thenQ.normal ?_
    refine WC.block ?_
    refine WC.seq ?_
    refine WC.region ?_
    refine WL.op rfl ?_
    refine OpW.rd rfl rfl (Rd.entryMO (kenc := vs) (venc := vbl) (m := m3) (q := x) (seen := seen) rfl rfl (by repeat (first | assumption | exact mS | apply mT)) (by repeat (first | assumption | exact mS | apply mT)) hr.1 rfl) ?_
    refine WL.rd rfl rfl rfl (Rd.extract rfl rfl rfl) ?_
    refine WL.rd rfl rfl rfl (Rd.assign rfl rfl) ?_
    refine WL.nil ?_
    refine thenQ.normal ?_
    refine WC.region ?_
    refine WL.rd rfl rfl rfl (Rd.move rfl rfl) ?_
    refine WL.rd rfl rfl rfl (Rd.move rfl rfl) ?_
    refine WL.rd rfl rfl rfl (Rd.nilc rfl rfl) ?_
    refine WL.rd rfl rfl rfl ((by first | exact Rd.field rfl F59_0 rfl rfl | exact Rd.fieldE rfl F59_0 rfl (by repeat (first | assumption | exact mS | apply mT)) (by omega) | exact Rd.fieldA rfl F59_0 rfl (by repeat (first | assumption | exact mS | apply mT)) (by omega))) ?_
    refine WL.rd rfl rfl rfl (Rd.getGl rfl C57 rfl hb rfl) ?_
    refine WL.rd rfl rfl rfl (Rd.move rfl rfl) ?_
    refine WL.rd rfl rfl rfl (Rd.lookupR (k := x.1) M57 K9 rfl rfl rfl hgm rfl) ?_
    refine WL.say 35 (u := .agg #[vs q.1, slv q.2.1, vi q.2.2]) rfl (by rw [hq]; rfl) ?_
    refine WL.rd rfl rfl rfl (Rd.part (ft := 0) rfl Try.underlying30 rfl C28 rfl rfl rfl) ?_
    refine WL.heap (fun w h => h.weaken hp (fun w hw => hw _ _ hq)) ?_
    refine WL.op rfl ?_
    refine OpW.appendE (enc := SL.one vs) (ys := G.pars x.1) rfl S28 Try.underlying28 rfl rfl (by repeat (first | assumption | exact Take.head _ | apply Take.tail)) (by repeat (first | assumption | exact mS | apply mT)) (by intro x; first | rfl | (cases x; rfl) | (rcases x with ⟨_, _, _⟩; rfl) | (rcases x with ⟨_, _, _, _⟩; rfl)) (by intro x; first | rfl | (cases x; rfl) | (rcases x with ⟨_, _, _⟩; rfl) | (rcases x with ⟨_, _, _, _⟩; rfl)) ⟨by show _ ≤ 9223372036854775807; omega, by omega⟩ rfl rfl ?_; intro v37 hv37
    refine WL.rd rfl rfl rfl (Rd.assign rfl rfl) ?_
    refine WL.nil ?_
    refine blockQ.normal ?_
    exact loopQ3.mk (xs ++ [x.1]) (seen ++ [x.2.2]) v37 (i1.step hr.1 hr.2) (by rw [List.length_append, List.length_singleton]; omega) (by repeat (first | exact Sub.nil | refine Sub.cons rfl (by first | rfl | (congr 1; omega) | assumption) ?_)) (fun w h => by rw [List.flatMap_append, List.flatMap_singleton]; exact (fun w h => OwnL.sat (by repeat (first | exact OwnL.refl | apply OwnL.take (by repeat (first | exact Take.head _ | apply Take.tail)) | apply OwnL.drop)) w (h.thin (SubL.mem (by repeat (first | exact SubL.refl | refine SubL.cons (by repeat (first | assumption | exact mS | apply mT)) ?_ | refine SubL.skip ?_))))) w h)
  · skip
    obtain rfl : r = none := by
      cases r with
      | some x => exact absurd rfl hc1
      | none => rfl
    have hall := i1.all hr
    have hfs := flat_small hS xs
    have hxl := i1.len.1
    refine WC.heap (fun w h => Sat.shareA (xs := xs.flatMap G.pars) (by repeat (first | assumption | exact Take.head _ | apply Take.tail)) h) ?_
    refine WC.heap (R' := SlE (SL.one vs) av (xs.flatMap G.pars) :: R) (O' := mapC vs vbl b15 m3 :: O) (fun w h => OwnL.sat (by repeat (first | exact OwnL.refl | apply OwnL.take (by repeat (first | exact Take.head _ | apply Take.tail)) | apply OwnL.drop)) w (h.thin (SubL.mem (by repeat (first | exact SubL.refl | refine SubL.cons (by repeat (first | assumption | exact mS | apply mT)) ?_ | refine SubL.skip ?_))))) ?_
    refine WC.exit ?_
    refine thenQ.exit ?_
    refine loopQ3.exit ?_
    refine blockQ.exit ?_
    refine thenQ.normal ?_
    refine WC.seq ?_
    refine WC.region ?_
    refine WL.rd rfl rfl rfl (Rd.move rfl rfl) ?_
    refine WL.rd rfl rfl rfl (Rd.move rfl rfl) ?_
    refine WL.op rfl ?_
    refine OpW.call rfl rfl (by repeat (first | exact Evs.nil | apply Evs.cons rfl)) (by kernel_rfl) rfl rfl rfl ?_
    refine mark_spec (fs := xs.flatMap G.pars) (hG.mono fun p hp => List.mem_cons_of_mem _ hp) hc List.mem_cons_self (by omega) ?_; intro b40 m4 hm4 hml4
    refine WL.heap (fun w h => Sat.shareM (m := m4) (by repeat (first | assumption | exact Take.head _ | apply Take.tail)) h) ?_
    refine WL.op rfl ?_
    refine OpW.alloc rfl I69 rfl (by repeat (first | exact NF.nil | apply NF.cons)) rfl rfl ?_; intro b11
    refine WL.op rfl ?_
    refine OpW.store1 rfl Z69 rfl rfl (by first | exact ⟨rfl, rfl⟩ | assumption) (by repeat (first | assumption | exact Take.head _ | apply Take.tail)) (by first | (simp; done) | omega | exact of_decide_eq_true rfl | (simp only [List.length_append, List.length_replicate, List.length_map, List.length_set]; omega)) rfl ?_
    refine WL.nil ?_
    refine thenQ.normal ?_
    refine WC.seq ?_
    refine WC.region ?_
    refine WL.rd rfl rfl rfl (Rd.move rfl rfl) ?_
    refine WL.rd rfl rfl rfl (Rd.func rfl (by repeat (first | exact Evs.nil | apply Evs.cons rfl)) (by repeat (first | exact Evs.nil | apply Evs.cons rfl)) ⟨_, rfl⟩) ?_
    refine WL.op rfl ?_
    refine OpW.call rfl rfl (by repeat (first | exact Evs.nil | apply Evs.cons rfl)) (by kernel_rfl) rfl rfl rfl ?_
    refine Fun.heap (R' := mapP vs vbl b40 m4 :: R) (O' := mapC vs vbl b15 m3 :: rowC b11 69 [.map (some b40)] :: O) (fun w h => OwnL.sat (by repeat (first | exact OwnL.refl | apply OwnL.take (by repeat (first | exact Take.head _ | apply Take.tail)) | apply OwnL.drop)) w (h.thin (SubL.mem (by repeat (first | exact SubL.refl | refine SubL.cons (by repeat (first | assumption | exact mS | apply mT)) ?_ | refine SubL.skip ?_))))) ?_
    refine strike_spec (bx := b11) (m := m3) (gone := fun s => Come G (xs.flatMap G.pars) s) (by kernel_rfl) List.mem_cons_self (fun s => Classical.em _) (fun s v O' POST h1 h2 => isWorse_spec List.mem_cons_self hm4 h1 h2) ?_
    intro m5 hm5 hml5
    have habove : ∀ k, Come G (xs.flatMap G.pars) k ↔ ∃ c, Common G a b c ∧ ∃ p ∈ G.pars c, Path G p k := fun k => by
      constructor
      · rintro ⟨p, hp, hpk, hpp⟩
        obtain ⟨c, hcx, hpc⟩ := List.mem_flatMap.1 hp
        exact ⟨c, (hck c).1 (hall.mem_iff.1 hcx), p, hpc, hpp⟩
      · rintro ⟨c, hcc, p, hpc, hpp⟩
        exact ⟨p, List.mem_flatMap.2 ⟨c, hall.mem_iff.2 ((hck c).2 hcc), hpc⟩, hc c (hcc.1.mem hc) p hpc, hpp⟩
    have hfin : ∀ k, k ∈ m5.ks ↔ BaseP G a b k := fun k => by
      rw [GoMap.mem_ks]
      unfold BaseP
      rw [← habove k]
      constructor
      · rintro ⟨v, e⟩
        have h := (hm5 k v).1 e
        exact ⟨((hcm k v).1 h.2).2, h.1⟩
      · rintro ⟨h1, h2⟩
        exact ⟨true, (hm5 k true).2 ⟨h2, (hcm k true).2 ⟨rfl, h1⟩⟩⟩
    refine WL.heap (R' := R) (O' := mapC vs vbl b15 m5 :: O) (fun w h => OwnL.sat (by repeat (first | exact OwnL.refl | apply OwnL.take (by repeat (first | exact Take.head _ | apply Take.tail)) | apply OwnL.drop)) w (h.thin (SubL.mem (by repeat (first | exact SubL.refl | refine SubL.cons (by repeat (first | assumption | exact mS | apply mT)) ?_ | refine SubL.skip ?_))))) ?_
    refine WL.heap (fun w h => Sat.shareM (m := m5) (by repeat (first | assumption | exact Take.head _ | apply Take.tail)) h) ?_
    refine WL.nil ?_
    refine thenQ.normal ?_
    refine WC.seq ?_
    refine WC.region ?_
    refine WL.rd rfl rfl rfl (Rd.move rfl rfl) ?_
    refine WL.op rfl ?_
    refine OpW.call rfl rfl (by repeat (first | exact Evs.nil | apply Evs.cons rfl)) (by kernel_rfl) rfl rfl rfl ?_
    refine keysB_spec ?_; intro cb
    refine WL.op rfl ?_
    refine OpW.call rfl rfl (by repeat (first | exact Evs.nil | apply Evs.cons rfl)) (by kernel_rfl) rfl rfl rfl ?_
    refine sorted_it (keysB_it (m := m5) (b := b15) List.mem_cons_self) (by kernel_rfl) (by omega) (fun xs hx => by have := hx.length_eq; simp [GoMap.ks] at this; omega) (fun c hc => by rw [List.mem_singleton.1 hc]; exact List.mem_cons_self) ?_
    intro v46 ys hys
    have ha := asc_srt hys
    refine WL.rd rfl rfl rfl (Rd.assign rfl rfl) ?_
    refine WL.nil ?_
    refine thenQ.normal ?_
    refine WC.heap (R' := R) (O' := accT v46 (srt ys) :: O) (fun w h => OwnL.sat (by repeat (first | exact OwnL.refl | apply OwnL.take (by repeat (first | exact Take.head _ | apply Take.tail)) | apply OwnL.drop)) w (h.thin (SubL.mem (by repeat (first | exact SubL.refl | refine SubL.cons (by repeat (first | assumption | exact mS | apply mT)) ?_ | refine SubL.skip ?_))))) ?_
    refine WC.ret (Ret.one Try.results14 rfl ?_)
    exact hk v46 _ ha.1 (fun k => (ha.2 k).trans (hfin k))
end
end Go.Proofs.Ytfenbhaehkkkeaa
