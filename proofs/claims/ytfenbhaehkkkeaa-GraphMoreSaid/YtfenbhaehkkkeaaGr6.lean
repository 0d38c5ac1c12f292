/-
  Layer 18: Reach, Ancestor, Bases.
-/
import Derived.Test.YtfenbhaehkkkeaaGr5
import Derived.Test.YtfenbhaehkkkeaaRno
namespace Go.Proofs.Ytfenbhaehkkkeaa
open Go Go.SL
noncomputable instance (G : PG) (fs : List T) (y : T) : Decidable (Come G fs y) := Classical.propDecidable _
structure Small (G : PG) : Prop where
  n : G.ks.length ≤ 1000
  p : ∀ x, (G.pars x).length ≤ 100
theorem sum_small {f : T → Nat} {c : Nat} (h : ∀ x, f x ≤ c) : ∀ l : List T, (l.map f).sum ≤ c * l.length
  | [] => by simp
  | a :: l => by
    have := sum_small h l
    have := h a
    rw [List.map_cons, List.sum_cons, List.length_cons, Nat.mul_add]; omega
theorem Small.rest {G : PG} (h : Small G) (p : T → Bool) : restSum G p ≤ 100000 := by
  unfold restSum
  have h1 := sum_small (f := fun x => (G.pars x).length) h.p (G.ks.filter fun x => !p x)
  have h2 : (G.ks.filter fun x => !p x).length ≤ G.ks.length := List.length_filter_le _ _
  have h3 := h.n
  have : 100 * (G.ks.filter fun x => !p x).length ≤ 100 * 1000 := Nat.mul_le_mul_left _ (by omega)
  omega
theorem flat_small {G : PG} (h : Small G) (xs : List T) : (xs.flatMap G.pars).length ≤ 100 * xs.length := by
  induction xs with
  | nil => simp
  | cons a l ih => rw [List.flatMap_cons, List.length_append, List.length_cons, Nat.mul_add]; have := h.p a; omega
theorem boolAt {m : GoMap T Bool} {id : T} : ((m.get id).map vbl).getD (.bool false) = .bool (decide (m.get id = some true)) := by cases m.get id with | none => rfl | some b => cases b <;> rfl
theorem MarkIs.iff {G : PG} {fs : List T} {m : GoMap T Bool} (h : MarkIs G fs m) (id : T) : m.get id = some true ↔ Come G fs id := ⟨fun e => (h.get id _ e).2, h.all id⟩
theorem MarkIs.ks {G : PG} {fs : List T} {m : GoMap T Bool} (h : MarkIs G fs m) (id : T) : id ∈ m.ks ↔ Come G fs id := by
  rw [GoMap.mem_ks]
  exact ⟨fun ⟨v, e⟩ => (h.get id v e).2, fun e => ⟨_, h.all id e⟩⟩
theorem asc_srt {β : Type} {m : GoMap T β} {xs : List T} (h : xs.Perm m.ks) : Asc (srt xs) ∧ ∀ k, k ∈ srt xs ↔ k ∈ m.ks :=
  ⟨(sort_asc (h.nodup_iff.2 m.keys)).1, fun _ => ((srt_perm xs).trans h).mem_iff⟩
/-! ### entries struck out while they are gone through -/
structure Struck {β : Type} (gone : T → Prop) (m m' : GoMap T β) (seen : List Nat) : Prop where
  sub : ∀ x ∈ m'.l, x ∈ m.l
  new : ∀ x ∈ m.l, x.2.2 ∉ seen → x ∈ m'.l
  old : ∀ x ∈ m.l, x.2.2 ∈ seen → (x ∈ m'.l ↔ ¬ gone x.1)
  nd : seen.Nodup
  st : ∀ s ∈ seen, s ∈ m.l.map (·.2.2)
theorem Struck.start {β : Type} (gone : T → Prop) (m : GoMap T β) : Struck gone m m [] := ⟨fun _ h => h, fun _ h _ => h, fun _ _ h => absurd h List.not_mem_nil, List.nodup_nil, fun _ h => absurd h List.not_mem_nil⟩
theorem entry_eq {β : Type} {m : GoMap T β} {x y : T × β × Nat} (hx : x ∈ m.l) (hy : y ∈ m.l) (h : x.2.2 = y.2.2 ∨ x.1 = y.1) : x = y := by
  rcases h with h | h
  · exact GoMap.nodup_inj (f := fun x : T × β × Nat => x.2.2) m.born hx hy h
  · exact GoMap.nodup_inj (f := fun x : T × β × Nat => x.1) m.keys hx hy h
theorem Struck.step {β : Type} {gone : T → Prop} {m m' : GoMap T β} {seen : List Nat} {x : T × β × Nat} (h : Struck gone m m' seen) (hx : x ∈ m'.l) (hs : x.2.2 ∉ seen) (m2 : GoMap T β)
    (h2 : (gone x.1 ∧ m2 = m'.del x.1) ∨ (¬ gone x.1 ∧ m2 = m')) : Struck gone m m2 (seen ++ [x.2.2]) := by
  have hxm := h.sub x hx
  have mem2 : ∀ y, y ∈ m2.l ↔ y ∈ m'.l ∧ (gone x.1 → y ≠ x) := fun y => by
    rcases h2 with ⟨hg, rfl⟩ | ⟨hg, rfl⟩
    · show y ∈ m'.l.filter (fun z => decide (z.1 ≠ x.1)) ↔ _
      rw [List.mem_filter]
      constructor
      · rintro ⟨h1, h3⟩
        exact ⟨h1, fun _ e => (of_decide_eq_true h3) (by rw [e])⟩
      · rintro ⟨h1, h3⟩
        exact ⟨h1, decide_eq_true fun e => h3 hg (entry_eq (h.sub y h1) hxm (.inr e))⟩
    · exact ⟨fun h1 => ⟨h1, fun g => absurd g hg⟩, fun h1 => h1.1⟩
  refine ⟨fun y hy => h.sub y ((mem2 y).1 hy).1, fun y hy hn => ?_, fun y hy hm => ?_, ?_, fun s hsm => ?_⟩
  · rw [List.mem_append, List.mem_singleton, not_or] at hn
    exact (mem2 y).2 ⟨h.new y hy hn.1, fun _ e => hn.2 (by rw [e])⟩
  · rw [mem2]
    rw [List.mem_append, List.mem_singleton] at hm
    by_cases e : y = x
    · subst e
      exact ⟨fun g => fun hg => g.2 hg rfl, fun g => ⟨hx, fun hg => absurd hg g⟩⟩
    · have hy2 : y.2.2 ∈ seen := by
        rcases hm with hm | hm
        · exact hm
        · exact absurd (entry_eq hy hxm (.inl hm)) e
      rw [h.old y hy hy2]
      exact ⟨fun g => g.1, fun g => ⟨g, fun _ => e⟩⟩
  · rw [List.nodup_append]
    exact ⟨h.nd, by simp, fun a ha b hb => by rw [List.mem_singleton.1 hb]; rintro rfl; exact hs ha⟩
  · rcases List.mem_append.1 hsm with g | g
    · exact h.st s g
    · rw [List.mem_singleton.1 g]; exact List.mem_map_of_mem hxm
theorem Struck.len {β : Type} {gone : T → Prop} {m m' : GoMap T β} {seen : List Nat} (h : Struck gone m m' seen) : seen.length ≤ m.l.length := by
  have := nodup_len h.nd (l' := m.l.map (·.2.2)) h.st
  rwa [List.length_map] at this
theorem Struck.all {β : Type} {gone : T → Prop} {m m' : GoMap T β} {seen : List Nat} (h : Struck gone m m' seen) (ha : ∀ x ∈ m'.l, x.2.2 ∈ seen) : ∀ id v, m'.get id = some v ↔ ¬ gone id ∧ m.get id = some v := fun id v => by
  rw [GoMap.get_iff, GoMap.get_iff]
  constructor
  · rintro ⟨b, hb⟩
    exact ⟨(h.old _ (h.sub _ hb) (ha _ hb)).1 hb, b, h.sub _ hb⟩
  · rintro ⟨hg, b, hb⟩
    refine ⟨b, ?_⟩
    by_cases hs : b ∈ seen
    · exact (h.old _ hb hs).2 hg
    · exact h.new _ hb hs
section
variable {R : List RO} {O O' : List Own} {POST : Value → List RO → List Own → Prop} {gv : Value} {G : PG}
set_option maxRecDepth 20000 in
theorem reach_spec {fs : List T} {fv : Value} (hG : GV gv G R) (hc : Closed G) (hS : Small G) (hf : SlE (SL.one vs) fv fs ∈ R) (hsz : fs.length ≤ 500000) (hk : ∀ v ks, Asc ks → (∀ k, k ∈ ks ↔ Come G fs k) → POST v R (accT v ks :: O)) :
    Fun Try.prog 20 #[gv, fv] R O POST := by
  have hr := hS.rest fun _ => false
  have hn := hS.n
  refine Fun.enter (l := [_, _]) Try.func20 rfl Try.ntmps20 rfl (L0 := [(0, _), (1, _)]) rfl ?_
  refine WC.seq ?_
  refine WC.region ?_
  refine WL.rd rfl rfl rfl (Rd.assign rfl rfl) ?_
  refine WL.nil ?_
  refine thenQ.normal ?_
  refine WC.seq ?_
  refine WC.region ?_
  refine WL.rd rfl rfl rfl (Rd.move rfl rfl) ?_
  refine WL.rd rfl rfl rfl (Rd.move rfl rfl) ?_
  refine WL.op rfl ?_
  refine OpW.call rfl rfl (by repeat (first | exact Evs.nil | apply Evs.cons rfl)) (by kernel_rfl) rfl rfl rfl ?_
  refine mark_spec hG hc hf (by omega) ?_; intro b7 m hm hml
  refine WL.heap (fun w h => Sat.shareM (m := m) (by repeat (first | assumption | exact Take.head _ | apply Take.tail)) h) ?_
  refine WL.op rfl ?_
  refine OpW.call rfl rfl (by repeat (first | exact Evs.nil | apply Evs.cons rfl)) (by kernel_rfl) rfl rfl rfl ?_
  refine keysB_spec ?_; intro cb
  refine WL.op rfl ?_
  refine OpW.call rfl rfl (by repeat (first | exact Evs.nil | apply Evs.cons rfl)) (by kernel_rfl) rfl rfl rfl ?_
  refine sorted_it (keysB_it (m := m) (b := b7) List.mem_cons_self) (by kernel_rfl) (by omega) (fun xs hx => by have := hx.length_eq; simp [GoMap.ks] at this; omega) (fun c hc => by rw [List.mem_singleton.1 hc]; exact List.mem_cons_self) ?_
  intro v9 xs hxs
  have ha := asc_srt hxs
  refine WL.rd rfl rfl rfl (Rd.assign rfl rfl) ?_
  refine WL.nil ?_
  refine thenQ.normal ?_
  refine WC.heap (R' := R) (O' := accT v9 (srt xs) :: O) (fun w h => OwnL.sat (by repeat (first | exact OwnL.refl | apply OwnL.take (by repeat (first | exact Take.head _ | apply Take.tail)) | apply OwnL.drop)) w (h.thin (SubL.mem (by repeat (first | exact SubL.refl | refine SubL.cons (by repeat (first | assumption | exact mS | apply mT)) ?_ | refine SubL.skip ?_))))) ?_
  refine WC.ret (Ret.one Try.results20 rfl ?_)
  exact hk v9 _ ha.1 (fun k => (ha.2 k).trans (hm.ks k))
set_option maxRecDepth 20000 in
theorem anc_spec {a b : T} (hG : GV gv G R) (hc : Closed G) (hS : Small G) (hk : POST (.bool (decide (Come G [b] a))) R O) : Fun Try.prog 16 #[gv, vs a, vs b] R O POST := by
  have hr := hS.rest fun _ => false
  refine Fun.enter (l := [_, _, _]) Try.func16 rfl Try.ntmps16 rfl (L0 := [(0, _), (1, _), (2, _)]) rfl ?_
  refine WC.seq ?_
  refine WC.region ?_
  refine WL.rd rfl rfl rfl (Rd.assign rfl rfl) ?_
  refine WL.nil ?_
  refine thenQ.normal ?_
  refine WC.seq ?_
  refine WC.region ?_
  refine WL.rd rfl rfl rfl (Rd.move rfl rfl) ?_
  refine WL.rd rfl rfl rfl (Rd.move rfl rfl) ?_
  refine WL.op rfl ?_
  refine OpW.buildSl (ps := [(0, _)]) rfl S28 (by repeat (first | exact Evs.nil | apply Evs.cons rfl)) rfl rfl (by repeat (first | exact CellsOf.nil | apply CellsOf.cons rfl)) (by kernel_rfl) rfl rfl rfl ?_; intro b9
  refine WL.heap (fun w h => Sat.shareRow (enc := SL.one vs) (xs := [b]) (by repeat (first | assumption | exact Take.head _ | apply Take.tail)) rfl rfl (by simp) h) ?_
  refine WL.op rfl ?_
  refine OpW.call rfl rfl (by repeat (first | exact Evs.nil | apply Evs.cons rfl)) (by kernel_rfl) rfl rfl rfl ?_
  refine mark_spec (fs := [b]) (hG.mono fun p hp => List.mem_cons_of_mem _ hp) hc List.mem_cons_self (by simp; omega) ?_; intro b10 m hm hml
  refine WL.rd rfl rfl rfl (Rd.move rfl rfl) ?_
  refine WL.rd rfl rfl rfl (Rd.lookup (k := a) M69 K9 rfl rfl rfl (by repeat (first | assumption | exact mS | apply mT)) rfl) ?_
  refine WL.say 12 (u := .bool (decide (Come G [b] a))) rfl (by rw [boolAt]; exact vb (hm.iff a)) ?_
  refine WL.rd rfl rfl rfl (Rd.assign rfl rfl) ?_
  refine WL.nil ?_
  refine thenQ.normal ?_
  refine WC.heap (R' := R) (O' := O) (fun w h => OwnL.sat (by repeat (first | exact OwnL.refl | apply OwnL.take (by repeat (first | exact Take.head _ | apply Take.tail)) | apply OwnL.drop)) w (h.thin (SubL.mem (by repeat (first | exact SubL.refl | refine SubL.cons (by repeat (first | assumption | exact mS | apply mT)) ?_ | refine SubL.skip ?_))))) ?_
  refine WC.ret (Ret.one Try.results16 rfl ?_)
  exact hk
set_option maxRecDepth 20000 in
/-- maps.DeleteFunc by what a closure asks of a map that is read. -/
theorem strike_spec {cf bx bm : Nat} {m : GoMap T Bool} {gone : T → Prop} {cells : List Value} (hcb : hasBody Try.prog cf = true) (hbx : rowC bx 69 cells ∈ O) (hgd : ∀ s, gone s ∨ ¬ gone s)
    (hq : ∀ (s : T) (v : Bool) (O' : List Own) (POST : Value → List RO → List Own → Prop), rowC bx 69 cells ∈ O' → (∀ g : Bool, (g = true ↔ gone s) → POST (.bool g) R O') → Fun Try.prog cf #[vs s, .bool v, .pointer (some ⟨bx, 0, none⟩)] R O' POST)
    (hk : ∀ m', (∀ id v, m'.get id = some v ↔ ¬ gone id ∧ m.get id = some v) → m'.l.length ≤ m.l.length → POST (.tuple #[]) R (mapC vs vbl bm m' :: O)) :
    Fun Try.prog 33 #[.map (some bm), .func (.func cf) #[] #[.pointer (some ⟨bx, 0, none⟩)]] R (mapC vs vbl bm m :: O) POST := by
  refine Fun.enter (l := [_, _]) Try.func33 rfl Try.ntmps33 rfl (L0 := [(0, _), (1, _)]) rfl ?_
  refine WC.seq ?_
  refine WC.region ?_
  refine WL.rd rfl rfl rfl (Rd.move rfl rfl) ?_
  refine WL.op rfl ?_
  refine OpW.rangeMO (kenc := vs) (venc := vbl) (m := m) M69 rfl rfl (by repeat (first | assumption | exact mS | apply mT)) rfl rfl ?_; intro it
  refine WL.nil ?_
  refine thenQ.normal ?_
  refine WC.block ?_
  refine WC.pick [0, 1, 7] (by repeat (first | exact Pick.nil | apply Pick.cons rfl)) ?_
  refine WC.loop2 0 (fun (m' : GoMap T Bool) (seen : List Nat) => []) (fun (m' : GoMap T Bool) (seen : List Nat) => iterC it bm m'.clock seen :: mapC vs vbl bm m' :: O) (fun (m' : GoMap T Bool) (seen : List Nat) => Struck gone m m' seen) (fun (m' : GoMap T Bool) (seen : List Nat) => m.l.length - seen.length) (m) ([]) (by repeat (first | exact Split.zero | apply Split.succ)) ?hinv1 (by repeat (first | exact Sub.nil | refine Sub.cons rfl (by first | rfl | (congr 1; omega) | assumption) ?_)) (fun _ h => h) ?_
  case hinv1 =>
    exact Struck.start gone m
  intro m' seen
  rintro i1
  refine WC.seq ?_
  refine WC.region ?_
  refine WL.op rfl ?_
  refine OpW.nextMO (kenc := vs) (venc := vbl) (m := m') (seen := seen) rfl rfl (by repeat (first | assumption | exact mS | apply mT)) (by repeat (first | assumption | exact Take.head _ | apply Take.tail)) rfl rfl ?_; intro r hr
  refine WL.rd rfl rfl rfl (Rd.stepOn rfl rfl) ?_
  refine WL.nil ?_
  refine thenQ.normal ?_
  refine WC.seq ?_
  first | refine WC.ite rfl (fun hc1 => ?_) (fun hc1 => ?_) | refine WC.cond rfl (fun hc1 => ?_) (fun hc1 => ?_)
  · skip
    obtain ⟨x, rfl⟩ := Option.isSome_iff_exists.1 hc1
    refine WC.skip ?_
    refine thenQ.normal ?_
    refine WC.block ?_
    refine WC.seq ?_
    refine WC.region ?_
    refine WL.op rfl ?_
    refine OpW.rd rfl rfl (Rd.entryMO (kenc := vs) (venc := vbl) (m := m') (q := x) (seen := seen) rfl rfl (by repeat (first | assumption | exact mS | apply mT)) (by repeat (first | assumption | exact mS | apply mT)) hr.1 rfl) ?_
    refine WL.rd rfl rfl rfl (Rd.extract rfl rfl rfl) ?_
    refine WL.rd rfl rfl rfl (Rd.extract rfl rfl rfl) ?_
    refine WL.rd rfl rfl rfl (Rd.assign rfl rfl) ?_
    refine WL.rd rfl rfl rfl (Rd.assign rfl rfl) ?_
    refine WL.nil ?_
    refine thenQ.normal ?_
    refine WC.seq ?_
    refine WC.region ?_
    refine WL.rd rfl rfl rfl (Rd.move rfl rfl) ?_
    refine WL.rd rfl rfl rfl (Rd.move rfl rfl) ?_
    refine WL.rd rfl rfl rfl (Rd.move rfl rfl) ?_
    refine WL.op rfl ?_
    refine OpW.call rfl rfl (by repeat (first | exact Evs.nil | apply Evs.cons rfl)) hcb rfl rfl rfl ?_
    refine hq x.1 x.2.1 _ _ (by repeat (first | exact hbx | apply mT)) ?_
    intro g hg
    have hsl := (i1.step hr.1 hr.2 (if g = true then m'.del x.1 else m') (by
      cases g with
      | true => exact .inl ⟨hg.1 rfl, rfl⟩
      | false => exact .inr ⟨fun h => Bool.noConfusion (hg.2 h), rfl⟩)).len
    rw [List.length_append, List.length_singleton] at hsl
    refine WL.nil ?_
    refine thenQ.normal ?_
    first | refine WC.ite rfl (fun hc2 => ?_) (fun hc2 => ?_) | refine WC.cond rfl (fun hc2 => ?_) (fun hc2 => ?_)
    · skip
      refine WC.region ?_
      refine WL.rd rfl rfl rfl (Rd.move rfl rfl) ?_
      refine WL.rd rfl rfl rfl (Rd.move rfl rfl) ?_
      refine WL.op rfl ?_
      refine OpW.delete M69 K9 rfl rfl rfl (by repeat (first | assumption | exact Take.head _ | apply Take.tail)) rfl rfl ?_
      refine WL.nil ?_
      refine blockQ.normal ?_
      exact loopQ2.mk (m'.del x.1) (seen ++ [x.2.2]) (i1.step hr.1 hr.2 _ (.inl ⟨hg.1 hc2, rfl⟩)) (by rw [List.length_append, List.length_singleton]; omega) (by repeat (first | exact Sub.nil | refine Sub.cons rfl (by first | rfl | (congr 1; omega) | assumption) ?_)) (fun w h => OwnL.sat (by repeat (first | exact OwnL.refl | apply OwnL.take (by repeat (first | exact Take.head _ | apply Take.tail)) | apply OwnL.drop)) w (h.thin (SubL.mem (by repeat (first | exact SubL.refl | refine SubL.cons (by repeat (first | assumption | exact mS | apply mT)) ?_ | refine SubL.skip ?_)))))
    · skip
      refine WC.skip ?_
      refine blockQ.normal ?_
      exact loopQ2.mk m' (seen ++ [x.2.2]) (i1.step hr.1 hr.2 _ (.inr ⟨fun h => Bool.noConfusion ((hg.2 h).symm.trans hc2), rfl⟩)) (by rw [List.length_append, List.length_singleton]; omega) (by repeat (first | exact Sub.nil | refine Sub.cons rfl (by first | rfl | (congr 1; omega) | assumption) ?_)) (fun w h => OwnL.sat (by repeat (first | exact OwnL.refl | apply OwnL.take (by repeat (first | exact Take.head _ | apply Take.tail)) | apply OwnL.drop)) w (h.thin (SubL.mem (by repeat (first | exact SubL.refl | refine SubL.cons (by repeat (first | assumption | exact mS | apply mT)) ?_ | refine SubL.skip ?_)))))
  · skip
    obtain rfl : r = none := by
      cases r with
      | some x => exact absurd rfl hc1
      | none => rfl
    have hfin := i1.all hr
    have hlen : m'.l.length ≤ m.l.length := by
      have := nodup_len (l := m'.l.map (·.1)) (l' := m.l.map (·.1)) m'.keys (fun k hk => by
        obtain ⟨y, hy, rfl⟩ := List.mem_map.1 hk
        exact List.mem_map_of_mem (i1.sub y hy))
      rwa [List.length_map, List.length_map] at this
    refine WC.heap (R' := R) (O' := mapC vs vbl bm m' :: O) (fun w h => OwnL.sat (by repeat (first | exact OwnL.refl | apply OwnL.take (by repeat (first | exact Take.head _ | apply Take.tail)) | apply OwnL.drop)) w (h.thin (SubL.mem (by repeat (first | exact SubL.refl | refine SubL.cons (by repeat (first | assumption | exact mS | apply mT)) ?_ | refine SubL.skip ?_))))) ?_
    refine WC.exit ?_
    refine thenQ.exit ?_
    refine loopQ2.exit ?_
    refine blockQ.exit ?_
    refine Ret.normal (Ret.zero Try.results33 ?_)
    exact hk m' hfin hlen
end
end Go.Proofs.Ytfenbhaehkkkeaa
