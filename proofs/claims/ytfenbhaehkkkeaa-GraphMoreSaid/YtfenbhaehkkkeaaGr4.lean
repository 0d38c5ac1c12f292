/-
  Layer 18: Has, mark.
-/
import Derived.Test.YtfenbhaehkkkeaaGr3
namespace Go.Proofs.Ytfenbhaehkkkeaa
open Go Go.SL
/-- What a graph's map holds. -/
structure MapG (m : GoMap T Nv) (G : PG) : Prop where
  keys : ∀ id, id ∈ G.ks ↔ ∃ q, m.get id = some q
  nd : ∀ id q, m.get id = some q → q.1 = id ∧ q.2.2 = G.time id
  len : m.l.length = G.ks.length
def parP (m : GoMap T Nv) (G : PG) : RO := fun w => ∀ id q, m.get id = some q → SlE (SL.one vs) (slv q.2.1) (G.pars id) w
inductive GV (gv : Value) (G : PG) (R : List RO) : Prop
  | nil (h : gv = .pointer none) (hk : G.ks = [])
  | some (b bm : Nat) (m : GoMap T Nv) (h : gv = .pointer (some ⟨b, 0, none⟩)) (hb : garr b [.map (some bm)] ∈ R) (hm : mapP vs ndV bm m ∈ R) (hp : parP m G ∈ R) (hG : MapG m G)
theorem GV.mono {gv : Value} {G : PG} {R R' : List RO} (h : GV gv G R) (hs : ∀ p ∈ R, p ∈ R') : GV gv G R' := by
  rcases h with ⟨h1, h2⟩ | ⟨b, bm, m, h1, h2, h3, h4, h5⟩
  · exact .nil h1 h2
  · exact .some b bm m h1 (hs _ h2) (hs _ h3) (hs _ h4) h5
theorem GV.one {gv : Value} {G : PG} {R : List RO} (h : GV gv G R) : OneV gv := by
  rcases h with ⟨rfl, _⟩ | ⟨b, bm, m, rfl, _⟩ <;> exact ⟨rfl, rfl⟩
def nd0 : Nv := ([], (none, 0, 0), 0)
def lk (m : GoMap T Nv) (id : T) : Nv := (m.get id).getD nd0
theorem lk_v {m : GoMap T Nv} {id : T} : ((m.get id).map ndV).getD (ndV nd0) = .agg #[vs (lk m id).1, slv (lk m id).2.1, vi (lk m id).2.2] := by
  unfold lk
  cases m.get id <;> rfl
theorem MapG.isSome {m : GoMap T Nv} {G : PG} (h : MapG m G) (id : T) : (m.get id).isSome = decide (id ∈ G.ks) := by
  by_cases g : id ∈ G.ks
  · obtain ⟨q, e⟩ := (h.keys id).1 g
    simp [g, e]
  · cases e : m.get id with
    | none => simp [g]
    | some q => exact absurd ((h.keys id).2 ⟨q, e⟩) g
section
variable {R : List RO} {O O' : List Own} {POST : Value → List RO → List Own → Prop} {gv : Value} {G : PG}
set_option maxRecDepth 20000 in
theorem hasN_spec {id : T} (hk : POST (.bool false) R O) : Fun Try.prog 19 #[.pointer none, vs id] R O POST := by
  refine Fun.enter (l := [_, _]) Try.func19 rfl Try.ntmps19 rfl (L0 := [(0, _), (1, _)]) rfl ?_
  refine WC.seq ?_
  refine WC.region ?_
  refine WL.rd rfl rfl rfl (Rd.assign rfl rfl) ?_
  refine WL.nil ?_
  refine thenQ.normal ?_
  refine WC.seq ?_
  refine WC.seq ?_
  refine WC.region ?_
  refine WL.rd rfl rfl rfl (Rd.move rfl rfl) ?_
  refine WL.rd rfl rfl rfl (Rd.peqN rfl Try.underlying32 rfl rfl) ?_
  refine WL.nil ?_
  refine thenQ.normal ?_
  first | refine WC.ite rfl (fun hc1 => ?_) (fun hc1 => ?_) | refine WC.cond rfl (fun hc1 => ?_) (fun hc1 => ?_)
  · skip
    refine WC.seq ?_
    refine WC.region ?_
    refine WL.rd rfl rfl rfl (Rd.assign rfl rfl) ?_
    refine WL.nil ?_
    refine thenQ.normal ?_
    refine WC.ret (Ret.one Try.results19 rfl ?_)
    exact hk
  · skip
    cases hc1
set_option maxRecDepth 20000 in
theorem has0_spec {id : T} {b bm : Nat} {m : GoMap T Nv} (hb : garr b [.map (some bm)] ∈ R) (hm : mapP vs ndV bm m ∈ R) (hG : MapG m G) (hk : ∀ b cs, POST (.bool (decide (id ∈ G.ks))) R (rowC b 30 cs :: O)) : Fun Try.prog 19 #[.pointer (some ⟨b, 0, none⟩), vs id] R O POST := by
  refine Fun.enter (l := [_, _]) Try.func19 rfl Try.ntmps19 rfl (L0 := [(0, _), (1, _)]) rfl ?_
  refine WC.seq ?_
  refine WC.region ?_
  refine WL.rd rfl rfl rfl (Rd.assign rfl rfl) ?_
  refine WL.nil ?_
  refine thenQ.normal ?_
  refine WC.seq ?_
  refine WC.seq ?_
  refine WC.region ?_
  refine WL.rd rfl rfl rfl (Rd.move rfl rfl) ?_
  refine WL.rd rfl rfl rfl (Rd.peqN rfl Try.underlying32 rfl rfl) ?_
  refine WL.nil ?_
  refine thenQ.normal ?_
  first | refine WC.ite rfl (fun hc1 => ?_) (fun hc1 => ?_) | refine WC.cond rfl (fun hc1 => ?_) (fun hc1 => ?_)
  · skip
    cases hc1
  · skip
    refine WC.skip ?_
    refine thenQ.normal ?_
    refine WC.seq ?_
    refine WC.region ?_
    refine WL.rd rfl rfl rfl (Rd.move rfl rfl) ?_
    refine WL.rd rfl rfl rfl (Rd.nilc rfl rfl) ?_
    refine WL.rd rfl rfl rfl ((by first | exact Rd.field rfl F59_0 rfl rfl | exact Rd.fieldE rfl F59_0 rfl (by repeat (first | assumption | exact mS | apply mT)) (by omega) | exact Rd.fieldA rfl F59_0 rfl (by repeat (first | assumption | exact mS | apply mT)) (by omega))) ?_
    refine WL.rd rfl rfl rfl (Rd.getGl rfl C57 rfl hb rfl) ?_
    refine WL.rd rfl rfl rfl (Rd.move rfl rfl) ?_
    refine WL.rd rfl rfl rfl (Rd.lookup2R (k := id) M57 K9 rfl rfl rfl hm rfl) ?_
    refine WL.say 15 (u := .tuple #[.agg #[vs (lk m id).1, slv (lk m id).2.1, vi (lk m id).2.2], .bool (decide (id ∈ G.ks))]) rfl (by rw [← hG.isSome, ← lk_v]; rfl) ?_
    refine WL.rd rfl rfl rfl (Rd.move rfl rfl) ?_
    refine WL.rd rfl rfl rfl (Rd.extract rfl rfl rfl) ?_
    refine WL.rd rfl rfl rfl (Rd.extract rfl rfl rfl) ?_
    refine WL.op rfl ?_
    refine OpW.alloc rfl I30 rfl (by repeat (first | exact NF.nil | apply NF.cons)) rfl rfl ?_; intro b5
    refine WL.op rfl ?_
    refine OpW.storeS rfl G30 rfl rfl (by repeat (first | exact NF.nil | apply NF.cons)) (by repeat (first | assumption | exact Take.head _ | apply Take.tail)) rfl rfl (by repeat (first | exact NF.nil | apply NF.cons)) rfl ?_
    refine WL.rd rfl rfl rfl (Rd.assign rfl rfl) ?_
    refine WL.nil ?_
    refine thenQ.normal ?_
    refine WC.seq ?_
    refine WC.region ?_
    refine WL.rd rfl rfl rfl (Rd.move rfl rfl) ?_
    refine WL.rd rfl rfl rfl (Rd.assign rfl rfl) ?_
    refine WL.nil ?_
    refine thenQ.normal ?_
    refine WC.ret (Ret.one Try.results19 rfl ?_)
    exact hk _ _
theorem has_spec {id : T} (hG : GV gv G R) (hk : POST (.bool (decide (id ∈ G.ks))) R O) : Fun Try.prog 19 #[gv, vs id] R O POST := by
  rcases hG with ⟨rfl, h0⟩ | ⟨b, bm, m, rfl, hb, hm, hp, hG⟩
  · rw [h0, show decide (id ∈ ([] : List T)) = false from by simp] at hk
    exact hasN_spec hk
  · refine Fun.thin (post' := fun v R' O' => v = .bool (decide (id ∈ G.ks)) ∧ R' = R ∧ ∃ b cs, O' = rowC b 30 cs :: O) (has0_spec hb hm hG fun b cs => ⟨rfl, rfl, b, cs, rfl⟩) ?_
    rintro v R' O' ⟨rfl, rfl, b', cs, rfl⟩
    exact ⟨_, _, hk, fun w h => h.drop⟩
set_option maxRecDepth 20000 in
theorem lacks_spec {id : T} {b : Nat} (hG : GV gv G R) (hb : rowC b 32 [gv] ∈ O) (hk : POST (.bool (decide (id ∉ G.ks))) R O) : Fun Try.prog 46 #[vs id, .pointer (some ⟨b, 0, none⟩)] R O POST := by
  refine Fun.enter (l := [_, _]) Try.func46 rfl Try.ntmps46 rfl (L0 := [(0, _), (1, _)]) rfl ?_
  refine WC.seq ?_
  refine WC.region ?_
  refine WL.rd rfl rfl rfl (Rd.assign rfl rfl) ?_
  refine WL.nil ?_
  refine thenQ.normal ?_
  refine WC.seq ?_
  refine WC.region ?_
  refine WL.rd rfl rfl rfl (Rd.row1 (off := 0) (u := gv) rfl C32 rfl hb rfl) ?_
  refine WL.rd rfl rfl rfl (Rd.move rfl rfl) ?_
  refine WL.op rfl ?_
  refine OpW.call rfl rfl (by repeat (first | exact Evs.nil | apply Evs.cons rfl)) (by kernel_rfl) rfl rfl rfl ?_
  refine has_spec hG ?_
  refine WL.rd rfl rfl rfl ((by first | exact Rd.notd rfl rfl | exact Rd.not rfl rfl)) ?_
  refine WL.rd rfl rfl rfl (Rd.assign rfl rfl) ?_
  refine WL.nil ?_
  refine thenQ.normal ?_
  refine WC.ret (Ret.one Try.results46 rfl ?_)
  exact hk
set_option maxRecDepth 20000 in
theorem lacks2_spec {id : T} {b : Nat} (hG : GV gv G R) (hb : rowC b 32 [gv] ∈ O) (hk : POST (.bool (decide (id ∉ G.ks))) R O) : Fun Try.prog 29 #[vs id, .pointer (some ⟨b, 0, none⟩)] R O POST := by
  refine Fun.enter (l := [_, _]) Try.func29 rfl Try.ntmps29 rfl (L0 := [(0, _), (1, _)]) rfl ?_
  refine WC.seq ?_
  refine WC.region ?_
  refine WL.rd rfl rfl rfl (Rd.assign rfl rfl) ?_
  refine WL.nil ?_
  refine thenQ.normal ?_
  refine WC.seq ?_
  refine WC.region ?_
  refine WL.rd rfl rfl rfl (Rd.row1 (off := 0) (u := gv) rfl C32 rfl hb rfl) ?_
  refine WL.rd rfl rfl rfl (Rd.move rfl rfl) ?_
  refine WL.op rfl ?_
  refine OpW.call rfl rfl (by repeat (first | exact Evs.nil | apply Evs.cons rfl)) (by kernel_rfl) rfl rfl rfl ?_
  refine has_spec hG ?_
  refine WL.rd rfl rfl rfl ((by first | exact Rd.notd rfl rfl | exact Rd.not rfl rfl)) ?_
  refine WL.rd rfl rfl rfl (Rd.assign rfl rfl) ?_
  refine WL.nil ?_
  refine thenQ.normal ?_
  refine WC.ret (Ret.one Try.results29 rfl ?_)
  exact hk
/-- The first that isn't there; of an own slice, of one that is read. -/
def FirstNot (G : PG) (xs : List T) (k : Int) : Prop := (k = -1 ∧ ∀ j, j < xs.length → xs[j]! ∈ G.ks) ∨ ∃ i : Nat, k = i ∧ i < xs.length ∧ (∀ j, j < i → xs[j]! ∈ G.ks) ∧ xs[i]! ∉ G.ks
set_option maxRecDepth 20000 in
theorem find_spec {xs : List T} {v : Value} {b : Nat} (hG : GV gv G R) (hb : rowC b 32 [gv] ∈ O) (hx : accT v xs ∈ O) (hl : xs.length ≤ 4294967296)
    (hk : ∀ k, FirstNot G xs k → POST (.int .i64 k) R O) :
    Fun Try.prog 41 #[v, .func (.func 46) #[] #[.pointer (some ⟨b, 0, none⟩)]] R O POST := by
  refine Fun.enter (l := [_, _]) Try.func41 rfl Try.ntmps41 rfl (L0 := [(0, _), (1, _)]) rfl ?_
  refine WC.seq ?_
  refine WC.region ?_
  refine WL.rd rfl rfl rfl (Rd.assign rfl rfl) ?_
  refine WL.nil ?_
  refine thenQ.normal ?_
  refine WC.seq ?_
  refine WC.seq ?_
  refine WC.region ?_
  refine WL.rd rfl rfl rfl (Rd.move rfl rfl) ?_
  refine WL.rd rfl rfl rfl (Rd.lenA (enc := SL.one vs) (xs := xs) rfl rfl Try.underlying28 hx) ?_
  refine WL.rd rfl rfl rfl (Rd.move rfl rfl) ?_
  refine WL.nil ?_
  refine thenQ.normal ?_
  refine WC.block ?_
  refine WC.pick [8, 0, 1, 7] (by repeat (first | exact Pick.nil | apply Pick.cons rfl)) ?_
  refine WC.loop1o 1 (fun (j : Nat) => [(8, vi j)]) (fun (j : Nat) => j ≤ xs.length ∧ ∀ i, i < j → xs[i]! ∈ G.ks) (fun (j : Nat) => xs.length - j) (0) (by repeat (first | exact Split.zero | apply Split.succ)) ?hinv1 (by repeat (first | exact Sub.nil | refine Sub.cons rfl (by first | rfl | (congr 1; omega) | assumption) ?_)) (fun _ h => h) ?_
  case hinv1 =>
    exact ⟨Nat.zero_le _, fun i h => absurd h (Nat.not_lt_zero _)⟩
  intro j
  rintro ⟨i1, i2⟩
  refine WC.seq ?_
  refine WC.region ?_
  refine WL.rd rfl rfl rfl (Rd.lss rfl rfl rfl) ?_
  refine WL.nil ?_
  refine thenQ.normal ?_
  refine WC.seq ?_
  first | refine WC.ite rfl (fun hc1 => ?_) (fun hc1 => ?_) | refine WC.cond rfl (fun hc1 => ?_) (fun hc1 => ?_)
  · skip
    refine WC.skip ?_
    refine thenQ.normal ?_
    refine WC.seq ?_
    refine WC.block ?_
    refine WC.seq ?_
    refine WC.region ?_
    refine WL.rd rfl rfl rfl (Rd.move rfl rfl) ?_
    refine WL.rd rfl rfl rfl (Rd.assign rfl rfl) ?_
    refine WL.nil ?_
    refine thenQ.normal ?_
    refine WC.seq ?_
    refine WC.region ?_
    refine WL.rd rfl rfl rfl (Rd.move rfl rfl) ?_
    refine WL.rd rfl rfl rfl (Rd.move rfl rfl) ?_
    refine WL.rd rfl rfl rfl (Rd.move rfl rfl) ?_
    refine WL.rd rfl rfl rfl (Rd.idxA1 (enc := SL.one vs) (xs := xs) (k := j) rfl S28 rfl rfl rfl hx (by omega)) ?_
    refine WL.rd rfl rfl rfl (Rd.getA (g := vs) (xs := xs) (k := j) rfl C9 rfl hx (get!_of_lt (by omega))) ?_
    refine WL.op rfl ?_
    refine OpW.call rfl rfl (by repeat (first | exact Evs.nil | apply Evs.cons rfl)) (by kernel_rfl) rfl rfl rfl ?_
    refine lacks_spec hG hb ?_
    refine WL.nil ?_
    refine thenQ.normal ?_
    first | refine WC.ite rfl (fun hc2 => ?_) (fun hc2 => ?_) | refine WC.cond rfl (fun hc2 => ?_) (fun hc2 => ?_)
    · skip
      refine WC.seq ?_
      refine WC.region ?_
      refine WL.rd rfl rfl rfl (Rd.move rfl rfl) ?_
      refine WL.rd rfl rfl rfl (Rd.assign rfl rfl) ?_
      refine WL.nil ?_
      refine thenQ.normal ?_
      refine WC.ret (Ret.one Try.results41 rfl ?_)
      exact hk _ (.inr ⟨j, rfl, by omega, i2, hc2⟩)
    · skip
      refine WC.skip ?_
      refine blockQ.normal ?_
      refine thenQ.normal ?_
      refine WC.region ?_
      refine WL.rd rfl rfl rfl (Rd.add rfl rfl rfl (by omega)) ?_
      refine WL.rd rfl rfl rfl (Rd.move rfl rfl) ?_
      refine WL.nil ?_
      exact loopQ1.mk (j + 1) ⟨by omega, fun i hi => by
      rcases Nat.lt_or_ge i j with h | h
      · exact i2 i h
      · obtain rfl : i = j := by omega
        exact Decidable.not_not.1 hc2⟩ (by omega) (by repeat (first | exact Sub.nil | refine Sub.cons rfl (by first | rfl | (congr 1; omega) | assumption) ?_)) (fun w h => OwnL.sat (by repeat (first | exact OwnL.refl | apply OwnL.take (by repeat (first | exact Take.head _ | apply Take.tail)) | apply OwnL.drop)) w (h.thin (SubL.mem (by repeat (first | exact SubL.refl | refine SubL.cons (by repeat (first | assumption | exact mS | apply mT)) ?_ | refine SubL.skip ?_)))))
  · skip
    refine WC.exit ?_
    refine thenQ.exit ?_
    refine loopQ1.exit ?_
    refine blockQ.exit ?_
    refine thenQ.normal ?_
    refine WC.seq ?_
    refine WC.region ?_
    refine WL.rd rfl rfl rfl (Rd.assign rfl rfl) ?_
    refine WL.nil ?_
    refine thenQ.normal ?_
    refine WC.ret (Ret.one Try.results41 rfl ?_)
    exact hk _ (.inl ⟨rfl, fun i hi => i2 i (by omega)⟩)
set_option maxRecDepth 20000 in
theorem find2_spec {xs : List T} {v : Value} {b : Nat} (hG : GV gv G R) (hb : rowC b 32 [gv] ∈ O) (hx : SlE (SL.one vs) v xs ∈ R) (hl : xs.length ≤ 4294967296)
    (hk : ∀ k, FirstNot G xs k → POST (.int .i64 k) R O) :
    Fun Try.prog 41 #[v, .func (.func 29) #[] #[.pointer (some ⟨b, 0, none⟩)]] R O POST := by
  refine Fun.enter (l := [_, _]) Try.func41 rfl Try.ntmps41 rfl (L0 := [(0, _), (1, _)]) rfl ?_
  refine WC.seq ?_
  refine WC.region ?_
  refine WL.rd rfl rfl rfl (Rd.assign rfl rfl) ?_
  refine WL.nil ?_
  refine thenQ.normal ?_
  refine WC.seq ?_
  refine WC.seq ?_
  refine WC.region ?_
  refine WL.rd rfl rfl rfl (Rd.move rfl rfl) ?_
  refine WL.rd rfl rfl rfl (Rd.lenE (enc := SL.one vs) (xs := xs) rfl rfl Try.underlying28 hx) ?_
  refine WL.rd rfl rfl rfl (Rd.move rfl rfl) ?_
  refine WL.nil ?_
  refine thenQ.normal ?_
  refine WC.block ?_
  refine WC.pick [8, 0, 1, 7] (by repeat (first | exact Pick.nil | apply Pick.cons rfl)) ?_
  refine WC.loop1o 1 (fun (j : Nat) => [(8, vi j)]) (fun (j : Nat) => j ≤ xs.length ∧ ∀ i, i < j → xs[i]! ∈ G.ks) (fun (j : Nat) => xs.length - j) (0) (by repeat (first | exact Split.zero | apply Split.succ)) ?hinv1 (by repeat (first | exact Sub.nil | refine Sub.cons rfl (by first | rfl | (congr 1; omega) | assumption) ?_)) (fun _ h => h) ?_
  case hinv1 =>
    exact ⟨Nat.zero_le _, fun i h => absurd h (Nat.not_lt_zero _)⟩
  intro j
  rintro ⟨i1, i2⟩
  refine WC.seq ?_
  refine WC.region ?_
  refine WL.rd rfl rfl rfl (Rd.lss rfl rfl rfl) ?_
  refine WL.nil ?_
  refine thenQ.normal ?_
  refine WC.seq ?_
  first | refine WC.ite rfl (fun hc1 => ?_) (fun hc1 => ?_) | refine WC.cond rfl (fun hc1 => ?_) (fun hc1 => ?_)
  · skip
    refine WC.skip ?_
    refine thenQ.normal ?_
    refine WC.seq ?_
    refine WC.block ?_
    refine WC.seq ?_
    refine WC.region ?_
    refine WL.rd rfl rfl rfl (Rd.move rfl rfl) ?_
    refine WL.rd rfl rfl rfl (Rd.assign rfl rfl) ?_
    refine WL.nil ?_
    refine thenQ.normal ?_
    refine WC.seq ?_
    refine WC.region ?_
    refine WL.rd rfl rfl rfl (Rd.move rfl rfl) ?_
    refine WL.rd rfl rfl rfl (Rd.move rfl rfl) ?_
    refine WL.rd rfl rfl rfl (Rd.move rfl rfl) ?_
    refine WL.rd rfl rfl rfl (Rd.idx1 (enc := SL.one vs) (xs := xs) (k := j) rfl S28 rfl rfl rfl hx (by omega)) ?_
    refine WL.rd rfl rfl rfl (Rd.get (g := vs) (xs := xs) (k := j) rfl C9 rfl hx (get!_of_lt (by omega))) ?_
    refine WL.op rfl ?_
    refine OpW.call rfl rfl (by repeat (first | exact Evs.nil | apply Evs.cons rfl)) (by kernel_rfl) rfl rfl rfl ?_
    refine lacks2_spec hG hb ?_
    refine WL.nil ?_
    refine thenQ.normal ?_
    first | refine WC.ite rfl (fun hc2 => ?_) (fun hc2 => ?_) | refine WC.cond rfl (fun hc2 => ?_) (fun hc2 => ?_)
    · skip
      refine WC.seq ?_
      refine WC.region ?_
      refine WL.rd rfl rfl rfl (Rd.move rfl rfl) ?_
      refine WL.rd rfl rfl rfl (Rd.assign rfl rfl) ?_
      refine WL.nil ?_
      refine thenQ.normal ?_
      refine WC.ret (Ret.one Try.results41 rfl ?_)
      exact hk _ (.inr ⟨j, rfl, by omega, i2, hc2⟩)
    · skip
      refine WC.skip ?_
      refine blockQ.normal ?_
      refine thenQ.normal ?_
      refine WC.region ?_
      refine WL.rd rfl rfl rfl (Rd.add rfl rfl rfl (by omega)) ?_
      refine WL.rd rfl rfl rfl (Rd.move rfl rfl) ?_
      refine WL.nil ?_
      exact loopQ1.mk (j + 1) ⟨by omega, fun i hi => by
      rcases Nat.lt_or_ge i j with h | h
      · exact i2 i h
      · obtain rfl : i = j := by omega
        exact Decidable.not_not.1 hc2⟩ (by omega) (by repeat (first | exact Sub.nil | refine Sub.cons rfl (by first | rfl | (congr 1; omega) | assumption) ?_)) (fun w h => OwnL.sat (by repeat (first | exact OwnL.refl | apply OwnL.take (by repeat (first | exact Take.head _ | apply Take.tail)) | apply OwnL.drop)) w (h.thin (SubL.mem (by repeat (first | exact SubL.refl | refine SubL.cons (by repeat (first | assumption | exact mS | apply mT)) ?_ | refine SubL.skip ?_)))))
  · skip
    refine WC.exit ?_
    refine thenQ.exit ?_
    refine loopQ1.exit ?_
    refine blockQ.exit ?_
    refine thenQ.normal ?_
    refine WC.seq ?_
    refine WC.region ?_
    refine WL.rd rfl rfl rfl (Rd.assign rfl rfl) ?_
    refine WL.nil ?_
    refine thenQ.normal ?_
    refine WC.ret (Ret.one Try.results41 rfl ?_)
    exact hk _ (.inl ⟨rfl, fun i hi => i2 i (by omega)⟩)
def allIn (G : PG) (xs : List T) : Bool := decide (∀ x ∈ xs, x ∈ G.ks)
theorem mem_get! {xs : List T} {x : T} (h : x ∈ xs) : ∃ j, j < xs.length ∧ xs[j]! = x := by
  obtain ⟨j, hj, e⟩ := List.getElem_of_mem h
  exact ⟨j, hj, by rw [getElem!_pos xs j hj, e]⟩
set_option maxRecDepth 20000 in
theorem contains_spec {xs : List T} {v : Value} {b : Nat} (hG : GV gv G R) (hb : rowC b 32 [gv] ∈ O) (hx : SlE (SL.one vs) v xs ∈ R) (hl : xs.length ≤ 4294967296)
    (hk : POST (.bool (decide (∃ x ∈ xs, x ∉ G.ks))) R O) : Fun Try.prog 28 #[v, .func (.func 29) #[] #[.pointer (some ⟨b, 0, none⟩)]] R O POST := by
  refine Fun.enter (l := [_, _]) Try.func28 rfl Try.ntmps28 rfl (L0 := [(0, _), (1, _)]) rfl ?_
  refine WC.seq ?_
  refine WC.region ?_
  refine WL.rd rfl rfl rfl (Rd.assign rfl rfl) ?_
  refine WL.nil ?_
  refine thenQ.normal ?_
  refine WC.seq ?_
  refine WC.region ?_
  refine WL.rd rfl rfl rfl (Rd.move rfl rfl) ?_
  refine WL.rd rfl rfl rfl (Rd.move rfl rfl) ?_
  refine WL.op rfl ?_
  refine OpW.call rfl rfl (by repeat (first | exact Evs.nil | apply Evs.cons rfl)) (by kernel_rfl) rfl rfl rfl ?_
  refine find2_spec hG hb hx hl ?_; intro k hk7
  refine WL.rd rfl rfl rfl (Rd.geq rfl rfl rfl) ?_
  refine WL.say 8 (u := .bool (decide (∃ x ∈ xs, x ∉ G.ks))) rfl (vb ⟨fun h => by
  rcases hk7 with ⟨rfl, _⟩ | ⟨i, _, h1, _, h3⟩
  · omega
  · exact ⟨_, get!_mem h1, h3⟩, fun ⟨x, hx, hn⟩ => by
  rcases hk7 with ⟨_, h⟩ | ⟨i, rfl, _⟩
  · obtain ⟨j, hj, e⟩ := mem_get! hx
    exact absurd (e ▸ h j hj) hn
  · omega⟩) ?_
  refine WL.rd rfl rfl rfl (Rd.assign rfl rfl) ?_
  refine WL.nil ?_
  refine thenQ.normal ?_
  refine WC.ret (Ret.one Try.results28 rfl ?_)
  exact hk
def stays (G : PG) (s : T) : Bool := decide (s ∈ G.ks)
theorem filter_all {p : T → Bool} {xs : List T} (h : ∀ j, j < xs.length → p xs[j]! = true) : xs.filter p = xs := by
  rw [List.filter_eq_self]
  intro a ha
  obtain ⟨j, hj, rfl⟩ := mem_get! ha
  exact h j hj
theorem filter_next (p : T → Bool) {xs : List T} {j : Nat} (h : j < xs.length) : (xs.take (j + 1)).filter p = (xs.take j).filter p ++ if p xs[j]! then [xs[j]!] else [] := by
  rw [List.take_add_one, get!_of_lt h, List.filter_append]
  simp only [Option.toList_some, List.filter_cons, List.filter_nil]
theorem drop_get {α : Type} [Inhabited α] {l : List α} {j : Nat} (h : j < l.length) : l.drop j = l[j]! :: l.drop (j + 1) := by
  rw [List.drop_eq_getElem_cons h, getElem!_pos l j h]
theorem drop_at {ys xs : List T} {j : Nat} (hl : ys.length = xs.length) (hj : j < xs.length) (h : ys.drop j = xs.drop j) : ys[j]! = xs[j]! ∧ ys.drop (j + 1) = xs.drop (j + 1) := by
  rw [drop_get (l := ys) (by omega), drop_get hj, List.cons.injEq] at h
  exact h
set_option maxRecDepth 20000 in
set_option maxHeartbeats 1000000 in
theorem delete_spec {xs : List T} {v : Value} {b : Nat} (hG : GV gv G R) (hb : rowC b 32 [gv] ∈ O) (hl : xs.length ≤ 4294967296)
    (hk : ∀ u, POST u R (accT u (xs.filter (stays G)) :: O)) : Fun Try.prog 44 #[v, .func (.func 46) #[] #[.pointer (some ⟨b, 0, none⟩)]] R (accT v xs :: O) POST := by
  obtain ⟨p, hp⟩ : ∃ p, p = stays G := ⟨_, rfl⟩
  refine Fun.enter (l := [_, _]) Try.func44 rfl Try.ntmps44 rfl (L0 := [(0, _), (1, _)]) rfl ?_
  refine WC.seq ?_
  refine WC.region ?_
  refine WL.rd rfl rfl rfl (Rd.assign rfl rfl) ?_
  refine WL.nil ?_
  refine thenQ.normal ?_
  refine WC.seq ?_
  refine WC.region ?_
  refine WL.rd rfl rfl rfl (Rd.move rfl rfl) ?_
  refine WL.rd rfl rfl rfl (Rd.move rfl rfl) ?_
  refine WL.op rfl ?_
  refine OpW.call rfl rfl (by repeat (first | exact Evs.nil | apply Evs.cons rfl)) (by kernel_rfl) rfl rfl rfl ?_
  refine find_spec hG (List.mem_cons_of_mem _ hb) List.mem_cons_self hl ?_; intro k hk10
  refine WL.rd rfl rfl rfl (Rd.assign rfl rfl) ?_
  refine WL.nil ?_
  refine thenQ.normal ?_
  refine WC.seq ?_
  refine WC.seq ?_
  refine WC.region ?_
  refine WL.rd rfl rfl rfl (Rd.move rfl rfl) ?_
  refine WL.rd rfl rfl rfl (Rd.eql rfl rfl rfl) ?_
  refine WL.nil ?_
  refine thenQ.normal ?_
  first | refine WC.ite rfl (fun hc1 => ?_) (fun hc1 => ?_) | refine WC.cond rfl (fun hc1 => ?_) (fun hc1 => ?_)
  · skip
    refine WC.seq ?_
    refine WC.region ?_
    refine WL.rd rfl rfl rfl (Rd.move rfl rfl) ?_
    refine WL.rd rfl rfl rfl (Rd.assign rfl rfl) ?_
    refine WL.nil ?_
    refine thenQ.normal ?_
    refine WC.ret (Ret.one Try.results44 rfl ?_)
    have e : xs.filter (stays G) = xs := by
      rcases hk10 with ⟨_, h1⟩ | ⟨i, rfl, _⟩
      · exact filter_all (fun j hj => decide_eq_true (h1 j hj))
      · omega
    have hk' := hk v
    rw [e] at hk'
    exact hk'
  · skip
    obtain ⟨i0, rfl, h1, h2, h3⟩ : ∃ i : Nat, k = i ∧ i < xs.length ∧ (∀ j, j < i → xs[j]! ∈ G.ks) ∧ xs[i]! ∉ G.ks := by
      rcases hk10 with ⟨h1, _⟩ | h1
      · exact absurd h1 hc1
      · exact h1
    have hf0 : (xs.take (i0 + 1)).filter p = xs.take i0 := by
      rw [filter_next p h1, hp, show stays G xs[i0]! = false from decide_eq_false h3, filter_all (xs := xs.take i0) (fun j hj => by
        rw [List.length_take] at hj
        have := h2 j (by omega)
        rw [getElem!_pos _ _ (by rw [List.length_take]; omega), List.getElem_take, ← getElem!_pos xs j (by omega)]
        exact decide_eq_true this)]
      simp
    refine WC.skip ?_
    refine thenQ.normal ?_
    refine WC.seq ?_
    refine WC.seq ?_
    refine WC.region ?_
    refine WL.rd rfl rfl rfl (Rd.move rfl rfl) ?_
    refine WL.rd rfl rfl rfl (Rd.add rfl rfl rfl (by omega)) ?_
    refine WL.rd rfl rfl rfl (Rd.assign rfl rfl) ?_
    refine WL.nil ?_
    refine thenQ.normal ?_
    refine WC.block ?_
    refine WC.pick [5, 6, 0, 1] (by repeat (first | exact Pick.nil | apply Pick.cons rfl)) ?_
    refine WC.loop3 2 (fun (i : Nat) (j : Nat) (ys : List T) => [(5, .int .i64 (i : Int)), (6, .int .i64 (j : Int))]) (fun (i : Nat) (j : Nat) (ys : List T) => accT v ys :: O) (fun (i : Nat) (j : Nat) (ys : List T) => i < j ∧ j ≤ xs.length ∧ ys.length = xs.length ∧ ys.take i = (xs.take j).filter p ∧ ys.drop j = xs.drop j) (fun (i : Nat) (j : Nat) (ys : List T) => xs.length - j) (i0) (i0 + 1) (xs) (by repeat (first | exact Split.zero | apply Split.succ)) ?hinv1 (by repeat (first | exact Sub.nil | refine Sub.cons rfl (by first | rfl | (congr 1; omega) | assumption) ?_)) (fun _ h => h) ?_
    case hinv1 =>
      exact ⟨by omega, by omega, rfl, hf0.symm, rfl⟩
    intro i j ys
    rintro ⟨i1, i2, i3, i4, i5⟩
    refine WC.seq ?_
    refine WC.seq ?_
    refine WC.region ?_
    refine WL.rd rfl rfl rfl (Rd.move rfl rfl) ?_
    refine WL.rd rfl rfl rfl (Rd.move rfl rfl) ?_
    refine WL.rd rfl rfl rfl (Rd.lenA rfl rfl Try.underlying28 List.mem_cons_self) ?_
    refine WL.rd rfl rfl rfl (Rd.lss rfl rfl rfl) ?_
    refine WL.nil ?_
    refine thenQ.normal ?_
    first | refine WC.ite rfl (fun hc2 => ?_) (fun hc2 => ?_) | refine WC.cond rfl (fun hc2 => ?_) (fun hc2 => ?_)
    · skip
      obtain ⟨d1, d2⟩ := drop_at i3 (by omega) i5
      have hfn := filter_next p (xs := xs) (j := j) (by omega)
      refine WC.skip ?_
      refine thenQ.normal ?_
      refine WC.seq ?_
      refine WC.block ?_
      refine WC.seq ?_
      refine WC.region ?_
      refine WL.rd rfl rfl rfl (Rd.move rfl rfl) ?_
      refine WL.rd rfl rfl rfl (Rd.move rfl rfl) ?_
      refine WL.rd rfl rfl rfl (Rd.idxA1 (k := j) rfl S28 rfl rfl rfl List.mem_cons_self (by omega)) ?_
      refine WL.rd rfl rfl rfl (Rd.getA (k := j) rfl C9 rfl List.mem_cons_self (get!_of_lt (by omega))) ?_
      refine WL.rd rfl rfl rfl (Rd.assign rfl rfl) ?_
      refine WL.nil ?_
      refine thenQ.normal ?_
      refine WC.seq ?_
      refine WC.region ?_
      refine WL.rd rfl rfl rfl (Rd.move rfl rfl) ?_
      refine WL.rd rfl rfl rfl (Rd.move rfl rfl) ?_
      refine WL.op rfl ?_
      refine OpW.call rfl rfl (by repeat (first | exact Evs.nil | apply Evs.cons rfl)) (by kernel_rfl) rfl rfl rfl ?_
      refine lacks_spec hG (List.mem_cons_of_mem _ hb) ?_
      rw [d1]
      refine WL.rd rfl rfl rfl ((by first | exact Rd.notd rfl rfl | exact Rd.not rfl rfl)) ?_
      refine WL.nil ?_
      refine thenQ.normal ?_
      first | refine WC.ite rfl (fun hc3 => ?_) (fun hc3 => ?_) | refine WC.cond rfl (fun hc3 => ?_) (fun hc3 => ?_)
      · skip
        refine WC.seq ?_
        refine WC.region ?_
        refine WL.rd rfl rfl rfl (Rd.move rfl rfl) ?_
        refine WL.rd rfl rfl rfl (Rd.move rfl rfl) ?_
        refine WL.rd rfl rfl rfl (Rd.move rfl rfl) ?_
        refine WL.rd rfl rfl rfl (Rd.idxA1 (k := i) rfl S28 rfl rfl rfl List.mem_cons_self (by omega)) ?_
        refine WL.op rfl ?_
        refine OpW.storeAcc (k := i) (a := xs[j]!) rfl Z9 rfl rfl rfl rfl (Take.head _) (by omega) rfl ?_
        refine WL.nil ?_
        refine thenQ.normal ?_
        refine WC.region ?_
        refine WL.rd rfl rfl rfl (Rd.move rfl rfl) ?_
        refine WL.rd rfl rfl rfl (Rd.add rfl rfl rfl (by omega)) ?_
        refine WL.rd rfl rfl rfl (Rd.assign rfl rfl) ?_
        refine WL.nil ?_
        refine blockQ.normal ?_
        refine thenQ.normal ?_
        refine WC.region ?_
        refine WL.rd rfl rfl rfl (Rd.move rfl rfl) ?_
        refine WL.rd rfl rfl rfl (Rd.add rfl rfl rfl (by omega)) ?_
        refine WL.rd rfl rfl rfl (Rd.assign rfl rfl) ?_
        refine WL.nil ?_
        exact loopQ3.mk (i + 1) (j + 1) (ys.set i xs[j]!) ⟨by omega, by omega, by rw [List.length_set, i3], by
        rw [List.take_add_one, List.take_set_of_le (Nat.le_refl _), i4, hfn, if_pos (by rw [hp]; simpa [stays] using hc3), List.getElem?_set_self (by omega)]; rfl, by
        rw [List.drop_set_of_lt (by omega), d2]⟩ (by omega) (by repeat (first | exact Sub.nil | refine Sub.cons rfl (by first | rfl | (congr 1; omega) | assumption) ?_)) (fun w h => OwnL.sat (by repeat (first | exact OwnL.refl | apply OwnL.take (by repeat (first | exact Take.head _ | apply Take.tail)) | apply OwnL.drop)) w (h.thin (SubL.mem (by repeat (first | exact SubL.refl | refine SubL.cons (by repeat (first | assumption | exact mS | apply mT)) ?_ | refine SubL.skip ?_)))))
      · skip
        refine WC.skip ?_
        refine blockQ.normal ?_
        refine thenQ.normal ?_
        refine WC.region ?_
        refine WL.rd rfl rfl rfl (Rd.move rfl rfl) ?_
        refine WL.rd rfl rfl rfl (Rd.add rfl rfl rfl (by omega)) ?_
        refine WL.rd rfl rfl rfl (Rd.assign rfl rfl) ?_
        refine WL.nil ?_
        exact loopQ3.mk i (j + 1) ys ⟨by omega, by omega, i3, by rw [i4, hfn, if_neg (by rw [hp]; simpa [stays] using hc3), List.append_nil], d2⟩ (by omega) (by repeat (first | exact Sub.nil | refine Sub.cons rfl (by first | rfl | (congr 1; omega) | assumption) ?_)) (fun w h => OwnL.sat (by repeat (first | exact OwnL.refl | apply OwnL.take (by repeat (first | exact Take.head _ | apply Take.tail)) | apply OwnL.drop)) w (h.thin (SubL.mem (by repeat (first | exact SubL.refl | refine SubL.cons (by repeat (first | assumption | exact mS | apply mT)) ?_ | refine SubL.skip ?_)))))
    · skip
      refine WC.exit ?_
      refine thenQ.exit ?_
      refine loopQ3.exit ?_
      refine blockQ.exit ?_
      refine thenQ.normal ?_
      refine WC.seq ?_
      refine WC.region ?_
      refine WL.rd rfl rfl rfl (Rd.move rfl rfl) ?_
      refine WL.rd rfl rfl rfl (Rd.move rfl rfl) ?_
      refine WL.rd rfl rfl rfl (Rd.cutA_l (lo := i) rfl S28 rfl rfl rfl List.mem_cons_self (by omega)) ?_
      refine WL.op rfl ?_
      refine OpW.clearAcc (a0 := []) rfl S28 rfl rfl rfl rfl rfl (Take.head _) (by omega) rfl ?_
      refine WL.nil ?_
      refine thenQ.normal ?_
      refine WC.seq ?_
      refine WC.region ?_
      refine WL.rd rfl rfl rfl (Rd.move rfl rfl) ?_
      refine WL.rd rfl rfl rfl (Rd.move rfl rfl) ?_
      refine WL.rd rfl rfl rfl (Rd.cutA_h (hi := i) rfl S28 rfl rfl rfl List.mem_cons_self (by simp; omega)) ?_
      refine WL.rd rfl rfl rfl (Rd.assign rfl rfl) ?_
      refine WL.nil ?_
      refine thenQ.normal ?_
      refine WC.heap (fun w h => Sat.cutAcc (enc := SL.one vs) (size := 1) (xs := ys.take i ++ List.replicate (ys.length - i) []) (hi := i) (Take.head _) (fun _ => rfl) (by simp; omega) h) ?_
      refine WC.ret (Ret.one Try.results44 rfl ?_)
      have e : (ys.take i ++ List.replicate (ys.length - i) []).take i = xs.filter (stays G) := by
        rw [List.take_append_of_le_length (by rw [List.length_take]; omega), List.take_take, Nat.min_self, i4, List.take_of_length_le (by omega), hp]
      rw [e]
      exact hk _
set_option maxRecDepth 20000 in
theorem clone_spec {xs : List T} {v : Value} (hx : SlE (SL.one vs) v xs ∈ R) (hl : xs.length ≤ 1000000) (hk : ∀ u, POST u R (accT u xs :: O)) : Fun Try.prog 45 #[v] R O POST := by
  refine Fun.know hx (φ := ∃ o c, v = .slice o xs.length c ∧ (o = none → xs = [])) (fun w h => by
    obtain ⟨o, c, h1, _, _, h2, _⟩ := h
    exact ⟨o, c, h1, fun e => List.length_eq_zero_iff.1 (h2 e)⟩) fun ⟨o, c, hv, h0⟩ => ?_
  subst hv
  refine Fun.enter (l := [_]) Try.func45 rfl Try.ntmps45 rfl (L0 := [(0, _)]) rfl ?_
  refine WC.seq ?_
  refine WC.region ?_
  refine WL.rd rfl rfl rfl (Rd.assign rfl rfl) ?_
  refine WL.nil ?_
  refine thenQ.normal ?_
  refine WC.seq ?_
  refine WC.seq ?_
  refine WC.region ?_
  refine WL.rd rfl rfl rfl (Rd.move rfl rfl) ?_
  refine WL.rd rfl rfl rfl (Rd.eqNil' rfl Try.underlying28 rfl rfl) ?_
  refine WL.nil ?_
  refine thenQ.normal ?_
  first | refine WC.ite rfl (fun hc1 => ?_) (fun hc1 => ?_) | refine WC.cond rfl (fun hc1 => ?_) (fun hc1 => ?_)
  · skip
    obtain rfl : xs = [] := h0 (by cases o with | none => rfl | some a => cases hc1)
    refine WC.heap (fun w h => Sat.accNil (e := 9) (size := 1) (enc := SL.one vs) h) ?_
    refine WC.seq ?_
    refine WC.region ?_
    refine WL.rd rfl rfl rfl (Rd.assign rfl rfl) ?_
    refine WL.nil ?_
    refine thenQ.normal ?_
    refine WC.ret (Ret.one Try.results45 rfl ?_)
    exact hk _
  · skip
    refine WC.skip ?_
    refine thenQ.normal ?_
    refine WC.seq ?_
    refine WC.region ?_
    refine WL.op rfl ?_
    refine OpW.buildSl (ps := []) rfl S28 (by repeat (first | exact Evs.nil | apply Evs.cons rfl)) rfl rfl (by repeat (first | exact CellsOf.nil | apply CellsOf.cons rfl)) (by kernel_rfl) rfl rfl rfl ?_; intro b5
    refine WL.heap (fun w h => Sat.accRow (enc := SL.one vs) (size := 1) (xs := []) (by repeat (first | assumption | exact Take.head _ | apply Take.tail)) rfl rfl (fun x => rfl) (by simp) h) ?_
    refine WL.rd rfl rfl rfl (Rd.move rfl rfl) ?_
    refine WL.op rfl ?_
    refine OpW.appendE (enc := SL.one vs) (ys := xs) rfl S28 Try.underlying28 rfl rfl (by repeat (first | assumption | exact Take.head _ | apply Take.tail)) hx (by intro x; first | rfl | (cases x; rfl) | (rcases x with ⟨_, _, _⟩; rfl) | (rcases x with ⟨_, _, _, _⟩; rfl)) (by intro x; first | rfl | (cases x; rfl) | (rcases x with ⟨_, _, _⟩; rfl) | (rcases x with ⟨_, _, _, _⟩; rfl)) (by first | assumption | exact ⟨by simp only [maxLen, List.length_append, List.length_nil, List.length_cons, List.length_drop, List.length_take, List.length_map]; omega, by first | omega | (simp only [List.length_append, List.length_nil, List.length_cons, List.length_drop, List.length_take, List.length_map]; omega)⟩) rfl rfl ?_; intro v7 hv7
    refine WL.rd rfl rfl rfl (Rd.assign rfl rfl) ?_
    refine WL.nil ?_
    refine thenQ.normal ?_
    refine WC.ret (Ret.one Try.results45 rfl ?_)
    exact hk _
end
end Go.Proofs.Ytfenbhaehkkkeaa
