/-
  Layer 18: the library's iterators: what they give, collected, sorted.
-/
import Derived.Test.YtfenbhaehkkkeaaTy
import Derived.Test.YtfenbhaehkkkeaaRf
import Derived.Test.YtfenbhaehkkkeaaRng
import Derived.Test.YtfenbhaehkkkeaaSrt
import Derived.Test.YtfenbhaehkkkeaaShelf
import Derived.Test.YtfenbhaehkkkeaaIter
namespace Go.SL
open Go
theorem WR.loop3 {P : Program} {ro : Option Nat} {n : Sz} {Q : Post} {L : Env} {R : List RO} {O : List Own} {c : Code} {α β γ : Type} (m : Nat) (ch : α → β → γ → Env) (OF : α → β → γ → List Own) (I : α → β → γ → Prop) (μ : α → β → γ → Nat) (x0 : α) (y0 : β) (z0 : γ) {pre Lc : Env} (_hs : Split m L pre Lc) (h0 : I x0 y0 z0) (hL : Sub (ch x0 y0 z0 ++ Lc) L) (hS : ∀ w, Sat R O w → Sat R (OF x0 y0 z0) w)
    (round : ∀ x y z, I x y z → WR ro P n c (loopQ3 ch Lc (fun _ _ _ => R) OF I μ (μ x y z) Q) (ch x y z ++ Lc) R (OF x y z)) : WR ro P n (.loop c) Q L R O :=
  WR.loop (α := α × β × γ) (fun q => ch q.1 q.2.1 q.2.2 ++ Lc) (fun _ => R) (fun q => OF q.1 q.2.1 q.2.2) (fun q => I q.1 q.2.1 q.2.2) (fun q => μ q.1 q.2.1 q.2.2) (x0, y0, z0) h0 hL hS (fun q hq => round q.1 q.2.1 q.2.2 hq)
end Go.SL
namespace Go.Proofs.Ytfenbhaehkkkeaa
open Go Go.SL
abbrev T := List UInt8
abbrev accT (v : Value) (xs : List T) : Own := accC 9 1 (SL.one vs) v xs
abbrev nilS : Value := .slice none 0 0
theorem get!_mem {β : Type} [Inhabited β] {l : List β} {i : Nat} (hi : i < l.length) : l[i]! ∈ l := by rw [getElem!_pos l i hi]; exact List.getElem_mem _
theorem take_snoc' {α : Type} [Inhabited α] {l : List α} {i : Nat} (h : i < l.length) : l.take (i + 1) = l.take i ++ [l[i]!] := by
  rw [List.take_add_one, List.getElem?_eq_getElem h, getElem!_pos l i h]; rfl
/-- What an iterator does, whatever the rounds do: 'I' is what the loop's caller holds when so much has come. -/
def ItOk (gf : Nat) (lb : List Value) (R : List RO) (C : List Own) (S : List T → Prop) (N : Nat) : Prop :=
  ∀ (γ : Type) (l : Nat) (c1 : Own) (I : List T → γ → List Own → List Own) (g0 : γ) (X : List Own) (POST : Value → List RO → List Own → Prop),
    (∀ c ∈ C, c ∈ X) → (∀ xs g c X, (I xs g (c :: X)).Perm (c :: I xs g X)) →
    (∀ xs g X x, xs.length < N → Yld Try.prog l [vs x] R (c1 :: I xs g X) (fun b R' O' => b = true ∧ ∃ g', ∀ w, Sat R' O' w → Sat R (c1 :: I (xs ++ [x]) g' X) w)) →
    (∀ xs g, S xs → POST (.tuple #[]) R (c1 :: I xs g X)) → Fun Try.prog gf (.func (.yield l) #[] #[] :: lb).toArray R (c1 :: I [] g0 X) POST
theorem it_mem {γ : Type} {I : List T → γ → List Own → List Own} (hP : ∀ xs g c X, (I xs g (c :: X)).Perm (c :: I xs g X)) {xs : List T} {g : γ} {c : Own} : ∀ {X : List Own}, c ∈ X → c ∈ I xs g X
  | [], h => by cases h
  | d :: X, h => by
    refine (hP xs g d X).mem_iff.2 ?_
    rcases List.mem_cons.1 h with rfl | h
    · exact List.mem_cons_self
    · exact List.mem_cons_of_mem _ (it_mem hP h)
section
variable {R : List RO} {O O' : List Own} {POST : Value → List RO → List Own → Prop}
set_option maxRecDepth 20000 in
theorem values_spec {v : Value} (hv : OneV v) (hk : ∀ b, POST (.func (.func 40) #[] #[.pointer (some ⟨b, 0, none⟩)]) R (rowC b 28 [v] :: O)) : Fun Try.prog 27 #[v] R O POST := by
  refine Fun.enter (l := [_]) Try.func27 rfl Try.ntmps27 rfl (L0 := [(0, _)]) rfl ?_
  refine WC.seq ?_
  refine WC.region ?_
  refine WL.op rfl ?_
  refine OpW.box1 rfl rfl (by first | exact ⟨rfl, rfl⟩ | assumption) rfl rfl ?_; intro b1
  refine WL.rd rfl rfl rfl (Rd.assign rfl rfl) ?_
  refine WL.nil ?_
  refine thenQ.normal ?_
  refine WC.seq ?_
  refine WC.region ?_
  refine WL.rd rfl rfl rfl (Rd.func rfl (by repeat (first | exact Evs.nil | apply Evs.cons rfl)) (by repeat (first | exact Evs.nil | apply Evs.cons rfl)) ⟨_, rfl⟩) ?_
  refine WL.rd rfl rfl rfl (Rd.assign rfl rfl) ?_
  refine WL.nil ?_
  refine thenQ.normal ?_
  refine WC.ret (Ret.one Try.results27 rfl ?_)
  exact hk _
set_option maxRecDepth 20000 in
theorem values_it {v : Value} {xs : List T} {b : Nat} (hx : SlE (SL.one vs) v xs ∈ R) (hl : xs.length ≤ 9000000000000000000) : ItOk 40 [.pointer (some ⟨b, 0, none⟩)] R [rowC b 28 [v]] (fun ys => ys = xs) xs.length := by
  intro γ l c1 I g0 X POST hC hP hY hk
  have hb : ∀ {ys g}, rowC b 28 [v] ∈ c1 :: I ys g X := List.mem_cons_of_mem _ (it_mem hP (hC _ List.mem_cons_self))
  refine Fun.enterR (l := [_, _]) Try.func40 rfl Try.ntmps40 rfl (L0 := [(0, _), (1, _)]) rfl ?_
  refine WR.seq ?_
  refine WR.region ?_
  refine WL.rd rfl rfl rfl (Rd.row1 (off := 0) (u := v) rfl C28 rfl hb rfl) ?_
  refine WL.rd rfl rfl rfl (Rd.lenE (enc := SL.one vs) (xs := xs) rfl rfl Try.underlying28 hx) ?_
  refine WL.rd rfl rfl rfl (Rd.move rfl rfl) ?_
  refine WL.nil ?_
  refine thenR.normal ?_
  refine WR.block ?_
  refine WR.pick [7, 0, 5, 6] (by repeat (first | exact Pick.nil | apply Pick.cons rfl)) ?_
  refine WR.loop2 1 (fun (i : Nat) (g : γ) => [(7, vi i)]) (fun (i : Nat) (g : γ) => c1 :: I (xs.take i) g X) (fun (i : Nat) (g : γ) => i ≤ xs.length) (fun (i : Nat) (g : γ) => xs.length - i) (0) (g0) (by repeat (first | exact Split.zero | apply Split.succ)) ?hinv1 (by repeat (first | exact Sub.nil | refine Sub.cons rfl (by first | rfl | (congr 1; omega) | assumption) ?_)) (fun _ h => h) ?_
  case hinv1 =>
    exact Nat.zero_le _
  intro i g
  rintro i1
  refine WR.seq ?_
  refine WR.region ?_
  refine WL.rd rfl rfl rfl (Rd.lss rfl rfl rfl) ?_
  refine WL.nil ?_
  refine thenR.normal ?_
  refine WR.seq ?_
  first | refine WR.ite rfl (fun hc1 => ?_) (fun hc1 => ?_) | refine WR.cond rfl (fun hc1 => ?_) (fun hc1 => ?_)
  · skip
    refine WR.skip ?_
    refine thenR.normal ?_
    refine WR.seq ?_
    refine WR.block ?_
    refine WR.seq ?_
    refine WR.region ?_
    refine WL.rd rfl rfl rfl (Rd.idx1 (enc := SL.one vs) (xs := xs) (k := i) rfl S28 rfl rfl rfl hx (by omega)) ?_
    refine WL.rd rfl rfl rfl (Rd.get (g := vs) (xs := xs) (k := i) (a := xs[i]!) rfl C9 rfl hx (get!_of_lt (by omega))) ?_
    refine WL.rd rfl rfl rfl (Rd.assign rfl rfl) ?_
    refine WL.nil ?_
    refine thenR.normal ?_
    refine WR.seq ?_
    refine WR.regionY ?_
    refine WY.rd rfl rfl rfl (Rd.move rfl rfl) ?_
    refine WY.rd rfl rfl rfl (Rd.move rfl rfl) ?_
    refine WY.yield rfl rfl rfl (by repeat (first | exact Evs.nil | apply Evs.cons rfl)) rfl rfl ?_
    refine (hY (xs.take i) g X xs[i]! (by rw [List.length_take]; omega)).mono ?_; rintro b' R' O' ⟨rfl, g', hS⟩; refine WY.heap hS ?_
    refine WY.rd rfl rfl rfl ((by first | exact Rd.notd rfl rfl | exact Rd.not rfl rfl)) ?_
    refine WY.nil ?_
    refine thenR.normal ?_
    first | refine WR.ite rfl (fun hc2 => ?_) (fun hc2 => ?_) | refine WR.cond rfl (fun hc2 => ?_) (fun hc2 => ?_)
    · skip
      cases hc2
    · skip
      refine WR.skip ?_
      refine blockQ.normal ?_
      refine thenR.normal ?_
      refine WR.region ?_
      refine WL.rd rfl rfl rfl (Rd.add rfl rfl rfl (by omega)) ?_
      refine WL.rd rfl rfl rfl (Rd.move rfl rfl) ?_
      refine WL.nil ?_
      exact loopQ2.mk (i + 1) g' (by omega) (by omega) (by repeat (first | exact Sub.nil | refine Sub.cons rfl (by first | rfl | (congr 1; omega) | assumption) ?_)) (fun w h => by rw [take_snoc' (by omega)]; exact h)
  · skip
    refine WR.exit ?_
    refine thenR.exit ?_
    refine loopQ2.exit ?_
    refine blockQ.exit ?_
    refine Ret.normal (Ret.zero Try.results40 ?_)
    exact hk _ g (by rw [show i = xs.length by omega, List.take_length])
/-- A node as a map has it: its ID, its parents' slice, its time. -/
abbrev Nv := T × (Option Addr × Nat × Nat) × Int
abbrev slv (d : Option Addr × Nat × Nat) : Value := .slice d.1 d.2.1 d.2.2
def encN (x : Nv) : List Value := [vs x.1, slv x.2.1, vi x.2.2]
def ndV (x : Nv) : Value := .agg (encN x).toArray
/-- What has come of a map. -/
structure Came {β : Type} (m : GoMap T β) (xs : List T) (seen : List Nat) : Prop where
  ex : ∃ ys : List (T × β × Nat), ys.Nodup ∧ (∀ y ∈ ys, y ∈ m.l) ∧ seen = ys.map (·.2.2) ∧ xs = ys.map (·.1)
theorem mapl_nodup {β : Type} (m : GoMap T β) : m.l.Nodup := List.Pairwise.of_map (S := fun a b => a ≠ b) (fun x : T × β × Nat => x.1) (fun a b h e => h (by rw [e])) m.keys
theorem Came.start {β : Type} (m : GoMap T β) : Came m [] [] := ⟨[], List.nodup_nil, fun _ h => absurd h List.not_mem_nil, rfl, rfl⟩
theorem Came.step {β : Type} {m : GoMap T β} {xs : List T} {seen : List Nat} {x : T × β × Nat} (h : Came m xs seen) (h1 : x ∈ m.l) (h2 : x.2.2 ∉ seen) : Came m (xs ++ [x.1]) (seen ++ [x.2.2]) := by
  obtain ⟨ys, g1, g2, rfl, rfl⟩ := h.ex
  refine ⟨ys ++ [x], ?_, fun y hy => ?_, by simp, by simp⟩
  · rw [List.nodup_append]
    refine ⟨g1, by simp, fun a ha b hb => ?_⟩
    rw [List.mem_singleton.1 hb]
    rintro rfl
    exact h2 (List.mem_map_of_mem ha)
  · rcases List.mem_append.1 hy with h | h
    · exact g2 y h
    · rw [List.mem_singleton.1 h]; exact h1
theorem Came.len {β : Type} {m : GoMap T β} {xs : List T} {seen : List Nat} (h : Came m xs seen) : xs.length ≤ m.l.length ∧ seen.length = xs.length := by
  obtain ⟨ys, g1, g2, rfl, rfl⟩ := h.ex
  rw [List.length_map, List.length_map]
  haveI : DecidableEq (T × β × Nat) := fun a b => Classical.propDecidable (a = b)
  exact ⟨nodup_len g1 g2, rfl⟩
theorem Came.lt {β : Type} {m : GoMap T β} {xs : List T} {seen : List Nat} {x : T × β × Nat} (h : Came m xs seen) (h1 : x ∈ m.l) (h2 : x.2.2 ∉ seen) : xs.length < m.l.length := by
  have := (h.step h1 h2).len.1
  rw [List.length_append] at this
  simp at this; omega
theorem Came.all {β : Type} {m : GoMap T β} {xs : List T} {seen : List Nat} (h : Came m xs seen) (ha : ∀ x ∈ m.l, x.2.2 ∈ seen) : xs.Perm m.ks := by
  obtain ⟨ys, g1, g2, rfl, rfl⟩ := h.ex
  have hb : (m.l.map (·.2.2)).Nodup := m.born
  have : ys.Perm m.l := by
    rw [List.perm_ext_iff_of_nodup g1 (mapl_nodup m)]
    refine fun a => ⟨g2 a, fun hm => ?_⟩
    obtain ⟨y, hy, e⟩ := List.mem_map.1 (ha a hm)
    have := GoMap.nodup_inj (f := fun x : T × β × Nat => x.2.2) hb (g2 y hy) hm e
    exact this ▸ hy
  exact this.map _

set_option maxRecDepth 20000 in
theorem keysB_spec {b : Nat} (hk : ∀ cb, POST (.func (.func 47) #[] #[.pointer (some ⟨cb, 0, none⟩)]) R (rowC cb 69 [.map (some b)] :: O)) : Fun Try.prog 36 #[.map (some b)] R O POST := by
  refine Fun.enter (l := [_]) Try.func36 rfl Try.ntmps36 rfl (L0 := [(0, _)]) rfl ?_
  refine WC.seq ?_
  refine WC.region ?_
  refine WL.op rfl ?_
  refine OpW.box1 rfl rfl (by first | exact ⟨rfl, rfl⟩ | assumption) rfl rfl ?_; intro b1
  refine WL.rd rfl rfl rfl (Rd.assign rfl rfl) ?_
  refine WL.nil ?_
  refine thenQ.normal ?_
  refine WC.seq ?_
  refine WC.region ?_
  refine WL.rd rfl rfl rfl (Rd.func rfl (by repeat (first | exact Evs.nil | apply Evs.cons rfl)) (by repeat (first | exact Evs.nil | apply Evs.cons rfl)) ⟨_, rfl⟩) ?_
  refine WL.rd rfl rfl rfl (Rd.assign rfl rfl) ?_
  refine WL.nil ?_
  refine thenQ.normal ?_
  refine WC.ret (Ret.one Try.results36 rfl ?_)
  exact hk _
set_option maxRecDepth 20000 in
theorem keysB_it {m : GoMap T Bool} {b cb : Nat} (hm : mapP vs vbl b m ∈ R) : ItOk 47 [.pointer (some ⟨cb, 0, none⟩)] R [rowC cb 69 [.map (some b)]] (fun ys => ys.Perm m.ks) m.l.length := by
  intro γ l c1 I g0 X POST hC hP hY hk
  have hb : ∀ {ys g c}, rowC cb 69 [.map (some b)] ∈ c :: c1 :: I ys g X := List.mem_cons_of_mem _ (List.mem_cons_of_mem _ (it_mem hP (hC _ List.mem_cons_self)))
  have hb0 : ∀ {ys g}, rowC cb 69 [.map (some b)] ∈ c1 :: I ys g X := List.mem_cons_of_mem _ (it_mem hP (hC _ List.mem_cons_self))
  refine Fun.enterR (l := [_, _]) Try.func47 rfl Try.ntmps47 rfl (L0 := [(0, _), (1, _)]) rfl ?_
  refine WR.seq ?_
  refine WR.regionY ?_
  refine WY.rd rfl rfl rfl (Rd.row1 (off := 0) (u := .map (some b)) rfl C69 rfl hb0 rfl) ?_
  refine WY.op rfl ?_
  refine OpW.rangeM (kenc := vs) (venc := vbl) (m := m) M69 rfl rfl hm rfl rfl ?_; intro it
  refine WY.nil ?_
  refine thenR.normal ?_
  refine WR.block ?_
  refine WR.pick [0, 5] (by repeat (first | exact Pick.nil | apply Pick.cons rfl)) ?_
  refine WR.loop3 0 (fun (xs : List T) (seen : List Nat) (g : γ) => []) (fun (xs : List T) (seen : List Nat) (g : γ) => iterC it b m.clock seen :: c1 :: I xs g X) (fun (xs : List T) (seen : List Nat) (g : γ) => Came m xs seen) (fun (xs : List T) (seen : List Nat) (g : γ) => m.l.length - xs.length) ([]) ([]) (g0) (by repeat (first | exact Split.zero | apply Split.succ)) ?hinv1 (by repeat (first | exact Sub.nil | refine Sub.cons rfl (by first | rfl | (congr 1; omega) | assumption) ?_)) (fun _ h => h) ?_
  case hinv1 =>
    exact Came.start m
  intro xs seen g
  rintro i1
  refine WR.seq ?_
  refine WR.region ?_
  refine WL.op rfl ?_
  refine OpW.nextM (kenc := vs) (venc := vbl) (m := m) (seen := seen) rfl rfl hm (by repeat (first | assumption | exact Take.head _ | apply Take.tail)) rfl rfl ?_; intro r hr
  refine WL.rd rfl rfl rfl (Rd.stepOn rfl rfl) ?_
  refine WL.nil ?_
  refine thenR.normal ?_
  refine WR.seq ?_
  first | refine WR.ite rfl (fun hc1 => ?_) (fun hc1 => ?_) | refine WR.cond rfl (fun hc1 => ?_) (fun hc1 => ?_)
  · skip
    obtain ⟨x, rfl⟩ := Option.isSome_iff_exists.1 hc1
    refine WR.skip ?_
    refine thenR.normal ?_
    refine WR.block ?_
    refine WR.seq ?_
    refine WR.region ?_
    refine WL.op rfl ?_
    refine OpW.rd rfl rfl (Rd.entryM (kenc := vs) (venc := vbl) (m := m) (q := x) (seen := seen) rfl rfl hm (by repeat (first | assumption | exact mS | apply mT)) hr.1 rfl) ?_
    refine WL.rd rfl rfl rfl (Rd.extract rfl rfl rfl) ?_
    refine WL.rd rfl rfl rfl (Rd.assign rfl rfl) ?_
    refine WL.nil ?_
    refine thenR.normal ?_
    refine WR.seq ?_
    refine WR.regionY ?_
    refine WY.rd rfl rfl rfl (Rd.move rfl rfl) ?_
    refine WY.rd rfl rfl rfl (Rd.move rfl rfl) ?_
    refine WY.yield rfl rfl rfl (by repeat (first | exact Evs.nil | apply Evs.cons rfl)) rfl rfl ?_
    refine Yld.heap (R' := R) (O' := c1 :: I xs g (iterC it b m.clock (seen ++ [x.2.2]) :: X)) (fun w h => h.perm ?_) ?_
    · exact (List.Perm.swap _ _ _).trans (List.Perm.cons _ (hP _ _ _ _).symm)
    refine (hY xs g (iterC it b m.clock (seen ++ [x.2.2]) :: X) x.1 (i1.lt hr.1 hr.2)).mono ?_
    rintro b' R' O' ⟨rfl, g', hS⟩
    refine WY.heap (R' := R) (O' := iterC it b m.clock (seen ++ [x.2.2]) :: c1 :: I (xs ++ [x.1]) g' X) (fun w h => (hS w h).perm ?_) ?_
    · exact (List.Perm.cons _ (hP _ _ _ _)).trans (List.Perm.swap _ _ _)
    refine WY.rd rfl rfl rfl ((by first | exact Rd.notd rfl rfl | exact Rd.not rfl rfl)) ?_
    refine WY.nil ?_
    refine thenR.normal ?_
    first | refine WR.ite rfl (fun hc2 => ?_) (fun hc2 => ?_) | refine WR.cond rfl (fun hc2 => ?_) (fun hc2 => ?_)
    · skip
      cases hc2
    · skip
      refine WR.skip ?_
      refine blockQ.normal ?_
      exact loopQ3.mk (xs ++ [x.1]) (seen ++ [x.2.2]) g' (i1.step hr.1 hr.2) (by have := i1.lt hr.1 hr.2; rw [List.length_append]; simp; omega) (by repeat (first | exact Sub.nil | refine Sub.cons rfl (by first | rfl | (congr 1; omega) | assumption) ?_)) (fun w h => OwnL.sat (by repeat (first | exact OwnL.refl | apply OwnL.take (by repeat (first | exact Take.head _ | apply Take.tail)) | apply OwnL.drop)) w (h.thin (SubL.mem (by repeat (first | exact SubL.refl | refine SubL.cons (by repeat (first | assumption | exact mS | apply mT)) ?_ | refine SubL.skip ?_)))))
  · skip
    obtain rfl : r = none := by
      cases r with
      | some x => exact absurd rfl hc1
      | none => rfl
    refine WR.heap (R' := R) (O' := c1 :: I xs g X) (fun w h => OwnL.sat (by repeat (first | exact OwnL.refl | apply OwnL.take (by repeat (first | exact Take.head _ | apply Take.tail)) | apply OwnL.drop)) w (h.thin (SubL.mem (by repeat (first | exact SubL.refl | refine SubL.cons (by repeat (first | assumption | exact mS | apply mT)) ?_ | refine SubL.skip ?_))))) ?_
    refine WR.exit ?_
    refine thenR.exit ?_
    refine loopQ3.exit ?_
    refine blockQ.exit ?_
    refine Ret.normal (Ret.zero Try.results47 ?_)
    exact hk xs g (i1.all hr)

set_option maxRecDepth 20000 in
theorem keysN_spec {b : Nat} (hk : ∀ cb, POST (.func (.func 43) #[] #[.pointer (some ⟨cb, 0, none⟩)]) R (rowC cb 57 [.map (some b)] :: O)) : Fun Try.prog 31 #[.map (some b)] R O POST := by
  refine Fun.enter (l := [_]) Try.func31 rfl Try.ntmps31 rfl (L0 := [(0, _)]) rfl ?_
  refine WC.seq ?_
  refine WC.region ?_
  refine WL.op rfl ?_
  refine OpW.box1 rfl rfl (by first | exact ⟨rfl, rfl⟩ | assumption) rfl rfl ?_; intro b1
  refine WL.rd rfl rfl rfl (Rd.assign rfl rfl) ?_
  refine WL.nil ?_
  refine thenQ.normal ?_
  refine WC.seq ?_
  refine WC.region ?_
  refine WL.rd rfl rfl rfl (Rd.func rfl (by repeat (first | exact Evs.nil | apply Evs.cons rfl)) (by repeat (first | exact Evs.nil | apply Evs.cons rfl)) ⟨_, rfl⟩) ?_
  refine WL.rd rfl rfl rfl (Rd.assign rfl rfl) ?_
  refine WL.nil ?_
  refine thenQ.normal ?_
  refine WC.ret (Ret.one Try.results31 rfl ?_)
  exact hk _
set_option maxRecDepth 20000 in
theorem keysN_it {m : GoMap T Nv} {b cb : Nat} (hm : mapP vs ndV b m ∈ R) : ItOk 43 [.pointer (some ⟨cb, 0, none⟩)] R [rowC cb 57 [.map (some b)]] (fun ys => ys.Perm m.ks) m.l.length := by
  intro γ l c1 I g0 X POST hC hP hY hk
  have hb : ∀ {ys g c}, rowC cb 57 [.map (some b)] ∈ c :: c1 :: I ys g X := List.mem_cons_of_mem _ (List.mem_cons_of_mem _ (it_mem hP (hC _ List.mem_cons_self)))
  have hb0 : ∀ {ys g}, rowC cb 57 [.map (some b)] ∈ c1 :: I ys g X := List.mem_cons_of_mem _ (it_mem hP (hC _ List.mem_cons_self))
  refine Fun.enterR (l := [_, _]) Try.func43 rfl Try.ntmps43 rfl (L0 := [(0, _), (1, _)]) rfl ?_
  refine WR.seq ?_
  refine WR.regionY ?_
  refine WY.rd rfl rfl rfl (Rd.row1 (off := 0) (u := .map (some b)) rfl C57 rfl hb0 rfl) ?_
  refine WY.op rfl ?_
  refine OpW.rangeM (kenc := vs) (venc := ndV) (m := m) M57 rfl rfl hm rfl rfl ?_; intro it
  refine WY.nil ?_
  refine thenR.normal ?_
  refine WR.block ?_
  refine WR.pick [0, 5] (by repeat (first | exact Pick.nil | apply Pick.cons rfl)) ?_
  refine WR.loop3 0 (fun (xs : List T) (seen : List Nat) (g : γ) => []) (fun (xs : List T) (seen : List Nat) (g : γ) => iterC it b m.clock seen :: c1 :: I xs g X) (fun (xs : List T) (seen : List Nat) (g : γ) => Came m xs seen) (fun (xs : List T) (seen : List Nat) (g : γ) => m.l.length - xs.length) ([]) ([]) (g0) (by repeat (first | exact Split.zero | apply Split.succ)) ?hinv1 (by repeat (first | exact Sub.nil | refine Sub.cons rfl (by first | rfl | (congr 1; omega) | assumption) ?_)) (fun _ h => h) ?_
  case hinv1 =>
    exact Came.start m
  intro xs seen g
  rintro i1
  refine WR.seq ?_
  refine WR.region ?_
  refine WL.op rfl ?_
  refine OpW.nextM (kenc := vs) (venc := ndV) (m := m) (seen := seen) rfl rfl hm (by repeat (first | assumption | exact Take.head _ | apply Take.tail)) rfl rfl ?_; intro r hr
  refine WL.rd rfl rfl rfl (Rd.stepOn rfl rfl) ?_
  refine WL.nil ?_
  refine thenR.normal ?_
  refine WR.seq ?_
  first | refine WR.ite rfl (fun hc1 => ?_) (fun hc1 => ?_) | refine WR.cond rfl (fun hc1 => ?_) (fun hc1 => ?_)
  · skip
    obtain ⟨x, rfl⟩ := Option.isSome_iff_exists.1 hc1
    refine WR.skip ?_
    refine thenR.normal ?_
    refine WR.block ?_
    refine WR.seq ?_
    refine WR.region ?_
    refine WL.op rfl ?_
    refine OpW.rd rfl rfl (Rd.entryM (kenc := vs) (venc := ndV) (m := m) (q := x) (seen := seen) rfl rfl hm (by repeat (first | assumption | exact mS | apply mT)) hr.1 rfl) ?_
    refine WL.rd rfl rfl rfl (Rd.extract rfl rfl rfl) ?_
    refine WL.rd rfl rfl rfl (Rd.assign rfl rfl) ?_
    refine WL.nil ?_
    refine thenR.normal ?_
    refine WR.seq ?_
    refine WR.regionY ?_
    refine WY.rd rfl rfl rfl (Rd.move rfl rfl) ?_
    refine WY.rd rfl rfl rfl (Rd.move rfl rfl) ?_
    refine WY.yield rfl rfl rfl (by repeat (first | exact Evs.nil | apply Evs.cons rfl)) rfl rfl ?_
    refine Yld.heap (R' := R) (O' := c1 :: I xs g (iterC it b m.clock (seen ++ [x.2.2]) :: X)) (fun w h => h.perm ?_) ?_
    · exact (List.Perm.swap _ _ _).trans (List.Perm.cons _ (hP _ _ _ _).symm)
    refine (hY xs g (iterC it b m.clock (seen ++ [x.2.2]) :: X) x.1 (i1.lt hr.1 hr.2)).mono ?_
    rintro b' R' O' ⟨rfl, g', hS⟩
    refine WY.heap (R' := R) (O' := iterC it b m.clock (seen ++ [x.2.2]) :: c1 :: I (xs ++ [x.1]) g' X) (fun w h => (hS w h).perm ?_) ?_
    · exact (List.Perm.cons _ (hP _ _ _ _)).trans (List.Perm.swap _ _ _)
    refine WY.rd rfl rfl rfl ((by first | exact Rd.notd rfl rfl | exact Rd.not rfl rfl)) ?_
    refine WY.nil ?_
    refine thenR.normal ?_
    first | refine WR.ite rfl (fun hc2 => ?_) (fun hc2 => ?_) | refine WR.cond rfl (fun hc2 => ?_) (fun hc2 => ?_)
    · skip
      cases hc2
    · skip
      refine WR.skip ?_
      refine blockQ.normal ?_
      exact loopQ3.mk (xs ++ [x.1]) (seen ++ [x.2.2]) g' (i1.step hr.1 hr.2) (by have := i1.lt hr.1 hr.2; rw [List.length_append]; simp; omega) (by repeat (first | exact Sub.nil | refine Sub.cons rfl (by first | rfl | (congr 1; omega) | assumption) ?_)) (fun w h => OwnL.sat (by repeat (first | exact OwnL.refl | apply OwnL.take (by repeat (first | exact Take.head _ | apply Take.tail)) | apply OwnL.drop)) w (h.thin (SubL.mem (by repeat (first | exact SubL.refl | refine SubL.cons (by repeat (first | assumption | exact mS | apply mT)) ?_ | refine SubL.skip ?_)))))
  · skip
    obtain rfl : r = none := by
      cases r with
      | some x => exact absurd rfl hc1
      | none => rfl
    refine WR.heap (R' := R) (O' := c1 :: I xs g X) (fun w h => OwnL.sat (by repeat (first | exact OwnL.refl | apply OwnL.take (by repeat (first | exact Take.head _ | apply Take.tail)) | apply OwnL.drop)) w (h.thin (SubL.mem (by repeat (first | exact SubL.refl | refine SubL.cons (by repeat (first | assumption | exact mS | apply mT)) ?_ | refine SubL.skip ?_))))) ?_
    refine WR.exit ?_
    refine thenR.exit ?_
    refine loopQ3.exit ?_
    refine blockQ.exit ?_
    refine Ret.normal (Ret.zero Try.results43 ?_)
    exact hk xs g (i1.all hr)

set_option maxRecDepth 20000 in
theorem append_it {gf : Nat} {lb : List Value} {C : List Own} {S : List T → Prop} {N : Nat} (it : ItOk gf lb R C S N) (hb : hasBody Try.prog gf = true) (hN : N ≤ 1000000) (hC : ∀ c ∈ C, c ∈ O) (hk : ∀ v xs, S xs → POST v R (accT v xs :: O)) :
    Fun Try.prog 42 #[nilS, .func (.func gf) #[] lb.toArray] R O POST := by
  refine Fun.enter (l := [_, _]) Try.func42 rfl Try.ntmps42 rfl (L0 := [(0, _), (1, _)]) rfl ?_
  refine WC.seq ?_
  refine WC.region ?_
  refine WL.op rfl ?_
  refine OpW.box1 rfl rfl (by first | exact ⟨rfl, rfl⟩ | assumption) rfl rfl ?_; intro b2
  refine WL.heap (fun w h => Sat.accNil (e := 9) (size := 1) (enc := SL.one vs) h) ?_
  refine WL.rd rfl rfl rfl (Rd.assign rfl rfl) ?_
  refine WL.nil ?_
  refine thenQ.normal ?_
  refine WC.rangeSeq rfl ?_
  refine WC.region ?_
  refine WL.rd rfl rfl rfl (Rd.move rfl rfl) ?_
  refine WL.nil ?_
  refine rangeQ.normal ?_
  refine RangeOk.mk rfl (hb) ?_
  intro l0 D0
  refine Fun.heap (R' := R) (O' := recC l0 _ _ D0 .ready none _ _ _ :: rowC b2 28 [nilS] :: accT nilS [] :: dfC D0 :: O) (fun w h => OwnL.sat (by repeat (first | exact OwnL.refl | apply OwnL.take (by repeat (first | exact Take.head _ | apply Take.tail)) | apply OwnL.drop)) w (h.thin (SubL.mem (by repeat (first | exact SubL.refl | refine SubL.cons (by repeat (first | assumption | exact mS | apply mT)) ?_ | refine SubL.skip ?_))))) ?_
  refine it Value l0 _ (fun xs v X => rowC b2 28 [v] :: accT v xs :: X) nilS (dfC D0 :: O) _ (fun c hc => List.mem_cons_of_mem _ (hC c hc)) (fun xs v c X => (List.Perm.cons _ (List.Perm.swap _ _ _)).trans (List.Perm.swap _ _ _)) ?round ?after
  case round =>
    intro xs v X x hlen
    refine Yld.round (by repeat (first | assumption | exact Take.head _ | apply Take.tail)) rfl rfl rfl ?_
    refine WR.region ?_
    refine WL.rd rfl rfl rfl (Rd.assign rfl rfl) ?_
    refine WL.nil ?_
    refine assignQ.mk (by repeat (first | assumption | exact Take.head _ | apply Take.tail)) ?_
    refine WR.block ?_
    refine WR.region ?_
    refine WL.rd rfl rfl rfl (Rd.row1 (b := b2) (off := 0) (u := v) rfl C28 rfl (by repeat (first | assumption | exact mS | apply mT)) rfl) ?_
    refine WL.rd rfl rfl rfl (Rd.move rfl rfl) ?_
    refine WL.op rfl ?_
    refine OpW.buildSl (ps := [(0, _)]) rfl S28 (by repeat (first | exact Evs.nil | apply Evs.cons rfl)) rfl rfl (by repeat (first | exact CellsOf.nil | apply CellsOf.cons rfl)) (by kernel_rfl) rfl rfl rfl ?_; intro b10
    refine WL.op rfl ?_
    refine OpW.appendRow (enc := SL.one vs) rfl S28 rfl rfl (by repeat (first | assumption | exact Take.head _ | apply Take.tail)) (by repeat (first | assumption | exact Take.head _ | apply Take.tail)) [x] rfl (by rfl) rfl (by intro x; first | rfl | (cases x; rfl) | (rcases x with ⟨_, _, _⟩; rfl) | (rcases x with ⟨_, _, _, _⟩; rfl)) (by intro x; first | rfl | (cases x; rfl) | (rcases x with ⟨_, _, _⟩; rfl) | (rcases x with ⟨_, _, _, _⟩; rfl)) (by first | assumption | exact ⟨by simp only [maxLen, List.length_append, List.length_nil, List.length_cons, List.length_drop, List.length_take, List.length_map]; omega, by first | omega | (simp only [List.length_append, List.length_nil, List.length_cons, List.length_drop, List.length_take, List.length_map]; omega)⟩) rfl rfl ?_; intro v11 hv11
    refine WL.op rfl ?_
    refine OpW.store1 rfl Z28 rfl rfl (by first | exact ⟨rfl, rfl⟩ | assumption) (by repeat (first | assumption | exact Take.head _ | apply Take.tail)) (by first | (simp; done) | omega | exact of_decide_eq_true rfl | (simp only [List.length_append, List.length_replicate, List.length_map, List.length_set]; omega)) rfl ?_
    refine WL.nil ?_
    refine blockQ.normal ?_
    refine roundQ.on (by repeat (first | assumption | exact Take.head _ | apply Take.tail)) ?_
    exact ⟨rfl, v11, (fun w h => OwnL.sat (by repeat (first | exact OwnL.refl | apply OwnL.take (by repeat (first | exact Take.head _ | apply Take.tail)) | apply OwnL.drop)) w (h.thin (SubL.mem (by repeat (first | exact SubL.refl | refine SubL.cons (by repeat (first | assumption | exact mS | apply mT)) ?_ | refine SubL.skip ?_)))))⟩
  case after =>
    intro xs v hS
    refine ⟨_, (by repeat (first | assumption | exact Take.head _ | apply Take.tail)), ?_⟩
    refine WC.seq ?_
    refine WC.region ?_
    refine WL.rd rfl rfl rfl (Rd.row1 (b := b2) (off := 0) (u := v) rfl C28 rfl (by repeat (first | assumption | exact mS | apply mT)) rfl) ?_
    refine WL.rd rfl rfl rfl (Rd.assign rfl rfl) ?_
    refine WL.nil ?_
    refine thenQ.normal ?_
    refine WC.heap (R' := R) (O' := dfC D0 :: accT v xs :: O) (fun w h => OwnL.sat (by repeat (first | exact OwnL.refl | apply OwnL.take (by repeat (first | exact Take.head _ | apply Take.tail)) | apply OwnL.drop)) w (h.thin (SubL.mem (by repeat (first | exact SubL.refl | refine SubL.cons (by repeat (first | assumption | exact mS | apply mT)) ?_ | refine SubL.skip ?_))))) ?_
    refine WC.retO (FinO.mark (by repeat (first | assumption | exact Take.head _ | apply Take.tail))) (onlyRet.mk (Ret.one Try.results42 rfl ?_))
    exact hk v xs hS
set_option maxRecDepth 20000 in
theorem collect_it {gf : Nat} {lb : List Value} {C : List Own} {S : List T → Prop} {N : Nat} (it : ItOk gf lb R C S N) (hb : hasBody Try.prog gf = true) (hN : N ≤ 1000000) (hC : ∀ c ∈ C, c ∈ O) (hk : ∀ v xs, S xs → POST v R (accT v xs :: O)) :
    Fun Try.prog 30 #[.func (.func gf) #[] lb.toArray] R O POST := by
  refine Fun.enter (l := [_]) Try.func30 rfl Try.ntmps30 rfl (L0 := [(0, _)]) rfl ?_
  refine WC.seq ?_
  refine WC.region ?_
  refine WL.rd rfl rfl rfl (Rd.assign rfl rfl) ?_
  refine WL.nil ?_
  refine thenQ.normal ?_
  refine WC.seq ?_
  refine WC.region ?_
  refine WL.rd rfl rfl rfl (Rd.move rfl rfl) ?_
  refine WL.op rfl ?_
  refine OpW.call rfl rfl (by repeat (first | exact Evs.nil | apply Evs.cons rfl)) (by kernel_rfl) rfl rfl rfl ?_
  refine append_it it hb hN hC ?_; intro v4 xs hS
  refine WL.rd rfl rfl rfl (Rd.assign rfl rfl) ?_
  refine WL.nil ?_
  refine thenQ.normal ?_
  refine WC.ret (Ret.one Try.results30 rfl ?_)
  exact hk _ _ hS
def srt (xs : List T) : List T := xs.mergeSort fun x y => decide (x ≤ y)
theorem sort_spec {v : Value} {xs : List T} (hl : xs.length ≤ 1000000) (hk : POST (.tuple #[]) R (accT v (srt xs) :: O)) : Fun Try.prog 39 #[v] R (accT v xs :: O) POST :=
  Fun.sorts (fun blk off cap ss w h1 h2 h3 => Try.slices_Sort_string blk off cap ss w h1 h2 h3) (fun p cap w => Try.slices_Sort_string_none p cap w) (by omega) hk
set_option maxRecDepth 20000 in
theorem sorted_it {gf : Nat} {lb : List Value} {C : List Own} {S : List T → Prop} {N : Nat} (it : ItOk gf lb R C S N) (hb : hasBody Try.prog gf = true) (hN : N ≤ 1000000) (hSN : ∀ xs, S xs → xs.length ≤ 1000000) (hC : ∀ c ∈ C, c ∈ O) (hk : ∀ v xs, S xs → POST v R (accT v (srt xs) :: O)) :
    Fun Try.prog 26 #[.func (.func gf) #[] lb.toArray] R O POST := by
  refine Fun.enter (l := [_]) Try.func26 rfl Try.ntmps26 rfl (L0 := [(0, _)]) rfl ?_
  refine WC.seq ?_
  refine WC.region ?_
  refine WL.rd rfl rfl rfl (Rd.assign rfl rfl) ?_
  refine WL.nil ?_
  refine thenQ.normal ?_
  refine WC.seq ?_
  refine WC.region ?_
  refine WL.rd rfl rfl rfl (Rd.move rfl rfl) ?_
  refine WL.op rfl ?_
  refine OpW.call rfl rfl (by repeat (first | exact Evs.nil | apply Evs.cons rfl)) (by kernel_rfl) rfl rfl rfl ?_
  refine collect_it it hb hN hC ?_; intro v5 xs hS
  refine WL.rd rfl rfl rfl (Rd.assign rfl rfl) ?_
  refine WL.nil ?_
  refine thenQ.normal ?_
  refine WC.seq ?_
  refine WC.region ?_
  refine WL.rd rfl rfl rfl (Rd.move rfl rfl) ?_
  refine WL.op rfl ?_
  refine OpW.call rfl rfl (by repeat (first | exact Evs.nil | apply Evs.cons rfl)) (by kernel_rfl) rfl rfl rfl ?_
  refine sort_spec (xs := xs) (hSN _ hS) ?_
  refine WL.nil ?_
  refine thenQ.normal ?_
  refine WC.seq ?_
  refine WC.region ?_
  refine WL.rd rfl rfl rfl (Rd.move rfl rfl) ?_
  refine WL.rd rfl rfl rfl (Rd.assign rfl rfl) ?_
  refine WL.nil ?_
  refine thenQ.normal ?_
  refine WC.ret (Ret.one Try.results26 rfl ?_)
  exact hk _ _ hS
theorem srt_perm (xs : List T) : (srt xs).Perm xs := List.mergeSort_perm _ _
theorem srt_sorted (xs : List T) : List.Pairwise (fun a b => a ≤ b) (srt xs) := by
  have tr : ∀ a b c : T, (fun x y : T => decide (x ≤ y)) a b = true → (fun x y : T => decide (x ≤ y)) b c = true → (fun x y : T => decide (x ≤ y)) a c = true := fun a b c h1 h2 => by simp only [decide_eq_true_eq] at *; exact List.le_trans h1 h2
  have to : ∀ a b : T, ((fun x y : T => decide (x ≤ y)) a b || (fun x y : T => decide (x ≤ y)) b a) = true := fun a b => by simp only [Bool.or_eq_true, decide_eq_true_eq]; exact List.le_total a b
  have h := List.pairwise_mergeSort tr to xs
  exact h.imp fun h => of_decide_eq_true h
end
end Go.Proofs.Ytfenbhaehkkkeaa
