/-
  Layer 20: a map laid into another one; a map's keys, sorted; the lists of them.
-/
import Derived.Test.YtbbeifdmgmadiaaKd1
import Derived.Test.YtbbeifdmgmadiaaIter
namespace Go.Proofs.Ytbbeifdmgmadiaa
open Go Go.SL
/-- The library's texts have a 'one' of their own. -/
abbrev one {α : Type} (g : α → Value) : α → List Value := Go.SL.one g
section
variable {R : List RO} {O O' : List Own} {POST : Value → List RO → List Own → Prop}
/-- What has come out of the one lies in the other. -/
def Poured (m1 m2 m : GoMap (List UInt8) Sd) (seen : List Nat) : Prop :=
  seen.Nodup ∧ (∀ s ∈ seen, s ∈ m2.l.map (·.2.2)) ∧ m.l.length ≤ m1.l.length + seen.length ∧ ∀ k, (m.get k).isSome = ((m1.get k).isSome || m2.l.any fun x => decide (x.1 = k) && decide (x.2.2 ∈ seen))
theorem Poured.len {m1 m2 m : GoMap (List UInt8) Sd} {seen : List Nat} (h : Poured m1 m2 m seen) : seen.length ≤ m2.l.length := by
  have := nodup_len h.1 h.2.1
  simpa using this
theorem Poured.step {m1 m2 m : GoMap (List UInt8) Sd} {seen : List Nat} (h : Poured m1 m2 m seen) {x : List UInt8 × Sd × Nat} (hx : x ∈ m2.l) (hn : x.2.2 ∉ seen) : Poured m1 m2 (m.set x.1 x.2.1) (seen ++ [x.2.2]) := by
  refine ⟨?_, fun s hs => ?_, ?_, fun k => ?_⟩
  · rw [List.nodup_append]
    exact ⟨h.1, by simp, fun a ha b hb e => by simp only [List.mem_singleton] at hb; subst hb; subst e; exact hn ha⟩
  · rcases List.mem_append.1 hs with hs | hs
    · exact h.2.1 s hs
    · simp only [List.mem_singleton] at hs; subst hs; exact List.mem_map_of_mem hx
  · have := GoMap.set_len_le m x.1 x.2.1
    have := h.2.2.1
    simp only [List.length_append, List.length_singleton]; omega
  · rw [GoMap.get_set]
    by_cases e : k = x.1
    · rw [if_pos e]
      have : (m2.l.any fun y => decide (y.1 = k) && decide (y.2.2 ∈ seen ++ [x.2.2])) = true := List.any_eq_true.2 ⟨x, hx, by simp [e]⟩
      rw [this]; simp
    · rw [if_neg e, h.2.2.2 k]
      congr 1
      rw [Bool.eq_iff_iff, List.any_eq_true, List.any_eq_true]
      constructor
      · rintro ⟨y, hy, h2⟩
        simp only [Bool.and_eq_true, decide_eq_true_eq] at h2
        exact ⟨y, hy, by simp [h2.1, h2.2]⟩
      · rintro ⟨y, hy, h2⟩
        simp only [Bool.and_eq_true, decide_eq_true_eq, List.mem_append, List.mem_singleton] at h2
        refine ⟨y, hy, ?_⟩
        rcases h2.2 with h3 | h3
        · simp [h2.1, h3]
        · have := GoMap.nodup_inj m2.born hy hx h3
          subst this
          exact absurd h2.1.symm e
theorem Poured.all {m1 m2 m : GoMap (List UInt8) Sd} {seen : List Nat} (h : Poured m1 m2 m seen) (ha : ∀ x ∈ m2.l, x.2.2 ∈ seen) (k : List UInt8) : k ∈ m.ks ↔ k ∈ m1.ks ∨ k ∈ m2.ks := by
  have e : ∀ (q : GoMap (List UInt8) Sd), k ∈ q.ks ↔ (q.get k).isSome = true := fun q => by rw [GoMap.mem_ks, Option.isSome_iff_exists]
  rw [e, e, e, h.2.2.2 k, Bool.or_eq_true]
  refine or_congr Iff.rfl ?_
  rw [← e, List.any_eq_true]
  constructor
  · rintro ⟨y, hy, h2⟩
    simp only [Bool.and_eq_true, decide_eq_true_eq] at h2
    rw [← h2.1]; exact List.mem_map_of_mem hy
  · intro hk
    obtain ⟨y, hy, rfl⟩ := List.mem_map.1 hk
    exact ⟨y, hy, by simp [ha y hy]⟩
set_option maxRecDepth 20000 in
theorem copy_spec {b1 b2 : Nat} {m1 m2 : GoMap (List UInt8) Sd} (h2 : mapP vs sdv b2 m2 ∈ R) (hT : Take (mapC vs sdv b1 m1) O O') (hk : ∀ m, (∀ k, k ∈ m.ks ↔ k ∈ m1.ks ∨ k ∈ m2.ks) → m.l.length ≤ m1.l.length + m2.l.length → POST (.tuple #[]) R (mapC vs sdv b1 m :: O')) :
    Fun Try.prog 24 #[.map (some b1), .map (some b2)] R O POST := by
  refine Fun.enter (l := [_, _]) Try.func24 rfl Try.ntmps24 rfl (L0 := [(0, _), (1, _)]) rfl ?_
  refine WC.heap (R' := R) (O' := mapC vs sdv b1 m1 :: O') (fun w h => h.perm hT.perm) ?_
  refine WC.seq ?_
  refine WC.region ?_
  refine WL.rd rfl rfl rfl (Rd.move rfl rfl) ?_
  refine WL.op rfl ?_
  refine OpW.rangeM (kenc := vs) (venc := sdv) (m := m2) M61 rfl rfl (by repeat (first | assumption | exact mS | apply mT)) rfl rfl ?_; intro it
  refine WL.nil ?_
  refine thenQ.normal ?_
  refine WC.block ?_
  refine WC.pick [0, 7] (by repeat (first | exact Pick.nil | apply Pick.cons rfl)) ?_
  refine WC.loop2 0 (fun (m : GoMap (List UInt8) Sd) (seen : List Nat) => []) (fun (m : GoMap (List UInt8) Sd) (seen : List Nat) => iterC it b2 m2.clock seen :: mapC vs sdv b1 m :: O') (fun (m : GoMap (List UInt8) Sd) (seen : List Nat) => Poured m1 m2 m seen) (fun (m : GoMap (List UInt8) Sd) (seen : List Nat) => m2.l.length - seen.length) (m1) ([]) (by repeat (first | exact Split.zero | apply Split.succ)) ?hinv1 (by repeat (first | exact Sub.nil | refine Sub.cons rfl (by first | rfl | (congr 1; omega) | assumption) ?_)) (fun _ h => h) ?_
  case hinv1 =>
    exact ⟨List.nodup_nil, fun s hs => absurd hs (by simp), Nat.le_refl _, fun k => by simp⟩
  intro m seen
  rintro i1
  refine WC.seq ?_
  refine WC.region ?_
  refine WL.op rfl ?_
  refine OpW.nextM (kenc := vs) (venc := sdv) (m := m2) (seen := seen) rfl rfl (by repeat (first | assumption | exact mS | apply mT)) (by repeat (first | assumption | exact Take.head _ | apply Take.tail)) rfl rfl ?_; intro r hr
  refine WL.rd rfl rfl rfl (Rd.stepOn rfl rfl) ?_
  refine WL.nil ?_
  refine thenQ.normal ?_
  refine WC.seq ?_
  first | refine WC.ite rfl (fun hc1 => ?_) (fun hc1 => ?_) | refine WC.cond rfl (fun hc1 => ?_) (fun hc1 => ?_)
  · skip
    obtain ⟨x, rfl⟩ := Option.isSome_iff_exists.1 hc1
    refine WC.skip ?_
    refine thenQ.normal ?_
    refine WC.block ?_
    refine WC.seq ?_
    refine WC.region ?_
    refine WL.op rfl ?_
    refine OpW.rd rfl rfl (Rd.entryM (kenc := vs) (venc := sdv) (m := m2) (q := x) (seen := seen) rfl rfl (by repeat (first | assumption | exact mS | apply mT)) (by repeat (first | assumption | exact mS | apply mT)) hr.1 rfl) ?_
    refine WL.rd rfl rfl rfl (Rd.extract rfl rfl rfl) ?_
    refine WL.rd rfl rfl rfl (Rd.extract rfl rfl rfl) ?_
    refine WL.op rfl ?_
    refine OpW.alloc rfl I38 rfl (by repeat (first | exact NF.nil | apply NF.cons)) rfl rfl ?_; intro b5
    refine WL.rd rfl rfl rfl (Rd.assign rfl rfl) ?_
    refine WL.op rfl ?_
    refine OpW.storeS rfl G38 rfl rfl (by repeat (first | exact NF.nil | apply NF.cons)) (by repeat (first | assumption | exact Take.head _ | apply Take.tail)) rfl rfl (by repeat (first | exact NF.nil | apply NF.cons)) rfl ?_
    refine WL.nil ?_
    refine thenQ.normal ?_
    refine WC.region ?_
    refine WL.rd rfl rfl rfl (Rd.move rfl rfl) ?_
    refine WL.rd rfl rfl rfl (Rd.move rfl rfl) ?_
    refine WL.rd rfl rfl rfl ((by first | exact Rd.rowS rfl G38 rfl (by repeat (first | assumption | exact mS | apply mT)) (by repeat (first | exact NF.nil | apply NF.cons)) rfl | exact Rd.getS rfl G38 rfl (by repeat (first | assumption | exact mS | apply mT)) (by intro x; first | rfl | (cases x; rfl) | (rcases x with ⟨_, _, _⟩; rfl) | (rcases x with ⟨_, _, _, _⟩; rfl)) (by first | assumption | rfl | exact get!_of_lt (by omega)) (by repeat (first | exact NF.nil | apply NF.cons)) | exact Rd.getSA rfl G38 rfl (by repeat (first | assumption | exact mS | apply mT)) (by intro x; first | rfl | (cases x; rfl) | (rcases x with ⟨_, _, _⟩; rfl) | (rcases x with ⟨_, _, _, _⟩; rfl)) (by first | assumption | rfl | exact get!_of_lt (by omega)) (by repeat (first | exact NF.nil | apply NF.cons)))) ?_
    refine WL.op rfl ?_
    refine OpW.mapUpdate (venc := sdv) (v := x.2.1) M61 K9 rfl rfl rfl rfl (by repeat (first | assumption | exact Take.head _ | apply Take.tail)) (by rfl) (by rfl) rfl ?_
    refine WL.nil ?_
    refine blockQ.normal ?_
    exact loopQ2.mk (m.set x.1 x.2.1) (seen ++ [x.2.2]) (i1.step hr.1 hr.2) (by have := (i1.step hr.1 hr.2).len; simp only [List.length_append, List.length_singleton] at this ⊢; omega) (by repeat (first | exact Sub.nil | refine Sub.cons rfl (by first | rfl | (congr 1; omega) | assumption) ?_)) (fun w h => OwnL.sat (by repeat (first | exact OwnL.refl | apply OwnL.take (by repeat (first | exact Take.head _ | apply Take.tail)) | apply OwnL.drop)) w (h.thin (SubL.mem (by repeat (first | exact SubL.refl | refine SubL.cons (by repeat (first | assumption | exact mS | apply mT)) ?_ | refine SubL.skip ?_)))))
  · skip
    obtain rfl : r = none := by
      cases r with
      | some x => exact absurd rfl hc1
      | none => rfl
    refine WC.heap (R' := R) (O' := mapC vs sdv b1 m :: O') (fun w h => OwnL.sat (by repeat (first | exact OwnL.refl | apply OwnL.take (by repeat (first | exact Take.head _ | apply Take.tail)) | apply OwnL.drop)) w (h.thin (SubL.mem (by repeat (first | exact SubL.refl | refine SubL.cons (by repeat (first | assumption | exact mS | apply mT)) ?_ | refine SubL.skip ?_))))) ?_
    refine WC.exit ?_
    refine thenQ.exit ?_
    refine loopQ2.exit ?_
    refine blockQ.exit ?_
    refine Ret.normal (Ret.zero Try.results24 ?_)
    exact hk m (i1.all hr) (by have := i1.2.2.1; have := i1.len; omega)
set_option maxRecDepth 20000 in
theorem mapsKeys_spec {b : Nat} (hk : ∀ cb, POST (.func (.func 30) #[] #[.pointer (some ⟨cb, 0, none⟩)]) R (rowC cb 61 [.map (some b)] :: O)) : Fun Try.prog 26 #[.map (some b)] R O POST := by
  refine Fun.enter (l := [_]) Try.func26 rfl Try.ntmps26 rfl (L0 := [(0, _)]) rfl ?_
  refine WC.seq ?_
  refine WC.region ?_
  refine WL.op rfl ?_
  refine OpW.box1 rfl rfl (by first | exact ⟨rfl, rfl⟩ | assumption) rfl rfl ?_; intro b1
  refine WL.rd rfl rfl rfl (Rd.assign rfl rfl) ?_
  refine WL.nil ?_
  refine thenQ.normal ?_
  refine WC.seq ?_
  refine WC.region ?_
  refine WL.rd rfl rfl rfl (Rd.func rfl (by repeat (first | exact Evs.nil | apply Evs.cons rfl)) (by repeat (first | exact Evs.nil | apply Evs.cons rfl)) ⟨_, rfl⟩) ?_
  refine WL.rd rfl rfl rfl (Rd.assign rfl rfl) ?_
  refine WL.nil ?_
  refine thenQ.normal ?_
  refine WC.ret (Ret.one Try.results26 rfl ?_)
  exact hk b1
theorem sorts_at (m : Nat) : AnyZ.SortsIn Try.prog Try.sorted25_ren Fence.wide m :=
  ⟨fun blk off cap ss W hH hblk hsz => callsIn_wide.2 (AnyM.slices_Sort_string Try.sort29 blk off cap ss W hH hblk hsz),
   fun p cap W => callsIn_wide.2 (AnyM.slices_Sort_string_none Try.sort29 p cap W)⟩
theorem sortedKeys_at (b nn cb : Nat) (D0 : DataW Unit) (w : World) (hcb : cb < w.heap.size) (hm : w.cell? ⟨cb, 0, none⟩ = some (.map (some b))) (hown : w.ownsMap Try.prog 9 constR b nn D0) (hmax : Go.Maps.size D0 ≤ maxLen) (hbytes : Go.Maps.size D0 * 16 ≤ 140737488355328) :
    Calls Try.prog 25 #[.func (.func 30) #[] #[.pointer (some ⟨cb, 0, none⟩)]] w fun e w' => ∃ (v : Value) (ss : List (List UInt8)), e = .returned v ∧ ss.Perm (strKeys D0) ∧
      w'.ownsRow w.heap.size 9 1 v ss.length ((ss.mergeSort (fun x y => decide (x ≤ y))).map encStr) ∧ (v = .slice none 0 0 ↔ ss = []) ∧ Go.RowKit.Below w.heap.size w w' := by
  have hseq : SeqGives Fence.wide 2 Try.prog 30 #[.pointer (some ⟨cb, 0, none⟩)] encStr (fun ss => ss.Perm (strKeys D0)) (Go.Maps.size D0) w :=
    AnyZ.keys_gives (ρ := Try.keys26_ren) { Try.keys26 with } Fence.wide _ trivial rfl (by omega) cb b nn D0 w hcb hm hown
  exact callsIn_wide.1 (AnyZ.sorted_in Try.sorted25 Fence.wide 5 trivial trivial trivial trivial rfl (by omega) (sorts_at _) (enters_of Try.func29 (by kernel_rfl) rfl) 30 #[.pointer (some ⟨cb, 0, none⟩)] trivial (enters_of Try.func30 (by kernel_rfl) rfl) _ _ hmax hbytes _ hseq)
theorem sorted_spec {b cb : Nat} {m : GoMap (List UInt8) Sd} (hm : ∀ w, Sat R O w → mapP vs sdv b m w) (hc : rowC cb 61 [.map (some b)] ∈ O) (hsz : m.l.length ≤ 1000000) (hl : ∀ k ∈ m.ks, k.length ≤ maxLen)
    (hk : ∀ v ks, Asc ks → (∀ k, k ∈ ks ↔ k ∈ m.ks) → ks.length = m.l.length → POST v R (accC 9 1 (one vs) v ks :: O)) : Fun Try.prog 25 #[.func (.func 30) #[] #[.pointer (some ⟨cb, 0, none⟩)]] R O POST := by
  refine Fun.sortedKeys (venc := sdv) (m := m) (fun w hs => ?_) Try.underlying9 hl hk
  have hcell := row_cell (hs.see hc) (j := 0) rfl
  have h1 : m.l.length ≤ maxLen := by show _ ≤ 9223372036854775807; omega
  exact sortedKeys_at b _ cb _ w (World.block_lt_of_cell? w _ hcell) hcell (ownsMap_of Try.underlying9 (hm w hs) h1 hl) (by rw [mapD_size]; exact h1) (by rw [mapD_size]; omega)
/-- Of a key a map says. -/
def sdOf (m : GoMap (List UInt8) Sd) (k : List UInt8) : Sd := (m.get k).getD ([], false)
theorem sdOf_v (m : GoMap (List UInt8) Sd) (k : List UInt8) : ((m.get k).map sdv).getD (.agg #[vs [], .bool false]) = sdv (sdOf m k) := by
  unfold sdOf
  cases m.get k <;> rfl
/-- The list of what is there. -/
def itemsL (f : List UInt8 → Sd) (ks : List (List UInt8)) : List It := ks.filterMap fun k => if (f k).2 = true then some (k, (f k).1) else none
theorem itemsL_snoc (f : List UInt8 → Sd) {ks : List (List UInt8)} {i : Nat} (h : i < ks.length) : itemsL f (ks.take (i + 1)) = itemsL f (ks.take i) ++ (if (f ks[i]!).2 = true then [(ks[i]!, (f ks[i]!).1)] else []) := by
  rw [take_snoc h, itemsL, itemsL, List.filterMap_append]
  congr 1
  generalize ks[i]! = k
  rw [List.filterMap_cons]
  by_cases e : (f k).2 = true
  · rw [if_pos e, if_pos e]; rfl
  · rw [if_neg e, if_neg e]; rfl
theorem itemsL_len (f : List UInt8 → Sd) (ks : List (List UInt8)) : (itemsL f ks).length ≤ ks.length := List.length_filterMap_le _ _
set_option maxRecDepth 20000 in
theorem items_spec {b : Nat} {m : GoMap (List UInt8) Sd} (hm : mapP vs sdv b m ∈ R) (hsz : m.l.length ≤ 1000000) (hl : ∀ k ∈ m.ks, k.length ≤ maxLen)
    (hk : ∀ v ks, Asc ks → (∀ k, k ∈ ks ↔ k ∈ m.ks) → POST v R (accC 45 2 encI v (itemsL (sdOf m) ks) :: O)) : Fun Try.prog 20 #[.map (some b)] R O POST := by
  refine Fun.enter (l := [_]) Try.func20 rfl Try.ntmps20 rfl (L0 := [(0, _)]) rfl ?_
  refine WC.seq ?_
  refine WC.region ?_
  refine WL.rd rfl rfl rfl (Rd.assign rfl rfl) ?_
  refine WL.nil ?_
  refine thenQ.normal ?_
  refine WC.seq ?_
  refine WC.region ?_
  refine WL.rd rfl rfl rfl (Rd.assign rfl rfl) ?_
  refine WL.nil ?_
  refine thenQ.normal ?_
  refine WC.seq ?_
  refine WC.seq ?_
  refine WC.region ?_
  refine WL.rd rfl rfl rfl (Rd.move rfl rfl) ?_
  refine WL.op rfl ?_
  refine OpW.call rfl rfl (by repeat (first | exact Evs.nil | apply Evs.cons rfl)) (by kernel_rfl) rfl rfl rfl ?_
  refine mapsKeys_spec ?_; intro cb
  refine WL.op rfl ?_
  refine OpW.call rfl rfl (by repeat (first | exact Evs.nil | apply Evs.cons rfl)) (by kernel_rfl) rfl rfl rfl ?_
  refine sorted_spec (m := m) (fun w h => h.read hm) (by repeat (first | assumption | exact mS | apply mT)) hsz hl ?_; intro v8 ks ha hmem hlen
  refine WL.heap (R' := R) (O' := accC 45 2 encI (.slice none 0 0) [] :: accC 9 1 (one vs) v8 ks :: O) (fun w h => Sat.accNil (h.perm (List.Perm.swap _ _ _)).drop) ?_
  refine WL.rd rfl rfl rfl ((by first | exact Rd.lenE rfl rfl Try.underlying33 (by repeat (first | assumption | exact mS | apply mT)) | exact Rd.lenA rfl rfl Try.underlying33 (by repeat (first | assumption | exact mS | apply mT)) | exact Rd.len rfl rfl Try.underlying33)) ?_
  refine WL.rd rfl rfl rfl (Rd.move rfl rfl) ?_
  refine WL.nil ?_
  refine thenQ.normal ?_
  refine WC.block ?_
  refine WC.pick [3, 10, 0, 8, 9] (by repeat (first | exact Pick.nil | apply Pick.cons rfl)) ?_
  refine WC.loop2 2 (fun (i : Nat) (v : Value) => [(3, v), (10, .int .i64 (i : Int))]) (fun (i : Nat) (v : Value) => accC 45 2 encI v (itemsL (sdOf m) (ks.take i)) :: accC 9 1 (one vs) v8 ks :: O) (fun (i : Nat) (v : Value) => i ≤ ks.length) (fun (i : Nat) (v : Value) => ks.length - i) (0) (.slice none 0 0) (by repeat (first | exact Split.zero | apply Split.succ)) ?hinv1 (by repeat (first | exact Sub.nil | refine Sub.cons rfl (by first | rfl | (congr 1; omega) | assumption) ?_)) (fun _ h => h) ?_
  case hinv1 =>
    exact Nat.zero_le _
  intro i v
  rintro i1
  refine WC.seq ?_
  refine WC.region ?_
  refine WL.rd rfl rfl rfl (Rd.lss rfl rfl rfl) ?_
  refine WL.nil ?_
  refine thenQ.normal ?_
  refine WC.seq ?_
  first | refine WC.ite rfl (fun hc1 => ?_) (fun hc1 => ?_) | refine WC.cond rfl (fun hc1 => ?_) (fun hc1 => ?_)
  · skip
    refine WC.skip ?_
    refine thenQ.normal ?_
    refine WC.seq ?_
    refine WC.block ?_
    refine WC.seq ?_
    refine WC.region ?_
    refine WL.rd rfl rfl rfl ((by first | exact Rd.idx1 (k := i) rfl S33 rfl rfl (by omega) (by repeat (first | assumption | exact mS | apply mT)) (by first | omega | (simp only [List.length_cons, List.length_nil, List.length_append, List.length_map]; omega)) | exact Rd.idxA1 (k := i) rfl S33 rfl rfl (by omega) (by repeat (first | assumption | exact mS | apply mT)) (by first | omega | (simp only [List.length_cons, List.length_nil, List.length_append, List.length_map]; omega)) | exact Rd.idxR1 (k := i) rfl S33 rfl rfl (by omega) (by omega))) ?_
    refine WL.rd rfl rfl rfl ((by first | exact Rd.get rfl C9 rfl (by repeat (first | assumption | exact mS | apply mT)) (by first | assumption | rfl | exact get!_of_lt (by omega)) | exact Rd.getA rfl C9 rfl (by repeat (first | assumption | exact mS | apply mT)) (by first | assumption | rfl | exact get!_of_lt (by omega)) | exact Rd.row1 rfl C9 rfl (by repeat (first | assumption | exact mS | apply mT)) (by rfl) | exact Rd.getF rfl C9 rfl (by repeat (first | assumption | exact mS | apply mT)) (by intro x; first | rfl | (cases x; rfl) | (rcases x with ⟨_, _, _⟩; rfl) | (rcases x with ⟨_, _, _, _⟩; rfl)) rfl (by first | assumption | rfl | exact get!_of_lt (by omega)) (by rfl) | exact Rd.getFA rfl C9 rfl (by repeat (first | assumption | exact mS | apply mT)) (by intro x; first | rfl | (cases x; rfl) | (rcases x with ⟨_, _, _⟩; rfl) | (rcases x with ⟨_, _, _, _⟩; rfl)) rfl (by first | assumption | rfl | exact get!_of_lt (by omega)) (by rfl))) ?_
    refine WL.rd rfl rfl rfl (Rd.assign rfl rfl) ?_
    refine WL.nil ?_
    refine thenQ.normal ?_
    refine WC.seq ?_
    refine WC.region ?_
    refine WL.rd rfl rfl rfl (Rd.move rfl rfl) ?_
    refine WL.rd rfl rfl rfl (Rd.move rfl rfl) ?_
    refine WL.rd rfl rfl rfl ((by first | exact Rd.lookup M61 K9 rfl rfl rfl (by repeat (first | assumption | exact mS | apply mT)) (by rfl) | exact Rd.lookupR M61 K9 rfl rfl rfl (by repeat (first | assumption | exact mS | apply mT)) (by rfl))) ?_
    refine WL.say 16 (u := sdv (sdOf m ks[i]!)) rfl (sdOf_v m _) ?_
    refine WL.rd rfl rfl rfl (Rd.part (ft := 0) rfl Try.underlying38 rfl C4 rfl rfl rfl) ?_
    refine WL.say 17 (u := .bool (decide ((sdOf m ks[i]!).2 = true))) rfl (by simp) ?_
    refine WL.nil ?_
    refine thenQ.normal ?_
    first | refine WC.ite rfl (fun hc2 => ?_) (fun hc2 => ?_) | refine WC.cond rfl (fun hc2 => ?_) (fun hc2 => ?_)
    · skip
      refine WC.region ?_
      refine WL.rd rfl rfl rfl (Rd.move rfl rfl) ?_
      refine WL.rd rfl rfl rfl (Rd.move rfl rfl) ?_
      refine WL.rd rfl rfl rfl (Rd.move rfl rfl) ?_
      refine WL.rd rfl rfl rfl (Rd.move rfl rfl) ?_
      refine WL.rd rfl rfl rfl ((by first | exact Rd.lookup M61 K9 rfl rfl rfl (by repeat (first | assumption | exact mS | apply mT)) (by rfl) | exact Rd.lookupR M61 K9 rfl rfl rfl (by repeat (first | assumption | exact mS | apply mT)) (by rfl))) ?_
      refine WL.say 22 (u := sdv (sdOf m ks[i]!)) rfl (sdOf_v m _) ?_
      refine WL.rd rfl rfl rfl (Rd.part (ft := 0) rfl Try.underlying38 rfl C9 rfl rfl rfl) ?_
      refine WL.rd rfl rfl rfl (Rd.buildN (ps := [(0, _), (1, _)]) rfl Bs45 I45 rfl (by repeat (first | exact Evs.nil | apply Evs.cons rfl)) (by repeat (first | exact CellsOf.nil | apply CellsOf.cons rfl)) (by apply NFo.mk; repeat (first | exact NF.nil | apply NF.cons))) ?_
      refine WL.op rfl ?_
      refine OpW.buildSl (ps := [(0, _)]) rfl S24 (by repeat (first | exact Evs.nil | apply Evs.cons rfl)) rfl rfl (by repeat (first | exact CellsOf.nil | apply CellsOf.cons rfl)) (by kernel_rfl) rfl rfl rfl ?_; intro b25
      have hil := itemsL_len (sdOf m) (ks.take i); rw [List.length_take] at hil
      refine WL.op rfl ?_
      refine OpW.appendRow (enc := encI) rfl S24 rfl rfl (by repeat (first | assumption | exact Take.head _ | apply Take.tail)) (by repeat (first | assumption | exact Take.head _ | apply Take.tail)) [(ks[i]!, (sdOf m ks[i]!).1)] rfl (by rfl) rfl (by intro x; first | rfl | (cases x; rfl) | (rcases x with ⟨_, _, _⟩; rfl) | (rcases x with ⟨_, _, _, _⟩; rfl)) (by intro x; first | rfl | (cases x; rfl) | (rcases x with ⟨_, _, _⟩; rfl) | (rcases x with ⟨_, _, _, _⟩; rfl)) ⟨by simp only [maxLen, List.length_append, List.length_nil, List.length_cons, List.length_drop, List.length_take, List.length_map]; omega, by first | omega | (simp only [List.length_append, List.length_nil, List.length_cons, List.length_drop, List.length_take, List.length_map]; omega)⟩ rfl rfl ?_; intro v26 hv26
      refine WL.rd rfl rfl rfl (Rd.assign rfl rfl) ?_
      refine WL.nil ?_
      refine blockQ.normal ?_
      refine thenQ.normal ?_
      refine WC.region ?_
      refine WL.rd rfl rfl rfl (Rd.add rfl rfl rfl (by omega)) ?_
      refine WL.rd rfl rfl rfl (Rd.move rfl rfl) ?_
      refine WL.nil ?_
      exact loopQ2.mk (i + 1) v26 (by omega) (by omega) (by repeat (first | exact Sub.nil | refine Sub.cons rfl (by first | rfl | (congr 1; omega) | assumption) ?_)) (by rw [itemsL_snoc _ (by omega), if_pos hc2]; exact (fun w h => OwnL.sat (by repeat (first | exact OwnL.refl | apply OwnL.take (by repeat (first | exact Take.head _ | apply Take.tail)) | apply OwnL.drop)) w (h.thin (SubL.mem (by repeat (first | exact SubL.refl | refine SubL.cons (by repeat (first | assumption | exact mS | apply mT)) ?_ | refine SubL.skip ?_))))))
    · skip
      refine WC.skip ?_
      refine blockQ.normal ?_
      refine thenQ.normal ?_
      refine WC.region ?_
      refine WL.rd rfl rfl rfl (Rd.add rfl rfl rfl (by omega)) ?_
      refine WL.rd rfl rfl rfl (Rd.move rfl rfl) ?_
      refine WL.nil ?_
      exact loopQ2.mk (i + 1) v (by omega) (by omega) (by repeat (first | exact Sub.nil | refine Sub.cons rfl (by first | rfl | (congr 1; omega) | assumption) ?_)) (by rw [itemsL_snoc _ (by omega), if_neg hc2, List.append_nil]; exact (fun w h => OwnL.sat (by repeat (first | exact OwnL.refl | apply OwnL.take (by repeat (first | exact Take.head _ | apply Take.tail)) | apply OwnL.drop)) w (h.thin (SubL.mem (by repeat (first | exact SubL.refl | refine SubL.cons (by repeat (first | assumption | exact mS | apply mT)) ?_ | refine SubL.skip ?_))))))
  · skip
    rw [List.take_of_length_le (by omega)]
    refine WC.heap (R' := R) (O' := accC 45 2 encI v (itemsL (sdOf m) ks) :: O) (fun w h => OwnL.sat (by repeat (first | exact OwnL.refl | apply OwnL.take (by repeat (first | exact Take.head _ | apply Take.tail)) | apply OwnL.drop)) w (h.thin (SubL.mem (by repeat (first | exact SubL.refl | refine SubL.cons (by repeat (first | assumption | exact mS | apply mT)) ?_ | refine SubL.skip ?_))))) ?_
    refine WC.exit ?_
    refine thenQ.exit ?_
    refine loopQ2.exit ?_
    refine blockQ.exit ?_
    refine thenQ.normal ?_
    refine WC.seq ?_
    refine WC.region ?_
    refine WL.rd rfl rfl rfl (Rd.move rfl rfl) ?_
    refine WL.rd rfl rfl rfl (Rd.assign rfl rfl) ?_
    refine WL.nil ?_
    refine thenQ.normal ?_
    refine WC.ret (Ret.one Try.results20 rfl ?_)
    exact hk v ks ha hmem
end
end Go.Proofs.Ytbbeifdmgmadiaa
