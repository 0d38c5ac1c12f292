/-
  Layer 20: the keys of some lists; what has changed.
-/
import Derived.Test.YtbbeifdmgmadiaaKd2
namespace Go.Proofs.Ytbbeifdmgmadiaa
open Go Go.SL
/-- Lists that are not too long. -/
def KL (l : List It) : Prop := l.length ≤ 1000 ∧ ∀ x ∈ l, x.1.length ≤ 9223372036854775807
def ListsOf (vsl : List Value) (ll : List (List It)) (R : List RO) : Prop := vsl.length = ll.length ∧ ∀ j, j < ll.length → SlE encI vsl[j]! ll[j]! ∈ R
theorem ListsOf.two {R : List RO} {av bv : Value} {a b : List It} (ha : SlE encI av a ∈ R) (hb : SlE encI bv b ∈ R) : ListsOf [av, bv] [a, b] R := ⟨rfl, fun j hj => by
  match j, hj with
  | 0, _ => exact ha
  | 1, _ => exact hb⟩
theorem ListsOf.three {R : List RO} {av bv cv : Value} {a b c : List It} (ha : SlE encI av a ∈ R) (hb : SlE encI bv b ∈ R) (hc : SlE encI cv c ∈ R) : ListsOf [av, bv, cv] [a, b, c] R := ⟨rfl, fun j hj => by
  match j, hj with
  | 0, _ => exact ha
  | 1, _ => exact hb
  | 2, _ => exact hc⟩
def keysIn (ll : List (List It)) : List (List UInt8) := ll.flatMap fun l => l.map (·.1)
def KsOf (ks : List (List UInt8)) (ll : List (List It)) : Prop := Asc ks ∧ ∀ k, k ∈ ks ↔ k ∈ keysIn ll
theorem KsOf.uniq {ks ks' : List (List UInt8)} {ll ll' : List (List It)} (h : KsOf ks ll) (h' : KsOf ks' ll') (e : ∀ k, k ∈ keysIn ll ↔ k ∈ keysIn ll') : ks = ks' :=
  Asc.uniq h.1 h'.1 fun k => (h.2 k).trans ((e k).trans (h'.2 k).symm)
theorem EqS.iff {P : Program} {t : TypeId} {xs ys : Array Value} {p q : Prop} [Decidable p] [Decidable q] (h : EqS P t xs ys p) (e : p ↔ q) : EqS P t xs ys q := ⟨fun w => by rw [h.1 w, decide_eq_decide.2 e], h.2⟩
theorem EqSd (s r : Sd) : EqS Try.prog 38 #[vs s.1, .bool s.2] #[vs r.1, .bool r.2] (s = r) := EqS.iff (E38 _ _ _ _) Prod.ext_iff.symm
theorem EqSr (s r : Sd) : EqS Try.prog 36 #[vs s.1, .bool s.2] #[vs r.1, .bool r.2] (s = r) := EqS.iff (E36 _ _ _ _) Prod.ext_iff.symm
theorem MapOf.v {m : GoMap (List UInt8) Sd} {l : List It} (h : MapOf m l) (k : List UInt8) : ((m.get k).map sdv).getD (.agg #[vs [], .bool false]) = sdv (says l k) := by
  rw [sdOf_v, sdOf, h.1 k]; rfl
section
variable {R : List RO} {O O' : List Own} {POST : Value → List RO → List Own → Prop}
set_option maxRecDepth 20000 in
set_option maxHeartbeats 1000000 in
theorem keys_spec {vsl : List Value} {ll : List (List It)} {lv : Value} (hl : SlE (one vid) lv vsl ∈ R) (hL : ListsOf vsl ll R) (hn : ∀ j, j < ll.length → (ll[j]!.map (·.1)).Nodup) (hK : ∀ j, j < ll.length → KL ll[j]!) (hc : ll.length ≤ 3)
    (hk : ∀ v ks, KsOf ks ll → ks.length ≤ 3000 → POST v R (accC 9 1 (one vs) v ks :: O)) : Fun Try.prog 19 #[lv] R O POST := by
  refine Fun.len hl fun hll => ?_
  obtain ⟨hL1, hL2⟩ := hL
  refine Fun.enter (l := [_]) Try.func19 rfl Try.ntmps19 rfl (L0 := [(0, _)]) rfl ?_
  refine WC.seq ?_
  refine WC.region ?_
  refine WL.rd rfl rfl rfl (Rd.assign rfl rfl) ?_
  refine WL.nil ?_
  refine thenQ.normal ?_
  refine WC.seq ?_
  refine WC.region ?_
  refine WL.op rfl ?_
  refine OpW.makeMap vs sdv rfl rfl rfl ?_; intro b6
  refine WL.rd rfl rfl rfl (Rd.assign rfl rfl) ?_
  refine WL.nil ?_
  refine thenQ.normal ?_
  refine WC.seq ?_
  refine WC.seq ?_
  refine WC.region ?_
  refine WL.rd rfl rfl rfl (Rd.move rfl rfl) ?_
  refine WL.rd rfl rfl rfl ((by first | exact Rd.lenE rfl rfl Try.underlying68 (by repeat (first | assumption | exact mS | apply mT)) | exact Rd.lenA rfl rfl Try.underlying68 (by repeat (first | assumption | exact mS | apply mT)) | exact Rd.len rfl rfl Try.underlying68)) ?_
  refine WL.rd rfl rfl rfl (Rd.move rfl rfl) ?_
  refine WL.nil ?_
  refine thenQ.normal ?_
  refine WC.block ?_
  refine WC.pick [9, 3, 7, 8] (by repeat (first | exact Pick.nil | apply Pick.cons rfl)) ?_
  refine WC.loop2 1 (fun (i : Nat) (m : GoMap (List UInt8) Sd) => [(9, .int .i64 (i : Int))]) (fun (i : Nat) (m : GoMap (List UInt8) Sd) => mapC vs sdv b6 m :: O) (fun (i : Nat) (m : GoMap (List UInt8) Sd) => i ≤ ll.length ∧ (∀ k, k ∈ m.ks ↔ k ∈ keysIn (ll.take i)) ∧ m.l.length ≤ 1000 * i) (fun (i : Nat) (m : GoMap (List UInt8) Sd) => ll.length - i) (0) (GoMap.empty) (by repeat (first | exact Split.zero | apply Split.succ)) ?hinv1 (by repeat (first | exact Sub.nil | refine Sub.cons rfl (by first | rfl | (congr 1; omega) | assumption) ?_)) (fun _ h => h) ?_
  case hinv1 =>
    exact ⟨Nat.zero_le _, fun k => by simp [GoMap.ks, GoMap.empty, keysIn], Nat.zero_le _⟩
  intro i m
  rintro ⟨i1, i2, i3⟩
  refine WC.seq ?_
  refine WC.region ?_
  refine WL.rd rfl rfl rfl (Rd.lss rfl rfl rfl) ?_
  refine WL.nil ?_
  refine thenQ.normal ?_
  refine WC.seq ?_
  first | refine WC.ite rfl (fun hc1 => ?_) (fun hc1 => ?_) | refine WC.cond rfl (fun hc1 => ?_) (fun hc1 => ?_)
  · skip
    refine WC.skip ?_
    refine thenQ.normal ?_
    refine WC.seq ?_
    refine WC.block ?_
    refine WC.seq ?_
    refine WC.region ?_
    refine WL.rd rfl rfl rfl ((by first | exact Rd.idx1 (k := i) rfl S68 rfl rfl (by omega) (by repeat (first | assumption | exact mS | apply mT)) (by first | omega | (simp only [List.length_cons, List.length_nil, List.length_append, List.length_map]; omega)) | exact Rd.idxA1 (k := i) rfl S68 rfl rfl (by omega) (by repeat (first | assumption | exact mS | apply mT)) (by first | omega | (simp only [List.length_cons, List.length_nil, List.length_append, List.length_map]; omega)) | exact Rd.idxR1 (k := i) rfl S68 rfl rfl (by omega) (by omega))) ?_
    refine WL.rd rfl rfl rfl (Rd.get (xs := vsl) (k := i) rfl C24 rfl hl (get!_of_lt (by omega))) ?_
    refine WL.rd rfl rfl rfl (Rd.assign rfl rfl) ?_
    refine WL.nil ?_
    refine thenQ.normal ?_
    refine WC.region ?_
    refine WL.rd rfl rfl rfl (Rd.move rfl rfl) ?_
    refine WL.rd rfl rfl rfl (Rd.move rfl rfl) ?_
    refine WL.op rfl ?_
    refine OpW.call rfl rfl (by repeat (first | exact Evs.nil | apply Evs.cons rfl)) (by kernel_rfl) rfl rfl rfl ?_
    refine of_spec (hL2 i (by omega)) (hn i (by omega)) ?_; intro b15 m15 h15
    refine WL.heap (R' := mapP vs sdv b15 m15 :: R) (O' := mapC vs sdv b6 m :: O) (fun w h => h.shareM (Take.head _)) ?_
    refine WL.op rfl ?_
    refine OpW.call rfl rfl (by repeat (first | exact Evs.nil | apply Evs.cons rfl)) (by kernel_rfl) rfl rfl rfl ?_
    refine copy_spec (b2 := b15) (m2 := m15) List.mem_cons_self (by repeat (first | assumption | exact Take.head _ | apply Take.tail)) ?_; intro m16 h16 l16
    refine WL.nil ?_
    refine blockQ.normal ?_
    refine thenQ.normal ?_
    refine WC.region ?_
    refine WL.rd rfl rfl rfl (Rd.add rfl rfl rfl (by omega)) ?_
    refine WL.rd rfl rfl rfl (Rd.move rfl rfl) ?_
    refine WL.nil ?_
    exact loopQ2.mk (i + 1) m16 ⟨by omega, fun k => by
    rw [h16 k, i2 k, h15.ks k, take_snoc (by omega), keysIn, keysIn, List.flatMap_append, List.mem_append]; simp, by have := h15.2; have := (hK i (by omega)).1; omega⟩ (by omega) (by repeat (first | exact Sub.nil | refine Sub.cons rfl (by first | rfl | (congr 1; omega) | assumption) ?_)) (fun w h => OwnL.sat (by repeat (first | exact OwnL.refl | apply OwnL.take (by repeat (first | exact Take.head _ | apply Take.tail)) | apply OwnL.drop)) w (h.thin (SubL.mem (by repeat (first | exact SubL.refl | refine SubL.cons (by repeat (first | assumption | exact mS | apply mT)) ?_ | refine SubL.skip ?_)))))
  · skip
    refine WC.exit ?_
    refine thenQ.exit ?_
    refine loopQ2.exit ?_
    refine blockQ.exit ?_
    refine thenQ.normal ?_
    refine WC.seq ?_
    refine WC.region ?_
    refine WL.rd rfl rfl rfl (Rd.move rfl rfl) ?_
    refine WL.op rfl ?_
    refine OpW.call rfl rfl (by repeat (first | exact Evs.nil | apply Evs.cons rfl)) (by kernel_rfl) rfl rfl rfl ?_
    refine mapsKeys_spec ?_; intro cb
    refine WL.op rfl ?_
    refine OpW.call rfl rfl (by repeat (first | exact Evs.nil | apply Evs.cons rfl)) (by kernel_rfl) rfl rfl rfl ?_
    have hkm : ∀ k ∈ m.ks, k.length ≤ maxLen := fun k hk' => by
      rw [i2 k, keysIn, List.mem_flatMap] at hk'
      obtain ⟨l, hl', hkl⟩ := hk'
      obtain ⟨x, hx, rfl⟩ := List.mem_map.1 hkl
      obtain ⟨j, hj, rfl⟩ := List.getElem_of_mem (List.mem_of_mem_take hl')
      have := (hK j hj).2 x (by rw [getElem!_pos ll j hj]; exact hx)
      exact this
    refine sorted_spec (m := m) (b := b6) (fun w h => h.see (c := mapC vs sdv b6 m) (by repeat (first | assumption | exact mS | apply mT))) (by repeat (first | assumption | exact mS | apply mT)) (by omega) hkm ?_; intro v20 ks ha hmem hlen
    refine WL.heap (R' := R) (O' := accC 9 1 (one vs) v20 ks :: O) (fun w h => OwnL.sat (by repeat (first | exact OwnL.refl | apply OwnL.take (by repeat (first | exact Take.head _ | apply Take.tail)) | apply OwnL.drop)) w (h.thin (SubL.mem (by repeat (first | exact SubL.refl | refine SubL.cons (by repeat (first | assumption | exact mS | apply mT)) ?_ | refine SubL.skip ?_))))) ?_
    refine WL.rd rfl rfl rfl (Rd.assign rfl rfl) ?_
    refine WL.nil ?_
    refine thenQ.normal ?_
    refine WC.ret (Ret.one Try.results19 rfl ?_)
    rw [List.take_of_length_le (by omega)] at i2
    exact hk v20 ks ⟨ha, fun k => (hmem k).trans (i2 k)⟩ (by omega)
def dchg (a b : List It) (ks : List (List UInt8)) : List Ch := ks.filterMap fun k => if says a k = says b k then none else some ⟨k, says a k, says b k⟩
theorem dchg_snoc (a b : List It) {ks : List (List UInt8)} {i : Nat} (h : i < ks.length) : dchg a b (ks.take (i + 1)) = dchg a b (ks.take i) ++ (if says a ks[i]! = says b ks[i]! then [] else [⟨ks[i]!, says a ks[i]!, says b ks[i]!⟩]) := by
  rw [take_snoc h, dchg, dchg, List.filterMap_append]
  congr 1
  generalize ks[i]! = k
  rw [List.filterMap_cons]
  by_cases e : says a k = says b k
  · rw [if_pos e, if_pos e]; rfl
  · rw [if_neg e, if_neg e]; rfl
theorem dchg_len (a b : List It) (ks : List (List UInt8)) : (dchg a b ks).length ≤ ks.length := List.length_filterMap_le _ _
set_option maxRecDepth 20000 in
set_option maxHeartbeats 1000000 in
theorem diff_spec {a b : List It} {av bv : Value} (ha : SlE encI av a ∈ R) (hb : SlE encI bv b ∈ R) (hKa : KL a) (hKb : KL b)
    (hk1 : RightP a → RightP b → ∀ v ks, KsOf ks [a, b] → POST (.tuple #[v, .int .i64 0]) R (accC 51 5 encG v (dchg a b ks) :: O)) (hk2 : ¬ (RightP a ∧ RightP b) → POST (.tuple #[.slice none 0 0, .int .i64 12]) R O) : Fun Try.prog 17 #[av, bv] R O POST := by
  refine Fun.oneV ha fun hav => ?_
  refine Fun.oneV hb fun hbv => ?_
  refine Fun.enter (l := [_, _]) Try.func17 rfl Try.ntmps17 rfl (L0 := [(0, _), (1, _)]) rfl ?_
  refine WC.seq ?_
  refine WC.region ?_
  refine WL.rd rfl rfl rfl (Rd.assign rfl rfl) ?_
  refine WL.rd rfl rfl rfl (Rd.assign rfl rfl) ?_
  refine WL.nil ?_
  refine thenQ.normal ?_
  refine WC.seq ?_
  refine WC.pick [0, 1] (by repeat (first | exact Pick.nil | apply Pick.cons rfl)) ?_
  refine WC.val 18 (.bool (decide (¬ (RightP a ∧ RightP b)))) ?_ ?_
  · skip
    refine WC.region ?_
    refine WL.rd rfl rfl rfl (Rd.move rfl rfl) ?_
    refine WL.op rfl ?_
    refine OpW.call rfl rfl (by repeat (first | exact Evs.nil | apply Evs.cons rfl)) (by kernel_rfl) rfl rfl rfl ?_
    refine right_spec ha ?_
    refine WL.rd rfl rfl rfl ((by first | exact Rd.notd rfl rfl | exact Rd.not rfl rfl)) ?_
    refine WL.rd rfl rfl rfl (Rd.move rfl rfl) ?_
    refine WL.case 14 rfl (fun hg14 => ?_) (fun hg14 => ?_)
    · skip
      refine WL.no rfl rfl rfl rfl rfl rfl ?_
      refine WL.no rfl rfl rfl rfl rfl rfl ?_
      refine WL.no rfl rfl rfl rfl rfl rfl ?_
      refine WL.rd rfl rfl rfl (Rd.pick_t rfl rfl rfl) ?_
      refine WL.nil ?_
      exact ⟨by repeat (first | exact Sub.nil | refine Sub.cons rfl (by first | rfl | (first | exact vb_t (fun h => hg14 h.1) | exact vb ⟨fun h h2 => h h2.2, fun h h2 => h ⟨Decidable.not_not.1 hg14, h2⟩⟩)) ?_), by first | exact (fun _ h => h.thin (SubL.mem (by repeat (first | exact SubL.refl | refine SubL.cons (by repeat (first | assumption | exact mS | apply mT)) ?_ | refine SubL.skip ?_)))) | exact (fun w h => OwnL.sat (by repeat (first | exact OwnL.refl | apply OwnL.take (by repeat (first | exact Take.head _ | apply Take.tail)) | apply OwnL.drop)) w (h.thin (SubL.mem (by repeat (first | exact SubL.refl | refine SubL.cons (by repeat (first | assumption | exact mS | apply mT)) ?_ | refine SubL.skip ?_)))))⟩
    · skip
      refine WL.rd_yes rfl rfl rfl rfl rfl rfl (Rd.move rfl rfl) ?_
      refine WL.op_yes rfl rfl rfl rfl ?_
      refine OpW.call rfl rfl (by repeat (first | exact Evs.nil | apply Evs.cons rfl)) (by kernel_rfl) rfl rfl rfl ?_
      refine right_spec hb ?_
      refine WL.rd_yes rfl rfl rfl rfl rfl rfl ((by first | exact Rd.notd rfl rfl | exact Rd.not rfl rfl)) ?_
      refine WL.rd rfl rfl rfl (Rd.pick_f rfl rfl rfl) ?_
      refine WL.nil ?_
      exact ⟨by repeat (first | exact Sub.nil | refine Sub.cons rfl (by first | rfl | (first | exact vb_t (fun h => hg14 h.1) | exact vb ⟨fun h h2 => h h2.2, fun h h2 => h ⟨Decidable.not_not.1 hg14, h2⟩⟩)) ?_), by first | exact (fun _ h => h.thin (SubL.mem (by repeat (first | exact SubL.refl | refine SubL.cons (by repeat (first | assumption | exact mS | apply mT)) ?_ | refine SubL.skip ?_)))) | exact (fun w h => OwnL.sat (by repeat (first | exact OwnL.refl | apply OwnL.take (by repeat (first | exact Take.head _ | apply Take.tail)) | apply OwnL.drop)) w (h.thin (SubL.mem (by repeat (first | exact SubL.refl | refine SubL.cons (by repeat (first | assumption | exact mS | apply mT)) ?_ | refine SubL.skip ?_)))))⟩
  · skip
    first | refine WC.ite rfl (fun hc1 => ?_) (fun hc1 => ?_) | refine WC.cond rfl (fun hc1 => ?_) (fun hc1 => ?_)
    · skip
      refine WC.seq ?_
      refine WC.region ?_
      refine WL.rd rfl rfl rfl (Rd.assign rfl rfl) ?_
      refine WL.rd rfl rfl rfl (Rd.assign rfl rfl) ?_
      refine WL.nil ?_
      refine thenQ.normal ?_
      refine WC.ret (Ret.two Try.results17 rfl rfl ?_)
      exact hk2 hc1
    · skip
      obtain ⟨hra, hrb⟩ := Decidable.not_not.1 hc1
      refine WC.skip ?_
      refine thenQ.normal ?_
      refine WC.seq ?_
      refine WC.region ?_
      refine WL.rd rfl rfl rfl (Rd.move rfl rfl) ?_
      refine WL.op rfl ?_
      refine OpW.call rfl rfl (by repeat (first | exact Evs.nil | apply Evs.cons rfl)) (by kernel_rfl) rfl rfl rfl ?_
      refine of_spec ha hra.nodup ?_; intro b20 m20 h20
      refine WL.rd rfl rfl rfl (Rd.move rfl rfl) ?_
      refine WL.op rfl ?_
      refine OpW.call rfl rfl (by repeat (first | exact Evs.nil | apply Evs.cons rfl)) (by kernel_rfl) rfl rfl rfl ?_
      refine of_spec hb hrb.nodup ?_; intro b22 m22 h22
      refine WL.rd rfl rfl rfl (Rd.assign rfl rfl) ?_
      refine WL.rd rfl rfl rfl (Rd.assign rfl rfl) ?_
      refine WL.nil ?_
      refine thenQ.normal ?_
      refine WC.seq ?_
      refine WC.region ?_
      refine WL.rd rfl rfl rfl (Rd.assign rfl rfl) ?_
      refine WL.nil ?_
      refine thenQ.normal ?_
      refine WC.seq ?_
      refine WC.seq ?_
      refine WC.region ?_
      refine WL.rd rfl rfl rfl (Rd.move rfl rfl) ?_
      refine WL.rd rfl rfl rfl (Rd.move rfl rfl) ?_
      refine WL.op rfl ?_
      refine OpW.buildSl (ps := [(0, _), (1, _)]) (cells := [av, bv]) rfl S68 (by repeat (first | exact Evs.nil | apply Evs.cons rfl)) rfl rfl (CellsOf.cons hav.cells (CellsOf.cons hbv.cells CellsOf.nil)) rfl rfl rfl rfl ?_; intro b25
      refine WL.heap (R' := SlE (one vid) (.slice (some ⟨b25, 0, none⟩) 2 2) [av, bv] :: R) (O' := mapC vs sdv b22 m22 :: mapC vs sdv b20 m20 :: O) (fun w h => h.shareRow (e := 24) (enc := one vid) (cells := [av, bv]) (Take.head _) rfl rfl (by decide)) ?_
      refine WL.op rfl ?_
      refine OpW.call rfl rfl (by repeat (first | exact Evs.nil | apply Evs.cons rfl)) (by kernel_rfl) rfl rfl rfl ?_
      refine keys_spec (ll := [a, b]) (List.mem_cons_self) (ListsOf.two (List.mem_cons_of_mem _ ha) (List.mem_cons_of_mem _ hb)) (fun j hj => ?_) (fun j hj => ?_) (by show 2 ≤ 3; omega) ?_
      · match j, hj with
        | 0, _ => exact hra.nodup
        | 1, _ => exact hrb.nodup
      · match j, hj with
        | 0, _ => exact hKa
        | 1, _ => exact hKb
      intro v26 ks hks hk3
      refine WL.heap (R' := R) (O' := accC 51 5 encG (.slice none 0 0) [] :: accC 9 1 (one vs) v26 ks :: mapC vs sdv b20 m20 :: mapC vs sdv b22 m22 :: O) (fun w h => Sat.accNil (by revert w; exact (fun w h => OwnL.sat (by repeat (first | exact OwnL.refl | apply OwnL.take (by repeat (first | exact Take.head _ | apply Take.tail)) | apply OwnL.drop)) w (h.thin (SubL.mem (by repeat (first | exact SubL.refl | refine SubL.cons (by repeat (first | assumption | exact mS | apply mT)) ?_ | refine SubL.skip ?_))))))) ?_
      refine WL.rd rfl rfl rfl ((by first | exact Rd.lenE rfl rfl Try.underlying33 (by repeat (first | assumption | exact mS | apply mT)) | exact Rd.lenA rfl rfl Try.underlying33 (by repeat (first | assumption | exact mS | apply mT)) | exact Rd.len rfl rfl Try.underlying33)) ?_
      refine WL.rd rfl rfl rfl (Rd.move rfl rfl) ?_
      refine WL.nil ?_
      refine thenQ.normal ?_
      refine WC.block ?_
      refine WC.pick [8, 28, 6, 7, 26, 27] (by repeat (first | exact Pick.nil | apply Pick.cons rfl)) ?_
      refine WC.loop2 2 (fun (i : Nat) (v : Value) => [(8, v), (28, .int .i64 (i : Int))]) (fun (i : Nat) (v : Value) => accC 51 5 encG v (dchg a b (ks.take i)) :: accC 9 1 (one vs) v26 ks :: mapC vs sdv b20 m20 :: mapC vs sdv b22 m22 :: O) (fun (i : Nat) (v : Value) => i ≤ ks.length) (fun (i : Nat) (v : Value) => ks.length - i) (0) (.slice none 0 0) (by repeat (first | exact Split.zero | apply Split.succ)) ?hinv1 (by repeat (first | exact Sub.nil | refine Sub.cons rfl (by first | rfl | (congr 1; omega) | assumption) ?_)) (fun _ h => h) ?_
      case hinv1 =>
        exact Nat.zero_le _
      intro i v
      rintro i1
      refine WC.seq ?_
      refine WC.region ?_
      refine WL.rd rfl rfl rfl (Rd.lss rfl rfl rfl) ?_
      refine WL.nil ?_
      refine thenQ.normal ?_
      refine WC.seq ?_
      first | refine WC.ite rfl (fun hc2 => ?_) (fun hc2 => ?_) | refine WC.cond rfl (fun hc2 => ?_) (fun hc2 => ?_)
      · skip
        refine WC.skip ?_
        refine thenQ.normal ?_
        refine WC.seq ?_
        refine WC.block ?_
        refine WC.seq ?_
        refine WC.region ?_
        refine WL.rd rfl rfl rfl ((by first | exact Rd.idx1 (k := i) rfl S33 rfl rfl (by omega) (by repeat (first | assumption | exact mS | apply mT)) (by first | omega | (simp only [List.length_cons, List.length_nil, List.length_append, List.length_map]; omega)) | exact Rd.idxA1 (k := i) rfl S33 rfl rfl (by omega) (by repeat (first | assumption | exact mS | apply mT)) (by first | omega | (simp only [List.length_cons, List.length_nil, List.length_append, List.length_map]; omega)) | exact Rd.idxR1 (k := i) rfl S33 rfl rfl (by omega) (by omega))) ?_
        refine WL.rd rfl rfl rfl ((by first | exact Rd.get rfl C9 rfl (by repeat (first | assumption | exact mS | apply mT)) (by first | assumption | rfl | exact get!_of_lt (by omega)) | exact Rd.getA rfl C9 rfl (by repeat (first | assumption | exact mS | apply mT)) (by first | assumption | rfl | exact get!_of_lt (by omega)) | exact Rd.row1 rfl C9 rfl (by repeat (first | assumption | exact mS | apply mT)) (by rfl) | exact Rd.getF rfl C9 rfl (by repeat (first | assumption | exact mS | apply mT)) (by intro x; first | rfl | (cases x; rfl) | (rcases x with ⟨_, _, _⟩; rfl) | (rcases x with ⟨_, _, _, _⟩; rfl)) rfl (by first | assumption | rfl | exact get!_of_lt (by omega)) (by rfl) | exact Rd.getFA rfl C9 rfl (by repeat (first | assumption | exact mS | apply mT)) (by intro x; first | rfl | (cases x; rfl) | (rcases x with ⟨_, _, _⟩; rfl) | (rcases x with ⟨_, _, _, _⟩; rfl)) rfl (by first | assumption | rfl | exact get!_of_lt (by omega)) (by rfl))) ?_
        refine WL.rd rfl rfl rfl (Rd.assign rfl rfl) ?_
        refine WL.nil ?_
        refine thenQ.normal ?_
        refine WC.seq ?_
        refine WC.region ?_
        refine WL.rd rfl rfl rfl (Rd.move rfl rfl) ?_
        refine WL.rd rfl rfl rfl (Rd.move rfl rfl) ?_
        refine WL.rd rfl rfl rfl ((by first | exact Rd.lookup M61 K9 rfl rfl rfl (by repeat (first | assumption | exact mS | apply mT)) (by rfl) | exact Rd.lookupR M61 K9 rfl rfl rfl (by repeat (first | assumption | exact mS | apply mT)) (by rfl))) ?_
        refine WL.say 34 (u := sdv (says a ks[i]!)) rfl (h20.v _) ?_
        refine WL.rd rfl rfl rfl (Rd.move rfl rfl) ?_
        refine WL.rd rfl rfl rfl (Rd.move rfl rfl) ?_
        refine WL.rd rfl rfl rfl ((by first | exact Rd.lookup M61 K9 rfl rfl rfl (by repeat (first | assumption | exact mS | apply mT)) (by rfl) | exact Rd.lookupR M61 K9 rfl rfl rfl (by repeat (first | assumption | exact mS | apply mT)) (by rfl))) ?_
        refine WL.say 37 (u := sdv (says b ks[i]!)) rfl (h22.v _) ?_
        refine WL.rd rfl rfl rfl (Rd.aneq rfl rfl rfl (EqSd (says a ks[i]!) (says b ks[i]!))) ?_
        refine WL.nil ?_
        refine thenQ.normal ?_
        first | refine WC.ite rfl (fun hc3 => ?_) (fun hc3 => ?_) | refine WC.cond rfl (fun hc3 => ?_) (fun hc3 => ?_)
        · skip
          refine WC.region ?_
          refine WL.rd rfl rfl rfl (Rd.move rfl rfl) ?_
          refine WL.rd rfl rfl rfl (Rd.move rfl rfl) ?_
          refine WL.rd rfl rfl rfl (Rd.move rfl rfl) ?_
          refine WL.rd rfl rfl rfl (Rd.move rfl rfl) ?_
          refine WL.rd rfl rfl rfl ((by first | exact Rd.lookup M61 K9 rfl rfl rfl (by repeat (first | assumption | exact mS | apply mT)) (by rfl) | exact Rd.lookupR M61 K9 rfl rfl rfl (by repeat (first | assumption | exact mS | apply mT)) (by rfl))) ?_
          refine WL.say 43 (u := sdv (says a ks[i]!)) rfl (h20.v _) ?_
          refine WL.rd rfl rfl rfl (Rd.move rfl rfl) ?_
          refine WL.rd rfl rfl rfl (Rd.move rfl rfl) ?_
          refine WL.rd rfl rfl rfl ((by first | exact Rd.lookup M61 K9 rfl rfl rfl (by repeat (first | assumption | exact mS | apply mT)) (by rfl) | exact Rd.lookupR M61 K9 rfl rfl rfl (by repeat (first | assumption | exact mS | apply mT)) (by rfl))) ?_
          refine WL.say 46 (u := sdv (says b ks[i]!)) rfl (h22.v _) ?_
          refine WL.rd rfl rfl rfl (Rd.buildN (ps := [(0, _), (1, _), (2, _)]) rfl Bs51 I51 rfl (by repeat (first | exact Evs.nil | apply Evs.cons rfl)) (by repeat (first | exact CellsOf.nil | apply CellsOf.cons rfl)) (by apply NFo.mk; repeat (first | exact NF.nil | apply NF.cons))) ?_
          refine WL.op rfl ?_
          refine OpW.buildSl (ps := [(0, _)]) rfl S47 (by repeat (first | exact Evs.nil | apply Evs.cons rfl)) rfl rfl (by repeat (first | exact CellsOf.nil | apply CellsOf.cons rfl)) (by kernel_rfl) rfl rfl rfl ?_; intro b48
          have hil := dchg_len a b (ks.take i); rw [List.length_take] at hil
          refine WL.op rfl ?_
          refine OpW.appendRow (enc := encG) rfl S47 rfl rfl (by repeat (first | assumption | exact Take.head _ | apply Take.tail)) (by repeat (first | assumption | exact Take.head _ | apply Take.tail)) [⟨ks[i]!, says a ks[i]!, says b ks[i]!⟩] rfl (by rfl) rfl (by intro x; first | rfl | (cases x; rfl) | (rcases x with ⟨_, _, _⟩; rfl) | (rcases x with ⟨_, _, _, _⟩; rfl)) (by intro x; first | rfl | (cases x; rfl) | (rcases x with ⟨_, _, _⟩; rfl) | (rcases x with ⟨_, _, _, _⟩; rfl)) ⟨by simp only [maxLen, List.length_append, List.length_nil, List.length_cons, List.length_drop, List.length_take, List.length_map]; omega, by first | omega | (simp only [List.length_append, List.length_nil, List.length_cons, List.length_drop, List.length_take, List.length_map]; omega)⟩ rfl rfl ?_; intro v49 hv49
          refine WL.rd rfl rfl rfl (Rd.assign rfl rfl) ?_
          refine WL.nil ?_
          refine blockQ.normal ?_
          refine thenQ.normal ?_
          refine WC.region ?_
          refine WL.rd rfl rfl rfl (Rd.add rfl rfl rfl (by omega)) ?_
          refine WL.rd rfl rfl rfl (Rd.move rfl rfl) ?_
          refine WL.nil ?_
          exact loopQ2.mk (i + 1) v49 (by omega) (by omega) (by repeat (first | exact Sub.nil | refine Sub.cons rfl (by first | rfl | (congr 1; omega) | assumption) ?_)) (by rw [dchg_snoc _ _ (by omega), if_neg hc3]; exact (fun w h => OwnL.sat (by repeat (first | exact OwnL.refl | apply OwnL.take (by repeat (first | exact Take.head _ | apply Take.tail)) | apply OwnL.drop)) w (h.thin (SubL.mem (by repeat (first | exact SubL.refl | refine SubL.cons (by repeat (first | assumption | exact mS | apply mT)) ?_ | refine SubL.skip ?_))))))
        · skip
          refine WC.skip ?_
          refine blockQ.normal ?_
          refine thenQ.normal ?_
          refine WC.region ?_
          refine WL.rd rfl rfl rfl (Rd.add rfl rfl rfl (by omega)) ?_
          refine WL.rd rfl rfl rfl (Rd.move rfl rfl) ?_
          refine WL.nil ?_
          exact loopQ2.mk (i + 1) v (by omega) (by omega) (by repeat (first | exact Sub.nil | refine Sub.cons rfl (by first | rfl | (congr 1; omega) | assumption) ?_)) (by rw [dchg_snoc _ _ (by omega), if_pos (Decidable.not_not.1 hc3), List.append_nil]; exact (fun w h => OwnL.sat (by repeat (first | exact OwnL.refl | apply OwnL.take (by repeat (first | exact Take.head _ | apply Take.tail)) | apply OwnL.drop)) w (h.thin (SubL.mem (by repeat (first | exact SubL.refl | refine SubL.cons (by repeat (first | assumption | exact mS | apply mT)) ?_ | refine SubL.skip ?_))))))
      · skip
        rw [List.take_of_length_le (by omega)]
        refine WC.heap (R' := R) (O' := accC 51 5 encG v (dchg a b ks) :: O) (fun w h => OwnL.sat (by repeat (first | exact OwnL.refl | apply OwnL.take (by repeat (first | exact Take.head _ | apply Take.tail)) | apply OwnL.drop)) w (h.thin (SubL.mem (by repeat (first | exact SubL.refl | refine SubL.cons (by repeat (first | assumption | exact mS | apply mT)) ?_ | refine SubL.skip ?_))))) ?_
        refine WC.exit ?_
        refine thenQ.exit ?_
        refine loopQ2.exit ?_
        refine blockQ.exit ?_
        refine thenQ.normal ?_
        refine WC.seq ?_
        refine WC.region ?_
        refine WL.rd rfl rfl rfl (Rd.move rfl rfl) ?_
        refine WL.rd rfl rfl rfl (Rd.assign rfl rfl) ?_
        refine WL.rd rfl rfl rfl (Rd.assign rfl rfl) ?_
        refine WL.nil ?_
        refine thenQ.normal ?_
        refine WC.ret (Ret.two Try.results17 rfl rfl ?_)
        exact hk1 hra hrb v ks hks
end
end Go.Proofs.Ytbbeifdmgmadiaa
