/-
  Layer 18: GraphMakes.
-/
import Derived.Test.YtfenbhaehkkkeaaGr17
namespace Go.SL
open Go Go.RowKit
theorem flat_set {α : Type} [Inhabited α] {enc : α → List Value} {size : Nat} (hs : ∀ x, (enc x).length = size) : ∀ {xs : List α} {k f : Nat} {a : α} {u : Value}, k < xs.length → f < size → enc a = (enc xs[k]!).set f u → (xs.set k a).flatMap enc = (xs.flatMap enc).set (k * size + f) u
  | x :: xs, 0, f, a, u, _, hf, ha => by
    have ha' : enc a = (enc x).set f u := by simpa using ha
    rw [List.set_cons_zero, List.flatMap_cons, List.flatMap_cons, Nat.zero_mul, Nat.zero_add, List.set_append_left _ _ (by rw [hs]; exact hf), ha']
  | x :: xs, k + 1, f, a, u, hk, hf, ha => by
    have ha' : enc a = (enc xs[k]!).set f u := by simpa using ha
    rw [List.set_cons_succ, List.flatMap_cons, List.flatMap_cons, flat_set hs (by simpa using hk) hf ha', List.set_append_right _ _ (by rw [hs, Nat.add_mul]; omega), hs]
    congr 2
    rw [Nat.add_mul]; omega
theorem OpW.storeAccF {α : Type} [Inhabited α] {P : Program} {n : Sz} {o : Oper} {L : Env} {R : List RO} {O O' : List Own} {K : Env → List RO → List Own → Prop} {t e : TypeId} {x y : Operand} {v u : Value} {xs : List α} {enc : α → List Value} {size k f j : Nat} {a : α} (ho : o.op = .store t x y) (hsz : ∀ w, (sizeOf t).run P w = .ok 1 w) (hx : ev L x = some (.pointer (some (elemAddr v j)))) (hy : ev L y = some u) (h1 : u.cells = #[u]) (h2 : u.oneCell' = true)
    (hT : Take (accC e size enc v xs) O O') (hs : ∀ x, (enc x).length = size) (hj : j = k * size + f) (hlt : k < xs.length) (hf : f < size) (ha : enc a = (enc xs[k]!).set f u) (hd : o.dst = none) (kk : K L R (accC e size enc v (xs.set k a) :: O')) : OpW P n o L R O K := by
  intro ac w hfr hst Q
  have hs' := hst.perm hT.perm
  have hp : (accC e size enc v xs).pred w := hs'.see List.mem_cons_self
  have hflt : j < (xs.flatMap enc).length := by
    rw [flat_len hs, hj]
    have h1 : (k + 1) * size ≤ xs.length * size := Nat.mul_le_mul_right _ hlt
    rw [Nat.add_mul, Nat.one_mul] at h1; omega
  have hcell := acc_cell hp (j := j) (u := (xs.flatMap enc)[j]) (List.getElem?_eq_getElem hflt)
  have hlt' := ownBlock_lt hp
  obtain ⟨hl, hv⟩ := hp
  rcases hv with ⟨rfl, h0⟩ | ⟨b, cap, cur, rfl, hb, hh, hnc, hcm, hcs, ht⟩
  · omega
  simp only [elemAddr, Nat.zero_add] at hx hcell
  have hfree : w.frozen? ⟨b, j, none⟩ = false := by
    simp only [World.frozen?, hh]; simp
  have hr : (execOp ac.eval o).run P w = .ok .skip (w.setCell ⟨b, j, none⟩ u) := by
    simp [execOp, ho, hfr.ev hx, hfr.ev hy, Instr.storeAt, Instr.sureAddr, storeVar, hsz, h1, storeCells, Addr.add, run_store _ _ _ _ _ h2, hcell, hfree]
  unfold Oper.wp
  rw [hr, Oper.upon_skip, hd]
  have hset : (w.setCell ⟨b, j, none⟩ u).heap[b]? = some (.cells (cur.setIfInBounds j u) e (0, 0)) := by
    show (w.heap.modify b _)[b]? = _
    rw [Array.getElem?_modify, if_pos rfl, hh]; rfl
  have hbl : b < w.heap.size := hlt' b (by simp [Value.ownBlock])
  refine ⟨_, _, _, kk, hfr.none _, hs'.update _ ⟨rfl, rfl, rfl, by simp, fun j' hj' hn => heap_setCell_other w _ _ u (by simpa [accC, Value.ownBlock, eq_comm] using hn)⟩ (by intro j' hj'; left; simpa [accC, Value.ownBlock] using hj') (by intro j' hj'; simp [accC, Value.ownBlock] at hj'; subst hj'; simpa using hbl) (by simp [accC, Value.ownBlock]) (fun w'' ha' _ => ?_)⟩
  refine ⟨by rw [flat_len hs], .inr ⟨b, cap, cur.setIfInBounds j u, by rw [List.length_set], Nat.zero_le _, ?_, by rw [List.length_set]; exact hnc, hcm, by simpa using hcs, ?_⟩⟩
  · rw [ha'.2.2.2.2 b (by simpa using hbl) (by simp [accC, Value.ownBlock])]
    exact hset
  · rw [Array.toList_setIfInBounds, List.length_set, List.take_set, ht, flat_set hs hlt hf ha, hj]
end Go.SL
namespace Go.Proofs.Ytfenbhaehkkkeaa
open Go Go.SL
def rn {α : Type} (x : T × α) (s : T) : T × α := (s, x.2)
theorem set_nv {na : List Nv} {m j : Nat} {a : Nv} (hj : j < na.length) : (na.set m a)[j]! = if m = j then a else na[j]! := by
  rw [getElem!_pos _ j (by rw [List.length_set]; exact hj), List.getElem_set, ← getElem!_pos na j hj]
theorem set_nd {na : List Nd} {m j : Nat} {a : Nd} (hj : j < na.length) : (na.set m a)[j]! = if m = j then a else na[j]! := by
  rw [getElem!_pos _ j (by rw [List.length_set]; exact hj), List.getElem_set, ← getElem!_pos na j hj]
/-- A node's ID put in another's place. -/
theorem ndsP_set {na : List Nv} {L : List Nd} {m : Nat} {s : T} {w : World} (hl : na.length = L.length) (hm : m < L.length) (h : ndsP na L w) : ndsP (na.set m (rn na[m]! s)) (L.set m (rn L[m]! s)) w := by
  intro i hi
  rw [List.length_set] at hi
  rw [set_nv (by omega), set_nd hi]
  by_cases e : m = i
  · subst e
    rw [if_pos rfl, if_pos rfl]; exact h m hm
  · rw [if_neg e, if_neg e]; exact h i hi
structure Fits (L : List Nd) (na nb : List Nv) : Prop where
  n : L.length ≤ 16
  la : na.length = L.length
  lb : nb.length = L.length
  a : ∀ i, i < L.length → na[i]!.1 = L[i]!.1 ∧ na[i]!.2.2 = L[i]!.2.2
  b : ∀ i, i < L.length → nb[i]!.1 = L[i]!.1 ∧ nb[i]!.2.2 = L[i]!.2.2
  p : ∀ n ∈ L, n.2.1.length ≤ 100
theorem fits_mk {qs : List Qn} {na nb : List Nv} (ha : Mt na qs (min qs.length 16)) (hb : Mt nb qs (min qs.length 16)) : Fits (mk false qs) na nb := by
  refine ⟨by rw [mk_len]; omega, by rw [mk_len, ha.1], by rw [mk_len, hb.1], fun i hi => ?_, fun i hi => ?_, mk_small false qs⟩
  · rw [mk_len] at hi
    rw [mk_get _ _ hi]
    exact ha.2 i hi
  · rw [mk_len] at hi
    rw [mk_get _ _ hi]
    exact hb.2 i hi
theorem Fits.set {L : List Nd} {na nb : List Nv} {m : Nat} {s : T} (h : Fits L na nb) (hm : m < L.length) : Fits (L.set m (rn L[m]! s)) (na.set m (rn na[m]! s)) (nb.set m (rn nb[m]! s)) := by
  have h1 := h.la
  have h2 := h.lb
  refine ⟨by rw [List.length_set]; exact h.n, by rw [List.length_set, List.length_set, h1], by rw [List.length_set, List.length_set, h2], fun i hi => ?_, fun i hi => ?_, fun n hn => ?_⟩
  · rw [List.length_set] at hi
    rw [set_nv (by omega), set_nd hi]
    by_cases e : m = i
    · subst e
      rw [if_pos rfl, if_pos rfl]; exact ⟨rfl, (h.a m hm).2⟩
    · rw [if_neg e, if_neg e]; exact h.a i hi
  · rw [List.length_set] at hi
    rw [set_nv (by omega), set_nd hi]
    by_cases e : m = i
    · subst e
      rw [if_pos rfl, if_pos rfl]; exact ⟨rfl, (h.b m hm).2⟩
    · rw [if_neg e, if_neg e]; exact h.b i hi
  · rcases List.mem_or_eq_of_mem_set hn with g | rfl
    · exact h.p n g
    · exact h.p L[m]! (get!_mem hm)
section
variable {R : List RO} {O O' : List Own} {POST : Value → List RO → List Own → Prop}
theorem newAny_spec {v : Value} {L : List Nd} (hL : NdL v L R) (h1 : L.length ≤ 1000) (h2 : ∀ n ∈ L, n.2.1.length ≤ 100) (hk : ∀ ad e Rx, Says L e → (ad.isSome = decide (e = 0)) → POST (.tuple #[.pointer ad, vi e]) (Rx ++ R) O) : Fun Try.prog 11 #[v] R O POST := by
  refine new_spec hL h1 h2 (fun e he => hk none e [] (.inl he) ?_) (fun gv p1 p2 p3 g1 g2 g3 g4 g5 g6 => ?_)
  · have : e ≠ 0 := fun h => by subst h; cases he
    simp [this]
  · rcases g6 with ⟨rfl, _⟩ | ⟨b, bm, m, rfl, _⟩
    · exact absurd rfl g5
    · exact hk (some ⟨b, 0, none⟩) 0 [p1, p2, p3] (.inr ⟨rfl, g1, g2, g3⟩) rfl
set_option maxRecDepth 20000 in
set_option maxHeartbeats 4000000 in
theorem makes_spec {lv : Value} {qs : List Qn} {tw : Int} (hl : SlE encQ lv qs ∈ R) (hq : AllQ QQ qs ∈ R) (hk : POST (.bool true) R O) : Fun Try.prog 3 #[lv, vi tw] R O POST := by
  obtain ⟨L, hL⟩ : ∃ L, mk false qs = L := ⟨_, rfl⟩
  refine Fun.enter (l := [_, _]) Try.func3 rfl Try.ntmps3 rfl (L0 := [(0, _), (1, _)]) rfl ?_
  refine WC.seq ?_
  refine WC.region ?_
  refine WL.rd rfl rfl rfl (Rd.assign rfl rfl) ?_
  refine WL.nil ?_
  refine thenQ.normal ?_
  refine WC.seq ?_
  refine WC.seq ?_
  refine WC.region ?_
  refine WL.op rfl ?_
  refine OpW.call rfl rfl (by repeat (first | exact Evs.nil | apply Evs.cons rfl)) (by kernel_rfl) rfl rfl rfl ?_
  refine speaks_spec ?_
  refine WL.say 9 (u := .bool (decide True)) rfl (by simp) ?_
  refine WL.rd rfl rfl rfl ((by first | exact Rd.notd rfl rfl | exact Rd.not rfl rfl)) ?_
  refine WL.nil ?_
  refine thenQ.normal ?_
  first | refine WC.ite rfl (fun hc1 => ?_) (fun hc1 => ?_) | refine WC.cond rfl (fun hc1 => ?_) (fun hc1 => ?_)
  · skip
    exact absurd trivial hc1
  · skip
    refine WC.skip ?_
    refine thenQ.normal ?_
    refine WC.seq ?_
    refine WC.region ?_
    refine WL.rd rfl rfl rfl (Rd.move rfl rfl) ?_
    refine WL.op rfl ?_
    refine OpW.call rfl rfl (by repeat (first | exact Evs.nil | apply Evs.cons rfl)) (by kernel_rfl) rfl rfl rfl ?_
    refine nodes_spec (back := false) hl hq ?_; intro av bv na nb ha hb
    refine WL.rd rfl rfl rfl (Rd.move rfl rfl) ?_
    refine WL.rd rfl rfl rfl (Rd.extract rfl rfl rfl) ?_
    refine WL.rd rfl rfl rfl (Rd.extract rfl rfl rfl) ?_
    refine WL.rd rfl rfl rfl (Rd.assign rfl rfl) ?_
    refine WL.rd rfl rfl rfl (Rd.assign rfl rfl) ?_
    refine WL.nil ?_
    refine thenQ.normal ?_
    refine WC.cut (α := List Nd × List Nv × List Nv) (fun _ => [(5, av), (6, bv)]) (fun q => SlE encN bv q.2.2 :: SlE encN av q.2.1 :: ndsP q.2.1 q.1 :: ndsP q.2.2 q.1 :: R) (fun _ => O) (fun q => Fits q.1 q.2.1 q.2.2) ?_ ?_
    · skip
      refine WC.seq ?_
      have hF := fits_mk ha hb
      rw [hL]
      rw [hL] at hF
      have hFn := hF.n
      have hFa := hF.la
      have hFb := hF.lb
      refine WC.region ?_
      refine WL.rd rfl rfl rfl (Rd.move rfl rfl) ?_
      refine WL.rd rfl rfl rfl (Rd.lenA (enc := encN) (xs := na) rfl rfl Try.underlying24 (by repeat (first | assumption | exact mS | apply mT))) ?_
      refine WL.rd rfl rfl rfl (Rd.gtr rfl rfl rfl) ?_
      refine WL.rd rfl rfl rfl (Rd.move rfl rfl) ?_
      refine WL.case 19 rfl (fun hg19 => ?_) (fun hg19 => ?_)
      · skip
        refine WL.rd_yes rfl rfl rfl rfl rfl rfl (Rd.move rfl rfl) ?_
        refine WL.rd_yes rfl rfl rfl rfl rfl rfl (Rd.andm (m := 7) rfl rfl rfl rfl (by decide)) ?_
        refine WL.rd_yes rfl rfl rfl rfl rfl rfl (Rd.eql rfl rfl rfl) ?_
        refine WL.rd rfl rfl rfl (Rd.pick_t rfl rfl rfl) ?_
        refine WL.nil ?_
        refine thenQ.normal ?_
        first | refine WC.ite rfl (fun hc2 => ?_) (fun hc2 => ?_) | refine WC.cond rfl (fun hc2 => ?_) (fun hc2 => ?_)
        · skip
          refine WC.knowO (cc := accC 30 3 encN av na) (by repeat (first | assumption | exact mS | apply mT)) (fun w h => acc_shape h (by omega)) ?_
          rintro ⟨ga, ca, rfl⟩
          refine WC.knowO (cc := accC 31 3 encN bv nb) (by repeat (first | assumption | exact mS | apply mT)) (fun w h => acc_shape h (by omega)) ?_
          rintro ⟨gb, cb, rfl⟩
          refine WC.drawnU (O) ([(18, accC 30 3 encN (.slice (some ⟨ga, 0, none⟩) na.length ca) na), (21, accC 31 3 encN (.slice (some ⟨gb, 0, none⟩) nb.length cb) nb)]) 22 rfl mixed ?_
          refine WE.take 0 [] rfl (by kernel_rfl) (by repeat (first | exact List.Sublist.refl _ | exact List.nil_sublist _ | apply List.Sublist.cons_cons | apply List.Sublist.cons)) (HeldL.mk2 [accC 30 3 encN (.slice (some ⟨ga, 0, none⟩) na.length ca) na, accC 31 3 encN (.slice (some ⟨gb, 0, none⟩) nb.length cb) nb] (by kernel_rfl) (by repeat (first | exact SubL.refl | refine SubL.cons (by repeat (first | assumption | exact mS | apply mT)) ?_ | refine SubL.skip ?_)) (by repeat (first | exact OwnL.refl | apply OwnL.take (by repeat (first | exact Take.head _ | apply Take.tail)) | apply OwnL.drop)) (by repeat (first | exact Mems.nil | refine Mems.cons (by repeat (first | assumption | exact mS | apply mT)) ?_))) rfl rfl rfl (Rd.move rfl rfl) ?_
          refine WE.take 1 [] rfl (by kernel_rfl) (by repeat (first | exact List.Sublist.refl _ | exact List.nil_sublist _ | apply List.Sublist.cons_cons | apply List.Sublist.cons)) (HeldL.mk2 [accC 30 3 encN (.slice (some ⟨ga, 0, none⟩) na.length ca) na, accC 31 3 encN (.slice (some ⟨gb, 0, none⟩) nb.length cb) nb] (by kernel_rfl) (by repeat (first | exact SubL.refl | refine SubL.cons (by repeat (first | assumption | exact mS | apply mT)) ?_ | refine SubL.skip ?_)) (by repeat (first | exact OwnL.refl | apply OwnL.take (by repeat (first | exact Take.head _ | apply Take.tail)) | apply OwnL.drop)) (by repeat (first | exact Mems.nil | refine Mems.cons (by repeat (first | assumption | exact mS | apply mT)) ?_))) rfl rfl rfl (Rd.move rfl rfl) ?_
          refine WE.take 2 [] rfl (by kernel_rfl) (by repeat (first | exact List.Sublist.refl _ | exact List.nil_sublist _ | apply List.Sublist.cons_cons | apply List.Sublist.cons)) (HeldL.mk2 [accC 30 3 encN (.slice (some ⟨ga, 0, none⟩) na.length ca) na, accC 31 3 encN (.slice (some ⟨gb, 0, none⟩) nb.length cb) nb] (by kernel_rfl) (by repeat (first | exact SubL.refl | refine SubL.cons (by repeat (first | assumption | exact mS | apply mT)) ?_ | refine SubL.skip ?_)) (by repeat (first | exact OwnL.refl | apply OwnL.take (by repeat (first | exact Take.head _ | apply Take.tail)) | apply OwnL.drop)) (by repeat (first | exact Mems.nil | refine Mems.cons (by repeat (first | assumption | exact mS | apply mT)) ?_))) rfl rfl rfl (Rd.len rfl rfl Try.underlying24) ?_
          refine WE.take 3 [] rfl (by kernel_rfl) (by repeat (first | exact List.Sublist.refl _ | exact List.nil_sublist _ | apply List.Sublist.cons_cons | apply List.Sublist.cons)) (HeldL.mk2 [accC 30 3 encN (.slice (some ⟨ga, 0, none⟩) na.length ca) na, accC 31 3 encN (.slice (some ⟨gb, 0, none⟩) nb.length cb) nb] (by kernel_rfl) (by repeat (first | exact SubL.refl | refine SubL.cons (by repeat (first | assumption | exact mS | apply mT)) ?_ | refine SubL.skip ?_)) (by repeat (first | exact OwnL.refl | apply OwnL.take (by repeat (first | exact Take.head _ | apply Take.tail)) | apply OwnL.drop)) (by repeat (first | exact Mems.nil | refine Mems.cons (by repeat (first | assumption | exact mS | apply mT)) ?_))) rfl rfl rfl (Rd.sub rfl rfl rfl (by omega)) ?_
          refine WE.take 4 [] rfl (by kernel_rfl) (by repeat (first | exact List.Sublist.refl _ | exact List.nil_sublist _ | apply List.Sublist.cons_cons | apply List.Sublist.cons)) (HeldL.mk2 [accC 30 3 encN (.slice (some ⟨ga, 0, none⟩) na.length ca) na, accC 31 3 encN (.slice (some ⟨gb, 0, none⟩) nb.length cb) nb] (by kernel_rfl) (by repeat (first | exact SubL.refl | refine SubL.cons (by repeat (first | assumption | exact mS | apply mT)) ?_ | refine SubL.skip ?_)) (by repeat (first | exact OwnL.refl | apply OwnL.take (by repeat (first | exact Take.head _ | apply Take.tail)) | apply OwnL.drop)) (by repeat (first | exact Mems.nil | refine Mems.cons (by repeat (first | assumption | exact mS | apply mT)) ?_))) rfl rfl rfl (Rd.move rfl rfl) ?_
          refine WE.take 5 [] rfl (by kernel_rfl) (by repeat (first | exact List.Sublist.refl _ | exact List.nil_sublist _ | apply List.Sublist.cons_cons | apply List.Sublist.cons)) (HeldL.mk2 [accC 30 3 encN (.slice (some ⟨ga, 0, none⟩) na.length ca) na, accC 31 3 encN (.slice (some ⟨gb, 0, none⟩) nb.length cb) nb] (by kernel_rfl) (by repeat (first | exact SubL.refl | refine SubL.cons (by repeat (first | assumption | exact mS | apply mT)) ?_ | refine SubL.skip ?_)) (by repeat (first | exact OwnL.refl | apply OwnL.take (by repeat (first | exact Take.head _ | apply Take.tail)) | apply OwnL.drop)) (by repeat (first | exact Mems.nil | refine Mems.cons (by repeat (first | assumption | exact mS | apply mT)) ?_))) rfl rfl rfl (Rd.move rfl rfl) ?_
          refine WE.take 6 [] rfl (by kernel_rfl) (by repeat (first | exact List.Sublist.refl _ | exact List.nil_sublist _ | apply List.Sublist.cons_cons | apply List.Sublist.cons)) (HeldL.mk2 [accC 30 3 encN (.slice (some ⟨ga, 0, none⟩) na.length ca) na, accC 31 3 encN (.slice (some ⟨gb, 0, none⟩) nb.length cb) nb] (by kernel_rfl) (by repeat (first | exact SubL.refl | refine SubL.cons (by repeat (first | assumption | exact mS | apply mT)) ?_ | refine SubL.skip ?_)) (by repeat (first | exact OwnL.refl | apply OwnL.take (by repeat (first | exact Take.head _ | apply Take.tail)) | apply OwnL.drop)) (by repeat (first | exact Mems.nil | refine Mems.cons (by repeat (first | assumption | exact mS | apply mT)) ?_))) rfl rfl rfl (Rd.len rfl rfl Try.underlying25) ?_
          refine WE.take 7 [] rfl (by kernel_rfl) (by repeat (first | exact List.Sublist.refl _ | exact List.nil_sublist _ | apply List.Sublist.cons_cons | apply List.Sublist.cons)) (HeldL.mk2 [accC 30 3 encN (.slice (some ⟨ga, 0, none⟩) na.length ca) na, accC 31 3 encN (.slice (some ⟨gb, 0, none⟩) nb.length cb) nb] (by kernel_rfl) (by repeat (first | exact SubL.refl | refine SubL.cons (by repeat (first | assumption | exact mS | apply mT)) ?_ | refine SubL.skip ?_)) (by repeat (first | exact OwnL.refl | apply OwnL.take (by repeat (first | exact Take.head _ | apply Take.tail)) | apply OwnL.drop)) (by repeat (first | exact Mems.nil | refine Mems.cons (by repeat (first | assumption | exact mS | apply mT)) ?_))) rfl rfl rfl (Rd.sub rfl rfl rfl (by omega)) ?_
          refine WE.take 8 [] rfl (by kernel_rfl) (by repeat (first | exact List.Sublist.refl _ | exact List.nil_sublist _ | apply List.Sublist.cons_cons | apply List.Sublist.cons)) (HeldL.mk2 [accC 30 3 encN (.slice (some ⟨ga, 0, none⟩) na.length ca) na, accC 31 3 encN (.slice (some ⟨gb, 0, none⟩) nb.length cb) nb] (by kernel_rfl) (by repeat (first | exact SubL.refl | refine SubL.cons (by repeat (first | assumption | exact mS | apply mT)) ?_ | refine SubL.skip ?_)) (by repeat (first | exact OwnL.refl | apply OwnL.take (by repeat (first | exact Take.head _ | apply Take.tail)) | apply OwnL.drop)) (by repeat (first | exact Mems.nil | refine Mems.cons (by repeat (first | assumption | exact mS | apply mT)) ?_))) rfl rfl rfl (Rd.move rfl rfl) ?_
          refine WE.take 9 [] rfl (by kernel_rfl) (by repeat (first | exact List.Sublist.refl _ | exact List.nil_sublist _ | apply List.Sublist.cons_cons | apply List.Sublist.cons)) (HeldL.mk2 [accC 30 3 encN (.slice (some ⟨ga, 0, none⟩) na.length ca) na, accC 31 3 encN (.slice (some ⟨gb, 0, none⟩) nb.length cb) nb] (by kernel_rfl) (by repeat (first | exact SubL.refl | refine SubL.cons (by repeat (first | assumption | exact mS | apply mT)) ?_ | refine SubL.skip ?_)) (by repeat (first | exact OwnL.refl | apply OwnL.take (by repeat (first | exact Take.head _ | apply Take.tail)) | apply OwnL.drop)) (by repeat (first | exact Mems.nil | refine Mems.cons (by repeat (first | assumption | exact mS | apply mT)) ?_))) rfl rfl rfl (Rd.idxR (size := 3) (k := 0) (r := 0 + 0 * 3) rfl S24 rfl rfl rfl (by omega)) ?_
          refine WE.take 10 [] rfl (by kernel_rfl) (by repeat (first | exact List.Sublist.refl _ | exact List.nil_sublist _ | apply List.Sublist.cons_cons | apply List.Sublist.cons)) (HeldL.mk2 [accC 30 3 encN (.slice (some ⟨ga, 0, none⟩) na.length ca) na, accC 31 3 encN (.slice (some ⟨gb, 0, none⟩) nb.length cb) nb] (by kernel_rfl) (by repeat (first | exact SubL.refl | refine SubL.cons (by repeat (first | assumption | exact mS | apply mT)) ?_ | refine SubL.skip ?_)) (by repeat (first | exact OwnL.refl | apply OwnL.take (by repeat (first | exact Take.head _ | apply Take.tail)) | apply OwnL.drop)) (by repeat (first | exact Mems.nil | refine Mems.cons (by repeat (first | assumption | exact mS | apply mT)) ?_))) rfl rfl rfl (Rd.field (r := 0 + (0 * 3 + 0)) rfl F30_0 rfl rfl) ?_
          refine WE.take 11 [(18, accC 30 3 encN (.slice (some ⟨ga, 0, none⟩) na.length ca) na), (21, accC 31 3 encN (.slice (some ⟨gb, 0, none⟩) nb.length cb) nb)] rfl (by kernel_rfl) (by repeat (first | exact List.Sublist.refl _ | exact List.nil_sublist _ | apply List.Sublist.cons_cons | apply List.Sublist.cons)) (HeldL.mk2 [accC 30 3 encN (.slice (some ⟨ga, 0, none⟩) na.length ca) na, accC 31 3 encN (.slice (some ⟨gb, 0, none⟩) nb.length cb) nb] (by kernel_rfl) (by repeat (first | exact SubL.refl | refine SubL.cons (by repeat (first | assumption | exact mS | apply mT)) ?_ | refine SubL.skip ?_)) (by repeat (first | exact OwnL.refl | apply OwnL.take (by repeat (first | exact Take.head _ | apply Take.tail)) | apply OwnL.drop)) (by repeat (first | exact Mems.nil | refine Mems.cons (by repeat (first | assumption | exact mS | apply mT)) ?_))) rfl rfl rfl (Rd.getFA (enc := encN) (size := 3) (xs := na) (v := .slice (some ⟨ga, 0, none⟩) na.length ca) (k := 0) (f := 0) (j := 0 * 3 + 0) (a := na[0]!) (u := vs L[0]!.1) rfl C9 rfl (by repeat (first | assumption | exact mS | apply mT)) (fun x => rfl) rfl (get!_of_lt (by omega)) (by rw [← (hF.a 0 (by omega)).1]; rfl)) ?_
          refine WE.take 12 [] rfl (by kernel_rfl) (by repeat (first | exact List.Sublist.refl _ | exact List.nil_sublist _ | apply List.Sublist.cons_cons | apply List.Sublist.cons)) (HeldL.mk2 [accC 30 3 encN (.slice (some ⟨ga, 0, none⟩) na.length ca) na, accC 31 3 encN (.slice (some ⟨gb, 0, none⟩) nb.length cb) nb] (by kernel_rfl) (by repeat (first | exact SubL.refl | refine SubL.cons (by repeat (first | assumption | exact mS | apply mT)) ?_ | refine SubL.skip ?_)) (by repeat (first | exact OwnL.refl | apply OwnL.take (by repeat (first | exact Take.head _ | apply Take.tail)) | apply OwnL.drop)) (by repeat (first | exact Mems.nil | refine Mems.cons (by repeat (first | assumption | exact mS | apply mT)) ?_))) rfl rfl rfl (Rd.move rfl rfl) ?_
          refine WE.take 13 [] rfl (by kernel_rfl) (by repeat (first | exact List.Sublist.refl _ | exact List.nil_sublist _ | apply List.Sublist.cons_cons | apply List.Sublist.cons)) (HeldL.mk2 [accC 30 3 encN (.slice (some ⟨ga, 0, none⟩) na.length ca) na, accC 31 3 encN (.slice (some ⟨gb, 0, none⟩) nb.length cb) nb] (by kernel_rfl) (by repeat (first | exact SubL.refl | refine SubL.cons (by repeat (first | assumption | exact mS | apply mT)) ?_ | refine SubL.skip ?_)) (by repeat (first | exact OwnL.refl | apply OwnL.take (by repeat (first | exact Take.head _ | apply Take.tail)) | apply OwnL.drop)) (by repeat (first | exact Mems.nil | refine Mems.cons (by repeat (first | assumption | exact mS | apply mT)) ?_))) rfl rfl rfl (Rd.idxR (size := 3) (k := 0) (r := 0 + 0 * 3) rfl S25 rfl rfl rfl (by omega)) ?_
          refine WE.take 14 [] rfl (by kernel_rfl) (by repeat (first | exact List.Sublist.refl _ | exact List.nil_sublist _ | apply List.Sublist.cons_cons | apply List.Sublist.cons)) (HeldL.mk2 [accC 30 3 encN (.slice (some ⟨ga, 0, none⟩) na.length ca) na, accC 31 3 encN (.slice (some ⟨gb, 0, none⟩) nb.length cb) nb] (by kernel_rfl) (by repeat (first | exact SubL.refl | refine SubL.cons (by repeat (first | assumption | exact mS | apply mT)) ?_ | refine SubL.skip ?_)) (by repeat (first | exact OwnL.refl | apply OwnL.take (by repeat (first | exact Take.head _ | apply Take.tail)) | apply OwnL.drop)) (by repeat (first | exact Mems.nil | refine Mems.cons (by repeat (first | assumption | exact mS | apply mT)) ?_))) rfl rfl rfl (Rd.field (r := 0 + (0 * 3 + 0)) rfl F31_0 rfl rfl) ?_
          refine WE.take 15 [(18, accC 30 3 encN (.slice (some ⟨ga, 0, none⟩) na.length ca) na), (21, accC 31 3 encN (.slice (some ⟨gb, 0, none⟩) nb.length cb) nb)] rfl (by kernel_rfl) (by repeat (first | exact List.Sublist.refl _ | exact List.nil_sublist _ | apply List.Sublist.cons_cons | apply List.Sublist.cons)) (HeldL.mk2 [accC 30 3 encN (.slice (some ⟨ga, 0, none⟩) na.length ca) na, accC 31 3 encN (.slice (some ⟨gb, 0, none⟩) nb.length cb) nb] (by kernel_rfl) (by repeat (first | exact SubL.refl | refine SubL.cons (by repeat (first | assumption | exact mS | apply mT)) ?_ | refine SubL.skip ?_)) (by repeat (first | exact OwnL.refl | apply OwnL.take (by repeat (first | exact Take.head _ | apply Take.tail)) | apply OwnL.drop)) (by repeat (first | exact Mems.nil | refine Mems.cons (by repeat (first | assumption | exact mS | apply mT)) ?_))) rfl rfl rfl (Rd.getFA (enc := encN) (size := 3) (xs := nb) (v := .slice (some ⟨gb, 0, none⟩) nb.length cb) (k := 0) (f := 0) (j := 0 * 3 + 0) (a := nb[0]!) (u := vs L[0]!.1) rfl C9 rfl (by repeat (first | assumption | exact mS | apply mT)) (fun x => rfl) rfl (get!_of_lt (by omega)) (by rw [← (hF.b 0 (by omega)).1]; rfl)) ?_
          refine WE.take 16 [] rfl (by kernel_rfl) (by repeat (first | exact List.Sublist.refl _ | exact List.nil_sublist _ | apply List.Sublist.cons_cons | apply List.Sublist.cons)) (HeldL.mk2 [accC 30 3 encN (.slice (some ⟨ga, 0, none⟩) na.length ca) na, accC 31 3 encN (.slice (some ⟨gb, 0, none⟩) nb.length cb) nb] (by kernel_rfl) (by repeat (first | exact SubL.refl | refine SubL.cons (by repeat (first | assumption | exact mS | apply mT)) ?_ | refine SubL.skip ?_)) (by repeat (first | exact OwnL.refl | apply OwnL.take (by repeat (first | exact Take.head _ | apply Take.tail)) | apply OwnL.drop)) (by repeat (first | exact Mems.nil | refine Mems.cons (by repeat (first | assumption | exact mS | apply mT)) ?_))) rfl rfl rfl (Rd.idxR (size := 3) (k := L.length - 1) (r := 0 + (L.length - 1) * 3) rfl S24 rfl rfl (by omega) (by omega)) ?_
          refine WE.take 17 [] rfl (by kernel_rfl) (by repeat (first | exact List.Sublist.refl _ | exact List.nil_sublist _ | apply List.Sublist.cons_cons | apply List.Sublist.cons)) (HeldL.mk2 [accC 30 3 encN (.slice (some ⟨ga, 0, none⟩) na.length ca) na, accC 31 3 encN (.slice (some ⟨gb, 0, none⟩) nb.length cb) nb] (by kernel_rfl) (by repeat (first | exact SubL.refl | refine SubL.cons (by repeat (first | assumption | exact mS | apply mT)) ?_ | refine SubL.skip ?_)) (by repeat (first | exact OwnL.refl | apply OwnL.take (by repeat (first | exact Take.head _ | apply Take.tail)) | apply OwnL.drop)) (by repeat (first | exact Mems.nil | refine Mems.cons (by repeat (first | assumption | exact mS | apply mT)) ?_))) rfl rfl rfl (Rd.field (r := 0 + ((L.length - 1) * 3 + 0)) rfl F30_0 rfl (by omega)) ?_
          refine WE.one 18 rfl (by kernel_rfl) rfl ?_
          refine OpW.storeAccF (enc := encN) (size := 3) (xs := na) (v := .slice (some ⟨ga, 0, none⟩) na.length ca) (j := (L.length - 1) * 3 + 0) (k := L.length - 1) (f := 0) (a := rn na[L.length - 1]! L[0]!.1) rfl Z9 rfl rfl rfl rfl (by repeat (first | assumption | exact Take.head _ | apply Take.tail)) (fun x => rfl) rfl (by omega) (by decide) rfl rfl ?_
          refine ⟨(HeldL.mk2 [accC 31 3 encN (.slice (some ⟨gb, 0, none⟩) nb.length cb) nb] (by kernel_rfl) (by repeat (first | exact SubL.refl | refine SubL.cons (by repeat (first | assumption | exact mS | apply mT)) ?_ | refine SubL.skip ?_)) (by repeat (first | exact OwnL.refl | apply OwnL.take (by repeat (first | exact Take.head _ | apply Take.tail)) | apply OwnL.drop)) (by repeat (first | exact Mems.nil | refine Mems.cons (by repeat (first | assumption | exact mS | apply mT)) ?_))), ?_⟩
          refine WE.take 19 [] rfl (by kernel_rfl) (by repeat (first | exact List.Sublist.refl _ | exact List.nil_sublist _ | apply List.Sublist.cons_cons | apply List.Sublist.cons)) (HeldL.mk2 [accC 31 3 encN (.slice (some ⟨gb, 0, none⟩) nb.length cb) nb] (by kernel_rfl) (by repeat (first | exact SubL.refl | refine SubL.cons (by repeat (first | assumption | exact mS | apply mT)) ?_ | refine SubL.skip ?_)) (by repeat (first | exact OwnL.refl | apply OwnL.take (by repeat (first | exact Take.head _ | apply Take.tail)) | apply OwnL.drop)) (by repeat (first | exact Mems.nil | refine Mems.cons (by repeat (first | assumption | exact mS | apply mT)) ?_))) rfl rfl rfl (Rd.idxR (size := 3) (k := L.length - 1) (r := 0 + (L.length - 1) * 3) rfl S25 rfl rfl (by omega) (by omega)) ?_
          refine WE.take 20 [] rfl (by kernel_rfl) (by repeat (first | exact List.Sublist.refl _ | exact List.nil_sublist _ | apply List.Sublist.cons_cons | apply List.Sublist.cons)) (HeldL.mk2 [accC 31 3 encN (.slice (some ⟨gb, 0, none⟩) nb.length cb) nb] (by kernel_rfl) (by repeat (first | exact SubL.refl | refine SubL.cons (by repeat (first | assumption | exact mS | apply mT)) ?_ | refine SubL.skip ?_)) (by repeat (first | exact OwnL.refl | apply OwnL.take (by repeat (first | exact Take.head _ | apply Take.tail)) | apply OwnL.drop)) (by repeat (first | exact Mems.nil | refine Mems.cons (by repeat (first | assumption | exact mS | apply mT)) ?_))) rfl rfl rfl (Rd.field (r := 0 + ((L.length - 1) * 3 + 0)) rfl F31_0 rfl (by omega)) ?_
          refine WE.one 21 rfl (by kernel_rfl) rfl ?_
          refine OpW.storeAccF (enc := encN) (size := 3) (xs := nb) (v := .slice (some ⟨gb, 0, none⟩) nb.length cb) (j := (L.length - 1) * 3 + 0) (k := L.length - 1) (f := 0) (a := rn nb[L.length - 1]! L[0]!.1) rfl Z9 rfl rfl rfl rfl (by repeat (first | assumption | exact Take.head _ | apply Take.tail)) (fun x => rfl) rfl (by omega) (by decide) rfl rfl ?_
          refine ⟨(HeldL.mk2 [] (by kernel_rfl) (by repeat (first | exact SubL.refl | refine SubL.cons (by repeat (first | assumption | exact mS | apply mT)) ?_ | refine SubL.skip ?_)) (by repeat (first | exact OwnL.refl | apply OwnL.take (by repeat (first | exact Take.head _ | apply Take.tail)) | apply OwnL.drop)) (by repeat (first | exact Mems.nil | refine Mems.cons (by repeat (first | assumption | exact mS | apply mT)) ?_))), ?_⟩
          refine WE.done (by kernel_rfl) ?_
          exact ⟨(L.set (L.length - 1) (rn L[L.length - 1]! L[0]!.1), na.set (L.length - 1) (rn na[L.length - 1]! L[0]!.1), nb.set (L.length - 1) (rn nb[L.length - 1]! L[0]!.1)), hF.set (by omega), (by repeat (first | exact Sub.nil | refine Sub.cons rfl (by first | rfl | (congr 1; omega) | assumption) ?_)), (fun w h => by
              have h1 := Sat.shareA (xs := na.set (L.length - 1) (rn na[L.length - 1]! L[0]!.1)) (by repeat (first | assumption | exact Take.head _ | apply Take.tail)) h
              have h2 := Sat.shareA (xs := nb.set (L.length - 1) (rn nb[L.length - 1]! L[0]!.1)) (by repeat (first | assumption | exact Take.head _ | apply Take.tail)) h1
              have h3 := h2.derive (q := ndsP (nb.set (L.length - 1) (rn nb[L.length - 1]! L[0]!.1)) (L.set (L.length - 1) (rn L[L.length - 1]! L[0]!.1))) (fun w hw => ndsP_set hFb (by omega) (hw (ndsP nb L) (by repeat (first | assumption | exact mS | apply mT))))
              have h4 := h3.derive (q := ndsP (na.set (L.length - 1) (rn na[L.length - 1]! L[0]!.1)) (L.set (L.length - 1) (rn L[L.length - 1]! L[0]!.1))) (fun w hw => ndsP_set hFa (by omega) (hw (ndsP na L) (by repeat (first | assumption | exact mS | apply mT))))
              exact (fun w h => OwnL.sat (by repeat (first | exact OwnL.refl | apply OwnL.take (by repeat (first | exact Take.head _ | apply Take.tail)) | apply OwnL.drop)) w (h.thin (SubL.mem (by repeat (first | exact SubL.refl | refine SubL.cons (by repeat (first | assumption | exact mS | apply mT)) ?_ | refine SubL.skip ?_))))) w h4)⟩
        · skip
          refine WC.skip ?_
          exact ⟨(L, na, nb), hF, (by repeat (first | exact Sub.nil | refine Sub.cons rfl (by first | rfl | (congr 1; omega) | assumption) ?_)), (fun w h => by
              have h1 := Sat.shareA (xs := na) (by repeat (first | assumption | exact Take.head _ | apply Take.tail)) h
              have h2 := Sat.shareA (xs := nb) (by repeat (first | assumption | exact Take.head _ | apply Take.tail)) h1
              exact (fun w h => OwnL.sat (by repeat (first | exact OwnL.refl | apply OwnL.take (by repeat (first | exact Take.head _ | apply Take.tail)) | apply OwnL.drop)) w (h.thin (SubL.mem (by repeat (first | exact SubL.refl | refine SubL.cons (by repeat (first | assumption | exact mS | apply mT)) ?_ | refine SubL.skip ?_))))) w h2)⟩
      · skip
        refine WL.no rfl rfl rfl rfl rfl rfl ?_
        refine WL.no rfl rfl rfl rfl rfl rfl ?_
        refine WL.no rfl rfl rfl rfl rfl rfl ?_
        refine WL.rd rfl rfl rfl (Rd.pick_f rfl rfl rfl) ?_
        refine WL.nil ?_
        refine thenQ.normal ?_
        refine WC.no rfl ?_
        refine WC.skip ?_
        exact ⟨(L, na, nb), hF, (by repeat (first | exact Sub.nil | refine Sub.cons rfl (by first | rfl | (congr 1; omega) | assumption) ?_)), (fun w h => by
            have h1 := Sat.shareA (xs := na) (by repeat (first | assumption | exact Take.head _ | apply Take.tail)) h
            have h2 := Sat.shareA (xs := nb) (by repeat (first | assumption | exact Take.head _ | apply Take.tail)) h1
            exact (fun w h => OwnL.sat (by repeat (first | exact OwnL.refl | apply OwnL.take (by repeat (first | exact Take.head _ | apply Take.tail)) | apply OwnL.drop)) w (h.thin (SubL.mem (by repeat (first | exact SubL.refl | refine SubL.cons (by repeat (first | assumption | exact mS | apply mT)) ?_ | refine SubL.skip ?_))))) w h2)⟩
    · skip
      rintro ⟨L2, na2, nb2⟩ hF2
      have hG2 : Fits L2 na2 nb2 := hF2
      have hGn := hG2.n
      have hNa : NLs av L2 (SlE encN bv nb2 :: SlE encN av na2 :: ndsP na2 L2 :: ndsP nb2 L2 :: R) na2 := ⟨by simp, by simp, hG2.la, hG2.a⟩
      have hNb : NLs bv L2 (SlE encN bv nb2 :: SlE encN av na2 :: ndsP na2 L2 :: ndsP nb2 L2 :: R) nb2 := ⟨by simp, by simp, hG2.lb, hG2.b⟩
      refine WC.seq ?_
      refine WC.region ?_
      refine WL.rd rfl rfl rfl (Rd.move rfl rfl) ?_
      refine WL.op rfl ?_
      refine OpW.call rfl rfl (by repeat (first | exact Evs.nil | apply Evs.cons rfl)) (by kernel_rfl) rfl rfl rfl ?_
      refine newAny_spec (L := L2) ⟨na2, hNa⟩ (by omega) hG2.p ?_; intro ad e Rx hse hade
      refine WL.rd rfl rfl rfl (Rd.move rfl rfl) ?_
      refine WL.rd rfl rfl rfl (Rd.extract rfl rfl rfl) ?_
      refine WL.rd rfl rfl rfl (Rd.extract rfl rfl rfl) ?_
      refine WL.rd rfl rfl rfl (Rd.assign rfl rfl) ?_
      refine WL.rd rfl rfl rfl (Rd.assign rfl rfl) ?_
      refine WL.nil ?_
      refine thenQ.normal ?_
      refine WC.seq ?_
      refine WC.region ?_
      refine WL.rd rfl rfl rfl (Rd.move rfl rfl) ?_
      refine WL.rd rfl rfl rfl (Rd.move rfl rfl) ?_
      refine WL.op rfl ?_
      refine OpW.call rfl rfl (by repeat (first | exact Evs.nil | apply Evs.cons rfl)) (by kernel_rfl) rfl rfl rfl ?_
      refine rnew_spec (hNb.mono fun p hp => List.mem_append_right _ hp) (by omega) (fun n hn => Nat.le_trans (hG2.p n hn) (by decide)) ?_; intro e2 hse2
      obtain rfl := hse.uniq hse2
      refine WL.rd rfl rfl rfl (Rd.eql rfl rfl rfl) ?_
      refine WL.rd rfl rfl rfl (Rd.move rfl rfl) ?_
      refine WL.case 53 rfl (fun hg53 => ?_) (fun hg53 => ?_)
      · skip
        refine WL.rd_yes rfl rfl rfl rfl rfl rfl (Rd.move rfl rfl) ?_
        refine WL.rd_yes rfl rfl rfl rfl rfl rfl (Rd.pneqN rfl Try.underlying32 rfl rfl) ?_
        refine WL.rd_yes rfl rfl rfl rfl rfl rfl (Rd.move rfl rfl) ?_
        refine WL.rd_yes rfl rfl rfl rfl rfl rfl (Rd.eql rfl rfl rfl) ?_
        refine WL.rd_yes rfl rfl rfl rfl rfl rfl (Rd.beql rfl rfl rfl Try.underlying4) ?_
        refine WL.say 58 (u := .bool true) rfl (by simp [hade]) ?_
        refine WL.rd rfl rfl rfl (Rd.pick_t rfl rfl rfl) ?_
        refine WL.rd rfl rfl rfl (Rd.assign rfl rfl) ?_
        refine WL.nil ?_
        refine thenQ.normal ?_
        refine WC.heap (R' := R) (O' := O) (fun w h => h.thin (fun p hp => List.mem_append_right _ (by repeat (first | exact hp | apply List.mem_cons_of_mem)))) ?_
        refine WC.ret (Ret.one Try.results3 rfl ?_)
        exact hk
      · skip
        exact absurd rfl hg53
end
end Go.Proofs.Ytfenbhaehkkkeaa
