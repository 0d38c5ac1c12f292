/-
  Layer 8: meet.
-/
import Derived.Test.YtnpkpcjiebiplaaMg5
namespace Go.Proofs.Ytnpkpcjiebiplaa
open Go Go.SL
theorem EPr (a0 b0 : List UInt8) (a1 b1 : List UInt8) : EqS Try.prog 42 #[vs a0, vs a1] #[vs b0, vs b1] (a0 = b0 ∧ a1 = b1) := ⟨fun w => by
  simp [go_sem, run_equalIn_agg, Op.eqFields, part, Try.underlying9, Try.underlying42, Try.isAgg9, Try.isAgg42, Try.stoodInHeld42, Try.sizeOf9, Try.sizeOf42]
  all_goals (try (repeat' split)) <;> simp_all, Try.eqGuardType42⟩
theorem EqS.iff {P : Program} {t : TypeId} {xs ys : Array Value} {p q : Prop} [Decidable p] [Decidable q] (h : EqS P t xs ys p) (e : p ↔ q) : EqS P t xs ys q := ⟨fun w => by rw [h.1 w, decide_eq_decide.2 e], h.2⟩
theorem KPr : KeyT Try.prog 42 vp := KeyT.two Try.underlying42 Try.underlying9 Try.underlying9 C9 C9 rfl rfl (fun a b => EqS.iff (EPr _ _ _ _) Prod.ext_iff.symm)
/-- What meets at a piece's place. -/
structure Met (l : List Pr) (u : List T) (a : T) (v : List T) (H H' : List Sp) : Prop where
  old : ∀ s ∈ H, s ∈ H'
  new : ∀ s ∈ H', s ∈ H ∨ ∃ b v' r, v = b :: v' ∧ rk l (a, b) = some r ∧ s = ⟨r, off u, a, b⟩
  cnt : H'.length ≤ H.length + 1
  got : ∀ b v' r, v = b :: v' → rk l (a, b) = some r → (⟨r, off u, a, b⟩ : Sp) ∈ H'
def RkM (l : List Pr) (m : GoMap Pr Int) : Prop := ∀ p, m.get p = (rk l p).map fun r => (r : Int)
section
variable {R : List RO} {O O' : List Own} {POST : Value → List RO → List Own → Prop} {br bm n : Nat} {pv nv qv sv : Value} {nx pr : List Int} {H : List Sp} {l : List Pr} {m : GoMap Pr Int}
set_option maxRecDepth 20000 in
theorem meetN_spec (hk : POST (.tuple #[]) R O) : Fun Try.prog 25 #[rptr br, vi (-1)] R O POST := by
  refine Fun.enter (l := [_, _]) Try.func25 rfl Try.ntmps25 rfl (L0 := [(0, _), (1, _)]) rfl ?_
  refine WC.seq ?_
  refine WC.seq ?_
  refine WC.still mixed (by kernel_rfl) ?_
  refine WA.rd rfl rfl rfl (Rd.move rfl rfl) ?_
  refine WA.rd rfl rfl rfl (Rd.lss rfl rfl rfl) ?_
  refine WA.say 8 (u := .bool (decide True)) rfl rfl ?_
  refine WA.rd rfl rfl rfl (Rd.move rfl rfl) ?_
  refine WA.case 9 rfl (fun hg9 => ?_) (fun hg9 => ?_)
  · skip
    refine WA.no rfl rfl rfl rfl rfl rfl ?_
    refine WA.no rfl rfl rfl rfl rfl rfl ?_
    refine WA.no rfl rfl rfl rfl rfl rfl ?_
    refine WA.no rfl rfl rfl rfl rfl rfl ?_
    refine WA.no rfl rfl rfl rfl rfl rfl ?_
    refine WA.no rfl rfl rfl rfl rfl rfl ?_
    refine WA.no rfl rfl rfl rfl rfl rfl ?_
    refine WA.no rfl rfl rfl rfl rfl rfl ?_
    refine WA.no rfl rfl rfl rfl rfl rfl ?_
    refine WA.no rfl rfl rfl rfl rfl rfl ?_
    refine WA.no rfl rfl rfl rfl rfl rfl ?_
    refine WA.no rfl rfl rfl rfl rfl rfl ?_
    refine WA.no rfl rfl rfl rfl rfl rfl ?_
    refine WA.rd rfl rfl rfl (Rd.pick_t rfl rfl rfl) ?_
    refine WA.nil ?_
    refine thenQ.normal ?_
    refine WC.yes rfl ?_
    refine WC.ret (Ret.zero Try.results25 ?_)
    exact hk
  · skip
    exact absurd trivial hg9
set_option maxRecDepth 20000 in
theorem meet_spec {u v : List T} {a : T} (hL : Links n (u ++ a :: v) nx pr) (hf : Full (u ++ a :: v)) (hn : off (u ++ a :: v) = n) (hn4 : n ≤ 4096) (hmap : mapP vp vi bm m ∈ R) (hget : RkM l m) (hH : Hp spLt H) (hlen : H.length ≤ 800000)
    (hk : ∀ sv' H', Met l u a v H H' → Hp spLt H' → POST (.tuple #[]) R (rowW br pv nv qv bm sv' :: accT pv (lay (u ++ a :: v)) :: accI nv nx :: accI qv pr :: accS sv' H' :: O)) :
    Fun Try.prog 25 #[rptr br, vi (off u)] R (rowW br pv nv qv bm sv :: accT pv (lay (u ++ a :: v)) :: accI nv nx :: accI qv pr :: accS sv H :: O) POST := by
  have ha := len_pos hf.mid
  have hll := lay_len hf
  have hnn := hn
  rw [off_snoc] at hnn
  have hga : (lay (u ++ a :: v))[off u]? = some a := lay_get hf
  have hx1 := hL.next u a v rfl
  have hnl := hL.nl
  refine Fun.enter (l := [_, _]) Try.func25 rfl Try.ntmps25 rfl (L0 := [(0, _), (1, _)]) rfl ?_
  refine WC.seq ?_
  refine WC.seq ?_
  refine WC.still mixed (by kernel_rfl) ?_
  refine WA.rd rfl rfl rfl (Rd.move rfl rfl) ?_
  refine WA.rd rfl rfl rfl (Rd.lss rfl rfl rfl) ?_
  refine WA.rd rfl rfl rfl (Rd.move rfl rfl) ?_
  refine WA.case 9 rfl (fun hg9 => ?_) (fun hg9 => ?_)
  · skip
    exfalso; omega
  · skip
    refine WA.rd_yes rfl rfl rfl rfl rfl rfl (Rd.move rfl rfl) ?_
    refine WA.rd_yes rfl rfl rfl rfl rfl rfl (Rd.nilc rfl rfl) ?_
    refine WA.rd_yes rfl rfl rfl rfl rfl rfl ((by first | exact Rd.field rfl F61_1 rfl rfl | exact Rd.fieldE rfl F61_1 rfl (by repeat (first | assumption | exact mS | apply mT)) (by omega) | exact Rd.fieldA rfl F61_1 rfl (by repeat (first | assumption | exact mS | apply mT)) (by omega))) ?_
    refine WA.rd_yes rfl rfl rfl rfl rfl rfl (Rd.row1 (b := br) (off := 1) (u := nv) rfl C57 rfl (by repeat (first | assumption | exact mS | apply mT)) rfl) ?_
    refine WA.rd_yes rfl rfl rfl rfl rfl rfl (Rd.move rfl rfl) ?_
    refine WA.rd_yes rfl rfl rfl rfl rfl rfl ((by first | exact Rd.idx1 (k := off u) rfl S57 rfl rfl (by omega) (by repeat (first | assumption | exact mS | apply mT)) (by first | omega | (simp only [List.length_cons, List.length_nil, List.length_append, List.length_map]; omega)) | exact Rd.idxA1 (k := off u) rfl S57 rfl rfl (by omega) (by repeat (first | assumption | exact mS | apply mT)) (by first | omega | (simp only [List.length_cons, List.length_nil, List.length_append, List.length_map]; omega)) | exact Rd.idxR1 (k := off u) rfl S57 rfl rfl (by omega) (by omega))) ?_
    refine WA.rd_yes rfl rfl rfl rfl rfl rfl (Rd.getA (g := vi) (xs := nx) (k := off u) (a := ((off u + a.length : Nat) : Int)) rfl C3 rfl (by repeat (first | assumption | exact mS | apply mT)) (get?_of (by omega) hx1)) ?_
    refine WA.rd_yes rfl rfl rfl rfl rfl rfl (Rd.move rfl rfl) ?_
    refine WA.rd_yes rfl rfl rfl rfl rfl rfl (Rd.nilc rfl rfl) ?_
    refine WA.rd_yes rfl rfl rfl rfl rfl rfl ((by first | exact Rd.field rfl F61_0 rfl rfl | exact Rd.fieldE rfl F61_0 rfl (by repeat (first | assumption | exact mS | apply mT)) (by omega) | exact Rd.fieldA rfl F61_0 rfl (by repeat (first | assumption | exact mS | apply mT)) (by omega))) ?_
    refine WA.rd_yes rfl rfl rfl rfl rfl rfl (Rd.row1 (b := br) (off := 0) (u := pv) rfl C38 rfl (by repeat (first | assumption | exact mS | apply mT)) rfl) ?_
    refine WA.rd_yes rfl rfl rfl rfl rfl rfl (Rd.lenA (enc := one vs) (xs := lay (u ++ a :: v)) rfl rfl Try.underlying38 (by repeat (first | assumption | exact mS | apply mT))) ?_
    refine WA.rd_yes rfl rfl rfl rfl rfl rfl (Rd.geq rfl rfl rfl) ?_
    refine WA.rd rfl rfl rfl (Rd.pick_f rfl rfl rfl) ?_
    refine WA.nil ?_
    refine thenQ.normal ?_
    first | refine WC.ite rfl (fun hc1 => ?_) (fun hc1 => ?_) | refine WC.cond rfl (fun hc1 => ?_) (fun hc1 => ?_)
    · skip
      have hv : v = [] := Classical.byContradiction fun e => by
        obtain ⟨c, v', rfl⟩ := List.exists_cons_of_ne_nil e
        have := len_pos (hf c (by simp))
        rw [off_cons] at hnn; omega
      refine WC.ret (Ret.zero Try.results25 ?_)
      exact hk sv H ⟨fun s h => h, fun s h => .inl h, by omega, fun b v' r e => by rw [hv] at e; cases e⟩ hH
    · skip
      obtain ⟨b, v', hv⟩ : ∃ b v', v = b :: v' := List.exists_cons_of_ne_nil (fun e => by subst e; rw [off_nil] at hnn; omega)
      subst hv
      have hb : 0 < b.length := len_pos (hf b (by simp))
      rw [off_cons] at hnn
      have hgb : (lay (u ++ a :: b :: v'))[off u + a.length]? = some b := by
        have := lay_get (u := u ++ [a]) (a := b) (v := v') (by simpa using hf)
        rw [off_snoc, off_nil, Nat.add_zero] at this
        simpa using this
      refine WC.skip ?_
      refine thenQ.normal ?_
      refine WC.seq ?_
      refine WC.drawn (rowW br pv nv qv bm sv :: accT pv (lay (u ++ a :: b :: v')) :: accI nv nx :: accI qv pr :: accS sv H :: O) 23 rfl mixed ?_
      refine WD.take 0 rfl (by kernel_rfl) (Held.mk' (by repeat (first | exact SubL.refl | refine SubL.cons (by repeat (first | assumption | exact mS | apply mT)) ?_ | refine SubL.skip ?_)) (by repeat (first | exact OwnL.refl | apply OwnL.take (by repeat (first | exact Take.head _ | apply Take.tail)) | apply OwnL.drop))) rfl rfl rfl (Rd.move rfl rfl) ?_
      refine WD.take 1 rfl (by kernel_rfl) (Held.mk' (by repeat (first | exact SubL.refl | refine SubL.cons (by repeat (first | assumption | exact mS | apply mT)) ?_ | refine SubL.skip ?_)) (by repeat (first | exact OwnL.refl | apply OwnL.take (by repeat (first | exact Take.head _ | apply Take.tail)) | apply OwnL.drop))) rfl rfl rfl (Rd.nilc rfl rfl) ?_
      refine WD.take 2 rfl (by kernel_rfl) (Held.mk' (by repeat (first | exact SubL.refl | refine SubL.cons (by repeat (first | assumption | exact mS | apply mT)) ?_ | refine SubL.skip ?_)) (by repeat (first | exact OwnL.refl | apply OwnL.take (by repeat (first | exact Take.head _ | apply Take.tail)) | apply OwnL.drop))) rfl rfl rfl ((by first | exact Rd.field rfl F61_0 rfl rfl | exact Rd.fieldE rfl F61_0 rfl (by repeat (first | assumption | exact mS | apply mT)) (by omega) | exact Rd.fieldA rfl F61_0 rfl (by repeat (first | assumption | exact mS | apply mT)) (by omega))) ?_
      refine WD.take 3 rfl (by kernel_rfl) (Held.mk' (by repeat (first | exact SubL.refl | refine SubL.cons (by repeat (first | assumption | exact mS | apply mT)) ?_ | refine SubL.skip ?_)) (by repeat (first | exact OwnL.refl | apply OwnL.take (by repeat (first | exact Take.head _ | apply Take.tail)) | apply OwnL.drop))) rfl rfl rfl (Rd.row1 (b := br) (off := 0) (u := pv) rfl C38 rfl (by repeat (first | assumption | exact mS | apply mT)) rfl) ?_
      refine WD.take 4 rfl (by kernel_rfl) (Held.mk' (by repeat (first | exact SubL.refl | refine SubL.cons (by repeat (first | assumption | exact mS | apply mT)) ?_ | refine SubL.skip ?_)) (by repeat (first | exact OwnL.refl | apply OwnL.take (by repeat (first | exact Take.head _ | apply Take.tail)) | apply OwnL.drop))) rfl rfl rfl (Rd.move rfl rfl) ?_
      refine WD.take 5 rfl (by kernel_rfl) (Held.mk' (by repeat (first | exact SubL.refl | refine SubL.cons (by repeat (first | assumption | exact mS | apply mT)) ?_ | refine SubL.skip ?_)) (by repeat (first | exact OwnL.refl | apply OwnL.take (by repeat (first | exact Take.head _ | apply Take.tail)) | apply OwnL.drop))) rfl rfl rfl ((by first | exact Rd.idx1 (k := off u) rfl S38 rfl rfl (by omega) (by repeat (first | assumption | exact mS | apply mT)) (by first | omega | (simp only [List.length_cons, List.length_nil, List.length_append, List.length_map]; omega)) | exact Rd.idxA1 (k := off u) rfl S38 rfl rfl (by omega) (by repeat (first | assumption | exact mS | apply mT)) (by first | omega | (simp only [List.length_cons, List.length_nil, List.length_append, List.length_map]; omega)) | exact Rd.idxR1 (k := off u) rfl S38 rfl rfl (by omega) (by omega))) ?_
      refine WD.take 6 rfl (by kernel_rfl) (Held.mk' (by repeat (first | exact SubL.refl | refine SubL.cons (by repeat (first | assumption | exact mS | apply mT)) ?_ | refine SubL.skip ?_)) (by repeat (first | exact OwnL.refl | apply OwnL.take (by repeat (first | exact Take.head _ | apply Take.tail)) | apply OwnL.drop))) rfl rfl rfl (Rd.getA (g := vs) (xs := lay (u ++ a :: b :: v')) (k := off u) (a := a) rfl C9 rfl (by repeat (first | assumption | exact mS | apply mT)) hga) ?_
      refine WD.take 7 rfl (by kernel_rfl) (Held.mk' (by repeat (first | exact SubL.refl | refine SubL.cons (by repeat (first | assumption | exact mS | apply mT)) ?_ | refine SubL.skip ?_)) (by repeat (first | exact OwnL.refl | apply OwnL.take (by repeat (first | exact Take.head _ | apply Take.tail)) | apply OwnL.drop))) rfl rfl rfl (Rd.move rfl rfl) ?_
      refine WD.take 8 rfl (by kernel_rfl) (Held.mk' (by repeat (first | exact SubL.refl | refine SubL.cons (by repeat (first | assumption | exact mS | apply mT)) ?_ | refine SubL.skip ?_)) (by repeat (first | exact OwnL.refl | apply OwnL.take (by repeat (first | exact Take.head _ | apply Take.tail)) | apply OwnL.drop))) rfl rfl rfl (Rd.nilc rfl rfl) ?_
      refine WD.take 9 rfl (by kernel_rfl) (Held.mk' (by repeat (first | exact SubL.refl | refine SubL.cons (by repeat (first | assumption | exact mS | apply mT)) ?_ | refine SubL.skip ?_)) (by repeat (first | exact OwnL.refl | apply OwnL.take (by repeat (first | exact Take.head _ | apply Take.tail)) | apply OwnL.drop))) rfl rfl rfl ((by first | exact Rd.field rfl F61_0 rfl rfl | exact Rd.fieldE rfl F61_0 rfl (by repeat (first | assumption | exact mS | apply mT)) (by omega) | exact Rd.fieldA rfl F61_0 rfl (by repeat (first | assumption | exact mS | apply mT)) (by omega))) ?_
      refine WD.take 10 rfl (by kernel_rfl) (Held.mk' (by repeat (first | exact SubL.refl | refine SubL.cons (by repeat (first | assumption | exact mS | apply mT)) ?_ | refine SubL.skip ?_)) (by repeat (first | exact OwnL.refl | apply OwnL.take (by repeat (first | exact Take.head _ | apply Take.tail)) | apply OwnL.drop))) rfl rfl rfl (Rd.row1 (b := br) (off := 0) (u := pv) rfl C38 rfl (by repeat (first | assumption | exact mS | apply mT)) rfl) ?_
      refine WD.take 11 rfl (by kernel_rfl) (Held.mk' (by repeat (first | exact SubL.refl | refine SubL.cons (by repeat (first | assumption | exact mS | apply mT)) ?_ | refine SubL.skip ?_)) (by repeat (first | exact OwnL.refl | apply OwnL.take (by repeat (first | exact Take.head _ | apply Take.tail)) | apply OwnL.drop))) rfl rfl rfl (Rd.move rfl rfl) ?_
      refine WD.take 12 rfl (by kernel_rfl) (Held.mk' (by repeat (first | exact SubL.refl | refine SubL.cons (by repeat (first | assumption | exact mS | apply mT)) ?_ | refine SubL.skip ?_)) (by repeat (first | exact OwnL.refl | apply OwnL.take (by repeat (first | exact Take.head _ | apply Take.tail)) | apply OwnL.drop))) rfl rfl rfl (Rd.nilc rfl rfl) ?_
      refine WD.take 13 rfl (by kernel_rfl) (Held.mk' (by repeat (first | exact SubL.refl | refine SubL.cons (by repeat (first | assumption | exact mS | apply mT)) ?_ | refine SubL.skip ?_)) (by repeat (first | exact OwnL.refl | apply OwnL.take (by repeat (first | exact Take.head _ | apply Take.tail)) | apply OwnL.drop))) rfl rfl rfl ((by first | exact Rd.field rfl F61_1 rfl rfl | exact Rd.fieldE rfl F61_1 rfl (by repeat (first | assumption | exact mS | apply mT)) (by omega) | exact Rd.fieldA rfl F61_1 rfl (by repeat (first | assumption | exact mS | apply mT)) (by omega))) ?_
      refine WD.take 14 rfl (by kernel_rfl) (Held.mk' (by repeat (first | exact SubL.refl | refine SubL.cons (by repeat (first | assumption | exact mS | apply mT)) ?_ | refine SubL.skip ?_)) (by repeat (first | exact OwnL.refl | apply OwnL.take (by repeat (first | exact Take.head _ | apply Take.tail)) | apply OwnL.drop))) rfl rfl rfl (Rd.row1 (b := br) (off := 1) (u := nv) rfl C57 rfl (by repeat (first | assumption | exact mS | apply mT)) rfl) ?_
      refine WD.take 15 rfl (by kernel_rfl) (Held.mk' (by repeat (first | exact SubL.refl | refine SubL.cons (by repeat (first | assumption | exact mS | apply mT)) ?_ | refine SubL.skip ?_)) (by repeat (first | exact OwnL.refl | apply OwnL.take (by repeat (first | exact Take.head _ | apply Take.tail)) | apply OwnL.drop))) rfl rfl rfl (Rd.move rfl rfl) ?_
      refine WD.take 16 rfl (by kernel_rfl) (Held.mk' (by repeat (first | exact SubL.refl | refine SubL.cons (by repeat (first | assumption | exact mS | apply mT)) ?_ | refine SubL.skip ?_)) (by repeat (first | exact OwnL.refl | apply OwnL.take (by repeat (first | exact Take.head _ | apply Take.tail)) | apply OwnL.drop))) rfl rfl rfl ((by first | exact Rd.idx1 (k := off u) rfl S57 rfl rfl (by omega) (by repeat (first | assumption | exact mS | apply mT)) (by first | omega | (simp only [List.length_cons, List.length_nil, List.length_append, List.length_map]; omega)) | exact Rd.idxA1 (k := off u) rfl S57 rfl rfl (by omega) (by repeat (first | assumption | exact mS | apply mT)) (by first | omega | (simp only [List.length_cons, List.length_nil, List.length_append, List.length_map]; omega)) | exact Rd.idxR1 (k := off u) rfl S57 rfl rfl (by omega) (by omega))) ?_
      refine WD.take 17 rfl (by kernel_rfl) (Held.mk' (by repeat (first | exact SubL.refl | refine SubL.cons (by repeat (first | assumption | exact mS | apply mT)) ?_ | refine SubL.skip ?_)) (by repeat (first | exact OwnL.refl | apply OwnL.take (by repeat (first | exact Take.head _ | apply Take.tail)) | apply OwnL.drop))) rfl rfl rfl (Rd.getA (g := vi) (xs := nx) (k := off u) (a := ((off u + a.length : Nat) : Int)) rfl C3 rfl (by repeat (first | assumption | exact mS | apply mT)) (get?_of (by omega) hx1)) ?_
      refine WD.take 18 rfl (by kernel_rfl) (Held.mk' (by repeat (first | exact SubL.refl | refine SubL.cons (by repeat (first | assumption | exact mS | apply mT)) ?_ | refine SubL.skip ?_)) (by repeat (first | exact OwnL.refl | apply OwnL.take (by repeat (first | exact Take.head _ | apply Take.tail)) | apply OwnL.drop))) rfl rfl rfl ((by first | exact Rd.idx1 (k := off u + a.length) rfl S38 rfl rfl (by omega) (by repeat (first | assumption | exact mS | apply mT)) (by first | omega | (simp only [List.length_cons, List.length_nil, List.length_append, List.length_map]; omega)) | exact Rd.idxA1 (k := off u + a.length) rfl S38 rfl rfl (by omega) (by repeat (first | assumption | exact mS | apply mT)) (by first | omega | (simp only [List.length_cons, List.length_nil, List.length_append, List.length_map]; omega)) | exact Rd.idxR1 (k := off u + a.length) rfl S38 rfl rfl (by omega) (by omega))) ?_
      refine WD.take 19 rfl (by kernel_rfl) (Held.mk' (by repeat (first | exact SubL.refl | refine SubL.cons (by repeat (first | assumption | exact mS | apply mT)) ?_ | refine SubL.skip ?_)) (by repeat (first | exact OwnL.refl | apply OwnL.take (by repeat (first | exact Take.head _ | apply Take.tail)) | apply OwnL.drop))) rfl rfl rfl (Rd.getA (g := vs) (xs := lay (u ++ a :: b :: v')) (k := off u + a.length) (a := b) rfl C9 rfl (by repeat (first | assumption | exact mS | apply mT)) hgb) ?_
      refine WD.take 20 rfl (by kernel_rfl) (Held.mk' (by repeat (first | exact SubL.refl | refine SubL.cons (by repeat (first | assumption | exact mS | apply mT)) ?_ | refine SubL.skip ?_)) (by repeat (first | exact OwnL.refl | apply OwnL.take (by repeat (first | exact Take.head _ | apply Take.tail)) | apply OwnL.drop))) rfl rfl rfl (Rd.buildN (ps := [(0, _), (1, _)]) rfl Bs42 I42 rfl (by repeat (first | exact Evs.nil | apply Evs.cons rfl)) (by repeat (first | exact CellsOf.nil | apply CellsOf.cons rfl)) (by apply NFo.mk; repeat (first | exact NF.nil | apply NF.cons))) ?_
      refine WD.one 21 rfl (by kernel_rfl) rfl ?_
      refine OpW.alloc rfl I42 rfl (by repeat (first | exact NF.nil | apply NF.cons)) rfl rfl ?_; intro b4
      refine ⟨(Held.mk' (by repeat (first | exact SubL.refl | refine SubL.cons (by repeat (first | assumption | exact mS | apply mT)) ?_ | refine SubL.skip ?_)) (by repeat (first | exact OwnL.refl | apply OwnL.take (by repeat (first | exact Take.head _ | apply Take.tail)) | apply OwnL.drop))), ?_⟩
      refine WD.one 22 rfl (by kernel_rfl) rfl ?_
      refine OpW.storeS rfl G42 rfl rfl (by repeat (first | exact NF.nil | apply NF.cons)) (by repeat (first | assumption | exact Take.head _ | apply Take.tail)) rfl rfl (by repeat (first | exact NF.nil | apply NF.cons)) rfl ?_
      refine ⟨(Held.mk' (by repeat (first | exact SubL.refl | refine SubL.cons (by repeat (first | assumption | exact mS | apply mT)) ?_ | refine SubL.skip ?_)) (by repeat (first | exact OwnL.refl | apply OwnL.take (by repeat (first | exact Take.head _ | apply Take.tail)) | apply OwnL.drop))), ?_⟩
      refine WD.done (by kernel_rfl) ?_
      refine thenQ.normal ?_
      refine WC.seq ?_
      refine WC.still mixed (by kernel_rfl) ?_
      refine WA.rd rfl rfl rfl (Rd.move rfl rfl) ?_
      refine WA.rd rfl rfl rfl (Rd.nilc rfl rfl) ?_
      refine WA.rd rfl rfl rfl ((by first | exact Rd.field rfl F61_3 rfl rfl | exact Rd.fieldE rfl F61_3 rfl (by repeat (first | assumption | exact mS | apply mT)) (by omega) | exact Rd.fieldA rfl F61_3 rfl (by repeat (first | assumption | exact mS | apply mT)) (by omega))) ?_
      refine WA.rd rfl rfl rfl (Rd.row1 (b := br) (off := 3) (u := .map (some bm)) rfl C56 rfl (by repeat (first | assumption | exact mS | apply mT)) rfl) ?_
      refine WA.rd rfl rfl rfl (Rd.rowS (b := b4) (off := 0) (ds := [vs a, vs b]) rfl G42 rfl (by repeat (first | assumption | exact mS | apply mT)) (by repeat (first | exact NF.nil | apply NF.cons)) rfl) ?_
      refine WA.rd rfl rfl rfl (Rd.lookup2R (k := (a, b)) M56 KPr rfl rfl rfl hmap rfl) ?_
      refine WA.rd rfl rfl rfl (Rd.move rfl rfl) ?_
      refine WA.rd rfl rfl rfl (Rd.extract rfl rfl rfl) ?_
      refine WA.rd rfl rfl rfl (Rd.extract rfl rfl rfl) ?_
      refine WA.say 53 (u := .bool (decide ((rk l (a, b)).isSome = true))) rfl (by rw [hget]; cases rk l (a, b) <;> rfl) ?_
      refine WA.rd rfl rfl rfl (Rd.assign rfl rfl) ?_
      refine WA.rd rfl rfl rfl (Rd.assign rfl rfl) ?_
      refine WA.nil ?_
      refine thenQ.normal ?_
      refine WC.seq ?_
      refine WC.region ?_
      refine WL.rd rfl rfl rfl (Rd.move rfl rfl) ?_
      refine WL.nil ?_
      refine thenQ.normal ?_
      first | refine WC.ite rfl (fun hc2 => ?_) (fun hc2 => ?_) | refine WC.cond rfl (fun hc2 => ?_) (fun hc2 => ?_)
      · skip
        obtain ⟨r, hr⟩ := Option.isSome_iff_exists.1 hc2
        refine WC.say 5 (u := vi r) rfl (by rw [hget, hr]; rfl) ?_
        refine WC.tail 12 mixed (by kernel_rfl) ?_
        refine WS.rd rfl rfl rfl (Rd.move rfl rfl) ?_
        refine WS.rd rfl rfl rfl (Rd.nilc rfl rfl) ?_
        refine WS.rd rfl rfl rfl ((by first | exact Rd.field rfl F61_4 rfl rfl | exact Rd.fieldE rfl F61_4 rfl (by repeat (first | assumption | exact mS | apply mT)) (by omega) | exact Rd.fieldA rfl F61_4 rfl (by repeat (first | assumption | exact mS | apply mT)) (by omega))) ?_
        refine WS.rd rfl rfl rfl (Rd.iface rfl Try.underlying81 rfl rfl) ?_
        refine WS.rd rfl rfl rfl (Rd.move rfl rfl) ?_
        refine WS.rd rfl rfl rfl (Rd.move rfl rfl) ?_
        refine WS.rd rfl rfl rfl ((by first | exact Rd.field rfl F42_0 rfl rfl | exact Rd.fieldE rfl F42_0 rfl (by repeat (first | assumption | exact mS | apply mT)) (by omega) | exact Rd.fieldA rfl F42_0 rfl (by repeat (first | assumption | exact mS | apply mT)) (by omega))) ?_
        refine WS.rd rfl rfl rfl (Rd.row1 (b := b4) (off := 0) (u := vs a) rfl C9 rfl (by repeat (first | assumption | exact mS | apply mT)) rfl) ?_
        refine WS.rd rfl rfl rfl ((by first | exact Rd.field rfl F42_1 rfl rfl | exact Rd.fieldE rfl F42_1 rfl (by repeat (first | assumption | exact mS | apply mT)) (by omega) | exact Rd.fieldA rfl F42_1 rfl (by repeat (first | assumption | exact mS | apply mT)) (by omega))) ?_
        refine WS.rd rfl rfl rfl (Rd.row1 (b := b4) (off := 1) (u := vs b) rfl C9 rfl (by repeat (first | assumption | exact mS | apply mT)) rfl) ?_
        refine WS.rd rfl rfl rfl (Rd.buildN (ps := [(0, _), (1, _), (2, _), (3, _)]) rfl Bs83 I83 rfl (by repeat (first | exact Evs.nil | apply Evs.cons rfl)) (by repeat (first | exact CellsOf.nil | apply CellsOf.cons rfl)) (by apply NFo.mk; repeat (first | exact NF.nil | apply NF.cons))) ?_
        refine WS.rd rfl rfl rfl (Rd.iface rfl Try.underlying83 rfl rfl) ?_
        refine WS.switch ?_
        refine WL.op rfl ?_
        refine OpW.call rfl rfl (by repeat (first | exact Evs.nil | apply Evs.cons rfl)) (by kernel_rfl) rfl rfl rfl ?_
        refine Fun.heap (R' := R) (O' := rowW br pv nv qv bm sv :: accS sv H :: accT pv (lay (u ++ a :: b :: v')) :: accI nv nx :: accI qv pr :: O) (fun w h => OwnL.sat (by repeat (first | exact OwnL.refl | apply OwnL.take (by repeat (first | exact Take.head _ | apply Take.tail)) | apply OwnL.drop)) w (h.thin (SubL.mem (by repeat (first | exact SubL.refl | refine SubL.cons (by repeat (first | assumption | exact mS | apply mT)) ?_ | refine SubL.skip ?_))))) ?_
        refine hpush_spec (x := ⟨r, off u, a, b⟩) (by omega) hH ?_; intro sv' H' hp hh
        refine WL.heap (R' := R) (O' := rowW br pv nv qv bm sv' :: accT pv (lay (u ++ a :: b :: v')) :: accI nv nx :: accI qv pr :: accS sv' H' :: O) (fun w h => OwnL.sat (by repeat (first | exact OwnL.refl | apply OwnL.take (by repeat (first | exact Take.head _ | apply Take.tail)) | apply OwnL.drop)) w (h.thin (SubL.mem (by repeat (first | exact SubL.refl | refine SubL.cons (by repeat (first | assumption | exact mS | apply mT)) ?_ | refine SubL.skip ?_))))) ?_
        refine WL.nil ?_
        refine Ret.normal (Ret.zero Try.results25 ?_)
        exact hk sv' H' ⟨fun s h => hp.mem_iff.2 (List.mem_append_left _ h), fun s h => (List.mem_append.1 (hp.mem_iff.1 h)).elim .inl (fun h => .inr ⟨b, v', r, rfl, hr, List.mem_singleton.1 h⟩), by rw [hp.length_eq, List.length_append, List.length_singleton]; omega, fun b2 v2 r2 e hr2 => by
        simp only [List.cons.injEq] at e
        obtain ⟨rfl, rfl⟩ := e
        rw [hr] at hr2
        cases hr2
        exact hp.mem_iff.2 (List.mem_append_right _ (List.mem_singleton.2 rfl))⟩ hh
      · skip
        refine WC.heap (R' := R) (O' := rowW br pv nv qv bm sv :: accT pv (lay (u ++ a :: b :: v')) :: accI nv nx :: accI qv pr :: accS sv H :: O) (fun w h => OwnL.sat (by repeat (first | exact OwnL.refl | apply OwnL.take (by repeat (first | exact Take.head _ | apply Take.tail)) | apply OwnL.drop)) w (h.thin (SubL.mem (by repeat (first | exact SubL.refl | refine SubL.cons (by repeat (first | assumption | exact mS | apply mT)) ?_ | refine SubL.skip ?_))))) ?_
        refine WC.skip ?_
        refine Ret.normal (Ret.zero Try.results25 ?_)
        exact hk sv H ⟨fun s h => h, fun s h => .inl h, by omega, fun b2 v2 r2 e hr2 => by
        simp only [List.cons.injEq] at e
        obtain ⟨rfl, rfl⟩ := e
        rw [hr2] at hc2
        exact absurd rfl hc2⟩ hH
end
end Go.Proofs.Ytnpkpcjiebiplaa
