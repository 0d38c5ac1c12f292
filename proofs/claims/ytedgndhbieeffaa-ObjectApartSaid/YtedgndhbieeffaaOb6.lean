/-
  Layer 11: the forms, and Encode, by the program.
-/
import Derived.Test.YtedgndhbieeffaaOb5
namespace Go.Proofs.Ytedgndhbieeffaa
open Go Go.SL Go.RowKit

def Names (o : Ob) : Prop := (∀ x ∈ o.ents, x.1.length ≤ 9223372036854775000) ∧ o.name.length ≤ 9223372036854775000
def encB (o : Ob) : List UInt8 := UInt8.ofNat o.kind.toNat :: joinE (texts o)
def encE (o : Ob) : List UInt8 × Nat :=
  if o.kind < 1 ∨ 4 < o.kind then ([], 15) else if ¬ RightP o then ([], 1) else if 262208 < (encB o).length then ([], 6) else (encB o, 0)
theorem joinE_leB {B : Nat} : ∀ {l : List (List UInt8)}, (∀ t ∈ l, t.length ≤ B) → B ≤ 1099511627776 → (joinE l).length ≤ (B + 6) * l.length
  | [], _, _ => by simp [joinE]
  | t :: l, h, hB => by
    have ht := h t List.mem_cons_self
    have ih := joinE_leB (l := l) (fun x hx => h x (List.mem_cons_of_mem _ hx)) hB
    rw [joinE_cons, List.length_append, List.length_append, List.length_cons, putI_nat (by omega)]
    have := putE_short (n := t.length) (by omega)
    rw [Nat.mul_add, Nat.mul_one]
    omega
theorem flatten_len : ∀ {l : List (List UInt8)}, (∀ x ∈ l, x.length = 32) → l.flatten.length = 32 * l.length
  | [], _ => rfl
  | a :: r, hl => by rw [List.flatten_cons, List.length_append, flatten_len (fun x hx => hl x (List.mem_cons_of_mem _ hx)), hl a List.mem_cons_self, List.length_cons]; omega
theorem pars32 {o : Ob} (h : ∀ i, i < o.pars.length → ParP o.pars i) : ∀ x ∈ o.pars, x.length = 32 := fun x hx => by
  obtain ⟨i, hi, rfl⟩ := List.getElem_of_mem hx
  have := (h i hi).1
  rwa [getElem!_pos o.pars i hi] at this
theorem putI_short (p : Int) : (putI p).length ≤ 6 := by
  unfold putI
  split
  · exact Nat.zero_le _
  · exact putE_short (by omega)
/-- The texts of an object that is right: how many, how long. -/
theorem texts_le {o : Ob} (hk : 1 ≤ o.kind ∧ o.kind ≤ 4) (hr : RightP o) : (∀ t ∈ texts o, t.length ≤ 262144) ∧ (texts o).length ≤ 8192 := by
  obtain ⟨_, h1, h2, h3, h4⟩ := hr
  unfold texts
  split
  · rename_i e
    exact ⟨fun t ht => by rw [List.mem_singleton] at ht; subst ht; exact h1 e, by simp⟩
  · split
    · rename_i e
      obtain ⟨g1, g2⟩ := h2 e
      refine ⟨fun t ht => ?_, by rw [flat_two_len]; omega⟩
      obtain ⟨x, hx, ht⟩ := List.mem_flatMap.1 ht
      obtain ⟨i, hi, rfl⟩ := List.getElem_of_mem hx
      have := g1 i hi
      rw [EntP, getElem!_pos o.ents i hi] at this
      obtain ⟨a1, a2, _⟩ := this
      have a3 := a1.2.2
      simp only [List.mem_cons, List.not_mem_nil, or_false] at ht
      rcases ht with rfl | rfl
      · omega
      · omega
    · split
      · rename_i e
        obtain ⟨g1, g2, g3, g4, g5, _⟩ := h3 e
        refine ⟨fun t ht => ?_, by simp⟩
        have hf := flatten_len (pars32 g1)
        have hp := putI_short o.time
        simp only [List.mem_cons, List.not_mem_nil, or_false] at ht
        rcases ht with rfl | rfl | rfl | rfl | rfl <;> omega
      · obtain ⟨g1, g2, g3⟩ := h4 (by omega)
        have := g2.2.2
        refine ⟨fun t ht => ?_, by simp⟩
        simp only [List.mem_cons, List.not_mem_nil, or_false] at ht
        rcases ht with rfl | rfl | rfl <;> omega
theorem texts_join {o : Ob} (hk : 1 ≤ o.kind ∧ o.kind ≤ 4) (hr : RightP o) : (joinE (texts o)).length ≤ 3000000000 := by
  obtain ⟨h1, h2⟩ := texts_le hk hr
  have := joinE_leB h1 (by omega)
  have h3 : (262144 + 6) * (texts o).length ≤ (262144 + 6) * 8192 := Nat.mul_le_mul_left _ h2
  omega
abbrev fnV (r : Nat) : Value := .func (.func r) #[] #[]
structure FormP (k : Int) (r t u : Nat) : Prop where
  hr : hasBody Try.prog r = true
  ht : hasBody Try.prog t = true
  hu : hasBody Try.prog u = true
  right : ∀ {R : List RO} {O : List Own} {POST : Value → List RO → List Own → Prop} {b : Nat} {o : Ob} {ev pv : Value}, oRow b o ev pv ∈ O → SlE encT ev o.ents ∈ R → SlE (one vs) pv o.pars ∈ R → o.kind = k → Names o → POST (.bool (decide (RightP o))) R O → Fun Try.prog r #[.pointer (some ⟨b, 0, none⟩)] R O POST
  texts : ∀ {R : List RO} {O : List Own} {POST : Value → List RO → List Own → Prop} {b : Nat} {o : Ob} {ev pv : Value}, oRow b o ev pv ∈ O → SlE encT ev o.ents ∈ R → SlE (one vs) pv o.pars ∈ R → o.kind = k → RightP o → (∀ v, POST v (SlE (one vs) v (texts o) :: R) O) → Fun Try.prog t #[.pointer (some ⟨b, 0, none⟩)] R O POST
  object : ∀ {R : List RO} {O : List Own} {POST : Value → List RO → List Own → Prop} {l : List (List UInt8)} {lv : Value}, SlE (one vs) lv l ∈ R → l.length ≤ 1000000 → (∀ x ∈ l, x.length ≤ 300000) → (∀ ev pv b2 cs, POST (.tuple #[obV (obOf k l).1 ev pv, .bool (obOf k l).2]) (SlE encT ev (obOf k l).1.ents :: SlE (one vs) pv (obOf k l).1.pars :: R) (rowC b2 30 cs :: O)) → Fun Try.prog u #[lv] R O POST
theorem form1 : FormP 1 26 27 28 where
  hr := by kernel_rfl
  ht := by kernel_rfl
  hu := by kernel_rfl
  right := fun hb he hp hk _ h => blobRight_spec hb he hp hk h
  texts := fun hb _ _ hk _ h => blobTexts_spec hb hk h
  object := fun hl _ _ h => blob_spec hl h
theorem form2 : FormP 2 29 30 31 where
  hr := by kernel_rfl
  ht := by kernel_rfl
  hu := by kernel_rfl
  right := fun hb he hp hk hn h => treeRight_spec hb he hp hk hn.1 h
  texts := fun hb he _ hk hr h => treeTexts_spec hb he hk (by have := (hr.2.2.1 hk).2; omega) h
  object := fun hl hn _ h => tree_spec hl hn h
theorem form3 : FormP 3 32 33 34 where
  hr := by kernel_rfl
  ht := by kernel_rfl
  hu := by kernel_rfl
  right := fun hb he hp hk _ h => commitRight_spec hb he hp hk h
  texts := fun hb _ hp hk hr h => commitTexts_spec hb hp hk hr h
  object := fun hl _ hn h => commit_spec hl hn h
theorem form4 : FormP 4 35 36 37 where
  hr := by kernel_rfl
  ht := by kernel_rfl
  hu := by kernel_rfl
  right := fun hb he hp hk hn h => tagRight_spec hb he hp hk hn.2 h
  texts := fun hb _ _ hk _ h => tagTexts_spec hb hk h
  object := fun hl _ _ h => tag_spec hl h
section
variable {R : List RO} {O : List Own} {POST : Value → List RO → List Own → Prop} {b : Nat} {o : Ob} {ev pv : Value}
set_option maxRecDepth 20000 in
theorem forms_spec {k : Int} (hk1 : 1 ≤ k ∧ k ≤ 4 → ∀ r t u b2 cs, FormP k r t u → POST (.tuple #[.agg #[fnV r, fnV t, fnV u], .bool true]) R (rowC b2 57 cs :: O))
    (hk0 : ¬ (1 ≤ k ∧ k ≤ 4) → ∀ b2 cs, POST (.tuple #[.agg #[.nilFunc, .nilFunc, .nilFunc], .bool false]) R (rowC b2 57 cs :: O)) : Fun Try.prog 17 #[.int .i64 k] R O POST := by
  refine Fun.enter (l := [_]) Try.func17 rfl Try.ntmps17 rfl (L0 := [(0, _)]) rfl ?_
  refine WC.seq ?_
  refine WC.region ?_
  refine WL.op rfl ?_
  refine OpW.alloc rfl I57 rfl (by repeat (first | exact NF.nil | apply NF.cons)) rfl rfl ?_; intro b2
  refine WL.rd rfl rfl rfl (Rd.assign rfl rfl) ?_
  refine WL.nil ?_
  refine thenQ.normal ?_
  refine WC.seq ?_
  refine WC.seq ?_
  refine WC.region ?_
  refine WL.rd rfl rfl rfl (Rd.move rfl rfl) ?_
  refine WL.nil ?_
  refine thenQ.normal ?_
  refine WC.block ?_
  refine WC.seq ?_
  refine WC.region ?_
  refine WL.rd rfl rfl rfl (Rd.eql rfl rfl rfl) ?_
  refine WL.rd rfl rfl rfl (Rd.assign rfl rfl) ?_
  refine WL.nil ?_
  refine thenQ.normal ?_
  first | refine WC.ite rfl (fun hc1 => ?_) (fun hc1 => ?_) | refine WC.cond rfl (fun hc1 => ?_) (fun hc1 => ?_)
  · skip
    refine WC.seq ?_
    refine WC.region ?_
    refine WL.rd rfl rfl rfl (Rd.buildN (ps := [(0, _), (1, _), (2, _)]) rfl Bs57 I57 rfl (by repeat (first | exact Evs.nil | apply Evs.cons rfl)) (by repeat (first | exact CellsOf.nil | apply CellsOf.cons rfl)) (by apply NFo.mk; repeat (first | exact NF.nil | apply NF.cons))) ?_
    refine WL.op rfl ?_
    refine OpW.storeS rfl G57 rfl rfl (by repeat (first | exact NF.nil | apply NF.cons)) (by repeat (first | assumption | exact Take.head _ | apply Take.tail)) rfl rfl (by repeat (first | exact NF.nil | apply NF.cons)) rfl ?_
    refine WL.rd rfl rfl rfl (Rd.assign rfl rfl) ?_
    refine WL.nil ?_
    refine thenQ.normal ?_
    refine WC.ret (Ret.cellTmp Try.results17 rfl rfl (by repeat (first | assumption | exact mS | apply mT)) G57 rfl ?_)
    obtain rfl : k = 1 := hc1
    exact hk1 (by omega) _ _ _ _ _ form1
  · skip
    refine WC.seq ?_
    refine WC.region ?_
    refine WL.rd rfl rfl rfl (Rd.eql rfl rfl rfl) ?_
    refine WL.rd rfl rfl rfl (Rd.assign rfl rfl) ?_
    refine WL.nil ?_
    refine thenQ.normal ?_
    first | refine WC.ite rfl (fun hc2 => ?_) (fun hc2 => ?_) | refine WC.cond rfl (fun hc2 => ?_) (fun hc2 => ?_)
    · skip
      refine WC.seq ?_
      refine WC.region ?_
      refine WL.rd rfl rfl rfl (Rd.buildN (ps := [(0, _), (1, _), (2, _)]) rfl Bs57 I57 rfl (by repeat (first | exact Evs.nil | apply Evs.cons rfl)) (by repeat (first | exact CellsOf.nil | apply CellsOf.cons rfl)) (by apply NFo.mk; repeat (first | exact NF.nil | apply NF.cons))) ?_
      refine WL.op rfl ?_
      refine OpW.storeS rfl G57 rfl rfl (by repeat (first | exact NF.nil | apply NF.cons)) (by repeat (first | assumption | exact Take.head _ | apply Take.tail)) rfl rfl (by repeat (first | exact NF.nil | apply NF.cons)) rfl ?_
      refine WL.rd rfl rfl rfl (Rd.assign rfl rfl) ?_
      refine WL.nil ?_
      refine thenQ.normal ?_
      refine WC.ret (Ret.cellTmp Try.results17 rfl rfl (by repeat (first | assumption | exact mS | apply mT)) G57 rfl ?_)
      obtain rfl : k = 2 := hc2
      exact hk1 (by omega) _ _ _ _ _ form2
    · skip
      refine WC.seq ?_
      refine WC.region ?_
      refine WL.rd rfl rfl rfl (Rd.eql rfl rfl rfl) ?_
      refine WL.rd rfl rfl rfl (Rd.assign rfl rfl) ?_
      refine WL.nil ?_
      refine thenQ.normal ?_
      first | refine WC.ite rfl (fun hc3 => ?_) (fun hc3 => ?_) | refine WC.cond rfl (fun hc3 => ?_) (fun hc3 => ?_)
      · skip
        refine WC.seq ?_
        refine WC.region ?_
        refine WL.rd rfl rfl rfl (Rd.buildN (ps := [(0, _), (1, _), (2, _)]) rfl Bs57 I57 rfl (by repeat (first | exact Evs.nil | apply Evs.cons rfl)) (by repeat (first | exact CellsOf.nil | apply CellsOf.cons rfl)) (by apply NFo.mk; repeat (first | exact NF.nil | apply NF.cons))) ?_
        refine WL.op rfl ?_
        refine OpW.storeS rfl G57 rfl rfl (by repeat (first | exact NF.nil | apply NF.cons)) (by repeat (first | assumption | exact Take.head _ | apply Take.tail)) rfl rfl (by repeat (first | exact NF.nil | apply NF.cons)) rfl ?_
        refine WL.rd rfl rfl rfl (Rd.assign rfl rfl) ?_
        refine WL.nil ?_
        refine thenQ.normal ?_
        refine WC.ret (Ret.cellTmp Try.results17 rfl rfl (by repeat (first | assumption | exact mS | apply mT)) G57 rfl ?_)
        obtain rfl : k = 3 := hc3
        exact hk1 (by omega) _ _ _ _ _ form3
      · skip
        refine WC.seq ?_
        refine WC.region ?_
        refine WL.rd rfl rfl rfl (Rd.eql rfl rfl rfl) ?_
        refine WL.rd rfl rfl rfl (Rd.assign rfl rfl) ?_
        refine WL.nil ?_
        refine thenQ.normal ?_
        first | refine WC.ite rfl (fun hc4 => ?_) (fun hc4 => ?_) | refine WC.cond rfl (fun hc4 => ?_) (fun hc4 => ?_)
        · skip
          refine WC.seq ?_
          refine WC.region ?_
          refine WL.rd rfl rfl rfl (Rd.buildN (ps := [(0, _), (1, _), (2, _)]) rfl Bs57 I57 rfl (by repeat (first | exact Evs.nil | apply Evs.cons rfl)) (by repeat (first | exact CellsOf.nil | apply CellsOf.cons rfl)) (by apply NFo.mk; repeat (first | exact NF.nil | apply NF.cons))) ?_
          refine WL.op rfl ?_
          refine OpW.storeS rfl G57 rfl rfl (by repeat (first | exact NF.nil | apply NF.cons)) (by repeat (first | assumption | exact Take.head _ | apply Take.tail)) rfl rfl (by repeat (first | exact NF.nil | apply NF.cons)) rfl ?_
          refine WL.rd rfl rfl rfl (Rd.assign rfl rfl) ?_
          refine WL.nil ?_
          refine thenQ.normal ?_
          refine WC.ret (Ret.cellTmp Try.results17 rfl rfl (by repeat (first | assumption | exact mS | apply mT)) G57 rfl ?_)
          obtain rfl : k = 4 := hc4
          exact hk1 (by omega) _ _ _ _ _ form4
        · skip
          refine WC.skip ?_
          refine blockQ.normal ?_
          refine thenQ.normal ?_
          refine WC.seq ?_
          refine WC.region ?_
          refine WL.rd rfl rfl rfl (Rd.buildN (ps := []) rfl Bs57 I57 rfl (by repeat (first | exact Evs.nil | apply Evs.cons rfl)) (by repeat (first | exact CellsOf.nil | apply CellsOf.cons rfl)) (by apply NFo.mk; repeat (first | exact NF.nil | apply NF.cons))) ?_
          refine WL.op rfl ?_
          refine OpW.storeS rfl G57 rfl rfl (by repeat (first | exact NF.nil | apply NF.cons)) (by repeat (first | assumption | exact Take.head _ | apply Take.tail)) rfl rfl (by repeat (first | exact NF.nil | apply NF.cons)) rfl ?_
          refine WL.rd rfl rfl rfl (Rd.assign rfl rfl) ?_
          refine WL.nil ?_
          refine thenQ.normal ?_
          refine WC.ret (Ret.cellTmp Try.results17 rfl rfl (by repeat (first | assumption | exact mS | apply mT)) G57 rfl ?_)
          exact hk0 (by omega) _ _
def FormsOk (k : Int) (va vb vc : Value) : Prop := 1 ≤ k ∧ k ≤ 4 → ∃ r t u, va = fnV r ∧ vb = fnV t ∧ vc = fnV u ∧ FormP k r t u
theorem OneV.fn (r : Nat) : OneV (fnV r) := ⟨rfl, rfl⟩
theorem OneV.nf : OneV .nilFunc := ⟨rfl, rfl⟩
theorem forms2_spec {k : Int} (hk : ∀ va vb vc, OneV va → OneV vb → OneV vc → FormsOk k va vb vc → POST (.tuple #[.agg #[va, vb, vc], .bool (decide (1 ≤ k ∧ k ≤ 4))]) R O) : Fun Try.prog 17 #[.int .i64 k] R O POST := by
  refine Fun.thin (post' := fun v R' O' => ∃ va vb vc, OneV va ∧ OneV vb ∧ OneV vc ∧ FormsOk k va vb vc ∧ v = .tuple #[.agg #[va, vb, vc], .bool (decide (1 ≤ k ∧ k ≤ 4))] ∧ R' = R ∧ ∃ b2 cs, O' = rowC b2 57 cs :: O) ?_ ?_
  · refine forms_spec (fun hkk r t u b2 cs hF => ?_) (fun hkk b2 cs => ?_)
    · exact ⟨_, _, _, OneV.fn r, OneV.fn t, OneV.fn u, fun _ => ⟨r, t, u, rfl, rfl, rfl, hF⟩, by rw [decide_eq_true hkk], rfl, b2, cs, rfl⟩
    · exact ⟨_, _, _, OneV.nf, OneV.nf, OneV.nf, fun h => absurd h hkk, by rw [decide_eq_false hkk], rfl, b2, cs, rfl⟩
  · rintro v R' O' ⟨va, vb, vc, h1, h2, h3, h4, rfl, rfl, b2, cs, rfl⟩
    exact ⟨R', O, hk va vb vc h1 h2 h3 h4, fun w h => h.drop⟩
set_option maxRecDepth 20000 in
set_option maxHeartbeats 1000000 in
theorem encode_spec (he : SlE encT ev o.ents ∈ R) (hp : SlE (one vs) pv o.pars ∈ R) (hn : Names o) (hk : POST (.tuple #[vs (encE o).1, .int .i64 ((encE o).2 : Nat)]) R O) : Fun Try.prog 9 #[obV o ev pv] R O POST := by
  refine Fun.oneV he fun hev => ?_
  refine Fun.oneV hp fun hpv => ?_
  have hfin := encE.eq_1 o
  refine Fun.enter (l := [_]) Try.func9 rfl Try.ntmps9 rfl (L0 := [(0, _)]) rfl ?_
  refine WC.seq ?_
  refine WC.region ?_
  refine WL.op rfl ?_
  refine OpW.box rfl rfl (by repeat (first | exact NF.nil | apply NF.cons)) rfl rfl ?_; intro b1
  refine WL.rd rfl rfl rfl (Rd.assign rfl rfl) ?_
  refine WL.rd rfl rfl rfl (Rd.assign rfl rfl) ?_
  refine WL.nil ?_
  refine thenQ.normal ?_
  refine WC.seq ?_
  refine WC.region ?_
  refine WL.rd rfl rfl rfl ((by first | exact Rd.field rfl F30_0 rfl rfl | exact Rd.fieldE rfl F30_0 rfl (by repeat (first | assumption | exact mS | apply mT)) (by omega) | exact Rd.fieldA rfl F30_0 rfl (by repeat (first | assumption | exact mS | apply mT)) (by omega))) ?_
  refine WL.rd rfl rfl rfl (Rd.row1 (b := b1) (off := 0) (u := .int .i64 o.kind) rfl C3 rfl (by repeat (first | assumption | exact mS | apply mT)) rfl) ?_
  refine WL.op rfl ?_
  refine OpW.call rfl rfl (by repeat (first | exact Evs.nil | apply Evs.cons rfl)) (by kernel_rfl) rfl rfl rfl ?_
  refine forms2_spec ?_; intro va vb vc ha hb hc hF
  refine WL.rd rfl rfl rfl (Rd.move rfl rfl) ?_
  refine WL.rd rfl rfl rfl (Rd.extract rfl rfl rfl) ?_
  refine WL.rd rfl rfl rfl (Rd.extract rfl rfl rfl) ?_
  refine WL.op rfl ?_
  refine OpW.alloc rfl I57 rfl (by repeat (first | exact NF.nil | apply NF.cons)) rfl rfl ?_; intro b4
  refine WL.op rfl ?_
  refine OpW.storeS rfl G57 rfl rfl (by repeat (first | exact NF.nil | apply NF.cons)) (by repeat (first | assumption | exact Take.head _ | apply Take.tail)) rfl rfl (by repeat (first | exact NF.nil | apply NF.cons)) rfl (h1 := by have h1 := ha.one; have h2 := hb.one; have h3 := hc.one; simp only [List.all_cons, List.all_nil, h1, h2, h3]; rfl) ?_
  refine WL.rd rfl rfl rfl (Rd.assign rfl rfl) ?_
  refine WL.nil ?_
  refine thenQ.normal ?_
  refine WC.seq ?_
  refine WC.seq ?_
  refine WC.region ?_
  refine WL.rd rfl rfl rfl (Rd.move rfl rfl) ?_
  refine WL.rd rfl rfl rfl ((by first | exact Rd.notd rfl rfl | exact Rd.not rfl rfl)) ?_
  refine WL.nil ?_
  refine thenQ.normal ?_
  first | refine WC.ite rfl (fun hc1 => ?_) (fun hc1 => ?_) | refine WC.cond rfl (fun hc1 => ?_) (fun hc1 => ?_)
  · skip
    rw [if_pos (by omega)] at hfin
    refine WC.seq ?_
    refine WC.region ?_
    refine WL.rd rfl rfl rfl (Rd.assign rfl rfl) ?_
    refine WL.rd rfl rfl rfl (Rd.assign rfl rfl) ?_
    refine WL.nil ?_
    refine thenQ.normal ?_
    refine WC.heap (R' := R) (O' := O) (fun w h => OwnL.sat (by repeat (first | exact OwnL.refl | apply OwnL.take (by repeat (first | exact Take.head _ | apply Take.tail)) | apply OwnL.drop)) w (h.thin (SubL.mem (by repeat (first | exact SubL.refl | refine SubL.cons (by repeat (first | assumption | exact mS | apply mT)) ?_ | refine SubL.skip ?_))))) ?_
    refine WC.ret (Ret.two Try.results9 rfl rfl ?_)
    rw [hfin] at hk
    exact hk
  · skip
    have hkk : 1 ≤ o.kind ∧ o.kind ≤ 4 := Decidable.not_not.1 hc1
    rw [if_neg (by omega)] at hfin
    obtain ⟨r, t, u, rfl, rfl, rfl, hG⟩ := hF hkk
    refine WC.skip ?_
    refine thenQ.normal ?_
    refine WC.seq ?_
    refine WC.seq ?_
    refine WC.region ?_
    refine WL.rd rfl rfl rfl ((by first | exact Rd.field rfl F57_0 rfl rfl | exact Rd.fieldE rfl F57_0 rfl (by repeat (first | assumption | exact mS | apply mT)) (by omega) | exact Rd.fieldA rfl F57_0 rfl (by repeat (first | assumption | exact mS | apply mT)) (by omega))) ?_
    refine WL.rd rfl rfl rfl (Rd.row1 (b := b4) (off := 0) (u := fnV r) rfl C53 rfl (by repeat (first | assumption | exact mS | apply mT)) rfl) ?_
    refine WL.op rfl ?_
    refine OpW.call rfl rfl (by repeat (first | exact Evs.nil | apply Evs.cons rfl)) hG.hr rfl rfl rfl ?_
    refine hG.right (o := o) (ev := ev) (pv := pv) (by repeat (first | assumption | exact mS | apply mT)) (by repeat (first | assumption | exact mS | apply mT)) (by repeat (first | assumption | exact mS | apply mT)) rfl hn ?_
    refine WL.rd rfl rfl rfl ((by first | exact Rd.notd rfl rfl | exact Rd.not rfl rfl)) ?_
    refine WL.nil ?_
    refine thenQ.normal ?_
    first | refine WC.ite rfl (fun hc2 => ?_) (fun hc2 => ?_) | refine WC.cond rfl (fun hc2 => ?_) (fun hc2 => ?_)
    · skip
      rw [if_pos hc2] at hfin
      refine WC.seq ?_
      refine WC.region ?_
      refine WL.rd rfl rfl rfl (Rd.assign rfl rfl) ?_
      refine WL.rd rfl rfl rfl (Rd.assign rfl rfl) ?_
      refine WL.nil ?_
      refine thenQ.normal ?_
      refine WC.heap (R' := R) (O' := O) (fun w h => OwnL.sat (by repeat (first | exact OwnL.refl | apply OwnL.take (by repeat (first | exact Take.head _ | apply Take.tail)) | apply OwnL.drop)) w (h.thin (SubL.mem (by repeat (first | exact SubL.refl | refine SubL.cons (by repeat (first | assumption | exact mS | apply mT)) ?_ | refine SubL.skip ?_))))) ?_
      refine WC.ret (Ret.two Try.results9 rfl rfl ?_)
      rw [hfin] at hk
      exact hk
    · skip
      have hrr := Decidable.not_not.1 hc2
      rw [if_neg hc2] at hfin
      have hjl := texts_join hkk hrr
      refine WC.skip ?_
      refine thenQ.normal ?_
      refine WC.seq ?_
      refine WC.drawnA 11 rfl mixed ?_
      refine WD.take 0 rfl (by kernel_rfl) Held.all rfl rfl rfl ((by first | exact Rd.field rfl F30_0 rfl rfl | exact Rd.fieldE rfl F30_0 rfl (by repeat (first | assumption | exact mS | apply mT)) (by omega) | exact Rd.fieldA rfl F30_0 rfl (by repeat (first | assumption | exact mS | apply mT)) (by omega))) ?_
      refine WD.take 1 rfl (by kernel_rfl) Held.all rfl rfl rfl (Rd.row1 (b := b1) (off := 0) (u := .int .i64 o.kind) rfl C3 rfl (by repeat (first | assumption | exact mS | apply mT)) rfl) ?_
      refine WD.take 2 rfl (by kernel_rfl) Held.all rfl rfl rfl (Rd.convw (kd' := .u8) rfl rfl Try.underlying5 (hS := Try.underlying3)) ?_
      refine WD.say 21 (u := vy (UInt8.ofNat o.kind.toNat)) rfl (by
      have : IntKind.u8.wrap o.kind = ((UInt8.ofNat o.kind.toNat).toNat : Int) := by
        have h1 := wrap_byte o.kind.toNat
        rw [show ((o.kind.toNat : Nat) : Int) = o.kind from by omega] at h1
        rw [h1]; simp
      rw [this]) ?_
      refine WD.take 5 rfl (by kernel_rfl) Held.all rfl rfl rfl ((by first | exact Rd.field rfl F57_1 rfl rfl | exact Rd.fieldE rfl F57_1 rfl (by repeat (first | assumption | exact mS | apply mT)) (by omega) | exact Rd.fieldA rfl F57_1 rfl (by repeat (first | assumption | exact mS | apply mT)) (by omega))) ?_
      refine WD.take 6 rfl (by kernel_rfl) Held.all rfl rfl rfl (Rd.row1 (b := b4) (off := 1) (u := fnV t) rfl C54 rfl (by repeat (first | assumption | exact mS | apply mT)) rfl) ?_
      refine WD.two 3 7 rfl rfl (by kernel_rfl) rfl rfl ?_ ?_
      · skip
        refine OpW.buildSl (ps := [(0, _)]) rfl S61 (by repeat (first | exact Evs.nil | apply Evs.cons rfl)) rfl rfl (by repeat (first | exact CellsOf.nil | apply CellsOf.cons rfl)) (by kernel_rfl) rfl rfl rfl ?_; intro b22
        refine ⟨(Held.mk' (by repeat (first | exact SubL.refl | refine SubL.cons (by repeat (first | assumption | exact mS | apply mT)) ?_ | refine SubL.skip ?_)) (by repeat (first | exact OwnL.refl | apply OwnL.take (by repeat (first | exact Take.head _ | apply Take.tail)) | apply OwnL.drop))), ?_⟩
        refine WD.two 4 7 rfl rfl (by kernel_rfl) rfl rfl ?_ ?_
        · skip
          refine OpW.rd rfl rfl (Rd.strOfR (bs := [UInt8.ofNat o.kind.toNat]) rfl Try.underlying61 Try.underlying9 Try.underlying5 rfl (by repeat (first | assumption | exact mS | apply mT)) rfl rfl (by decide)) ?_
          refine ⟨(Held.mk' (by repeat (first | exact SubL.refl | refine SubL.cons (by repeat (first | assumption | exact mS | apply mT)) ?_ | refine SubL.skip ?_)) (by repeat (first | exact OwnL.refl | apply OwnL.take (by repeat (first | exact Take.head _ | apply Take.tail)) | apply OwnL.drop))), ?_⟩
          refine WD.one 7 rfl (by kernel_rfl) rfl ?_
          refine OpW.call rfl rfl (by repeat (first | exact Evs.nil | apply Evs.cons rfl)) hG.ht rfl rfl rfl ?_
          refine hG.texts (o := o) (ev := ev) (pv := pv) (by repeat (first | assumption | exact mS | apply mT)) (by repeat (first | assumption | exact mS | apply mT)) (by repeat (first | assumption | exact mS | apply mT)) rfl hrr ?_; intro v26
          refine ⟨(Held.mk' (by repeat (first | exact SubL.refl | refine SubL.cons (by repeat (first | assumption | exact mS | apply mT)) ?_ | refine SubL.skip ?_)) (by repeat (first | exact OwnL.refl | apply OwnL.take (by repeat (first | exact Take.head _ | apply Take.tail)) | apply OwnL.drop))), ?_⟩
          refine WD.one 8 rfl (by kernel_rfl) rfl ?_
          refine OpW.call rfl rfl (by repeat (first | exact Evs.nil | apply Evs.cons rfl)) (by kernel_rfl) rfl rfl rfl ?_
          refine join_spec (l := texts o) (by repeat (first | assumption | exact mS | apply mT)) (by omega) ?_
          refine ⟨(Held.mk' (by repeat (first | exact SubL.refl | refine SubL.cons (by repeat (first | assumption | exact mS | apply mT)) ?_ | refine SubL.skip ?_)) (by repeat (first | exact OwnL.refl | apply OwnL.take (by repeat (first | exact Take.head _ | apply Take.tail)) | apply OwnL.drop))), ?_⟩
          refine WD.take 9 rfl (by kernel_rfl) (Held.mk' (by repeat (first | exact SubL.refl | refine SubL.cons (by repeat (first | assumption | exact mS | apply mT)) ?_ | refine SubL.skip ?_)) (by repeat (first | exact OwnL.refl | apply OwnL.take (by repeat (first | exact Take.head _ | apply Take.tail)) | apply OwnL.drop))) rfl rfl rfl (Rd.scat rfl rfl rfl (by simp; omega)) ?_
          refine WD.say 28 (u := vs (encB o)) rfl rfl ?_
          refine WD.take 10 rfl (by kernel_rfl) (Held.mk' (by repeat (first | exact SubL.refl | refine SubL.cons (by repeat (first | assumption | exact mS | apply mT)) ?_ | refine SubL.skip ?_)) (by repeat (first | exact OwnL.refl | apply OwnL.take (by repeat (first | exact Take.head _ | apply Take.tail)) | apply OwnL.drop))) rfl rfl rfl (Rd.assign rfl rfl) ?_
          refine WD.done (by kernel_rfl) ?_
          refine thenQ.normal ?_
          refine WC.seq ?_
          refine WC.seq ?_
          refine WC.region ?_
          refine WL.rd rfl rfl rfl (Rd.move rfl rfl) ?_
          refine WL.rd rfl rfl rfl (Rd.slen (ts := #[]) (ty := 0) rfl rfl Try.underlying9) ?_
          refine WL.rd rfl rfl rfl (Rd.gtr rfl rfl rfl) ?_
          refine WL.nil ?_
          refine thenQ.normal ?_
          first | refine WC.ite rfl (fun hc3 => ?_) (fun hc3 => ?_) | refine WC.cond rfl (fun hc3 => ?_) (fun hc3 => ?_)
          · skip
            rw [if_pos (by omega)] at hfin
            refine WC.seq ?_
            refine WC.region ?_
            refine WL.rd rfl rfl rfl (Rd.assign rfl rfl) ?_
            refine WL.rd rfl rfl rfl (Rd.assign rfl rfl) ?_
            refine WL.nil ?_
            refine thenQ.normal ?_
            refine WC.heap (R' := R) (O' := O) (fun w h => OwnL.sat (by repeat (first | exact OwnL.refl | apply OwnL.take (by repeat (first | exact Take.head _ | apply Take.tail)) | apply OwnL.drop)) w (h.thin (SubL.mem (by repeat (first | exact SubL.refl | refine SubL.cons (by repeat (first | assumption | exact mS | apply mT)) ?_ | refine SubL.skip ?_))))) ?_
            refine WC.ret (Ret.two Try.results9 rfl rfl ?_)
            rw [hfin] at hk
            exact hk
          · skip
            rw [if_neg (by omega)] at hfin
            refine WC.skip ?_
            refine thenQ.normal ?_
            refine WC.seq ?_
            refine WC.region ?_
            refine WL.rd rfl rfl rfl (Rd.move rfl rfl) ?_
            refine WL.rd rfl rfl rfl (Rd.assign rfl rfl) ?_
            refine WL.rd rfl rfl rfl (Rd.assign rfl rfl) ?_
            refine WL.nil ?_
            refine thenQ.normal ?_
            refine WC.heap (R' := R) (O' := O) (fun w h => OwnL.sat (by repeat (first | exact OwnL.refl | apply OwnL.take (by repeat (first | exact Take.head _ | apply Take.tail)) | apply OwnL.drop)) w (h.thin (SubL.mem (by repeat (first | exact SubL.refl | refine SubL.cons (by repeat (first | assumption | exact mS | apply mT)) ?_ | refine SubL.skip ?_))))) ?_
            refine WC.ret (Ret.two Try.results9 rfl rfl ?_)
            rw [hfin] at hk
            exact hk
        · skip
          refine OpW.call rfl rfl (by repeat (first | exact Evs.nil | apply Evs.cons rfl)) hG.ht rfl rfl rfl ?_
          refine hG.texts (o := o) (ev := ev) (pv := pv) (by repeat (first | assumption | exact mS | apply mT)) (by repeat (first | assumption | exact mS | apply mT)) (by repeat (first | assumption | exact mS | apply mT)) rfl hrr ?_; intro v26
          refine ⟨(Held.mk' (by repeat (first | exact SubL.refl | refine SubL.cons (by repeat (first | assumption | exact mS | apply mT)) ?_ | refine SubL.skip ?_)) (by repeat (first | exact OwnL.refl | apply OwnL.take (by repeat (first | exact Take.head _ | apply Take.tail)) | apply OwnL.drop))), ?_⟩
          refine WD.two 4 8 rfl rfl (by kernel_rfl) rfl rfl ?_ ?_
          · skip
            refine OpW.rd rfl rfl (Rd.strOfR (bs := [UInt8.ofNat o.kind.toNat]) rfl Try.underlying61 Try.underlying9 Try.underlying5 rfl (by repeat (first | assumption | exact mS | apply mT)) rfl rfl (by decide)) ?_
            refine ⟨(Held.mk' (by repeat (first | exact SubL.refl | refine SubL.cons (by repeat (first | assumption | exact mS | apply mT)) ?_ | refine SubL.skip ?_)) (by repeat (first | exact OwnL.refl | apply OwnL.take (by repeat (first | exact Take.head _ | apply Take.tail)) | apply OwnL.drop))), ?_⟩
            refine WD.one 8 rfl (by kernel_rfl) rfl ?_
            refine OpW.call rfl rfl (by repeat (first | exact Evs.nil | apply Evs.cons rfl)) (by kernel_rfl) rfl rfl rfl ?_
            refine join_spec (l := texts o) (by repeat (first | assumption | exact mS | apply mT)) (by omega) ?_
            refine ⟨(Held.mk' (by repeat (first | exact SubL.refl | refine SubL.cons (by repeat (first | assumption | exact mS | apply mT)) ?_ | refine SubL.skip ?_)) (by repeat (first | exact OwnL.refl | apply OwnL.take (by repeat (first | exact Take.head _ | apply Take.tail)) | apply OwnL.drop))), ?_⟩
            refine WD.take 9 rfl (by kernel_rfl) (Held.mk' (by repeat (first | exact SubL.refl | refine SubL.cons (by repeat (first | assumption | exact mS | apply mT)) ?_ | refine SubL.skip ?_)) (by repeat (first | exact OwnL.refl | apply OwnL.take (by repeat (first | exact Take.head _ | apply Take.tail)) | apply OwnL.drop))) rfl rfl rfl (Rd.scat rfl rfl rfl (by simp; omega)) ?_
            refine WD.say 28 (u := vs (encB o)) rfl rfl ?_
            refine WD.take 10 rfl (by kernel_rfl) (Held.mk' (by repeat (first | exact SubL.refl | refine SubL.cons (by repeat (first | assumption | exact mS | apply mT)) ?_ | refine SubL.skip ?_)) (by repeat (first | exact OwnL.refl | apply OwnL.take (by repeat (first | exact Take.head _ | apply Take.tail)) | apply OwnL.drop))) rfl rfl rfl (Rd.assign rfl rfl) ?_
            refine WD.done (by kernel_rfl) ?_
            refine thenQ.normal ?_
            refine WC.seq ?_
            refine WC.seq ?_
            refine WC.region ?_
            refine WL.rd rfl rfl rfl (Rd.move rfl rfl) ?_
            refine WL.rd rfl rfl rfl (Rd.slen (ts := #[]) (ty := 0) rfl rfl Try.underlying9) ?_
            refine WL.rd rfl rfl rfl (Rd.gtr rfl rfl rfl) ?_
            refine WL.nil ?_
            refine thenQ.normal ?_
            first | refine WC.ite rfl (fun hc3 => ?_) (fun hc3 => ?_) | refine WC.cond rfl (fun hc3 => ?_) (fun hc3 => ?_)
            · skip
              rw [if_pos (by omega)] at hfin
              refine WC.seq ?_
              refine WC.region ?_
              refine WL.rd rfl rfl rfl (Rd.assign rfl rfl) ?_
              refine WL.rd rfl rfl rfl (Rd.assign rfl rfl) ?_
              refine WL.nil ?_
              refine thenQ.normal ?_
              refine WC.heap (R' := R) (O' := O) (fun w h => OwnL.sat (by repeat (first | exact OwnL.refl | apply OwnL.take (by repeat (first | exact Take.head _ | apply Take.tail)) | apply OwnL.drop)) w (h.thin (SubL.mem (by repeat (first | exact SubL.refl | refine SubL.cons (by repeat (first | assumption | exact mS | apply mT)) ?_ | refine SubL.skip ?_))))) ?_
              refine WC.ret (Ret.two Try.results9 rfl rfl ?_)
              rw [hfin] at hk
              exact hk
            · skip
              rw [if_neg (by omega)] at hfin
              refine WC.skip ?_
              refine thenQ.normal ?_
              refine WC.seq ?_
              refine WC.region ?_
              refine WL.rd rfl rfl rfl (Rd.move rfl rfl) ?_
              refine WL.rd rfl rfl rfl (Rd.assign rfl rfl) ?_
              refine WL.rd rfl rfl rfl (Rd.assign rfl rfl) ?_
              refine WL.nil ?_
              refine thenQ.normal ?_
              refine WC.heap (R' := R) (O' := O) (fun w h => OwnL.sat (by repeat (first | exact OwnL.refl | apply OwnL.take (by repeat (first | exact Take.head _ | apply Take.tail)) | apply OwnL.drop)) w (h.thin (SubL.mem (by repeat (first | exact SubL.refl | refine SubL.cons (by repeat (first | assumption | exact mS | apply mT)) ?_ | refine SubL.skip ?_))))) ?_
              refine WC.ret (Ret.two Try.results9 rfl rfl ?_)
              rw [hfin] at hk
              exact hk
          · skip
            refine OpW.call rfl rfl (by repeat (first | exact Evs.nil | apply Evs.cons rfl)) (by kernel_rfl) rfl rfl rfl ?_
            refine join_spec (l := texts o) (by repeat (first | assumption | exact mS | apply mT)) (by omega) ?_
            refine ⟨(Held.mk' (by repeat (first | exact SubL.refl | refine SubL.cons (by repeat (first | assumption | exact mS | apply mT)) ?_ | refine SubL.skip ?_)) (by repeat (first | exact OwnL.refl | apply OwnL.take (by repeat (first | exact Take.head _ | apply Take.tail)) | apply OwnL.drop))), ?_⟩
            refine WD.one 4 rfl (by kernel_rfl) rfl ?_
            refine OpW.rd rfl rfl (Rd.strOfR (bs := [UInt8.ofNat o.kind.toNat]) rfl Try.underlying61 Try.underlying9 Try.underlying5 rfl (by repeat (first | assumption | exact mS | apply mT)) rfl rfl (by decide)) ?_
            refine ⟨(Held.mk' (by repeat (first | exact SubL.refl | refine SubL.cons (by repeat (first | assumption | exact mS | apply mT)) ?_ | refine SubL.skip ?_)) (by repeat (first | exact OwnL.refl | apply OwnL.take (by repeat (first | exact Take.head _ | apply Take.tail)) | apply OwnL.drop))), ?_⟩
            refine WD.take 9 rfl (by kernel_rfl) (Held.mk' (by repeat (first | exact SubL.refl | refine SubL.cons (by repeat (first | assumption | exact mS | apply mT)) ?_ | refine SubL.skip ?_)) (by repeat (first | exact OwnL.refl | apply OwnL.take (by repeat (first | exact Take.head _ | apply Take.tail)) | apply OwnL.drop))) rfl rfl rfl (Rd.scat rfl rfl rfl (by simp; omega)) ?_
            refine WD.say 28 (u := vs (encB o)) rfl rfl ?_
            refine WD.take 10 rfl (by kernel_rfl) (Held.mk' (by repeat (first | exact SubL.refl | refine SubL.cons (by repeat (first | assumption | exact mS | apply mT)) ?_ | refine SubL.skip ?_)) (by repeat (first | exact OwnL.refl | apply OwnL.take (by repeat (first | exact Take.head _ | apply Take.tail)) | apply OwnL.drop))) rfl rfl rfl (Rd.assign rfl rfl) ?_
            refine WD.done (by kernel_rfl) ?_
            refine thenQ.normal ?_
            refine WC.seq ?_
            refine WC.seq ?_
            refine WC.region ?_
            refine WL.rd rfl rfl rfl (Rd.move rfl rfl) ?_
            refine WL.rd rfl rfl rfl (Rd.slen (ts := #[]) (ty := 0) rfl rfl Try.underlying9) ?_
            refine WL.rd rfl rfl rfl (Rd.gtr rfl rfl rfl) ?_
            refine WL.nil ?_
            refine thenQ.normal ?_
            first | refine WC.ite rfl (fun hc3 => ?_) (fun hc3 => ?_) | refine WC.cond rfl (fun hc3 => ?_) (fun hc3 => ?_)
            · skip
              rw [if_pos (by omega)] at hfin
              refine WC.seq ?_
              refine WC.region ?_
              refine WL.rd rfl rfl rfl (Rd.assign rfl rfl) ?_
              refine WL.rd rfl rfl rfl (Rd.assign rfl rfl) ?_
              refine WL.nil ?_
              refine thenQ.normal ?_
              refine WC.heap (R' := R) (O' := O) (fun w h => OwnL.sat (by repeat (first | exact OwnL.refl | apply OwnL.take (by repeat (first | exact Take.head _ | apply Take.tail)) | apply OwnL.drop)) w (h.thin (SubL.mem (by repeat (first | exact SubL.refl | refine SubL.cons (by repeat (first | assumption | exact mS | apply mT)) ?_ | refine SubL.skip ?_))))) ?_
              refine WC.ret (Ret.two Try.results9 rfl rfl ?_)
              rw [hfin] at hk
              exact hk
            · skip
              rw [if_neg (by omega)] at hfin
              refine WC.skip ?_
              refine thenQ.normal ?_
              refine WC.seq ?_
              refine WC.region ?_
              refine WL.rd rfl rfl rfl (Rd.move rfl rfl) ?_
              refine WL.rd rfl rfl rfl (Rd.assign rfl rfl) ?_
              refine WL.rd rfl rfl rfl (Rd.assign rfl rfl) ?_
              refine WL.nil ?_
              refine thenQ.normal ?_
              refine WC.heap (R' := R) (O' := O) (fun w h => OwnL.sat (by repeat (first | exact OwnL.refl | apply OwnL.take (by repeat (first | exact Take.head _ | apply Take.tail)) | apply OwnL.drop)) w (h.thin (SubL.mem (by repeat (first | exact SubL.refl | refine SubL.cons (by repeat (first | assumption | exact mS | apply mT)) ?_ | refine SubL.skip ?_))))) ?_
              refine WC.ret (Ret.two Try.results9 rfl rfl ?_)
              rw [hfin] at hk
              exact hk
      · skip
        refine OpW.call rfl rfl (by repeat (first | exact Evs.nil | apply Evs.cons rfl)) hG.ht rfl rfl rfl ?_
        refine hG.texts (o := o) (ev := ev) (pv := pv) (by repeat (first | assumption | exact mS | apply mT)) (by repeat (first | assumption | exact mS | apply mT)) (by repeat (first | assumption | exact mS | apply mT)) rfl hrr ?_; intro v26
        refine ⟨(Held.mk' (by repeat (first | exact SubL.refl | refine SubL.cons (by repeat (first | assumption | exact mS | apply mT)) ?_ | refine SubL.skip ?_)) (by repeat (first | exact OwnL.refl | apply OwnL.take (by repeat (first | exact Take.head _ | apply Take.tail)) | apply OwnL.drop))), ?_⟩
        refine WD.two 3 8 rfl rfl (by kernel_rfl) rfl rfl ?_ ?_
        · skip
          refine OpW.buildSl (ps := [(0, _)]) rfl S61 (by repeat (first | exact Evs.nil | apply Evs.cons rfl)) rfl rfl (by repeat (first | exact CellsOf.nil | apply CellsOf.cons rfl)) (by kernel_rfl) rfl rfl rfl ?_; intro b22
          refine ⟨(Held.mk' (by repeat (first | exact SubL.refl | refine SubL.cons (by repeat (first | assumption | exact mS | apply mT)) ?_ | refine SubL.skip ?_)) (by repeat (first | exact OwnL.refl | apply OwnL.take (by repeat (first | exact Take.head _ | apply Take.tail)) | apply OwnL.drop))), ?_⟩
          refine WD.two 4 8 rfl rfl (by kernel_rfl) rfl rfl ?_ ?_
          · skip
            refine OpW.rd rfl rfl (Rd.strOfR (bs := [UInt8.ofNat o.kind.toNat]) rfl Try.underlying61 Try.underlying9 Try.underlying5 rfl (by repeat (first | assumption | exact mS | apply mT)) rfl rfl (by decide)) ?_
            refine ⟨(Held.mk' (by repeat (first | exact SubL.refl | refine SubL.cons (by repeat (first | assumption | exact mS | apply mT)) ?_ | refine SubL.skip ?_)) (by repeat (first | exact OwnL.refl | apply OwnL.take (by repeat (first | exact Take.head _ | apply Take.tail)) | apply OwnL.drop))), ?_⟩
            refine WD.one 8 rfl (by kernel_rfl) rfl ?_
            refine OpW.call rfl rfl (by repeat (first | exact Evs.nil | apply Evs.cons rfl)) (by kernel_rfl) rfl rfl rfl ?_
            refine join_spec (l := texts o) (by repeat (first | assumption | exact mS | apply mT)) (by omega) ?_
            refine ⟨(Held.mk' (by repeat (first | exact SubL.refl | refine SubL.cons (by repeat (first | assumption | exact mS | apply mT)) ?_ | refine SubL.skip ?_)) (by repeat (first | exact OwnL.refl | apply OwnL.take (by repeat (first | exact Take.head _ | apply Take.tail)) | apply OwnL.drop))), ?_⟩
            refine WD.take 9 rfl (by kernel_rfl) (Held.mk' (by repeat (first | exact SubL.refl | refine SubL.cons (by repeat (first | assumption | exact mS | apply mT)) ?_ | refine SubL.skip ?_)) (by repeat (first | exact OwnL.refl | apply OwnL.take (by repeat (first | exact Take.head _ | apply Take.tail)) | apply OwnL.drop))) rfl rfl rfl (Rd.scat rfl rfl rfl (by simp; omega)) ?_
            refine WD.say 28 (u := vs (encB o)) rfl rfl ?_
            refine WD.take 10 rfl (by kernel_rfl) (Held.mk' (by repeat (first | exact SubL.refl | refine SubL.cons (by repeat (first | assumption | exact mS | apply mT)) ?_ | refine SubL.skip ?_)) (by repeat (first | exact OwnL.refl | apply OwnL.take (by repeat (first | exact Take.head _ | apply Take.tail)) | apply OwnL.drop))) rfl rfl rfl (Rd.assign rfl rfl) ?_
            refine WD.done (by kernel_rfl) ?_
            refine thenQ.normal ?_
            refine WC.seq ?_
            refine WC.seq ?_
            refine WC.region ?_
            refine WL.rd rfl rfl rfl (Rd.move rfl rfl) ?_
            refine WL.rd rfl rfl rfl (Rd.slen (ts := #[]) (ty := 0) rfl rfl Try.underlying9) ?_
            refine WL.rd rfl rfl rfl (Rd.gtr rfl rfl rfl) ?_
            refine WL.nil ?_
            refine thenQ.normal ?_
            first | refine WC.ite rfl (fun hc3 => ?_) (fun hc3 => ?_) | refine WC.cond rfl (fun hc3 => ?_) (fun hc3 => ?_)
            · skip
              rw [if_pos (by omega)] at hfin
              refine WC.seq ?_
              refine WC.region ?_
              refine WL.rd rfl rfl rfl (Rd.assign rfl rfl) ?_
              refine WL.rd rfl rfl rfl (Rd.assign rfl rfl) ?_
              refine WL.nil ?_
              refine thenQ.normal ?_
              refine WC.heap (R' := R) (O' := O) (fun w h => OwnL.sat (by repeat (first | exact OwnL.refl | apply OwnL.take (by repeat (first | exact Take.head _ | apply Take.tail)) | apply OwnL.drop)) w (h.thin (SubL.mem (by repeat (first | exact SubL.refl | refine SubL.cons (by repeat (first | assumption | exact mS | apply mT)) ?_ | refine SubL.skip ?_))))) ?_
              refine WC.ret (Ret.two Try.results9 rfl rfl ?_)
              rw [hfin] at hk
              exact hk
            · skip
              rw [if_neg (by omega)] at hfin
              refine WC.skip ?_
              refine thenQ.normal ?_
              refine WC.seq ?_
              refine WC.region ?_
              refine WL.rd rfl rfl rfl (Rd.move rfl rfl) ?_
              refine WL.rd rfl rfl rfl (Rd.assign rfl rfl) ?_
              refine WL.rd rfl rfl rfl (Rd.assign rfl rfl) ?_
              refine WL.nil ?_
              refine thenQ.normal ?_
              refine WC.heap (R' := R) (O' := O) (fun w h => OwnL.sat (by repeat (first | exact OwnL.refl | apply OwnL.take (by repeat (first | exact Take.head _ | apply Take.tail)) | apply OwnL.drop)) w (h.thin (SubL.mem (by repeat (first | exact SubL.refl | refine SubL.cons (by repeat (first | assumption | exact mS | apply mT)) ?_ | refine SubL.skip ?_))))) ?_
              refine WC.ret (Ret.two Try.results9 rfl rfl ?_)
              rw [hfin] at hk
              exact hk
          · skip
            refine OpW.call rfl rfl (by repeat (first | exact Evs.nil | apply Evs.cons rfl)) (by kernel_rfl) rfl rfl rfl ?_
            refine join_spec (l := texts o) (by repeat (first | assumption | exact mS | apply mT)) (by omega) ?_
            refine ⟨(Held.mk' (by repeat (first | exact SubL.refl | refine SubL.cons (by repeat (first | assumption | exact mS | apply mT)) ?_ | refine SubL.skip ?_)) (by repeat (first | exact OwnL.refl | apply OwnL.take (by repeat (first | exact Take.head _ | apply Take.tail)) | apply OwnL.drop))), ?_⟩
            refine WD.one 4 rfl (by kernel_rfl) rfl ?_
            refine OpW.rd rfl rfl (Rd.strOfR (bs := [UInt8.ofNat o.kind.toNat]) rfl Try.underlying61 Try.underlying9 Try.underlying5 rfl (by repeat (first | assumption | exact mS | apply mT)) rfl rfl (by decide)) ?_
            refine ⟨(Held.mk' (by repeat (first | exact SubL.refl | refine SubL.cons (by repeat (first | assumption | exact mS | apply mT)) ?_ | refine SubL.skip ?_)) (by repeat (first | exact OwnL.refl | apply OwnL.take (by repeat (first | exact Take.head _ | apply Take.tail)) | apply OwnL.drop))), ?_⟩
            refine WD.take 9 rfl (by kernel_rfl) (Held.mk' (by repeat (first | exact SubL.refl | refine SubL.cons (by repeat (first | assumption | exact mS | apply mT)) ?_ | refine SubL.skip ?_)) (by repeat (first | exact OwnL.refl | apply OwnL.take (by repeat (first | exact Take.head _ | apply Take.tail)) | apply OwnL.drop))) rfl rfl rfl (Rd.scat rfl rfl rfl (by simp; omega)) ?_
            refine WD.say 28 (u := vs (encB o)) rfl rfl ?_
            refine WD.take 10 rfl (by kernel_rfl) (Held.mk' (by repeat (first | exact SubL.refl | refine SubL.cons (by repeat (first | assumption | exact mS | apply mT)) ?_ | refine SubL.skip ?_)) (by repeat (first | exact OwnL.refl | apply OwnL.take (by repeat (first | exact Take.head _ | apply Take.tail)) | apply OwnL.drop))) rfl rfl rfl (Rd.assign rfl rfl) ?_
            refine WD.done (by kernel_rfl) ?_
            refine thenQ.normal ?_
            refine WC.seq ?_
            refine WC.seq ?_
            refine WC.region ?_
            refine WL.rd rfl rfl rfl (Rd.move rfl rfl) ?_
            refine WL.rd rfl rfl rfl (Rd.slen (ts := #[]) (ty := 0) rfl rfl Try.underlying9) ?_
            refine WL.rd rfl rfl rfl (Rd.gtr rfl rfl rfl) ?_
            refine WL.nil ?_
            refine thenQ.normal ?_
            first | refine WC.ite rfl (fun hc3 => ?_) (fun hc3 => ?_) | refine WC.cond rfl (fun hc3 => ?_) (fun hc3 => ?_)
            · skip
              rw [if_pos (by omega)] at hfin
              refine WC.seq ?_
              refine WC.region ?_
              refine WL.rd rfl rfl rfl (Rd.assign rfl rfl) ?_
              refine WL.rd rfl rfl rfl (Rd.assign rfl rfl) ?_
              refine WL.nil ?_
              refine thenQ.normal ?_
              refine WC.heap (R' := R) (O' := O) (fun w h => OwnL.sat (by repeat (first | exact OwnL.refl | apply OwnL.take (by repeat (first | exact Take.head _ | apply Take.tail)) | apply OwnL.drop)) w (h.thin (SubL.mem (by repeat (first | exact SubL.refl | refine SubL.cons (by repeat (first | assumption | exact mS | apply mT)) ?_ | refine SubL.skip ?_))))) ?_
              refine WC.ret (Ret.two Try.results9 rfl rfl ?_)
              rw [hfin] at hk
              exact hk
            · skip
              rw [if_neg (by omega)] at hfin
              refine WC.skip ?_
              refine thenQ.normal ?_
              refine WC.seq ?_
              refine WC.region ?_
              refine WL.rd rfl rfl rfl (Rd.move rfl rfl) ?_
              refine WL.rd rfl rfl rfl (Rd.assign rfl rfl) ?_
              refine WL.rd rfl rfl rfl (Rd.assign rfl rfl) ?_
              refine WL.nil ?_
              refine thenQ.normal ?_
              refine WC.heap (R' := R) (O' := O) (fun w h => OwnL.sat (by repeat (first | exact OwnL.refl | apply OwnL.take (by repeat (first | exact Take.head _ | apply Take.tail)) | apply OwnL.drop)) w (h.thin (SubL.mem (by repeat (first | exact SubL.refl | refine SubL.cons (by repeat (first | assumption | exact mS | apply mT)) ?_ | refine SubL.skip ?_))))) ?_
              refine WC.ret (Ret.two Try.results9 rfl rfl ?_)
              rw [hfin] at hk
              exact hk
        · skip
          refine OpW.call rfl rfl (by repeat (first | exact Evs.nil | apply Evs.cons rfl)) (by kernel_rfl) rfl rfl rfl ?_
          refine join_spec (l := texts o) (by repeat (first | assumption | exact mS | apply mT)) (by omega) ?_
          refine ⟨(Held.mk' (by repeat (first | exact SubL.refl | refine SubL.cons (by repeat (first | assumption | exact mS | apply mT)) ?_ | refine SubL.skip ?_)) (by repeat (first | exact OwnL.refl | apply OwnL.take (by repeat (first | exact Take.head _ | apply Take.tail)) | apply OwnL.drop))), ?_⟩
          refine WD.one 3 rfl (by kernel_rfl) rfl ?_
          refine OpW.buildSl (ps := [(0, _)]) rfl S61 (by repeat (first | exact Evs.nil | apply Evs.cons rfl)) rfl rfl (by repeat (first | exact CellsOf.nil | apply CellsOf.cons rfl)) (by kernel_rfl) rfl rfl rfl ?_; intro b22
          refine ⟨(Held.mk' (by repeat (first | exact SubL.refl | refine SubL.cons (by repeat (first | assumption | exact mS | apply mT)) ?_ | refine SubL.skip ?_)) (by repeat (first | exact OwnL.refl | apply OwnL.take (by repeat (first | exact Take.head _ | apply Take.tail)) | apply OwnL.drop))), ?_⟩
          refine WD.one 4 rfl (by kernel_rfl) rfl ?_
          refine OpW.rd rfl rfl (Rd.strOfR (bs := [UInt8.ofNat o.kind.toNat]) rfl Try.underlying61 Try.underlying9 Try.underlying5 rfl (by repeat (first | assumption | exact mS | apply mT)) rfl rfl (by decide)) ?_
          refine ⟨(Held.mk' (by repeat (first | exact SubL.refl | refine SubL.cons (by repeat (first | assumption | exact mS | apply mT)) ?_ | refine SubL.skip ?_)) (by repeat (first | exact OwnL.refl | apply OwnL.take (by repeat (first | exact Take.head _ | apply Take.tail)) | apply OwnL.drop))), ?_⟩
          refine WD.take 9 rfl (by kernel_rfl) (Held.mk' (by repeat (first | exact SubL.refl | refine SubL.cons (by repeat (first | assumption | exact mS | apply mT)) ?_ | refine SubL.skip ?_)) (by repeat (first | exact OwnL.refl | apply OwnL.take (by repeat (first | exact Take.head _ | apply Take.tail)) | apply OwnL.drop))) rfl rfl rfl (Rd.scat rfl rfl rfl (by simp; omega)) ?_
          refine WD.say 28 (u := vs (encB o)) rfl rfl ?_
          refine WD.take 10 rfl (by kernel_rfl) (Held.mk' (by repeat (first | exact SubL.refl | refine SubL.cons (by repeat (first | assumption | exact mS | apply mT)) ?_ | refine SubL.skip ?_)) (by repeat (first | exact OwnL.refl | apply OwnL.take (by repeat (first | exact Take.head _ | apply Take.tail)) | apply OwnL.drop))) rfl rfl rfl (Rd.assign rfl rfl) ?_
          refine WD.done (by kernel_rfl) ?_
          refine thenQ.normal ?_
          refine WC.seq ?_
          refine WC.seq ?_
          refine WC.region ?_
          refine WL.rd rfl rfl rfl (Rd.move rfl rfl) ?_
          refine WL.rd rfl rfl rfl (Rd.slen (ts := #[]) (ty := 0) rfl rfl Try.underlying9) ?_
          refine WL.rd rfl rfl rfl (Rd.gtr rfl rfl rfl) ?_
          refine WL.nil ?_
          refine thenQ.normal ?_
          first | refine WC.ite rfl (fun hc3 => ?_) (fun hc3 => ?_) | refine WC.cond rfl (fun hc3 => ?_) (fun hc3 => ?_)
          · skip
            rw [if_pos (by omega)] at hfin
            refine WC.seq ?_
            refine WC.region ?_
            refine WL.rd rfl rfl rfl (Rd.assign rfl rfl) ?_
            refine WL.rd rfl rfl rfl (Rd.assign rfl rfl) ?_
            refine WL.nil ?_
            refine thenQ.normal ?_
            refine WC.heap (R' := R) (O' := O) (fun w h => OwnL.sat (by repeat (first | exact OwnL.refl | apply OwnL.take (by repeat (first | exact Take.head _ | apply Take.tail)) | apply OwnL.drop)) w (h.thin (SubL.mem (by repeat (first | exact SubL.refl | refine SubL.cons (by repeat (first | assumption | exact mS | apply mT)) ?_ | refine SubL.skip ?_))))) ?_
            refine WC.ret (Ret.two Try.results9 rfl rfl ?_)
            rw [hfin] at hk
            exact hk
          · skip
            rw [if_neg (by omega)] at hfin
            refine WC.skip ?_
            refine thenQ.normal ?_
            refine WC.seq ?_
            refine WC.region ?_
            refine WL.rd rfl rfl rfl (Rd.move rfl rfl) ?_
            refine WL.rd rfl rfl rfl (Rd.assign rfl rfl) ?_
            refine WL.rd rfl rfl rfl (Rd.assign rfl rfl) ?_
            refine WL.nil ?_
            refine thenQ.normal ?_
            refine WC.heap (R' := R) (O' := O) (fun w h => OwnL.sat (by repeat (first | exact OwnL.refl | apply OwnL.take (by repeat (first | exact Take.head _ | apply Take.tail)) | apply OwnL.drop)) w (h.thin (SubL.mem (by repeat (first | exact SubL.refl | refine SubL.cons (by repeat (first | assumption | exact mS | apply mT)) ?_ | refine SubL.skip ?_))))) ?_
            refine WC.ret (Ret.two Try.results9 rfl rfl ?_)
            rw [hfin] at hk
            exact hk
end
end Go.Proofs.Ytedgndhbieeffaa
