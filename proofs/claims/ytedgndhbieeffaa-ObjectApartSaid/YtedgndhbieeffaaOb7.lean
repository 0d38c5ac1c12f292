/-
  Layer 11: Decode, by the program.
-/
import Derived.Test.YtedgndhbieeffaaOb6
namespace Go.SL
open Go Go.RowKit
section
variable {P : Program} {n : Nat} {L : Env} {R : List RO} {O : List Own}
theorem WL.know2 {ops : Array Oper} {Q : Post} {rest : List Oper} {p : RO} {φ : Prop} (hp : p ∈ R) (hφ : ∀ w, p w → φ) (h : φ → WL P n ops Q rest L R O) : WL P n ops Q rest L R O := fun a w hf hs => h (hφ w (hs.read hp)) a w hf hs
end
end Go.SL
namespace Go.Proofs.Ytedgndhbieeffaa
open Go Go.SL Go.RowKit

def kOf (s : List UInt8) : Int := (s[0]!.toNat : Int)
def DecP (s : List UInt8) (o : Ob) (e : Int) : Prop :=
  if s = [] then o = zOb ∧ e = 3 else if ¬ (1 ≤ kOf s ∧ kOf s ≤ 4) then o = zOb ∧ e = 15 else if 262208 < s.length then o = zOb ∧ e = 6 else
  ∃ l r, Parts (s.drop 1) l r ∧ (r ≠ [] ∧ (nextE r).2.2 ≠ 0 ∧ e = (nextE r).2.2 ∧ o = zOb ∨ r = [] ∧ if (obOf (kOf s) l).2 = true ∧ RightP (obOf (kOf s) l).1 then o = (obOf (kOf s) l).1 ∧ e = 0 else o = zOb ∧ e = 2)
theorem obOf_names {k : Int} {l : List (List UInt8)} (h : ∀ x ∈ l, x.length ≤ 300000) : Names (obOf k l).1 := by
  have hg : ∀ j : Nat, (l[j]!).length ≤ 300000 := fun j => by
    by_cases hj : j < l.length
    · rw [getElem!_pos l j hj]; exact h _ (List.getElem_mem _)
    · rw [getElem!_neg l j hj]; exact Nat.zero_le _
  have hz : Names zOb := ⟨fun x hx => absurd hx List.not_mem_nil, Nat.zero_le _⟩
  unfold obOf
  split
  · unfold blobO; split
    · exact hz
    · exact ⟨fun x hx => absurd hx List.not_mem_nil, Nat.zero_le _⟩
  · split
    · refine ⟨fun x hx => ?_, Nat.zero_le _⟩
      obtain ⟨j, _, rfl⟩ := List.mem_map.1 hx
      have := hg (2 * j)
      show l[2 * j]!.length ≤ _
      omega
    · split
      · unfold commitO; split
        · exact hz
        · exact ⟨fun x hx => absurd hx List.not_mem_nil, Nat.zero_le _⟩
      · unfold tagO; split
        · exact hz
        · refine ⟨fun x hx => absurd hx List.not_mem_nil, ?_⟩
          have := hg 1
          show l[1]!.length ≤ _
          omega
theorem obOf_kind {k : Int} {l : List (List UInt8)} (hk : 1 ≤ k ∧ k ≤ 4) (h : (obOf k l).2 = true) : (obOf k l).1.kind = k := by
  unfold obOf at h ⊢
  split
  · rename_i e
    rw [if_pos e] at h
    unfold blobO at h ⊢
    split at h
    · cases h
    · rename_i h2
      rw [if_neg h2]; exact e.symm
  · rename_i e1
    rw [if_neg e1] at h
    split
    · rename_i e; exact e.symm
    · rename_i e2
      rw [if_neg e2] at h
      split
      · rename_i e
        rw [if_pos e] at h
        unfold commitO at h ⊢
        split at h
        · cases h
        · rename_i h2
          rw [if_neg h2]; exact e.symm
      · rename_i e3
        rw [if_neg e3] at h
        unfold tagO at h ⊢
        split at h
        · cases h
        · rename_i h2
          rw [if_neg h2]; show (4 : Int) = k; omega
section
variable {R : List RO} {O : List Own} {POST : Value → List RO → List Own → Prop} {b : Nat} {o : Ob} {ev pv : Value}
abbrev zC : List Value := tC 0 (.slice none 0 0)
set_option maxRecDepth 20000 in
set_option maxHeartbeats 2000000 in
theorem decode_spec {s : List UInt8} (hs : s.length ≤ 8000000000000) (hk : ∀ o e ev pv b2 cs, DecP s o e → POST (.tuple #[obV o ev pv, .int .i64 e]) (SlE encT ev o.ents :: SlE (one vs) pv o.pars :: R) (rowC b2 30 cs :: O)) : Fun Try.prog 13 #[vs s] R O POST := by
  have hfin : ∀ o e, DecP s o e = _ := fun o e => DecP.eq_1 s o e
  refine Fun.enter (l := [_]) Try.func13 rfl Try.ntmps13 rfl (L0 := [(0, _)]) rfl ?_
  refine WC.seq ?_
  refine WC.region ?_
  refine WL.op rfl ?_
  refine OpW.alloc rfl I30 rfl (by repeat (first | exact NF.nil | apply NF.cons)) rfl rfl ?_; intro b2
  refine WL.rd rfl rfl rfl (Rd.assign rfl rfl) ?_
  refine WL.nil ?_
  refine thenQ.normal ?_
  refine WC.seq ?_
  refine WC.seq ?_
  refine WC.region ?_
  refine WL.rd rfl rfl rfl (Rd.move rfl rfl) ?_
  refine WL.rd rfl rfl rfl (Rd.seql rfl rfl rfl) ?_
  refine WL.nil ?_
  refine thenQ.normal ?_
  first | refine WC.ite rfl (fun hc1 => ?_) (fun hc1 => ?_) | refine WC.cond rfl (fun hc1 => ?_) (fun hc1 => ?_)
  · skip
    simp only [if_pos hc1] at hfin
    refine WC.seq ?_
    refine WC.region ?_
    refine WL.rd rfl rfl rfl (Rd.buildN (ps := []) rfl Bs30 I30 rfl (by repeat (first | exact Evs.nil | apply Evs.cons rfl)) (by repeat (first | exact CellsOf.nil | apply CellsOf.cons rfl)) (by apply NFo.mk; repeat (first | exact NF.nil | apply NF.cons))) ?_
    refine WL.op rfl ?_
    refine OpW.storeS rfl G30 rfl rfl (by repeat (first | exact NF.nil | apply NF.cons)) (by repeat (first | assumption | exact Take.head _ | apply Take.tail)) rfl rfl (by repeat (first | exact NF.nil | apply NF.cons)) rfl ?_
    refine WL.rd rfl rfl rfl (Rd.assign rfl rfl) ?_
    refine WL.nil ?_
    refine thenQ.normal ?_
    refine WC.heap (fun w h => Sat.nilE (α := List UInt8) (enc := one vs) h) ?_
    refine WC.heap (fun w h => Sat.nilE (α := ET) (enc := encT) h) ?_
    refine WC.ret (Ret.cellTmp Try.results13 rfl rfl (by repeat (first | assumption | exact mS | apply mT)) G30 rfl ?_)
    exact hk zOb 3 _ _ _ _ (by rw [hfin]; exact ⟨rfl, rfl⟩)
  · skip
    have h0 : 0 < s.length := List.length_pos_iff.2 hc1
    simp only [if_neg hc1] at hfin
    refine WC.skip ?_
    refine thenQ.normal ?_
    refine WC.seq ?_
    refine WC.region ?_
    refine WL.rd rfl rfl rfl (Rd.move rfl rfl) ?_
    refine WL.rd rfl rfl rfl (Rd.sidx (k := 0) (b := s[0]!) rfl Try.underlying9 rfl rfl rfl (get!_of_lt (by omega))) ?_
    refine WL.rd rfl rfl rfl (Rd.conv (kd' := .i64) rfl rfl Try.underlying3 (wrap_i64 (by have := UInt8.toNat_lt s[0]!; omega)) (hS := Try.underlying5)) ?_
    refine WL.say 15 (u := .int .i64 (kOf s)) rfl rfl ?_
    refine WL.op rfl ?_
    refine OpW.call rfl rfl (by repeat (first | exact Evs.nil | apply Evs.cons rfl)) (by kernel_rfl) rfl rfl rfl ?_
    refine forms2_spec ?_; intro va vb vc ha hb hc hF
    refine WL.rd rfl rfl rfl (Rd.move rfl rfl) ?_
    refine WL.rd rfl rfl rfl (Rd.extract rfl rfl rfl) ?_
    refine WL.rd rfl rfl rfl (Rd.extract rfl rfl rfl) ?_
    refine WL.op rfl ?_
    refine OpW.alloc rfl I57 rfl (by repeat (first | exact NF.nil | apply NF.cons)) rfl rfl ?_; intro b4
    refine WL.op rfl ?_
    refine OpW.storeS rfl G57 rfl rfl (by repeat (first | exact NF.nil | apply NF.cons)) (by repeat (first | assumption | exact Take.head _ | apply Take.tail)) rfl rfl (by repeat (first | exact NF.nil | apply NF.cons)) rfl (h1 := by have h1 := ha.one; have h2 := hb.one; have h3 := hc.one; simp only [List.all_cons, List.all_nil, h1, h2, h3]; rfl) ?_
    refine WL.rd rfl rfl rfl (Rd.assign rfl rfl) ?_
    refine WL.nil ?_
    refine thenQ.normal ?_
    refine WC.seq ?_
    refine WC.block ?_
    refine WC.seq ?_
    refine WC.region ?_
    refine WL.rd rfl rfl rfl (Rd.move rfl rfl) ?_
    refine WL.rd rfl rfl rfl ((by first | exact Rd.notd rfl rfl | exact Rd.not rfl rfl)) ?_
    refine WL.rd rfl rfl rfl (Rd.assign rfl rfl) ?_
    refine WL.nil ?_
    refine thenQ.normal ?_
    first | refine WC.ite rfl (fun hc2 => ?_) (fun hc2 => ?_) | refine WC.cond rfl (fun hc2 => ?_) (fun hc2 => ?_)
    · skip
      simp only [if_pos hc2] at hfin
      refine WC.seq ?_
      refine WC.region ?_
      refine WL.rd rfl rfl rfl (Rd.buildN (ps := []) rfl Bs30 I30 rfl (by repeat (first | exact Evs.nil | apply Evs.cons rfl)) (by repeat (first | exact CellsOf.nil | apply CellsOf.cons rfl)) (by apply NFo.mk; repeat (first | exact NF.nil | apply NF.cons))) ?_
      refine WL.op rfl ?_
      refine OpW.storeS rfl G30 rfl rfl (by repeat (first | exact NF.nil | apply NF.cons)) (by repeat (first | assumption | exact Take.head _ | apply Take.tail)) rfl rfl (by repeat (first | exact NF.nil | apply NF.cons)) rfl ?_
      refine WL.rd rfl rfl rfl (Rd.assign rfl rfl) ?_
      refine WL.nil ?_
      refine thenQ.normal ?_
      refine WC.heap (R' := SlE encT (.slice none 0 0) ([] : List ET) :: SlE (one vs) (.slice none 0 0) ([] : List (List UInt8)) :: R) (O' := rowC b2 30 zC :: O) (fun w h => by
      have g1 := Sat.nilE (α := List UInt8) (enc := one vs) h
      have g2 := Sat.nilE (α := ET) (enc := encT) g1
      exact (fun w h => OwnL.sat (by repeat (first | exact OwnL.refl | apply OwnL.take (by repeat (first | exact Take.head _ | apply Take.tail)) | apply OwnL.drop)) w (h.thin (SubL.mem (by repeat (first | exact SubL.refl | refine SubL.cons (by repeat (first | assumption | exact mS | apply mT)) ?_ | refine SubL.skip ?_))))) w g2) ?_
      refine WC.ret (Ret.cellTmp Try.results13 rfl rfl (by repeat (first | assumption | exact mS | apply mT)) G30 rfl ?_)
      exact hk zOb 15 _ _ _ _ (by rw [hfin]; exact ⟨rfl, rfl⟩)
    · skip
      have hkk : 1 ≤ kOf s ∧ kOf s ≤ 4 := Decidable.not_not.1 hc2
      simp only [if_neg hc2] at hfin
      obtain ⟨r1, t1, u1, rfl, rfl, rfl, hG⟩ := hF hkk
      refine WC.seq ?_
      refine WC.region ?_
      refine WL.rd rfl rfl rfl (Rd.move rfl rfl) ?_
      refine WL.rd rfl rfl rfl (Rd.slen (ts := #[]) (ty := 0) rfl rfl Try.underlying9) ?_
      refine WL.rd rfl rfl rfl (Rd.gtr rfl rfl rfl) ?_
      refine WL.rd rfl rfl rfl (Rd.assign rfl rfl) ?_
      refine WL.nil ?_
      refine thenQ.normal ?_
      first | refine WC.ite rfl (fun hc3 => ?_) (fun hc3 => ?_) | refine WC.cond rfl (fun hc3 => ?_) (fun hc3 => ?_)
      · skip
        simp only [if_pos (show 262208 < s.length by omega)] at hfin
        refine WC.seq ?_
        refine WC.region ?_
        refine WL.rd rfl rfl rfl (Rd.buildN (ps := []) rfl Bs30 I30 rfl (by repeat (first | exact Evs.nil | apply Evs.cons rfl)) (by repeat (first | exact CellsOf.nil | apply CellsOf.cons rfl)) (by apply NFo.mk; repeat (first | exact NF.nil | apply NF.cons))) ?_
        refine WL.op rfl ?_
        refine OpW.storeS rfl G30 rfl rfl (by repeat (first | exact NF.nil | apply NF.cons)) (by repeat (first | assumption | exact Take.head _ | apply Take.tail)) rfl rfl (by repeat (first | exact NF.nil | apply NF.cons)) rfl ?_
        refine WL.rd rfl rfl rfl (Rd.assign rfl rfl) ?_
        refine WL.nil ?_
        refine thenQ.normal ?_
        refine WC.heap (R' := SlE encT (.slice none 0 0) ([] : List ET) :: SlE (one vs) (.slice none 0 0) ([] : List (List UInt8)) :: R) (O' := rowC b2 30 zC :: O) (fun w h => by
        have g1 := Sat.nilE (α := List UInt8) (enc := one vs) h
        have g2 := Sat.nilE (α := ET) (enc := encT) g1
        exact (fun w h => OwnL.sat (by repeat (first | exact OwnL.refl | apply OwnL.take (by repeat (first | exact Take.head _ | apply Take.tail)) | apply OwnL.drop)) w (h.thin (SubL.mem (by repeat (first | exact SubL.refl | refine SubL.cons (by repeat (first | assumption | exact mS | apply mT)) ?_ | refine SubL.skip ?_))))) w g2) ?_
        refine WC.ret (Ret.cellTmp Try.results13 rfl rfl (by repeat (first | assumption | exact mS | apply mT)) G30 rfl ?_)
        exact hk zOb 6 _ _ _ _ (by rw [hfin]; exact ⟨rfl, rfl⟩)
      · skip
        simp only [if_neg (show ¬ 262208 < s.length by omega)] at hfin
        refine WC.skip ?_
        refine blockQ.normal ?_
        refine thenQ.normal ?_
        refine WC.seq ?_
        refine WC.region ?_
        refine WL.rd rfl rfl rfl (Rd.move rfl rfl) ?_
        refine WL.rd rfl rfl rfl (Rd.scut_l (lo := 1) rfl Try.underlying9 rfl rfl rfl (by omega)) ?_
        refine WL.op rfl ?_
        refine OpW.call rfl rfl (by repeat (first | exact Evs.nil | apply Evs.cons rfl)) (by kernel_rfl) rfl rfl rfl ?_
        refine split_spec (by rw [List.length_drop]; omega) ?_; intro v31 e31 out31 l r hP hcase
        refine WL.rd rfl rfl rfl (Rd.move rfl rfl) ?_
        refine WL.rd rfl rfl rfl (Rd.extract rfl rfl rfl) ?_
        refine WL.rd rfl rfl rfl (Rd.extract rfl rfl rfl) ?_
        refine WL.rd rfl rfl rfl (Rd.assign rfl rfl) ?_
        refine WL.rd rfl rfl rfl (Rd.assign rfl rfl) ?_
        refine WL.nil ?_
        refine thenQ.normal ?_
        refine WC.seq ?_
        refine WC.seq ?_
        refine WC.region ?_
        refine WL.rd rfl rfl rfl (Rd.move rfl rfl) ?_
        refine WL.rd rfl rfl rfl (Rd.neq rfl rfl rfl) ?_
        refine WL.nil ?_
        refine thenQ.normal ?_
        first | refine WC.ite rfl (fun hc4 => ?_) (fun hc4 => ?_) | refine WC.cond rfl (fun hc4 => ?_) (fun hc4 => ?_)
        · skip
          refine WC.seq ?_
          refine WC.region ?_
          refine WL.rd rfl rfl rfl (Rd.buildN (ps := []) rfl Bs30 I30 rfl (by repeat (first | exact Evs.nil | apply Evs.cons rfl)) (by repeat (first | exact CellsOf.nil | apply CellsOf.cons rfl)) (by apply NFo.mk; repeat (first | exact NF.nil | apply NF.cons))) ?_
          refine WL.rd rfl rfl rfl (Rd.move rfl rfl) ?_
          refine WL.op rfl ?_
          refine OpW.storeS rfl G30 rfl rfl (by repeat (first | exact NF.nil | apply NF.cons)) (by repeat (first | assumption | exact Take.head _ | apply Take.tail)) rfl rfl (by repeat (first | exact NF.nil | apply NF.cons)) rfl ?_
          refine WL.rd rfl rfl rfl (Rd.assign rfl rfl) ?_
          refine WL.nil ?_
          refine thenQ.normal ?_
          refine WC.heap (R' := SlE encT (.slice none 0 0) ([] : List ET) :: SlE (one vs) (.slice none 0 0) ([] : List (List UInt8)) :: R) (O' := rowC b2 30 zC :: O) (fun w h => by
          have g1 := Sat.nilE (α := List UInt8) (enc := one vs) h
          have g2 := Sat.nilE (α := ET) (enc := encT) g1
          exact (fun w h => OwnL.sat (by repeat (first | exact OwnL.refl | apply OwnL.take (by repeat (first | exact Take.head _ | apply Take.tail)) | apply OwnL.drop)) w (h.thin (SubL.mem (by repeat (first | exact SubL.refl | refine SubL.cons (by repeat (first | assumption | exact mS | apply mT)) ?_ | refine SubL.skip ?_))))) w g2) ?_
          refine WC.ret (Ret.cellTmp Try.results13 rfl rfl (by repeat (first | assumption | exact mS | apply mT)) G30 rfl ?_)
          exact hk zOb e31 _ _ _ _ (by
          rw [hfin]
          rcases hcase with ⟨h, _⟩ | ⟨h1, h2, h3, _⟩
          · exact absurd h hc4
          · exact ⟨l, r, hP, .inl ⟨h3, by rw [← h1]; exact h2, h1, rfl⟩⟩)
        · skip
          obtain ⟨e0, hr0, hout⟩ : e31 = 0 ∧ r = [] ∧ out31 = l := by
            rcases hcase with h | ⟨_, h2, _⟩
            · exact h
            · exact absurd (Decidable.not_not.1 hc4) h2
          subst hr0
          subst hout
          obtain ⟨hj1, hj2, hj3⟩ := hP.join
          rw [List.length_drop] at hj3
          have hsm : ∀ x ∈ out31, x.length ≤ 300000 := fun x hx => by have := hj2 x hx; omega
          have hnm := obOf_names (k := kOf s) hsm
          refine WC.skip ?_
          refine thenQ.normal ?_
          refine WC.seq ?_
          refine WC.region ?_
          refine WL.rd rfl rfl rfl ((by first | exact Rd.field rfl F57_2 rfl rfl | exact Rd.fieldE rfl F57_2 rfl (by repeat (first | assumption | exact mS | apply mT)) (by omega) | exact Rd.fieldA rfl F57_2 rfl (by repeat (first | assumption | exact mS | apply mT)) (by omega))) ?_
          refine WL.rd rfl rfl rfl (Rd.row1 (b := b4) (off := 2) (u := fnV u1) rfl C55 rfl (by repeat (first | assumption | exact mS | apply mT)) rfl) ?_
          refine WL.rd rfl rfl rfl (Rd.move rfl rfl) ?_
          refine WL.op rfl ?_
          refine OpW.call rfl rfl (by repeat (first | exact Evs.nil | apply Evs.cons rfl)) hG.hu rfl rfl rfl ?_
          refine hG.object (l := out31) (by repeat (first | assumption | exact mS | apply mT)) (by omega) hsm ?_; intro ev pv b42 cs42
          obtain ⟨q, hq⟩ : ∃ q, q = obOf (kOf s) out31 := ⟨_, rfl⟩
          have hqk := obOf_kind (l := out31) hkk
          rw [← hq] at hnm hqk ⊢
          refine WL.rd rfl rfl rfl (Rd.move rfl rfl) ?_
          refine WL.rd rfl rfl rfl (Rd.extract rfl rfl rfl) ?_
          refine WL.know2 (p := SlE encT ev q.1.ents) (by repeat (first | assumption | exact mS | apply mT)) (fun w h => h.oneV) fun hev => ?_
          refine WL.know2 (p := SlE (one vs) pv q.1.pars) (by repeat (first | assumption | exact mS | apply mT)) (fun w h => h.oneV) fun hpv => ?_
          refine WL.rd rfl rfl rfl (Rd.extract rfl rfl rfl) ?_
          refine WL.say 44 (u := .bool (decide (q.2 = true))) rfl (by rw [Bool.decide_eq_true]; rfl) ?_
          refine WL.op rfl ?_
          refine OpW.alloc rfl I30 rfl (by repeat (first | exact NF.nil | apply NF.cons)) rfl rfl ?_; intro b8
          refine WL.op rfl ?_
          refine OpW.storeS rfl G30 rfl rfl (by repeat (first | exact NF.nil | apply NF.cons)) (by repeat (first | assumption | exact Take.head _ | apply Take.tail)) rfl rfl (by repeat (first | exact NF.nil | apply NF.cons)) rfl (h1 := by have h1 := hev.one; have h2 := hpv.one; simp only [List.all_cons, List.all_nil, h1, h2]; rfl) ?_
          refine WL.rd rfl rfl rfl (Rd.assign rfl rfl) ?_
          refine WL.nil ?_
          refine thenQ.normal ?_
          refine WC.seq ?_
          refine WC.pick [2, 4, 5, 8] (by repeat (first | exact Pick.nil | apply Pick.cons rfl)) ?_
          refine WC.val 52 (.bool (decide (¬ (q.2 = true ∧ RightP q.1)))) ?_ ?_
          · skip
            refine WC.region ?_
            refine WL.rd rfl rfl rfl (Rd.move rfl rfl) ?_
            refine WL.rd rfl rfl rfl ((by first | exact Rd.notd rfl rfl | exact Rd.not rfl rfl)) ?_
            refine WL.rd rfl rfl rfl (Rd.move rfl rfl) ?_
            refine WL.case 47 rfl (fun hg47 => ?_) (fun hg47 => ?_)
            · skip
              refine WL.no rfl rfl rfl rfl rfl rfl ?_
              refine WL.no rfl rfl rfl rfl rfl rfl ?_
              refine WL.no rfl rfl rfl rfl rfl rfl ?_
              refine WL.no rfl rfl rfl rfl rfl rfl ?_
              refine WL.rd rfl rfl rfl (Rd.pick_t rfl rfl rfl) ?_
              refine WL.nil ?_
              exact ⟨by repeat (first | exact Sub.nil | refine Sub.cons rfl (by first | rfl | (first | exact vb_t (fun h => hg47 h.1) | exact vb ⟨fun h h2 => h h2.2, fun h h2 => h ⟨Decidable.not_not.1 hg47, h2⟩⟩)) ?_), by first | exact (fun _ h => h.thin (SubL.mem (by repeat (first | exact SubL.refl | refine SubL.cons (by repeat (first | assumption | exact mS | apply mT)) ?_ | refine SubL.skip ?_)))) | exact (fun w h => OwnL.sat (by repeat (first | exact OwnL.refl | apply OwnL.take (by repeat (first | exact Take.head _ | apply Take.tail)) | apply OwnL.drop)) w (h.thin (SubL.mem (by repeat (first | exact SubL.refl | refine SubL.cons (by repeat (first | assumption | exact mS | apply mT)) ?_ | refine SubL.skip ?_)))))⟩
            · skip
              refine WL.rd_yes rfl rfl rfl rfl rfl rfl ((by first | exact Rd.field rfl F57_0 rfl rfl | exact Rd.fieldE rfl F57_0 rfl (by repeat (first | assumption | exact mS | apply mT)) (by omega) | exact Rd.fieldA rfl F57_0 rfl (by repeat (first | assumption | exact mS | apply mT)) (by omega))) ?_
              refine WL.rd_yes rfl rfl rfl rfl rfl rfl (Rd.row1 (b := b4) (off := 0) (u := fnV r1) rfl C53 rfl (by repeat (first | assumption | exact mS | apply mT)) rfl) ?_
              refine WL.op_yes rfl rfl rfl rfl ?_
              refine OpW.call rfl rfl (by repeat (first | exact Evs.nil | apply Evs.cons rfl)) hG.hr rfl rfl rfl ?_
              refine hG.right (o := q.1) (ev := ev) (pv := pv) (by repeat (first | assumption | exact mS | apply mT)) (by repeat (first | assumption | exact mS | apply mT)) (by repeat (first | assumption | exact mS | apply mT)) (hqk (Decidable.not_not.1 hg47)) hnm ?_
              refine WL.rd_yes rfl rfl rfl rfl rfl rfl ((by first | exact Rd.notd rfl rfl | exact Rd.not rfl rfl)) ?_
              refine WL.rd rfl rfl rfl (Rd.pick_f rfl rfl rfl) ?_
              refine WL.nil ?_
              exact ⟨by repeat (first | exact Sub.nil | refine Sub.cons rfl (by first | rfl | (first | exact vb_t (fun h => hg47 h.1) | exact vb ⟨fun h h2 => h h2.2, fun h h2 => h ⟨Decidable.not_not.1 hg47, h2⟩⟩)) ?_), by first | exact (fun _ h => h.thin (SubL.mem (by repeat (first | exact SubL.refl | refine SubL.cons (by repeat (first | assumption | exact mS | apply mT)) ?_ | refine SubL.skip ?_)))) | exact (fun w h => OwnL.sat (by repeat (first | exact OwnL.refl | apply OwnL.take (by repeat (first | exact Take.head _ | apply Take.tail)) | apply OwnL.drop)) w (h.thin (SubL.mem (by repeat (first | exact SubL.refl | refine SubL.cons (by repeat (first | assumption | exact mS | apply mT)) ?_ | refine SubL.skip ?_)))))⟩
          · skip
            first | refine WC.ite rfl (fun hc5 => ?_) (fun hc5 => ?_) | refine WC.cond rfl (fun hc5 => ?_) (fun hc5 => ?_)
            · skip
              refine WC.seq ?_
              refine WC.region ?_
              refine WL.rd rfl rfl rfl (Rd.buildN (ps := []) rfl Bs30 I30 rfl (by repeat (first | exact Evs.nil | apply Evs.cons rfl)) (by repeat (first | exact CellsOf.nil | apply CellsOf.cons rfl)) (by apply NFo.mk; repeat (first | exact NF.nil | apply NF.cons))) ?_
              refine WL.op rfl ?_
              refine OpW.storeS rfl G30 rfl rfl (by repeat (first | exact NF.nil | apply NF.cons)) (by repeat (first | assumption | exact Take.head _ | apply Take.tail)) rfl rfl (by repeat (first | exact NF.nil | apply NF.cons)) rfl ?_
              refine WL.rd rfl rfl rfl (Rd.assign rfl rfl) ?_
              refine WL.nil ?_
              refine thenQ.normal ?_
              refine WC.heap (R' := SlE encT (.slice none 0 0) ([] : List ET) :: SlE (one vs) (.slice none 0 0) ([] : List (List UInt8)) :: R) (O' := rowC b2 30 zC :: O) (fun w h => by
              have g1 := Sat.nilE (α := List UInt8) (enc := one vs) h
              have g2 := Sat.nilE (α := ET) (enc := encT) g1
              exact (fun w h => OwnL.sat (by repeat (first | exact OwnL.refl | apply OwnL.take (by repeat (first | exact Take.head _ | apply Take.tail)) | apply OwnL.drop)) w (h.thin (SubL.mem (by repeat (first | exact SubL.refl | refine SubL.cons (by repeat (first | assumption | exact mS | apply mT)) ?_ | refine SubL.skip ?_))))) w g2) ?_
              refine WC.ret (Ret.cellTmp Try.results13 rfl rfl (by repeat (first | assumption | exact mS | apply mT)) G30 rfl ?_)
              exact hk zOb 2 _ _ _ _ (by
              rw [hfin]
              refine ⟨out31, [], hP, .inr ⟨rfl, ?_⟩⟩
              rw [← hq, if_neg hc5]
              exact ⟨rfl, rfl⟩)
            · skip
              refine WC.skip ?_
              refine thenQ.normal ?_
              refine WC.seq ?_
              refine WC.region ?_
              refine WL.rd rfl rfl rfl (Rd.rowS (b := b8) rfl G30 rfl (by repeat (first | assumption | exact mS | apply mT)) (by repeat (first | exact NF.nil | apply NF.cons)) rfl) ?_
              refine WL.op rfl ?_
              refine OpW.storeS rfl G30 rfl rfl (by repeat (first | exact NF.nil | apply NF.cons)) (by repeat (first | assumption | exact Take.head _ | apply Take.tail)) rfl rfl (by repeat (first | exact NF.nil | apply NF.cons)) rfl (h1 := by have h1 := hev.one; have h2 := hpv.one; simp only [List.all_cons, List.all_nil, h1, h2]; rfl) ?_
              refine WL.rd rfl rfl rfl (Rd.assign rfl rfl) ?_
              refine WL.nil ?_
              refine thenQ.normal ?_
              refine WC.heap (R' := SlE encT ev q.1.ents :: SlE (one vs) pv q.1.pars :: R) (O' := rowC b2 30 (obC q.1 ev pv) :: O) (fun w h => OwnL.sat (by repeat (first | exact OwnL.refl | apply OwnL.take (by repeat (first | exact Take.head _ | apply Take.tail)) | apply OwnL.drop)) w (h.thin (SubL.mem (by repeat (first | exact SubL.refl | refine SubL.cons (by repeat (first | assumption | exact mS | apply mT)) ?_ | refine SubL.skip ?_))))) ?_
              refine WC.ret (Ret.cellTmp Try.results13 rfl rfl (by repeat (first | assumption | exact mS | apply mT)) G30 rfl ?_)
              exact hk q.1 0 _ _ _ _ (by
              rw [hfin]
              refine ⟨out31, [], hP, .inr ⟨rfl, ?_⟩⟩
              rw [← hq, if_pos (Decidable.not_not.1 hc5)]
              exact ⟨rfl, rfl⟩)
end
end Go.Proofs.Ytedgndhbieeffaa
