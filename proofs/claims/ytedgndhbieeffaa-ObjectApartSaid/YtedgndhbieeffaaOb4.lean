/-
  Layer 11: commits and tags that are right; objects' texts.
-/
import Derived.Test.YtedgndhbieeffaaOb3
namespace Go.Proofs.Ytedgndhbieeffaa
open Go Go.SL Go.RowKit

def texts (o : Ob) : List (List UInt8) :=
  if o.kind = 1 then [o.body] else if o.kind = 2 then o.ents.flatMap fun x => [x.1, x.2]
  else if o.kind = 3 then [o.tree, o.pars.flatten, o.author, o.text, putI o.time] else [o.target, o.name, o.text]
theorem inter_nil : ∀ xs : List (List UInt8), ([] : List UInt8).intercalate xs = xs.flatten
  | [] => rfl
  | [a] => by simp [List.intercalate, List.intersperse]
  | a :: b :: r => by
    have ih := inter_nil (b :: r)
    simp [List.intercalate, List.intersperse] at ih ⊢
    exact ih
theorem lib_join (xs : List (List UInt8)) : Lib.join xs [] = xs.flatten := by unfold Lib.join; exact inter_nil xs
theorem flat_two {l : List ET} {j : Nat} (h : j < l.length) : (l.take (j + 1)).flatMap (fun x => [x.1, x.2]) = (l.take j).flatMap (fun x => [x.1, x.2]) ++ [l[j]!.1, l[j]!.2] := by
  rw [List.take_add_one, get!_of_lt h, List.flatMap_append]; simp
theorem flat_two_len (l : List ET) : (l.flatMap (fun x => [x.1, x.2])).length = 2 * l.length := by
  induction l with
  | nil => rfl
  | cons a r ih => rw [List.flatMap_cons, List.length_append, ih]; show 2 + 2 * r.length = 2 * (r.length + 1); omega
section
variable {R : List RO} {O : List Own} {POST : Value → List RO → List Own → Prop} {b : Nat} {o : Ob} {ev pv : Value}
theorem joins_spec {xs : List (List UInt8)} {av : Value} (ha : SlE (one vs) av xs ∈ R) (hn : xs.length ≤ 140737488355328) (hl : xs.flatten.length ≤ 140737488355328) (hk : POST (vs xs.flatten) R O) : Fun Try.prog 45 #[av, vs []] R O POST := by
  refine Fun.belowR (v := vs xs.flatten) ha (fun w hw => ?_) hk
  obtain ⟨o', c, rfl, h1, h2, h3, h4⟩ := hw
  by_cases h0 : xs = []
  · subst h0
    refine (Try.strings_Join_none o' c ⟨#[]⟩ w).mono ?_
    rintro e w' ⟨he, rfl⟩
    exact ⟨he, Below.refl _ _⟩
  · have hp : 0 < xs.length := List.length_pos_iff.2 h0
    obtain ⟨a, rfl⟩ : ∃ a, o' = some a := by
      cases o' with
      | none => exact absurd (h3 rfl) (by omega)
      | some a => exact ⟨a, rfl⟩
    obtain ⟨g1, g2⟩ := h4 a rfl
    obtain ⟨bk, off, sp⟩ := a
    have hsp : sp = none := g1 hp
    subst hsp
    have hm : (xs.map fun s => (⟨s.toArray⟩ : ByteArray)).length = xs.length := List.length_map _
    have hmm : (xs.map fun s => (⟨s.toArray⟩ : ByteArray)).map (fun z => z.data.toList) = xs := by simp [Function.comp_def]
    have hcell : ∀ (j : Nat) x, (xs.map fun s => (⟨s.toArray⟩ : ByteArray))[j]? = some x → w.cell? ⟨bk, off + j, none⟩ = some (.string x) := by
      intro j x hj
      rw [List.getElem?_map] at hj
      obtain ⟨s, hs, rfl⟩ := Option.map_eq_some_iff.1 hj
      exact g2 j _ (one_get hs)
    have hc0 := hcell 0 _ (by rw [List.getElem?_map, List.getElem?_eq_getElem hp]; rfl)
    have := Try.strings_Join bk off c (xs.map fun s => (⟨s.toArray⟩ : ByteArray)) ⟨#[]⟩ w hcell (cell_lt hc0) (by rw [hm]; exact hn) (by rw [hm]; exact h1) (by rw [hmm]; show (Lib.join xs []).length ≤ _; rw [lib_join]; exact hl)
    rw [hm, hmm] at this
    refine this.mono ?_
    rintro e w' ⟨he, hb⟩
    refine ⟨?_, hb⟩
    rw [he]
    show Ending.returned (vs (Lib.join xs [])) = _
    rw [lib_join]
set_option maxRecDepth 20000 in
set_option maxHeartbeats 2000000 in
theorem commitRight_spec (hb : oRow b o ev pv ∈ O) (he : SlE encT ev o.ents ∈ R) (hp : SlE (one vs) pv o.pars ∈ R) (hkd : o.kind = 3) (hk : POST (.bool (decide (RightP o))) R O) : Fun Try.prog 32 #[.pointer (some ⟨b, 0, none⟩)] R O POST := by
  refine Fun.oneV hp fun hpv => ?_
  refine Fun.len hp fun hpl => ?_
  have hiff : RightP o ↔ (∀ i, i < o.pars.length → ParP o.pars i) ∧ bareP o { zOb with tree := o.tree, pars := o.pars, author := o.author, text := o.text, time := o.time } ∧ o.tree.length = 32 ∧ o.pars.length ≤ 8 ∧ o.author.length ≤ 256 ∧ o.text.length ≤ 4096 ∧ 0 ≤ o.time ∧ o.time ≤ 1099511627776 := by
    unfold RightP bareP zOb
    simp only [len0, List.length_nil]
    rw [hkd]
    simp
    try grind
  refine Fun.enter (l := [_]) Try.func32 rfl Try.ntmps32 rfl (L0 := [(0, _)]) rfl ?_
  refine WC.seq ?_
  refine WC.region ?_
  refine WL.rd rfl rfl rfl (Rd.assign rfl rfl) ?_
  refine WL.nil ?_
  refine thenQ.normal ?_
  refine WC.seq ?_
  refine WC.seq ?_
  refine WC.region ?_
  refine WL.rd rfl rfl rfl (Rd.move rfl rfl) ?_
  refine WL.rd rfl rfl rfl (Rd.nilc rfl rfl) ?_
  refine WL.rd rfl rfl rfl ((by first | exact Rd.field rfl F30_4 rfl rfl | exact Rd.fieldE rfl F30_4 rfl (by repeat (first | assumption | exact mS | apply mT)) (by omega) | exact Rd.fieldA rfl F30_4 rfl (by repeat (first | assumption | exact mS | apply mT)) (by omega))) ?_
  refine WL.rd rfl rfl rfl (Rd.row1 (b := b) (off := 4) (u := pv) rfl C23 rfl (by repeat (first | assumption | exact mS | apply mT)) rfl) ?_
  refine WL.rd rfl rfl rfl (Rd.lenE (enc := one vs) (xs := o.pars) rfl rfl Try.underlying23 (by repeat (first | assumption | exact mS | apply mT))) ?_
  refine WL.rd rfl rfl rfl (Rd.move rfl rfl) ?_
  refine WL.nil ?_
  refine thenQ.normal ?_
  refine WC.block ?_
  refine WC.pick [10, 0, 8, 9] (by repeat (first | exact Pick.nil | apply Pick.cons rfl)) ?_
  refine WC.loop1o 1 (fun (i : Nat) => [(10, .int .i64 (i : Int))]) (fun (i : Nat) => i ≤ o.pars.length ∧ ∀ j, j < i → ParP o.pars j) (fun (i : Nat) => o.pars.length - i) (0) (by repeat (first | exact Split.zero | apply Split.succ)) ?hinv1 (by repeat (first | exact Sub.nil | refine Sub.cons rfl (by first | rfl | (congr 1; omega) | assumption) ?_)) (fun _ h => h) ?_
  case hinv1 =>
    exact ⟨Nat.zero_le _, fun j hj => absurd hj (Nat.not_lt_zero _)⟩
  intro i
  rintro ⟨i1, i2⟩
  refine WC.seq ?_
  refine WC.region ?_
  refine WL.rd rfl rfl rfl (Rd.lss rfl rfl rfl) ?_
  refine WL.nil ?_
  refine thenQ.normal ?_
  refine WC.seq ?_
  first | refine WC.ite rfl (fun hc1 => ?_) (fun hc1 => ?_) | refine WC.cond rfl (fun hc1 => ?_) (fun hc1 => ?_)
  · skip
    refine WC.skip ?_
    refine thenQ.normal ?_
    refine WC.seq ?_
    refine WC.block ?_
    refine WC.seq ?_
    refine WC.region ?_
    refine WL.rd rfl rfl rfl (Rd.move rfl rfl) ?_
    refine WL.rd rfl rfl rfl ((by first | exact Rd.idx1 rfl S23 rfl rfl rfl (by repeat (first | assumption | exact mS | apply mT)) (by first | omega | (simp only [List.length_cons, List.length_nil, List.length_append, List.length_map]; omega)) | exact Rd.idxA1 rfl S23 rfl rfl rfl (by repeat (first | assumption | exact mS | apply mT)) (by first | omega | (simp only [List.length_cons, List.length_nil, List.length_append, List.length_map]; omega)) | exact Rd.idxR1 rfl S23 rfl rfl rfl (by omega))) ?_
    refine WL.rd rfl rfl rfl (Rd.get (k := i) (g := vs) (a := o.pars[i]!) (xs := o.pars) rfl C9 rfl (by repeat (first | assumption | exact mS | apply mT)) (get!_of_lt (by omega))) ?_
    refine WL.rd rfl rfl rfl (Rd.assign rfl rfl) ?_
    refine WL.rd rfl rfl rfl (Rd.assign rfl rfl) ?_
    refine WL.nil ?_
    refine thenQ.normal ?_
    refine WC.pick [0, 3, 4, 8, 9, 10] (by repeat (first | exact Pick.nil | apply Pick.cons rfl)) ?_
    refine WC.val 27 (.bool (decide (¬ ParP o.pars i))) ?_ ?_
    · skip
      refine WC.region ?_
      refine WL.rd rfl rfl rfl (Rd.move rfl rfl) ?_
      refine WL.rd rfl rfl rfl (Rd.slen (ts := #[]) (ty := 0) rfl rfl Try.underlying9) ?_
      refine WL.rd rfl rfl rfl (Rd.neq rfl rfl rfl) ?_
      refine WL.rd rfl rfl rfl (Rd.move rfl rfl) ?_
      refine WL.case 18 rfl (fun hg18 => ?_) (fun hg18 => ?_)
      · skip
        refine WL.no rfl rfl rfl rfl rfl rfl ?_
        refine WL.no rfl rfl rfl rfl rfl rfl ?_
        refine WL.no rfl rfl rfl rfl rfl rfl ?_
        refine WL.no rfl rfl rfl rfl rfl rfl ?_
        refine WL.no rfl rfl rfl rfl rfl rfl ?_
        refine WL.no rfl rfl rfl rfl rfl rfl ?_
        refine WL.no rfl rfl rfl rfl rfl rfl ?_
        refine WL.no rfl rfl rfl rfl rfl rfl ?_
        refine WL.rd rfl rfl rfl (Rd.pick_t rfl rfl rfl) ?_
        refine WL.nil ?_
        exact ⟨by repeat (first | exact Sub.nil | refine Sub.cons rfl (by first | rfl | (first | exact vb_t (fun h => by have := h.1; omega) | exact vb ⟨fun h h2 => h2.2 h, fun h => by by_cases hm : o.pars[i]! ∈ o.pars.take i; exact hm; exact absurd ⟨by omega, hm⟩ h⟩)) ?_), by first | exact (fun _ h => h.thin (SubL.mem (by repeat (first | exact SubL.refl | refine SubL.cons (by repeat (first | assumption | exact mS | apply mT)) ?_ | refine SubL.skip ?_)))) | exact (fun w h => OwnL.sat (by repeat (first | exact OwnL.refl | apply OwnL.take (by repeat (first | exact Take.head _ | apply Take.tail)) | apply OwnL.drop)) w (h.thin (SubL.mem (by repeat (first | exact SubL.refl | refine SubL.cons (by repeat (first | assumption | exact mS | apply mT)) ?_ | refine SubL.skip ?_)))))⟩
      · skip
        refine WL.rd_yes rfl rfl rfl rfl rfl rfl (Rd.move rfl rfl) ?_
        refine WL.rd_yes rfl rfl rfl rfl rfl rfl (Rd.nilc rfl rfl) ?_
        refine WL.rd_yes rfl rfl rfl rfl rfl rfl ((by first | exact Rd.field rfl F30_4 rfl rfl | exact Rd.fieldE rfl F30_4 rfl (by repeat (first | assumption | exact mS | apply mT)) (by omega) | exact Rd.fieldA rfl F30_4 rfl (by repeat (first | assumption | exact mS | apply mT)) (by omega))) ?_
        refine WL.rd_yes rfl rfl rfl rfl rfl rfl (Rd.row1 (b := b) (off := 4) (u := pv) rfl C23 rfl (by repeat (first | assumption | exact mS | apply mT)) rfl) ?_
        refine WL.rd_yes rfl rfl rfl rfl rfl rfl (Rd.move rfl rfl) ?_
        refine WL.rd_yes rfl rfl rfl rfl rfl rfl (Rd.cut_h (hi := i) rfl S23 rfl rfl rfl (by repeat (first | assumption | exact mS | apply mT)) (by omega)) ?_
        refine WL.rd_yes rfl rfl rfl rfl rfl rfl (Rd.move rfl rfl) ?_
        refine WL.heap (fun w h => h.weaken hp (fun w hp => SlE.subh (size := 1) (hi := i) (fun _ => rfl) (by omega) hp)) ?_
        refine WL.op_yes rfl rfl rfl rfl ?_
        refine OpW.call rfl rfl (by repeat (first | exact Evs.nil | apply Evs.cons rfl)) (by kernel_rfl) rfl rfl rfl ?_
        refine contains_spec (xs := o.pars.take i) (by repeat (first | assumption | exact mS | apply mT)) ?_
        refine WL.rd rfl rfl rfl (Rd.pick_f rfl rfl rfl) ?_
        refine WL.nil ?_
        exact ⟨by repeat (first | exact Sub.nil | refine Sub.cons rfl (by first | rfl | (first | exact vb_t (fun h => by have := h.1; omega) | exact vb ⟨fun h h2 => h2.2 h, fun h => by by_cases hm : o.pars[i]! ∈ o.pars.take i; exact hm; exact absurd ⟨by omega, hm⟩ h⟩)) ?_), by first | exact (fun _ h => h.thin (SubL.mem (by repeat (first | exact SubL.refl | refine SubL.cons (by repeat (first | assumption | exact mS | apply mT)) ?_ | refine SubL.skip ?_)))) | exact (fun w h => OwnL.sat (by repeat (first | exact OwnL.refl | apply OwnL.take (by repeat (first | exact Take.head _ | apply Take.tail)) | apply OwnL.drop)) w (h.thin (SubL.mem (by repeat (first | exact SubL.refl | refine SubL.cons (by repeat (first | assumption | exact mS | apply mT)) ?_ | refine SubL.skip ?_)))))⟩
    · skip
      first | refine WC.ite rfl (fun hc2 => ?_) (fun hc2 => ?_) | refine WC.cond rfl (fun hc2 => ?_) (fun hc2 => ?_)
      · skip
        refine WC.seq ?_
        refine WC.region ?_
        refine WL.rd rfl rfl rfl (Rd.assign rfl rfl) ?_
        refine WL.nil ?_
        refine thenQ.normal ?_
        refine WC.heap (R' := R) (O' := O) (fun w h => OwnL.sat (by repeat (first | exact OwnL.refl | apply OwnL.take (by repeat (first | exact Take.head _ | apply Take.tail)) | apply OwnL.drop)) w (h.thin (SubL.mem (by repeat (first | exact SubL.refl | refine SubL.cons (by repeat (first | assumption | exact mS | apply mT)) ?_ | refine SubL.skip ?_))))) ?_
        refine WC.ret (Ret.one Try.results32 rfl ?_)
        rw [decide_eq_false (fun h => hc2 ((hiff.1 h).1 i (by omega)))] at hk
        exact hk
      · skip
        refine WC.skip ?_
        refine blockQ.normal ?_
        refine thenQ.normal ?_
        refine WC.region ?_
        refine WL.rd rfl rfl rfl (Rd.add rfl rfl rfl (by omega)) ?_
        refine WL.rd rfl rfl rfl (Rd.move rfl rfl) ?_
        refine WL.nil ?_
        exact loopQ1.mk (i + 1) ⟨by omega, fun j hj => by
        rcases Nat.lt_or_ge j i with h | h
        · exact i2 j h
        · obtain rfl : j = i := by omega
          exact Decidable.not_not.1 hc2⟩ (by omega) (by repeat (first | exact Sub.nil | refine Sub.cons rfl (by first | rfl | (congr 1; omega) | assumption) ?_)) (fun w h => OwnL.sat (by repeat (first | exact OwnL.refl | apply OwnL.take (by repeat (first | exact Take.head _ | apply Take.tail)) | apply OwnL.drop)) w (h.thin (SubL.mem (by repeat (first | exact SubL.refl | refine SubL.cons (by repeat (first | assumption | exact mS | apply mT)) ?_ | refine SubL.skip ?_)))))
  · skip
    obtain rfl : i = o.pars.length := by omega
    refine WC.exit ?_
    refine thenQ.exit ?_
    refine loopQ1.exit ?_
    refine blockQ.exit ?_
    refine thenQ.normal ?_
    refine WC.seq ?_
    refine WC.tail 22 mixed (by kernel_rfl) ?_
    refine WS.rd rfl rfl rfl (Rd.move rfl rfl) ?_
    refine WS.rd rfl rfl rfl (Rd.move rfl rfl) ?_
    refine WS.rd rfl rfl rfl (Rd.nilc rfl rfl) ?_
    refine WS.rd rfl rfl rfl ((by first | exact Rd.field rfl F30_3 rfl rfl | exact Rd.fieldE rfl F30_3 rfl (by repeat (first | assumption | exact mS | apply mT)) (by omega) | exact Rd.fieldA rfl F30_3 rfl (by repeat (first | assumption | exact mS | apply mT)) (by omega))) ?_
    refine WS.rd rfl rfl rfl (Rd.row1 (b := b) (off := 3) rfl C9 rfl (by repeat (first | assumption | exact mS | apply mT)) rfl) ?_
    refine WS.rd rfl rfl rfl (Rd.move rfl rfl) ?_
    refine WS.rd rfl rfl rfl (Rd.nilc rfl rfl) ?_
    refine WS.rd rfl rfl rfl ((by first | exact Rd.field rfl F30_4 rfl rfl | exact Rd.fieldE rfl F30_4 rfl (by repeat (first | assumption | exact mS | apply mT)) (by omega) | exact Rd.fieldA rfl F30_4 rfl (by repeat (first | assumption | exact mS | apply mT)) (by omega))) ?_
    refine WS.rd rfl rfl rfl (Rd.row1 (b := b) (off := 4) (u := pv) rfl C23 rfl (by repeat (first | assumption | exact mS | apply mT)) rfl) ?_
    refine WS.rd rfl rfl rfl (Rd.move rfl rfl) ?_
    refine WS.rd rfl rfl rfl (Rd.nilc rfl rfl) ?_
    refine WS.rd rfl rfl rfl ((by first | exact Rd.field rfl F30_5 rfl rfl | exact Rd.fieldE rfl F30_5 rfl (by repeat (first | assumption | exact mS | apply mT)) (by omega) | exact Rd.fieldA rfl F30_5 rfl (by repeat (first | assumption | exact mS | apply mT)) (by omega))) ?_
    refine WS.rd rfl rfl rfl (Rd.row1 (b := b) (off := 5) rfl C9 rfl (by repeat (first | assumption | exact mS | apply mT)) rfl) ?_
    refine WS.rd rfl rfl rfl (Rd.move rfl rfl) ?_
    refine WS.rd rfl rfl rfl (Rd.nilc rfl rfl) ?_
    refine WS.rd rfl rfl rfl ((by first | exact Rd.field rfl F30_6 rfl rfl | exact Rd.fieldE rfl F30_6 rfl (by repeat (first | assumption | exact mS | apply mT)) (by omega) | exact Rd.fieldA rfl F30_6 rfl (by repeat (first | assumption | exact mS | apply mT)) (by omega))) ?_
    refine WS.rd rfl rfl rfl (Rd.row1 (b := b) (off := 6) rfl C9 rfl (by repeat (first | assumption | exact mS | apply mT)) rfl) ?_
    refine WS.rd rfl rfl rfl (Rd.move rfl rfl) ?_
    refine WS.rd rfl rfl rfl (Rd.nilc rfl rfl) ?_
    refine WS.rd rfl rfl rfl ((by first | exact Rd.field rfl F30_7 rfl rfl | exact Rd.fieldE rfl F30_7 rfl (by repeat (first | assumption | exact mS | apply mT)) (by omega) | exact Rd.fieldA rfl F30_7 rfl (by repeat (first | assumption | exact mS | apply mT)) (by omega))) ?_
    refine WS.rd rfl rfl rfl (Rd.row1 (b := b) (off := 7) rfl C3 rfl (by repeat (first | assumption | exact mS | apply mT)) rfl) ?_
    refine WS.rd rfl rfl rfl (Rd.buildN (ps := [(3, _), (4, _), (5, _), (6, _), (7, _)]) (cells := obC { zOb with tree := o.tree, pars := o.pars, author := o.author, text := o.text, time := o.time } (.slice none 0 0) pv) rfl Bs30 I30 rfl (by repeat (first | exact Evs.nil | apply Evs.cons rfl)) (by repeat (first | exact CellsOf.nil | apply CellsOf.cons hpv.cells | apply CellsOf.cons rfl)) (by apply NFo.mk; repeat (first | exact NF.nil | apply NF.cons))) ?_
    refine WS.switch ?_
    refine WL.heap (fun w h => Sat.nilE (α := ET) (enc := encT) h) ?_
    refine WL.op rfl ?_
    refine OpW.call rfl rfl (by repeat (first | exact Evs.nil | apply Evs.cons rfl)) (by kernel_rfl) rfl rfl rfl ?_
    refine bare_spec (o := o) (x := { zOb with tree := o.tree, pars := o.pars, author := o.author, text := o.text, time := o.time }) (by repeat (first | assumption | exact mS | apply mT)) (by repeat (first | assumption | exact mS | apply mT)) (by repeat (first | assumption | exact mS | apply mT)) (by repeat (first | assumption | exact mS | apply mT)) (by repeat (first | assumption | exact mS | apply mT)) ?_
    refine WL.rd rfl rfl rfl (Rd.move rfl rfl) ?_
    refine WL.case 52 rfl (fun hg52 => ?_) (fun hg52 => ?_)
    · skip
      refine WL.rd_yes rfl rfl rfl rfl rfl rfl (Rd.move rfl rfl) ?_
      refine WL.rd_yes rfl rfl rfl rfl rfl rfl (Rd.nilc rfl rfl) ?_
      refine WL.rd_yes rfl rfl rfl rfl rfl rfl ((by first | exact Rd.field rfl F30_3 rfl rfl | exact Rd.fieldE rfl F30_3 rfl (by repeat (first | assumption | exact mS | apply mT)) (by omega) | exact Rd.fieldA rfl F30_3 rfl (by repeat (first | assumption | exact mS | apply mT)) (by omega))) ?_
      refine WL.rd_yes rfl rfl rfl rfl rfl rfl (Rd.row1 (b := b) (off := 3) rfl C9 rfl (by repeat (first | assumption | exact mS | apply mT)) rfl) ?_
      refine WL.rd_yes rfl rfl rfl rfl rfl rfl (Rd.slen (ts := #[]) (ty := 0) rfl rfl Try.underlying9) ?_
      refine WL.rd_yes rfl rfl rfl rfl rfl rfl (Rd.eql rfl rfl rfl) ?_
      refine WL.rd rfl rfl rfl (Rd.pick_t rfl rfl rfl) ?_
      refine WL.rd rfl rfl rfl (Rd.move rfl rfl) ?_
      refine WL.case 60 rfl (fun hg60 => ?_) (fun hg60 => ?_)
      · skip
        refine WL.rd_yes rfl rfl rfl rfl rfl rfl (Rd.move rfl rfl) ?_
        refine WL.rd_yes rfl rfl rfl rfl rfl rfl (Rd.nilc rfl rfl) ?_
        refine WL.rd_yes rfl rfl rfl rfl rfl rfl ((by first | exact Rd.field rfl F30_4 rfl rfl | exact Rd.fieldE rfl F30_4 rfl (by repeat (first | assumption | exact mS | apply mT)) (by omega) | exact Rd.fieldA rfl F30_4 rfl (by repeat (first | assumption | exact mS | apply mT)) (by omega))) ?_
        refine WL.rd_yes rfl rfl rfl rfl rfl rfl (Rd.row1 (b := b) (off := 4) (u := pv) rfl C23 rfl (by repeat (first | assumption | exact mS | apply mT)) rfl) ?_
        refine WL.rd_yes rfl rfl rfl rfl rfl rfl (Rd.lenE (enc := one vs) (xs := o.pars) rfl rfl Try.underlying23 (by repeat (first | assumption | exact mS | apply mT))) ?_
        refine WL.rd_yes rfl rfl rfl rfl rfl rfl (Rd.leq rfl rfl rfl) ?_
        refine WL.rd rfl rfl rfl (Rd.pick_t rfl rfl rfl) ?_
        refine WL.rd rfl rfl rfl (Rd.move rfl rfl) ?_
        refine WL.case 68 rfl (fun hg68 => ?_) (fun hg68 => ?_)
        · skip
          refine WL.rd_yes rfl rfl rfl rfl rfl rfl (Rd.move rfl rfl) ?_
          refine WL.rd_yes rfl rfl rfl rfl rfl rfl (Rd.nilc rfl rfl) ?_
          refine WL.rd_yes rfl rfl rfl rfl rfl rfl ((by first | exact Rd.field rfl F30_5 rfl rfl | exact Rd.fieldE rfl F30_5 rfl (by repeat (first | assumption | exact mS | apply mT)) (by omega) | exact Rd.fieldA rfl F30_5 rfl (by repeat (first | assumption | exact mS | apply mT)) (by omega))) ?_
          refine WL.rd_yes rfl rfl rfl rfl rfl rfl (Rd.row1 (b := b) (off := 5) rfl C9 rfl (by repeat (first | assumption | exact mS | apply mT)) rfl) ?_
          refine WL.rd_yes rfl rfl rfl rfl rfl rfl (Rd.slen (ts := #[]) (ty := 0) rfl rfl Try.underlying9) ?_
          refine WL.rd_yes rfl rfl rfl rfl rfl rfl (Rd.leq rfl rfl rfl) ?_
          refine WL.rd rfl rfl rfl (Rd.pick_t rfl rfl rfl) ?_
          refine WL.rd rfl rfl rfl (Rd.move rfl rfl) ?_
          refine WL.case 76 rfl (fun hg76 => ?_) (fun hg76 => ?_)
          · skip
            refine WL.rd_yes rfl rfl rfl rfl rfl rfl (Rd.move rfl rfl) ?_
            refine WL.rd_yes rfl rfl rfl rfl rfl rfl (Rd.nilc rfl rfl) ?_
            refine WL.rd_yes rfl rfl rfl rfl rfl rfl ((by first | exact Rd.field rfl F30_6 rfl rfl | exact Rd.fieldE rfl F30_6 rfl (by repeat (first | assumption | exact mS | apply mT)) (by omega) | exact Rd.fieldA rfl F30_6 rfl (by repeat (first | assumption | exact mS | apply mT)) (by omega))) ?_
            refine WL.rd_yes rfl rfl rfl rfl rfl rfl (Rd.row1 (b := b) (off := 6) rfl C9 rfl (by repeat (first | assumption | exact mS | apply mT)) rfl) ?_
            refine WL.rd_yes rfl rfl rfl rfl rfl rfl (Rd.slen (ts := #[]) (ty := 0) rfl rfl Try.underlying9) ?_
            refine WL.rd_yes rfl rfl rfl rfl rfl rfl (Rd.leq rfl rfl rfl) ?_
            refine WL.rd rfl rfl rfl (Rd.pick_t rfl rfl rfl) ?_
            refine WL.rd rfl rfl rfl (Rd.move rfl rfl) ?_
            refine WL.case 84 rfl (fun hg84 => ?_) (fun hg84 => ?_)
            · skip
              refine WL.rd_yes rfl rfl rfl rfl rfl rfl (Rd.move rfl rfl) ?_
              refine WL.rd_yes rfl rfl rfl rfl rfl rfl (Rd.nilc rfl rfl) ?_
              refine WL.rd_yes rfl rfl rfl rfl rfl rfl ((by first | exact Rd.field rfl F30_7 rfl rfl | exact Rd.fieldE rfl F30_7 rfl (by repeat (first | assumption | exact mS | apply mT)) (by omega) | exact Rd.fieldA rfl F30_7 rfl (by repeat (first | assumption | exact mS | apply mT)) (by omega))) ?_
              refine WL.rd_yes rfl rfl rfl rfl rfl rfl (Rd.row1 (b := b) (off := 7) rfl C3 rfl (by repeat (first | assumption | exact mS | apply mT)) rfl) ?_
              refine WL.rd_yes rfl rfl rfl rfl rfl rfl (Rd.geq rfl rfl rfl) ?_
              refine WL.rd rfl rfl rfl (Rd.pick_t rfl rfl rfl) ?_
              refine WL.rd rfl rfl rfl (Rd.move rfl rfl) ?_
              refine WL.case 91 rfl (fun hg91 => ?_) (fun hg91 => ?_)
              · skip
                refine WL.rd_yes rfl rfl rfl rfl rfl rfl (Rd.move rfl rfl) ?_
                refine WL.rd_yes rfl rfl rfl rfl rfl rfl (Rd.nilc rfl rfl) ?_
                refine WL.rd_yes rfl rfl rfl rfl rfl rfl ((by first | exact Rd.field rfl F30_7 rfl rfl | exact Rd.fieldE rfl F30_7 rfl (by repeat (first | assumption | exact mS | apply mT)) (by omega) | exact Rd.fieldA rfl F30_7 rfl (by repeat (first | assumption | exact mS | apply mT)) (by omega))) ?_
                refine WL.rd_yes rfl rfl rfl rfl rfl rfl (Rd.row1 (b := b) (off := 7) rfl C3 rfl (by repeat (first | assumption | exact mS | apply mT)) rfl) ?_
                refine WL.rd_yes rfl rfl rfl rfl rfl rfl (Rd.leq rfl rfl rfl) ?_
                refine WL.rd rfl rfl rfl (Rd.pick_t rfl rfl rfl) ?_
                refine WL.say 97 (u := .bool (decide (RightP o))) rfl (by first | (refine vb_f ?_; rw [hiff]; intro h; first | exact hg52 h.2.1 | omega) | (refine vb ?_; rw [hiff]; exact ⟨fun h => ⟨i2, hg52, by omega⟩, fun h => by omega⟩)) ?_
                refine WL.rd rfl rfl rfl (Rd.assign rfl rfl) ?_
                refine WL.nil ?_
                refine thenQ.normal ?_
                refine WC.heap (R' := R) (O' := O) (fun w h => OwnL.sat (by repeat (first | exact OwnL.refl | apply OwnL.take (by repeat (first | exact Take.head _ | apply Take.tail)) | apply OwnL.drop)) w (h.thin (SubL.mem (by repeat (first | exact SubL.refl | refine SubL.cons (by repeat (first | assumption | exact mS | apply mT)) ?_ | refine SubL.skip ?_))))) ?_
                refine WC.ret (Ret.one Try.results32 rfl ?_)
                exact hk
              · skip
                refine WL.no rfl rfl rfl rfl rfl rfl ?_
                refine WL.no rfl rfl rfl rfl rfl rfl ?_
                refine WL.no rfl rfl rfl rfl rfl rfl ?_
                refine WL.no rfl rfl rfl rfl rfl rfl ?_
                refine WL.no rfl rfl rfl rfl rfl rfl ?_
                refine WL.rd rfl rfl rfl (Rd.pick_f rfl rfl rfl) ?_
                refine WL.say 97 (u := .bool (decide (RightP o))) rfl (by first | (refine vb_f ?_; rw [hiff]; intro h; first | exact hg52 h.2.1 | omega) | (refine vb ?_; rw [hiff]; exact ⟨fun h => ⟨i2, hg52, by omega⟩, fun h => by omega⟩)) ?_
                refine WL.rd rfl rfl rfl (Rd.assign rfl rfl) ?_
                refine WL.nil ?_
                refine thenQ.normal ?_
                refine WC.heap (R' := R) (O' := O) (fun w h => OwnL.sat (by repeat (first | exact OwnL.refl | apply OwnL.take (by repeat (first | exact Take.head _ | apply Take.tail)) | apply OwnL.drop)) w (h.thin (SubL.mem (by repeat (first | exact SubL.refl | refine SubL.cons (by repeat (first | assumption | exact mS | apply mT)) ?_ | refine SubL.skip ?_))))) ?_
                refine WC.ret (Ret.one Try.results32 rfl ?_)
                exact hk
            · skip
              refine WL.no rfl rfl rfl rfl rfl rfl ?_
              refine WL.no rfl rfl rfl rfl rfl rfl ?_
              refine WL.no rfl rfl rfl rfl rfl rfl ?_
              refine WL.no rfl rfl rfl rfl rfl rfl ?_
              refine WL.no rfl rfl rfl rfl rfl rfl ?_
              refine WL.rd rfl rfl rfl (Rd.pick_f rfl rfl rfl) ?_
              refine WL.rd rfl rfl rfl (Rd.move rfl rfl) ?_
              refine WL.no rfl rfl rfl rfl rfl rfl ?_
              refine WL.no rfl rfl rfl rfl rfl rfl ?_
              refine WL.no rfl rfl rfl rfl rfl rfl ?_
              refine WL.no rfl rfl rfl rfl rfl rfl ?_
              refine WL.no rfl rfl rfl rfl rfl rfl ?_
              refine WL.rd rfl rfl rfl (Rd.pick_f rfl rfl rfl) ?_
              refine WL.say 97 (u := .bool (decide (RightP o))) rfl (by first | (refine vb_f ?_; rw [hiff]; intro h; first | exact hg52 h.2.1 | omega) | (refine vb ?_; rw [hiff]; exact ⟨fun h => ⟨i2, hg52, by omega⟩, fun h => by omega⟩)) ?_
              refine WL.rd rfl rfl rfl (Rd.assign rfl rfl) ?_
              refine WL.nil ?_
              refine thenQ.normal ?_
              refine WC.heap (R' := R) (O' := O) (fun w h => OwnL.sat (by repeat (first | exact OwnL.refl | apply OwnL.take (by repeat (first | exact Take.head _ | apply Take.tail)) | apply OwnL.drop)) w (h.thin (SubL.mem (by repeat (first | exact SubL.refl | refine SubL.cons (by repeat (first | assumption | exact mS | apply mT)) ?_ | refine SubL.skip ?_))))) ?_
              refine WC.ret (Ret.one Try.results32 rfl ?_)
              exact hk
          · skip
            refine WL.no rfl rfl rfl rfl rfl rfl ?_
            refine WL.no rfl rfl rfl rfl rfl rfl ?_
            refine WL.no rfl rfl rfl rfl rfl rfl ?_
            refine WL.no rfl rfl rfl rfl rfl rfl ?_
            refine WL.no rfl rfl rfl rfl rfl rfl ?_
            refine WL.no rfl rfl rfl rfl rfl rfl ?_
            refine WL.rd rfl rfl rfl (Rd.pick_f rfl rfl rfl) ?_
            refine WL.rd rfl rfl rfl (Rd.move rfl rfl) ?_
            refine WL.no rfl rfl rfl rfl rfl rfl ?_
            refine WL.no rfl rfl rfl rfl rfl rfl ?_
            refine WL.no rfl rfl rfl rfl rfl rfl ?_
            refine WL.no rfl rfl rfl rfl rfl rfl ?_
            refine WL.no rfl rfl rfl rfl rfl rfl ?_
            refine WL.rd rfl rfl rfl (Rd.pick_f rfl rfl rfl) ?_
            refine WL.rd rfl rfl rfl (Rd.move rfl rfl) ?_
            refine WL.no rfl rfl rfl rfl rfl rfl ?_
            refine WL.no rfl rfl rfl rfl rfl rfl ?_
            refine WL.no rfl rfl rfl rfl rfl rfl ?_
            refine WL.no rfl rfl rfl rfl rfl rfl ?_
            refine WL.no rfl rfl rfl rfl rfl rfl ?_
            refine WL.rd rfl rfl rfl (Rd.pick_f rfl rfl rfl) ?_
            refine WL.say 97 (u := .bool (decide (RightP o))) rfl (by first | (refine vb_f ?_; rw [hiff]; intro h; first | exact hg52 h.2.1 | omega) | (refine vb ?_; rw [hiff]; exact ⟨fun h => ⟨i2, hg52, by omega⟩, fun h => by omega⟩)) ?_
            refine WL.rd rfl rfl rfl (Rd.assign rfl rfl) ?_
            refine WL.nil ?_
            refine thenQ.normal ?_
            refine WC.heap (R' := R) (O' := O) (fun w h => OwnL.sat (by repeat (first | exact OwnL.refl | apply OwnL.take (by repeat (first | exact Take.head _ | apply Take.tail)) | apply OwnL.drop)) w (h.thin (SubL.mem (by repeat (first | exact SubL.refl | refine SubL.cons (by repeat (first | assumption | exact mS | apply mT)) ?_ | refine SubL.skip ?_))))) ?_
            refine WC.ret (Ret.one Try.results32 rfl ?_)
            exact hk
        · skip
          refine WL.no rfl rfl rfl rfl rfl rfl ?_
          refine WL.no rfl rfl rfl rfl rfl rfl ?_
          refine WL.no rfl rfl rfl rfl rfl rfl ?_
          refine WL.no rfl rfl rfl rfl rfl rfl ?_
          refine WL.no rfl rfl rfl rfl rfl rfl ?_
          refine WL.no rfl rfl rfl rfl rfl rfl ?_
          refine WL.rd rfl rfl rfl (Rd.pick_f rfl rfl rfl) ?_
          refine WL.rd rfl rfl rfl (Rd.move rfl rfl) ?_
          refine WL.no rfl rfl rfl rfl rfl rfl ?_
          refine WL.no rfl rfl rfl rfl rfl rfl ?_
          refine WL.no rfl rfl rfl rfl rfl rfl ?_
          refine WL.no rfl rfl rfl rfl rfl rfl ?_
          refine WL.no rfl rfl rfl rfl rfl rfl ?_
          refine WL.no rfl rfl rfl rfl rfl rfl ?_
          refine WL.rd rfl rfl rfl (Rd.pick_f rfl rfl rfl) ?_
          refine WL.rd rfl rfl rfl (Rd.move rfl rfl) ?_
          refine WL.no rfl rfl rfl rfl rfl rfl ?_
          refine WL.no rfl rfl rfl rfl rfl rfl ?_
          refine WL.no rfl rfl rfl rfl rfl rfl ?_
          refine WL.no rfl rfl rfl rfl rfl rfl ?_
          refine WL.no rfl rfl rfl rfl rfl rfl ?_
          refine WL.rd rfl rfl rfl (Rd.pick_f rfl rfl rfl) ?_
          refine WL.rd rfl rfl rfl (Rd.move rfl rfl) ?_
          refine WL.no rfl rfl rfl rfl rfl rfl ?_
          refine WL.no rfl rfl rfl rfl rfl rfl ?_
          refine WL.no rfl rfl rfl rfl rfl rfl ?_
          refine WL.no rfl rfl rfl rfl rfl rfl ?_
          refine WL.no rfl rfl rfl rfl rfl rfl ?_
          refine WL.rd rfl rfl rfl (Rd.pick_f rfl rfl rfl) ?_
          refine WL.say 97 (u := .bool (decide (RightP o))) rfl (by first | (refine vb_f ?_; rw [hiff]; intro h; first | exact hg52 h.2.1 | omega) | (refine vb ?_; rw [hiff]; exact ⟨fun h => ⟨i2, hg52, by omega⟩, fun h => by omega⟩)) ?_
          refine WL.rd rfl rfl rfl (Rd.assign rfl rfl) ?_
          refine WL.nil ?_
          refine thenQ.normal ?_
          refine WC.heap (R' := R) (O' := O) (fun w h => OwnL.sat (by repeat (first | exact OwnL.refl | apply OwnL.take (by repeat (first | exact Take.head _ | apply Take.tail)) | apply OwnL.drop)) w (h.thin (SubL.mem (by repeat (first | exact SubL.refl | refine SubL.cons (by repeat (first | assumption | exact mS | apply mT)) ?_ | refine SubL.skip ?_))))) ?_
          refine WC.ret (Ret.one Try.results32 rfl ?_)
          exact hk
      · skip
        refine WL.no rfl rfl rfl rfl rfl rfl ?_
        refine WL.no rfl rfl rfl rfl rfl rfl ?_
        refine WL.no rfl rfl rfl rfl rfl rfl ?_
        refine WL.no rfl rfl rfl rfl rfl rfl ?_
        refine WL.no rfl rfl rfl rfl rfl rfl ?_
        refine WL.no rfl rfl rfl rfl rfl rfl ?_
        refine WL.rd rfl rfl rfl (Rd.pick_f rfl rfl rfl) ?_
        refine WL.rd rfl rfl rfl (Rd.move rfl rfl) ?_
        refine WL.no rfl rfl rfl rfl rfl rfl ?_
        refine WL.no rfl rfl rfl rfl rfl rfl ?_
        refine WL.no rfl rfl rfl rfl rfl rfl ?_
        refine WL.no rfl rfl rfl rfl rfl rfl ?_
        refine WL.no rfl rfl rfl rfl rfl rfl ?_
        refine WL.no rfl rfl rfl rfl rfl rfl ?_
        refine WL.rd rfl rfl rfl (Rd.pick_f rfl rfl rfl) ?_
        refine WL.rd rfl rfl rfl (Rd.move rfl rfl) ?_
        refine WL.no rfl rfl rfl rfl rfl rfl ?_
        refine WL.no rfl rfl rfl rfl rfl rfl ?_
        refine WL.no rfl rfl rfl rfl rfl rfl ?_
        refine WL.no rfl rfl rfl rfl rfl rfl ?_
        refine WL.no rfl rfl rfl rfl rfl rfl ?_
        refine WL.no rfl rfl rfl rfl rfl rfl ?_
        refine WL.rd rfl rfl rfl (Rd.pick_f rfl rfl rfl) ?_
        refine WL.rd rfl rfl rfl (Rd.move rfl rfl) ?_
        refine WL.no rfl rfl rfl rfl rfl rfl ?_
        refine WL.no rfl rfl rfl rfl rfl rfl ?_
        refine WL.no rfl rfl rfl rfl rfl rfl ?_
        refine WL.no rfl rfl rfl rfl rfl rfl ?_
        refine WL.no rfl rfl rfl rfl rfl rfl ?_
        refine WL.rd rfl rfl rfl (Rd.pick_f rfl rfl rfl) ?_
        refine WL.rd rfl rfl rfl (Rd.move rfl rfl) ?_
        refine WL.no rfl rfl rfl rfl rfl rfl ?_
        refine WL.no rfl rfl rfl rfl rfl rfl ?_
        refine WL.no rfl rfl rfl rfl rfl rfl ?_
        refine WL.no rfl rfl rfl rfl rfl rfl ?_
        refine WL.no rfl rfl rfl rfl rfl rfl ?_
        refine WL.rd rfl rfl rfl (Rd.pick_f rfl rfl rfl) ?_
        refine WL.say 97 (u := .bool (decide (RightP o))) rfl (by first | (refine vb_f ?_; rw [hiff]; intro h; first | exact hg52 h.2.1 | omega) | (refine vb ?_; rw [hiff]; exact ⟨fun h => ⟨i2, hg52, by omega⟩, fun h => by omega⟩)) ?_
        refine WL.rd rfl rfl rfl (Rd.assign rfl rfl) ?_
        refine WL.nil ?_
        refine thenQ.normal ?_
        refine WC.heap (R' := R) (O' := O) (fun w h => OwnL.sat (by repeat (first | exact OwnL.refl | apply OwnL.take (by repeat (first | exact Take.head _ | apply Take.tail)) | apply OwnL.drop)) w (h.thin (SubL.mem (by repeat (first | exact SubL.refl | refine SubL.cons (by repeat (first | assumption | exact mS | apply mT)) ?_ | refine SubL.skip ?_))))) ?_
        refine WC.ret (Ret.one Try.results32 rfl ?_)
        exact hk
    · skip
      refine WL.no rfl rfl rfl rfl rfl rfl ?_
      refine WL.no rfl rfl rfl rfl rfl rfl ?_
      refine WL.no rfl rfl rfl rfl rfl rfl ?_
      refine WL.no rfl rfl rfl rfl rfl rfl ?_
      refine WL.no rfl rfl rfl rfl rfl rfl ?_
      refine WL.no rfl rfl rfl rfl rfl rfl ?_
      refine WL.rd rfl rfl rfl (Rd.pick_f rfl rfl rfl) ?_
      refine WL.rd rfl rfl rfl (Rd.move rfl rfl) ?_
      refine WL.no rfl rfl rfl rfl rfl rfl ?_
      refine WL.no rfl rfl rfl rfl rfl rfl ?_
      refine WL.no rfl rfl rfl rfl rfl rfl ?_
      refine WL.no rfl rfl rfl rfl rfl rfl ?_
      refine WL.no rfl rfl rfl rfl rfl rfl ?_
      refine WL.no rfl rfl rfl rfl rfl rfl ?_
      refine WL.rd rfl rfl rfl (Rd.pick_f rfl rfl rfl) ?_
      refine WL.rd rfl rfl rfl (Rd.move rfl rfl) ?_
      refine WL.no rfl rfl rfl rfl rfl rfl ?_
      refine WL.no rfl rfl rfl rfl rfl rfl ?_
      refine WL.no rfl rfl rfl rfl rfl rfl ?_
      refine WL.no rfl rfl rfl rfl rfl rfl ?_
      refine WL.no rfl rfl rfl rfl rfl rfl ?_
      refine WL.no rfl rfl rfl rfl rfl rfl ?_
      refine WL.rd rfl rfl rfl (Rd.pick_f rfl rfl rfl) ?_
      refine WL.rd rfl rfl rfl (Rd.move rfl rfl) ?_
      refine WL.no rfl rfl rfl rfl rfl rfl ?_
      refine WL.no rfl rfl rfl rfl rfl rfl ?_
      refine WL.no rfl rfl rfl rfl rfl rfl ?_
      refine WL.no rfl rfl rfl rfl rfl rfl ?_
      refine WL.no rfl rfl rfl rfl rfl rfl ?_
      refine WL.no rfl rfl rfl rfl rfl rfl ?_
      refine WL.rd rfl rfl rfl (Rd.pick_f rfl rfl rfl) ?_
      refine WL.rd rfl rfl rfl (Rd.move rfl rfl) ?_
      refine WL.no rfl rfl rfl rfl rfl rfl ?_
      refine WL.no rfl rfl rfl rfl rfl rfl ?_
      refine WL.no rfl rfl rfl rfl rfl rfl ?_
      refine WL.no rfl rfl rfl rfl rfl rfl ?_
      refine WL.no rfl rfl rfl rfl rfl rfl ?_
      refine WL.rd rfl rfl rfl (Rd.pick_f rfl rfl rfl) ?_
      refine WL.rd rfl rfl rfl (Rd.move rfl rfl) ?_
      refine WL.no rfl rfl rfl rfl rfl rfl ?_
      refine WL.no rfl rfl rfl rfl rfl rfl ?_
      refine WL.no rfl rfl rfl rfl rfl rfl ?_
      refine WL.no rfl rfl rfl rfl rfl rfl ?_
      refine WL.no rfl rfl rfl rfl rfl rfl ?_
      refine WL.rd rfl rfl rfl (Rd.pick_f rfl rfl rfl) ?_
      refine WL.say 97 (u := .bool (decide (RightP o))) rfl (by first | (refine vb_f ?_; rw [hiff]; intro h; first | exact hg52 h.2.1 | omega) | (refine vb ?_; rw [hiff]; exact ⟨fun h => ⟨i2, hg52, by omega⟩, fun h => by omega⟩)) ?_
      refine WL.rd rfl rfl rfl (Rd.assign rfl rfl) ?_
      refine WL.nil ?_
      refine thenQ.normal ?_
      refine WC.heap (R' := R) (O' := O) (fun w h => OwnL.sat (by repeat (first | exact OwnL.refl | apply OwnL.take (by repeat (first | exact Take.head _ | apply Take.tail)) | apply OwnL.drop)) w (h.thin (SubL.mem (by repeat (first | exact SubL.refl | refine SubL.cons (by repeat (first | assumption | exact mS | apply mT)) ?_ | refine SubL.skip ?_))))) ?_
      refine WC.ret (Ret.one Try.results32 rfl ?_)
      exact hk
set_option maxRecDepth 20000 in
set_option maxHeartbeats 1000000 in
theorem tagRight_spec (hb : oRow b o ev pv ∈ O) (he : SlE encT ev o.ents ∈ R) (hp : SlE (one vs) pv o.pars ∈ R) (hkd : o.kind = 4) (hn : o.name.length ≤ 9223372036854775000) (hk : POST (.bool (decide (RightP o))) R O) : Fun Try.prog 35 #[.pointer (some ⟨b, 0, none⟩)] R O POST := by
  have hiff : RightP o ↔ bareP o { zOb with target := o.target, name := o.name, text := o.text } ∧ o.target.length = 32 ∧ GoodP o.name ∧ o.text.length ≤ 4096 := by
    unfold RightP bareP zOb
    simp only [len0, List.length_nil]
    rw [hkd]
    simp
    try grind
  refine Fun.enter (l := [_]) Try.func35 rfl Try.ntmps35 rfl (L0 := [(0, _)]) rfl ?_
  refine WC.seq ?_
  refine WC.region ?_
  refine WL.rd rfl rfl rfl (Rd.assign rfl rfl) ?_
  refine WL.nil ?_
  refine thenQ.normal ?_
  refine WC.seq ?_
  refine WC.tail 14 mixed (by kernel_rfl) ?_
  refine WS.rd rfl rfl rfl (Rd.move rfl rfl) ?_
  refine WS.rd rfl rfl rfl (Rd.move rfl rfl) ?_
  refine WS.rd rfl rfl rfl (Rd.nilc rfl rfl) ?_
  refine WS.rd rfl rfl rfl ((by first | exact Rd.field rfl F30_8 rfl rfl | exact Rd.fieldE rfl F30_8 rfl (by repeat (first | assumption | exact mS | apply mT)) (by omega) | exact Rd.fieldA rfl F30_8 rfl (by repeat (first | assumption | exact mS | apply mT)) (by omega))) ?_
  refine WS.rd rfl rfl rfl (Rd.row1 (b := b) (off := 8) rfl C9 rfl (by repeat (first | assumption | exact mS | apply mT)) rfl) ?_
  refine WS.rd rfl rfl rfl (Rd.move rfl rfl) ?_
  refine WS.rd rfl rfl rfl (Rd.nilc rfl rfl) ?_
  refine WS.rd rfl rfl rfl ((by first | exact Rd.field rfl F30_9 rfl rfl | exact Rd.fieldE rfl F30_9 rfl (by repeat (first | assumption | exact mS | apply mT)) (by omega) | exact Rd.fieldA rfl F30_9 rfl (by repeat (first | assumption | exact mS | apply mT)) (by omega))) ?_
  refine WS.rd rfl rfl rfl (Rd.row1 (b := b) (off := 9) rfl C9 rfl (by repeat (first | assumption | exact mS | apply mT)) rfl) ?_
  refine WS.rd rfl rfl rfl (Rd.move rfl rfl) ?_
  refine WS.rd rfl rfl rfl (Rd.nilc rfl rfl) ?_
  refine WS.rd rfl rfl rfl ((by first | exact Rd.field rfl F30_6 rfl rfl | exact Rd.fieldE rfl F30_6 rfl (by repeat (first | assumption | exact mS | apply mT)) (by omega) | exact Rd.fieldA rfl F30_6 rfl (by repeat (first | assumption | exact mS | apply mT)) (by omega))) ?_
  refine WS.rd rfl rfl rfl (Rd.row1 (b := b) (off := 6) rfl C9 rfl (by repeat (first | assumption | exact mS | apply mT)) rfl) ?_
  refine WS.rd rfl rfl rfl (Rd.buildN (ps := [(8, _), (9, _), (6, _)]) (cells := obC { zOb with target := o.target, name := o.name, text := o.text } (.slice none 0 0) (.slice none 0 0)) rfl Bs30 I30 rfl (by repeat (first | exact Evs.nil | apply Evs.cons rfl)) (by repeat (first | exact CellsOf.nil | apply CellsOf.cons rfl)) (by apply NFo.mk; repeat (first | exact NF.nil | apply NF.cons))) ?_
  refine WS.switch ?_
  refine WL.heap (fun w h => Sat.nilE (α := ET) (enc := encT) h) ?_
  refine WL.heap (fun w h => Sat.nilE (α := List UInt8) (enc := one vs) h) ?_
  refine WL.op rfl ?_
  refine OpW.call rfl rfl (by repeat (first | exact Evs.nil | apply Evs.cons rfl)) (by kernel_rfl) rfl rfl rfl ?_
  refine bare_spec (o := o) (x := { zOb with target := o.target, name := o.name, text := o.text }) (by repeat (first | assumption | exact mS | apply mT)) (by repeat (first | assumption | exact mS | apply mT)) (by repeat (first | assumption | exact mS | apply mT)) (by repeat (first | assumption | exact mS | apply mT)) (by repeat (first | assumption | exact mS | apply mT)) ?_
  refine WL.rd rfl rfl rfl (Rd.move rfl rfl) ?_
  refine WL.case 18 rfl (fun hg18 => ?_) (fun hg18 => ?_)
  · skip
    refine WL.rd_yes rfl rfl rfl rfl rfl rfl (Rd.move rfl rfl) ?_
    refine WL.rd_yes rfl rfl rfl rfl rfl rfl (Rd.nilc rfl rfl) ?_
    refine WL.rd_yes rfl rfl rfl rfl rfl rfl ((by first | exact Rd.field rfl F30_8 rfl rfl | exact Rd.fieldE rfl F30_8 rfl (by repeat (first | assumption | exact mS | apply mT)) (by omega) | exact Rd.fieldA rfl F30_8 rfl (by repeat (first | assumption | exact mS | apply mT)) (by omega))) ?_
    refine WL.rd_yes rfl rfl rfl rfl rfl rfl (Rd.row1 (b := b) (off := 8) rfl C9 rfl (by repeat (first | assumption | exact mS | apply mT)) rfl) ?_
    refine WL.rd_yes rfl rfl rfl rfl rfl rfl (Rd.slen (ts := #[]) (ty := 0) rfl rfl Try.underlying9) ?_
    refine WL.rd_yes rfl rfl rfl rfl rfl rfl (Rd.eql rfl rfl rfl) ?_
    refine WL.rd rfl rfl rfl (Rd.pick_t rfl rfl rfl) ?_
    refine WL.rd rfl rfl rfl (Rd.move rfl rfl) ?_
    refine WL.case 26 rfl (fun hg26 => ?_) (fun hg26 => ?_)
    · skip
      refine WL.rd_yes rfl rfl rfl rfl rfl rfl (Rd.move rfl rfl) ?_
      refine WL.rd_yes rfl rfl rfl rfl rfl rfl (Rd.nilc rfl rfl) ?_
      refine WL.rd_yes rfl rfl rfl rfl rfl rfl ((by first | exact Rd.field rfl F30_9 rfl rfl | exact Rd.fieldE rfl F30_9 rfl (by repeat (first | assumption | exact mS | apply mT)) (by omega) | exact Rd.fieldA rfl F30_9 rfl (by repeat (first | assumption | exact mS | apply mT)) (by omega))) ?_
      refine WL.rd_yes rfl rfl rfl rfl rfl rfl (Rd.row1 (b := b) (off := 9) rfl C9 rfl (by repeat (first | assumption | exact mS | apply mT)) rfl) ?_
      refine WL.op_yes rfl rfl rfl rfl ?_
      refine OpW.call rfl rfl (by repeat (first | exact Evs.nil | apply Evs.cons rfl)) (by kernel_rfl) rfl rfl rfl ?_
      refine good_spec hn ?_
      refine WL.rd rfl rfl rfl (Rd.pick_t rfl rfl rfl) ?_
      refine WL.rd rfl rfl rfl (Rd.move rfl rfl) ?_
      refine WL.case 33 rfl (fun hg33 => ?_) (fun hg33 => ?_)
      · skip
        refine WL.rd_yes rfl rfl rfl rfl rfl rfl (Rd.move rfl rfl) ?_
        refine WL.rd_yes rfl rfl rfl rfl rfl rfl (Rd.nilc rfl rfl) ?_
        refine WL.rd_yes rfl rfl rfl rfl rfl rfl ((by first | exact Rd.field rfl F30_6 rfl rfl | exact Rd.fieldE rfl F30_6 rfl (by repeat (first | assumption | exact mS | apply mT)) (by omega) | exact Rd.fieldA rfl F30_6 rfl (by repeat (first | assumption | exact mS | apply mT)) (by omega))) ?_
        refine WL.rd_yes rfl rfl rfl rfl rfl rfl (Rd.row1 (b := b) (off := 6) rfl C9 rfl (by repeat (first | assumption | exact mS | apply mT)) rfl) ?_
        refine WL.rd_yes rfl rfl rfl rfl rfl rfl (Rd.slen (ts := #[]) (ty := 0) rfl rfl Try.underlying9) ?_
        refine WL.rd_yes rfl rfl rfl rfl rfl rfl (Rd.leq rfl rfl rfl) ?_
        refine WL.rd rfl rfl rfl (Rd.pick_t rfl rfl rfl) ?_
        refine WL.say 40 (u := .bool (decide (RightP o))) rfl (by first | (refine vb_f ?_; rw [hiff]; intro h; first | exact hg18 h.1 | exact hg33 h.2.2.1 | omega) | (refine vb ?_; rw [hiff]; exact ⟨fun h => ⟨hg18, by omega, hg33, by omega⟩, fun h => by have := h.2.2.2; omega⟩)) ?_
        refine WL.rd rfl rfl rfl (Rd.assign rfl rfl) ?_
        refine WL.nil ?_
        refine thenQ.normal ?_
        refine WC.heap (R' := R) (O' := O) (fun w h => OwnL.sat (by repeat (first | exact OwnL.refl | apply OwnL.take (by repeat (first | exact Take.head _ | apply Take.tail)) | apply OwnL.drop)) w (h.thin (SubL.mem (by repeat (first | exact SubL.refl | refine SubL.cons (by repeat (first | assumption | exact mS | apply mT)) ?_ | refine SubL.skip ?_))))) ?_
        refine WC.ret (Ret.one Try.results35 rfl ?_)
        exact hk
      · skip
        refine WL.no rfl rfl rfl rfl rfl rfl ?_
        refine WL.no rfl rfl rfl rfl rfl rfl ?_
        refine WL.no rfl rfl rfl rfl rfl rfl ?_
        refine WL.no rfl rfl rfl rfl rfl rfl ?_
        refine WL.no rfl rfl rfl rfl rfl rfl ?_
        refine WL.no rfl rfl rfl rfl rfl rfl ?_
        refine WL.rd rfl rfl rfl (Rd.pick_f rfl rfl rfl) ?_
        refine WL.say 40 (u := .bool (decide (RightP o))) rfl (by first | (refine vb_f ?_; rw [hiff]; intro h; first | exact hg18 h.1 | exact hg33 h.2.2.1 | omega) | (refine vb ?_; rw [hiff]; exact ⟨fun h => ⟨hg18, by omega, hg33, by omega⟩, fun h => by have := h.2.2.2; omega⟩)) ?_
        refine WL.rd rfl rfl rfl (Rd.assign rfl rfl) ?_
        refine WL.nil ?_
        refine thenQ.normal ?_
        refine WC.heap (R' := R) (O' := O) (fun w h => OwnL.sat (by repeat (first | exact OwnL.refl | apply OwnL.take (by repeat (first | exact Take.head _ | apply Take.tail)) | apply OwnL.drop)) w (h.thin (SubL.mem (by repeat (first | exact SubL.refl | refine SubL.cons (by repeat (first | assumption | exact mS | apply mT)) ?_ | refine SubL.skip ?_))))) ?_
        refine WC.ret (Ret.one Try.results35 rfl ?_)
        exact hk
    · skip
      refine WL.no rfl rfl rfl rfl rfl rfl ?_
      refine WL.no rfl rfl rfl rfl rfl rfl ?_
      refine WL.no rfl rfl rfl rfl rfl rfl ?_
      refine WL.no rfl rfl rfl rfl rfl rfl ?_
      refine WL.no rfl rfl rfl rfl rfl rfl ?_
      refine WL.rd rfl rfl rfl (Rd.pick_f rfl rfl rfl) ?_
      refine WL.rd rfl rfl rfl (Rd.move rfl rfl) ?_
      refine WL.no rfl rfl rfl rfl rfl rfl ?_
      refine WL.no rfl rfl rfl rfl rfl rfl ?_
      refine WL.no rfl rfl rfl rfl rfl rfl ?_
      refine WL.no rfl rfl rfl rfl rfl rfl ?_
      refine WL.no rfl rfl rfl rfl rfl rfl ?_
      refine WL.no rfl rfl rfl rfl rfl rfl ?_
      refine WL.rd rfl rfl rfl (Rd.pick_f rfl rfl rfl) ?_
      refine WL.say 40 (u := .bool (decide (RightP o))) rfl (by first | (refine vb_f ?_; rw [hiff]; intro h; first | exact hg18 h.1 | exact hg33 h.2.2.1 | omega) | (refine vb ?_; rw [hiff]; exact ⟨fun h => ⟨hg18, by omega, hg33, by omega⟩, fun h => by have := h.2.2.2; omega⟩)) ?_
      refine WL.rd rfl rfl rfl (Rd.assign rfl rfl) ?_
      refine WL.nil ?_
      refine thenQ.normal ?_
      refine WC.heap (R' := R) (O' := O) (fun w h => OwnL.sat (by repeat (first | exact OwnL.refl | apply OwnL.take (by repeat (first | exact Take.head _ | apply Take.tail)) | apply OwnL.drop)) w (h.thin (SubL.mem (by repeat (first | exact SubL.refl | refine SubL.cons (by repeat (first | assumption | exact mS | apply mT)) ?_ | refine SubL.skip ?_))))) ?_
      refine WC.ret (Ret.one Try.results35 rfl ?_)
      exact hk
  · skip
    refine WL.no rfl rfl rfl rfl rfl rfl ?_
    refine WL.no rfl rfl rfl rfl rfl rfl ?_
    refine WL.no rfl rfl rfl rfl rfl rfl ?_
    refine WL.no rfl rfl rfl rfl rfl rfl ?_
    refine WL.no rfl rfl rfl rfl rfl rfl ?_
    refine WL.no rfl rfl rfl rfl rfl rfl ?_
    refine WL.rd rfl rfl rfl (Rd.pick_f rfl rfl rfl) ?_
    refine WL.rd rfl rfl rfl (Rd.move rfl rfl) ?_
    refine WL.no rfl rfl rfl rfl rfl rfl ?_
    refine WL.no rfl rfl rfl rfl rfl rfl ?_
    refine WL.no rfl rfl rfl rfl rfl rfl ?_
    refine WL.no rfl rfl rfl rfl rfl rfl ?_
    refine WL.no rfl rfl rfl rfl rfl rfl ?_
    refine WL.rd rfl rfl rfl (Rd.pick_f rfl rfl rfl) ?_
    refine WL.rd rfl rfl rfl (Rd.move rfl rfl) ?_
    refine WL.no rfl rfl rfl rfl rfl rfl ?_
    refine WL.no rfl rfl rfl rfl rfl rfl ?_
    refine WL.no rfl rfl rfl rfl rfl rfl ?_
    refine WL.no rfl rfl rfl rfl rfl rfl ?_
    refine WL.no rfl rfl rfl rfl rfl rfl ?_
    refine WL.no rfl rfl rfl rfl rfl rfl ?_
    refine WL.rd rfl rfl rfl (Rd.pick_f rfl rfl rfl) ?_
    refine WL.say 40 (u := .bool (decide (RightP o))) rfl (by first | (refine vb_f ?_; rw [hiff]; intro h; first | exact hg18 h.1 | exact hg33 h.2.2.1 | omega) | (refine vb ?_; rw [hiff]; exact ⟨fun h => ⟨hg18, by omega, hg33, by omega⟩, fun h => by have := h.2.2.2; omega⟩)) ?_
    refine WL.rd rfl rfl rfl (Rd.assign rfl rfl) ?_
    refine WL.nil ?_
    refine thenQ.normal ?_
    refine WC.heap (R' := R) (O' := O) (fun w h => OwnL.sat (by repeat (first | exact OwnL.refl | apply OwnL.take (by repeat (first | exact Take.head _ | apply Take.tail)) | apply OwnL.drop)) w (h.thin (SubL.mem (by repeat (first | exact SubL.refl | refine SubL.cons (by repeat (first | assumption | exact mS | apply mT)) ?_ | refine SubL.skip ?_))))) ?_
    refine WC.ret (Ret.one Try.results35 rfl ?_)
    exact hk
end
end Go.Proofs.Ytedgndhbieeffaa
