/-
  Layer 20: changes applied.
-/
import Derived.Test.YtbbeifdmgmadiaaKd3
namespace Go.Proofs.Ytbbeifdmgmadiaa
open Go Go.SL
def HollowP (s : Sd) : Prop := s.2 = false ∧ s.1 ≠ []
instance (s : Sd) : Decidable (HollowP s) := by unfold HollowP; infer_instance
def BadG (x : Ch) : Prop := HollowP x.old ∨ HollowP x.new
instance (x : Ch) : Decidable (BadG x) := by unfold BadG; infer_instance
theorem get!_mem {β : Type} [Inhabited β] {l : List β} {i : Nat} (hi : i < l.length) : l[i]! ∈ l := by rw [getElem!_pos l i hi]; exact List.getElem_mem _
section
variable {R : List RO} {O O' : List Own} {POST : Value → List RO → List Own → Prop}
set_option maxRecDepth 20000 in
theorem hollow_spec {s : Sd} (hk : POST (.bool (decide (HollowP s))) R O) : Fun Try.prog 21 #[sdv s] R O POST := by
  have e : HollowP s ↔ s.2 = false ∧ s.1 ≠ [] := Iff.rfl
  refine Fun.enter (l := [_]) Try.func21 rfl Try.ntmps21 rfl (L0 := [(0, _)]) rfl ?_
  refine WC.seq ?_
  refine WC.region ?_
  refine WL.op rfl ?_
  refine OpW.box rfl rfl (by repeat (first | exact NF.nil | apply NF.cons)) rfl rfl ?_; intro b1
  refine WL.rd rfl rfl rfl (Rd.assign rfl rfl) ?_
  refine WL.nil ?_
  refine thenQ.normal ?_
  refine WC.pick [1] (by repeat (first | exact Pick.nil | apply Pick.cons rfl)) ?_
  refine WC.val 2 (.bool (decide (HollowP s))) ?_ ?_
  · skip
    refine WC.region ?_
    refine WL.rd rfl rfl rfl ((by first | exact Rd.field rfl F38_1 rfl rfl | exact Rd.fieldE rfl F38_1 rfl (by repeat (first | assumption | exact mS | apply mT)) (by omega) | exact Rd.fieldA rfl F38_1 rfl (by repeat (first | assumption | exact mS | apply mT)) (by omega))) ?_
    refine WL.rd rfl rfl rfl (Rd.row1 (b := b1) (off := 1) (u := .bool s.2) rfl C4 rfl (by repeat (first | assumption | exact mS | apply mT)) rfl) ?_
    refine WL.rd rfl rfl rfl ((by first | exact Rd.notd rfl rfl | exact Rd.not rfl rfl)) ?_
    refine WL.say 5 (u := .bool (decide (s.2 = false))) rfl (by cases s.2 <;> rfl) ?_
    refine WL.rd rfl rfl rfl (Rd.move rfl rfl) ?_
    refine WL.case 6 rfl (fun hg6 => ?_) (fun hg6 => ?_)
    · skip
      refine WL.rd_yes rfl rfl rfl rfl rfl rfl ((by first | exact Rd.field rfl F38_0 rfl rfl | exact Rd.fieldE rfl F38_0 rfl (by repeat (first | assumption | exact mS | apply mT)) (by omega) | exact Rd.fieldA rfl F38_0 rfl (by repeat (first | assumption | exact mS | apply mT)) (by omega))) ?_
      refine WL.rd_yes rfl rfl rfl rfl rfl rfl (Rd.row1 (b := b1) (off := 0) (u := vs s.1) rfl C9 rfl (by repeat (first | assumption | exact mS | apply mT)) rfl) ?_
      refine WL.rd_yes rfl rfl rfl rfl rfl rfl (Rd.sneq rfl rfl rfl) ?_
      refine WL.rd rfl rfl rfl (Rd.pick_t rfl rfl rfl) ?_
      refine WL.rd rfl rfl rfl (Rd.assign rfl rfl) ?_
      refine WL.nil ?_
      exact ⟨by repeat (first | exact Sub.nil | refine Sub.cons rfl (by first | rfl | (first | exact vb_f (fun h => hg6 h.1) | exact vb ⟨fun h => ⟨hg6, h⟩, fun h => h.2⟩)) ?_), by first | exact (fun _ h => h.thin (SubL.mem (by repeat (first | exact SubL.refl | refine SubL.cons (by repeat (first | assumption | exact mS | apply mT)) ?_ | refine SubL.skip ?_)))) | exact (fun w h => OwnL.sat (by repeat (first | exact OwnL.refl | apply OwnL.take (by repeat (first | exact Take.head _ | apply Take.tail)) | apply OwnL.drop)) w (h.thin (SubL.mem (by repeat (first | exact SubL.refl | refine SubL.cons (by repeat (first | assumption | exact mS | apply mT)) ?_ | refine SubL.skip ?_)))))⟩
    · skip
      refine WL.no rfl rfl rfl rfl rfl rfl ?_
      refine WL.no rfl rfl rfl rfl rfl rfl ?_
      refine WL.no rfl rfl rfl rfl rfl rfl ?_
      refine WL.rd rfl rfl rfl (Rd.pick_f rfl rfl rfl) ?_
      refine WL.rd rfl rfl rfl (Rd.assign rfl rfl) ?_
      refine WL.nil ?_
      exact ⟨by repeat (first | exact Sub.nil | refine Sub.cons rfl (by first | rfl | (first | exact vb_f (fun h => hg6 h.1) | exact vb ⟨fun h => ⟨hg6, h⟩, fun h => h.2⟩)) ?_), by first | exact (fun _ h => h.thin (SubL.mem (by repeat (first | exact SubL.refl | refine SubL.cons (by repeat (first | assumption | exact mS | apply mT)) ?_ | refine SubL.skip ?_)))) | exact (fun w h => OwnL.sat (by repeat (first | exact OwnL.refl | apply OwnL.take (by repeat (first | exact Take.head _ | apply Take.tail)) | apply OwnL.drop)) w (h.thin (SubL.mem (by repeat (first | exact SubL.refl | refine SubL.cons (by repeat (first | assumption | exact mS | apply mT)) ?_ | refine SubL.skip ?_)))))⟩
  · skip
    refine WC.heap (R' := R) (O' := O) (fun w h => OwnL.sat (by repeat (first | exact OwnL.refl | apply OwnL.take (by repeat (first | exact Take.head _ | apply Take.tail)) | apply OwnL.drop)) w (h.thin (SubL.mem (by repeat (first | exact SubL.refl | refine SubL.cons (by repeat (first | assumption | exact mS | apply mT)) ?_ | refine SubL.skip ?_))))) ?_
    refine WC.ret (Ret.one Try.results21 rfl ?_)
    refine hk
abbrev hollowV : Value := .func (.func 21) #[] #[]
abbrev badV (cb : Nat) : Value := .func (.func 23) #[] #[.pointer (some ⟨cb, 0, none⟩)]
set_option maxRecDepth 20000 in
theorem bad_spec {x : Ch} {cb : Nat} (hc : rowC cb 65 [hollowV] ∈ O) (hk : POST (.bool (decide (BadG x))) R O) : Fun Try.prog 23 #[.agg (encG x).toArray, .pointer (some ⟨cb, 0, none⟩)] R O POST := by
  refine Fun.enter (l := [_, _]) Try.func23 rfl Try.ntmps23 rfl (L0 := [(0, _), (1, _)]) rfl ?_
  refine WC.seq ?_
  refine WC.region ?_
  refine WL.op rfl ?_
  refine OpW.box rfl rfl (by repeat (first | exact NF.nil | apply NF.cons)) rfl rfl ?_; intro b2
  refine WL.rd rfl rfl rfl (Rd.assign rfl rfl) ?_
  refine WL.nil ?_
  refine thenQ.normal ?_
  refine WC.pick [1, 2] (by repeat (first | exact Pick.nil | apply Pick.cons rfl)) ?_
  refine WC.val 3 (.bool (decide (BadG x))) ?_ ?_
  · skip
    refine WC.region ?_
    refine WL.rd rfl rfl rfl (Rd.row1 (b := cb) (off := 0) (u := hollowV) rfl C65 rfl (by repeat (first | assumption | exact mS | apply mT)) rfl) ?_
    refine WL.rd rfl rfl rfl ((by first | exact Rd.field rfl F51_1 rfl rfl | exact Rd.fieldE rfl F51_1 rfl (by repeat (first | assumption | exact mS | apply mT)) (by omega) | exact Rd.fieldA rfl F51_1 rfl (by repeat (first | assumption | exact mS | apply mT)) (by omega))) ?_
    refine WL.rd rfl rfl rfl (Rd.rowS (b := b2) (off := 1) rfl G38 rfl (by repeat (first | assumption | exact mS | apply mT)) (by repeat (first | exact NF.nil | apply NF.cons)) rfl) ?_
    refine WL.op rfl ?_
    refine OpW.call rfl rfl (by repeat (first | exact Evs.nil | apply Evs.cons rfl)) (by kernel_rfl) rfl rfl rfl ?_
    refine hollow_spec (s := x.old) ?_
    refine WL.rd rfl rfl rfl (Rd.move rfl rfl) ?_
    refine WL.case 8 rfl (fun hg8 => ?_) (fun hg8 => ?_)
    · skip
      refine WL.no rfl rfl rfl rfl rfl rfl ?_
      refine WL.no rfl rfl rfl rfl rfl rfl ?_
      refine WL.no rfl rfl rfl rfl rfl rfl ?_
      refine WL.no rfl rfl rfl rfl rfl rfl ?_
      refine WL.rd rfl rfl rfl (Rd.pick_t rfl rfl rfl) ?_
      refine WL.rd rfl rfl rfl (Rd.assign rfl rfl) ?_
      refine WL.nil ?_
      exact ⟨by repeat (first | exact Sub.nil | refine Sub.cons rfl (by first | rfl | (first | exact vb_t (.inl hg8) | exact vb ⟨fun h => .inr h, fun h => h.resolve_left hg8⟩)) ?_), by first | exact (fun _ h => h.thin (SubL.mem (by repeat (first | exact SubL.refl | refine SubL.cons (by repeat (first | assumption | exact mS | apply mT)) ?_ | refine SubL.skip ?_)))) | exact (fun w h => OwnL.sat (by repeat (first | exact OwnL.refl | apply OwnL.take (by repeat (first | exact Take.head _ | apply Take.tail)) | apply OwnL.drop)) w (h.thin (SubL.mem (by repeat (first | exact SubL.refl | refine SubL.cons (by repeat (first | assumption | exact mS | apply mT)) ?_ | refine SubL.skip ?_)))))⟩
    · skip
      refine WL.rd_yes rfl rfl rfl rfl rfl rfl (Rd.row1 (b := cb) (off := 0) (u := hollowV) rfl C65 rfl (by repeat (first | assumption | exact mS | apply mT)) rfl) ?_
      refine WL.rd_yes rfl rfl rfl rfl rfl rfl ((by first | exact Rd.field rfl F51_2 rfl rfl | exact Rd.fieldE rfl F51_2 rfl (by repeat (first | assumption | exact mS | apply mT)) (by omega) | exact Rd.fieldA rfl F51_2 rfl (by repeat (first | assumption | exact mS | apply mT)) (by omega))) ?_
      refine WL.rd_yes rfl rfl rfl rfl rfl rfl (Rd.rowS (b := b2) (off := 3) rfl G38 rfl (by repeat (first | assumption | exact mS | apply mT)) (by repeat (first | exact NF.nil | apply NF.cons)) rfl) ?_
      refine WL.op_yes rfl rfl rfl rfl ?_
      refine OpW.call rfl rfl (by repeat (first | exact Evs.nil | apply Evs.cons rfl)) (by kernel_rfl) rfl rfl rfl ?_
      refine hollow_spec (s := x.new) ?_
      refine WL.rd rfl rfl rfl (Rd.pick_f rfl rfl rfl) ?_
      refine WL.rd rfl rfl rfl (Rd.assign rfl rfl) ?_
      refine WL.nil ?_
      exact ⟨by repeat (first | exact Sub.nil | refine Sub.cons rfl (by first | rfl | (first | exact vb_t (.inl hg8) | exact vb ⟨fun h => .inr h, fun h => h.resolve_left hg8⟩)) ?_), by first | exact (fun _ h => h.thin (SubL.mem (by repeat (first | exact SubL.refl | refine SubL.cons (by repeat (first | assumption | exact mS | apply mT)) ?_ | refine SubL.skip ?_)))) | exact (fun w h => OwnL.sat (by repeat (first | exact OwnL.refl | apply OwnL.take (by repeat (first | exact Take.head _ | apply Take.tail)) | apply OwnL.drop)) w (h.thin (SubL.mem (by repeat (first | exact SubL.refl | refine SubL.cons (by repeat (first | assumption | exact mS | apply mT)) ?_ | refine SubL.skip ?_)))))⟩
  · skip
    refine WC.heap (R' := R) (O' := O) (fun w h => OwnL.sat (by repeat (first | exact OwnL.refl | apply OwnL.take (by repeat (first | exact Take.head _ | apply Take.tail)) | apply OwnL.drop)) w (h.thin (SubL.mem (by repeat (first | exact SubL.refl | refine SubL.cons (by repeat (first | assumption | exact mS | apply mT)) ?_ | refine SubL.skip ?_))))) ?_
    refine WC.ret (Ret.one Try.results23 rfl ?_)
    refine hk
set_option maxRecDepth 20000 in
theorem gidx_spec {l : List Ch} {lv : Value} {cb : Nat} (hl : SlE encG lv l ∈ R) (hc : rowC cb 65 [hollowV] ∈ O) (hk : ∀ k : Int, (0 ≤ k ↔ ∃ x ∈ l, BadG x) → POST (.int .i64 k) R O) : Fun Try.prog 27 #[lv, badV cb] R O POST := by
  refine Fun.len hl fun hll => ?_
  refine Fun.enter (l := [_, _]) Try.func27 rfl Try.ntmps27 rfl (L0 := [(0, _), (1, _)]) rfl ?_
  refine WC.seq ?_
  refine WC.region ?_
  refine WL.rd rfl rfl rfl (Rd.assign rfl rfl) ?_
  refine WL.nil ?_
  refine thenQ.normal ?_
  refine WC.seq ?_
  refine WC.seq ?_
  refine WC.region ?_
  refine WL.rd rfl rfl rfl (Rd.move rfl rfl) ?_
  refine WL.rd rfl rfl rfl ((by first | exact Rd.lenE rfl rfl Try.underlying47 (by repeat (first | assumption | exact mS | apply mT)) | exact Rd.lenA rfl rfl Try.underlying47 (by repeat (first | assumption | exact mS | apply mT)) | exact Rd.len rfl rfl Try.underlying47)) ?_
  refine WL.rd rfl rfl rfl (Rd.move rfl rfl) ?_
  refine WL.nil ?_
  refine thenQ.normal ?_
  refine WC.block ?_
  refine WC.pick [8, 0, 1, 7] (by repeat (first | exact Pick.nil | apply Pick.cons rfl)) ?_
  refine WC.loop1o 1 (fun (i : Nat) => [(8, .int .i64 (i : Int))]) (fun (i : Nat) => i ≤ l.length ∧ ∀ x ∈ l.take i, ¬ BadG x) (fun (i : Nat) => l.length - i) (0) (by repeat (first | exact Split.zero | apply Split.succ)) ?hinv1 (by repeat (first | exact Sub.nil | refine Sub.cons rfl (by first | rfl | (congr 1; omega) | assumption) ?_)) (fun _ h => h) ?_
  case hinv1 =>
    exact ⟨Nat.zero_le _, by simp⟩
  intro i
  rintro ⟨i1, i2⟩
  refine WC.seq ?_
  refine WC.region ?_
  refine WL.rd rfl rfl rfl (Rd.lss rfl rfl rfl) ?_
  refine WL.nil ?_
  refine thenQ.normal ?_
  refine WC.seq ?_
  first | refine WC.ite rfl (fun hc1 => ?_) (fun hc1 => ?_) | refine WC.cond rfl (fun hc1 => ?_) (fun hc1 => ?_)
  · skip
    refine WC.skip ?_
    refine thenQ.normal ?_
    refine WC.seq ?_
    refine WC.block ?_
    refine WC.seq ?_
    refine WC.region ?_
    refine WL.rd rfl rfl rfl (Rd.move rfl rfl) ?_
    refine WL.rd rfl rfl rfl (Rd.assign rfl rfl) ?_
    refine WL.nil ?_
    refine thenQ.normal ?_
    refine WC.seq ?_
    refine WC.region ?_
    refine WL.rd rfl rfl rfl (Rd.move rfl rfl) ?_
    refine WL.rd rfl rfl rfl (Rd.move rfl rfl) ?_
    refine WL.rd rfl rfl rfl (Rd.move rfl rfl) ?_
    refine WL.rd rfl rfl rfl ((by first | exact Rd.idx (k := i) rfl S47 rfl rfl (by omega) (by repeat (first | assumption | exact mS | apply mT)) (by first | omega | (simp only [List.length_cons, List.length_nil, List.length_append, List.length_map]; omega)) | exact Rd.idxA (k := i) rfl S47 rfl rfl (by omega) (by repeat (first | assumption | exact mS | apply mT)) (by first | omega | (simp only [List.length_cons, List.length_nil, List.length_append, List.length_map]; omega)) | exact Rd.idxR (k := i) rfl S47 rfl rfl (by omega) (by omega))) ?_
    refine WL.rd rfl rfl rfl ((by first | exact Rd.rowS rfl G51 rfl (by repeat (first | assumption | exact mS | apply mT)) (by repeat (first | exact NF.nil | apply NF.cons)) rfl | exact Rd.getS rfl G51 rfl (by repeat (first | assumption | exact mS | apply mT)) (by intro x; first | rfl | (cases x; rfl) | (rcases x with ⟨_, _, _⟩; rfl) | (rcases x with ⟨_, _, _, _⟩; rfl)) (by first | assumption | rfl | exact get!_of_lt (by omega)) (by repeat (first | exact NF.nil | apply NF.cons)) | exact Rd.getSA rfl G51 rfl (by repeat (first | assumption | exact mS | apply mT)) (by intro x; first | rfl | (cases x; rfl) | (rcases x with ⟨_, _, _⟩; rfl) | (rcases x with ⟨_, _, _, _⟩; rfl)) (by first | assumption | rfl | exact get!_of_lt (by omega)) (by repeat (first | exact NF.nil | apply NF.cons)))) ?_
    refine WL.op rfl ?_
    refine OpW.call rfl rfl (by repeat (first | exact Evs.nil | apply Evs.cons rfl)) (by kernel_rfl) rfl rfl rfl ?_
    refine bad_spec (x := l[i]!) hc ?_
    refine WL.nil ?_
    refine thenQ.normal ?_
    first | refine WC.ite rfl (fun hc2 => ?_) (fun hc2 => ?_) | refine WC.cond rfl (fun hc2 => ?_) (fun hc2 => ?_)
    · skip
      refine WC.seq ?_
      refine WC.region ?_
      refine WL.rd rfl rfl rfl (Rd.move rfl rfl) ?_
      refine WL.rd rfl rfl rfl (Rd.assign rfl rfl) ?_
      refine WL.nil ?_
      refine thenQ.normal ?_
      refine WC.ret (Ret.one Try.results27 rfl ?_)
      exact hk _ ⟨fun _ => ⟨l[i]!, get!_mem (by omega), hc2⟩, fun _ => by omega⟩
    · skip
      refine WC.skip ?_
      refine blockQ.normal ?_
      refine thenQ.normal ?_
      refine WC.region ?_
      refine WL.rd rfl rfl rfl (Rd.add rfl rfl rfl (by omega)) ?_
      refine WL.rd rfl rfl rfl (Rd.move rfl rfl) ?_
      refine WL.nil ?_
      exact loopQ1.mk (i + 1) ⟨by omega, fun x hx => by
      rw [take_snoc (by omega), List.mem_append, List.mem_singleton] at hx
      rcases hx with h | h
      · exact i2 x h
      · rw [h]; exact hc2⟩ (by omega) (by repeat (first | exact Sub.nil | refine Sub.cons rfl (by first | rfl | (congr 1; omega) | assumption) ?_)) (fun w h => OwnL.sat (by repeat (first | exact OwnL.refl | apply OwnL.take (by repeat (first | exact Take.head _ | apply Take.tail)) | apply OwnL.drop)) w (h.thin (SubL.mem (by repeat (first | exact SubL.refl | refine SubL.cons (by repeat (first | assumption | exact mS | apply mT)) ?_ | refine SubL.skip ?_)))))
  · skip
    refine WC.exit ?_
    refine thenQ.exit ?_
    refine loopQ1.exit ?_
    refine blockQ.exit ?_
    refine thenQ.normal ?_
    refine WC.seq ?_
    refine WC.region ?_
    refine WL.rd rfl rfl rfl (Rd.assign rfl rfl) ?_
    refine WL.nil ?_
    refine thenQ.normal ?_
    refine WC.ret (Ret.one Try.results27 rfl ?_)
    rw [List.take_of_length_le (by omega)] at i2
    exact hk _ ⟨fun h => absurd h (by decide), fun ⟨x, h1, h2⟩ => absurd h2 (i2 x h1)⟩
set_option maxRecDepth 20000 in
theorem ghas_spec {l : List Ch} {lv : Value} {cb : Nat} (hl : SlE encG lv l ∈ R) (hc : rowC cb 65 [hollowV] ∈ O) (hk : ∀ b : Bool, (b = true ↔ ∃ x ∈ l, BadG x) → POST (.bool b) R O) : Fun Try.prog 22 #[lv, badV cb] R O POST := by
  refine Fun.enter (l := [_, _]) Try.func22 rfl Try.ntmps22 rfl (L0 := [(0, _), (1, _)]) rfl ?_
  refine WC.seq ?_
  refine WC.region ?_
  refine WL.rd rfl rfl rfl (Rd.assign rfl rfl) ?_
  refine WL.nil ?_
  refine thenQ.normal ?_
  refine WC.seq ?_
  refine WC.region ?_
  refine WL.rd rfl rfl rfl (Rd.move rfl rfl) ?_
  refine WL.rd rfl rfl rfl (Rd.move rfl rfl) ?_
  refine WL.op rfl ?_
  refine OpW.call rfl rfl (by repeat (first | exact Evs.nil | apply Evs.cons rfl)) (by kernel_rfl) rfl rfl rfl ?_
  refine gidx_spec hl hc ?_; intro k hk7
  refine WL.rd rfl rfl rfl (Rd.geq rfl rfl rfl) ?_
  refine WL.rd rfl rfl rfl (Rd.assign rfl rfl) ?_
  refine WL.nil ?_
  refine thenQ.normal ?_
  refine WC.ret (Ret.one Try.results22 rfl ?_)
  exact hk _ (by rw [decide_eq_true_iff]; exact hk7)
end
end Go.Proofs.Ytbbeifdmgmadiaa
