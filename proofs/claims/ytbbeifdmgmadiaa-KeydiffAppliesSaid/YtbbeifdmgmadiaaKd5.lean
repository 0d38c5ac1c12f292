/-
  Layer 20: changes applied: the whole.
-/
import Derived.Test.YtbbeifdmgmadiaaKd4
namespace Go.Proofs.Ytbbeifdmgmadiaa
open Go Go.SL
def OrdG (l : List Ch) : Prop := ∀ i, i < l.length - 1 → Lt l[i]!.key l[i + 1]!.key
instance (l : List Ch) : Decidable (OrdG l) := by unfold OrdG; infer_instance
theorem OrdG.asc {l : List Ch} (h : OrdG l) : Asc (l.map (·.key)) := Asc.of_steps fun i hi => by
  rw [List.length_map] at hi
  rw [map_get! _ (by omega), map_get! _ hi]
  exact h i (by omega)
theorem OrdG.of {l : List Ch} (h : Asc (l.map (·.key))) : OrdG l := fun i hi => by
  have := h.steps (i := i) (by rw [List.length_map]; omega)
  rwa [map_get! _ (by omega), map_get! _ (by omega)] at this
def KG (l : List Ch) : Prop := l.length ≤ 4000 ∧ ∀ x ∈ l, x.key.length ≤ 9223372036854775807
def upd (a : List It) (l : List Ch) (k : List UInt8) : Sd := ((l.find? fun x => decide (x.key = k)).map (·.new)).getD (says a k)
theorem upd_nil (a : List It) (k : List UInt8) : upd a [] k = says a k := rfl
theorem gfind_none' {l : List Ch} {k : List UInt8} (h : k ∉ l.map (·.key)) : (l.find? fun x => decide (x.key = k)) = none := by
  rw [List.find?_eq_none]
  intro x hx
  simp only [decide_eq_true_eq]
  rintro rfl
  exact h (List.mem_map_of_mem hx)
theorem upd_none {a : List It} {l : List Ch} {k : List UInt8} (h : k ∉ l.map (·.key)) : upd a l k = says a k := by rw [upd, gfind_none' h]; rfl
theorem upd_snoc (a : List It) {l : List Ch} {x : Ch} (h : x.key ∉ l.map (·.key)) (k : List UInt8) : upd a (l ++ [x]) k = if k = x.key then x.new else upd a l k := by
  by_cases e : k = x.key
  · subst e
    rw [if_pos rfl, upd, List.find?_append, gfind_none' h]; simp
  · rw [if_neg e, upd, upd, List.find?_append]
    have : ([x].find? fun y => decide (y.key = k)) = none := by simp; exact fun h => e h.symm
    rw [this, Option.or_none]
theorem upd_mem {a : List It} {l : List Ch} (hn : (l.map (·.key)).Nodup) {x : Ch} (hx : x ∈ l) : upd a l x.key = x.new := by
  cases e : l.find? (fun y => decide (y.key = x.key)) with
  | none => exact absurd (List.find?_eq_none.1 e x hx) (by simp)
  | some y =>
    have h1 := List.mem_of_find?_eq_some e
    have h2 := List.find?_some e
    have := GoMap.nodup_inj hn h1 hx (by simpa using h2)
    subst this
    rw [upd, e]; rfl
theorem gtake_nodup {l : List Ch} (hn : (l.map (·.key)).Nodup) {i : Nat} (h : i < l.length) : l[i]!.key ∉ (l.take i).map (·.key) := by
  have : ((l.take (i + 1)).map (·.key)).Nodup := by rw [List.map_take]; exact hn.sublist (List.take_sublist _ _)
  rw [take_snoc h, List.map_append, List.nodup_append] at this
  intro hm
  exact this.2.2 _ hm _ (by simp) rfl
/-- A map into which the first changes have been laid. -/
structure Upd (m : GoMap (List UInt8) Sd) (a : List It) (l : List Ch) : Prop where
  sd : ∀ k, sdOf m k = upd a l k
  ks : ∀ k, k ∈ m.ks ↔ k ∈ a.map (·.1) ∨ k ∈ l.map (·.key)
  len : m.l.length ≤ a.length + l.length
theorem Upd.start {m : GoMap (List UInt8) Sd} {a : List It} (h : MapOf m a) : Upd m a [] := ⟨fun k => by rw [sdOf, h.1 k]; rfl, fun k => by simp only [List.map_nil, List.not_mem_nil, or_false]; exact h.ks k, by have := h.2; simpa using this⟩
theorem Upd.step {m : GoMap (List UInt8) Sd} {a : List It} {l : List Ch} {i : Nat} (hn : (l.map (·.key)).Nodup) (hi : i < l.length) (h : Upd m a (l.take i)) : Upd (m.set l[i]!.key l[i]!.new) a (l.take (i + 1)) := by
  rw [take_snoc hi]
  refine ⟨fun k => ?_, fun k => ?_, ?_⟩
  · rw [upd_snoc a (gtake_nodup hn hi), sdOf, GoMap.get_set, ← h.sd k, sdOf]
    split <;> rfl
  · rw [GoMap.mem_ks, GoMap.get_set, List.map_append, List.mem_append]
    by_cases e : k = l[i]!.key
    · rw [if_pos e]; simp [e]
    · rw [if_neg e, ← GoMap.mem_ks, h.ks k]
      simp only [List.map_cons, List.map_nil, List.mem_singleton, e, or_false]
  · have := GoMap.set_len_le m l[i]!.key l[i]!.new
    have := h.len
    simp only [List.length_append, List.length_singleton]; omega
section
variable {R : List RO} {O O' : List Own} {POST : Value → List RO → List Own → Prop}
set_option maxRecDepth 20000 in
set_option maxHeartbeats 2000000 in
theorem apply_spec {a : List It} {l : List Ch} {av lv : Value} (ha : SlE encI av a ∈ R) (hl : SlE encG lv l ∈ R) (hKa : KL a) (hKl : KG l)
    (hkO : ¬ (OrdG l ∧ RightP a) → POST (.tuple #[.slice none 0 0, .int .i64 12]) R O)
    (hkF : OrdG l → RightP a → (∃ x ∈ l, BadG x) → POST (.tuple #[.slice none 0 0, .int .i64 2]) R O)
    (hkS : OrdG l → RightP a → ¬ (∃ x ∈ l, BadG x) → (∃ x ∈ l, says a x.key ≠ x.old) → POST (.tuple #[.slice none 0 0, .int .i64 13]) R O)
    (hk : OrdG l → RightP a → ¬ (∃ x ∈ l, BadG x) → (∀ x ∈ l, says a x.key = x.old) → ∀ v ks, Asc ks → (∀ k, k ∈ ks ↔ k ∈ a.map (·.1) ∨ k ∈ l.map (·.key)) → POST (.tuple #[v, .int .i64 0]) R (accC 45 2 encI v (itemsL (upd a l) ks) :: O)) :
    Fun Try.prog 15 #[av, lv] R O POST := by
  refine Fun.len ha fun hla => ?_
  refine Fun.len hl fun hll => ?_
  refine Fun.enter (l := [_, _]) Try.func15 rfl Try.ntmps15 rfl (L0 := [(0, _), (1, _)]) rfl ?_
  refine WC.seq ?_
  refine WC.region ?_
  refine WL.rd rfl rfl rfl (Rd.assign rfl rfl) ?_
  refine WL.rd rfl rfl rfl (Rd.assign rfl rfl) ?_
  refine WL.nil ?_
  refine thenQ.normal ?_
  refine WC.seq ?_
  refine WC.seq ?_
  refine WC.region ?_
  refine WL.rd rfl rfl rfl (Rd.move rfl rfl) ?_
  refine WL.rd rfl rfl rfl ((by first | exact Rd.lenE rfl rfl Try.underlying47 (by repeat (first | assumption | exact mS | apply mT)) | exact Rd.lenA rfl rfl Try.underlying47 (by repeat (first | assumption | exact mS | apply mT)) | exact Rd.len rfl rfl Try.underlying47)) ?_
  refine WL.rd rfl rfl rfl (Rd.move rfl rfl) ?_
  refine WL.nil ?_
  refine thenQ.normal ?_
  refine WC.block ?_
  refine WC.pick [13, 0, 1, 12] (by repeat (first | exact Pick.nil | apply Pick.cons rfl)) ?_
  refine WC.loop1o 1 (fun (i : Nat) => [(13, .int .i64 (i : Int))]) (fun (i : Nat) => i ≤ l.length ∧ ∀ j, j + 1 < i → Lt l[j]!.key l[j + 1]!.key) (fun (i : Nat) => l.length - i) (0) (by repeat (first | exact Split.zero | apply Split.succ)) ?hinv1 (by repeat (first | exact Sub.nil | refine Sub.cons rfl (by first | rfl | (congr 1; omega) | assumption) ?_)) (fun _ h => h) ?_
  case hinv1 =>
    exact ⟨Nat.zero_le _, fun j hj => absurd hj (Nat.not_lt_zero _)⟩
  intro i
  rintro ⟨i1, i2⟩
  refine WC.seq ?_
  refine WC.region ?_
  refine WL.rd rfl rfl rfl (Rd.lss rfl rfl rfl) ?_
  refine WL.nil ?_
  refine thenQ.normal ?_
  refine WC.seq ?_
  first | refine WC.ite rfl (fun hc1 => ?_) (fun hc1 => ?_) | refine WC.cond rfl (fun hc1 => ?_) (fun hc1 => ?_)
  · skip
    refine WC.skip ?_
    refine thenQ.normal ?_
    refine WC.seq ?_
    refine WC.block ?_
    refine WC.seq ?_
    refine WC.region ?_
    refine WL.rd rfl rfl rfl (Rd.move rfl rfl) ?_
    refine WL.rd rfl rfl rfl (Rd.assign rfl rfl) ?_
    refine WL.nil ?_
    refine thenQ.normal ?_
    refine WC.pick [0, 1, 6, 12, 13] (by repeat (first | exact Pick.nil | apply Pick.cons rfl)) ?_
    refine WC.val 31 (.bool (decide (0 < i ∧ ¬ Lt l[i - 1]!.key l[i]!.key))) ?_ ?_
    · skip
      refine WC.still mixed (by kernel_rfl) ?_
      refine WA.rd rfl rfl rfl (Rd.move rfl rfl) ?_
      refine WA.rd rfl rfl rfl (Rd.gtr rfl rfl rfl) ?_
      refine WA.rd rfl rfl rfl (Rd.move rfl rfl) ?_
      refine WA.case 18 rfl (fun hg18 => ?_) (fun hg18 => ?_)
      · skip
        refine WA.rd_yes rfl rfl rfl rfl rfl rfl (Rd.move rfl rfl) ?_
        refine WA.rd_yes rfl rfl rfl rfl rfl rfl (Rd.move rfl rfl) ?_
        refine WA.rd_yes rfl rfl rfl rfl rfl rfl ((by first | exact Rd.idx (k := i) rfl S47 rfl rfl (by omega) (by repeat (first | assumption | exact mS | apply mT)) (by first | omega | (simp only [List.length_cons, List.length_nil, List.length_append, List.length_map]; omega)) | exact Rd.idxA (k := i) rfl S47 rfl rfl (by omega) (by repeat (first | assumption | exact mS | apply mT)) (by first | omega | (simp only [List.length_cons, List.length_nil, List.length_append, List.length_map]; omega)) | exact Rd.idxR (k := i) rfl S47 rfl rfl (by omega) (by omega))) ?_
        refine WA.rd_yes rfl rfl rfl rfl rfl rfl ((by first | exact Rd.field rfl F51_0 rfl rfl | exact Rd.fieldE rfl F51_0 rfl (by repeat (first | assumption | exact mS | apply mT)) (by omega) | exact Rd.fieldA rfl F51_0 rfl (by repeat (first | assumption | exact mS | apply mT)) (by omega))) ?_
        refine WA.rd_yes rfl rfl rfl rfl rfl rfl ((by first | exact Rd.get rfl C9 rfl (by repeat (first | assumption | exact mS | apply mT)) (by first | assumption | rfl | exact get!_of_lt (by omega)) | exact Rd.getA rfl C9 rfl (by repeat (first | assumption | exact mS | apply mT)) (by first | assumption | rfl | exact get!_of_lt (by omega)) | exact Rd.row1 rfl C9 rfl (by repeat (first | assumption | exact mS | apply mT)) (by rfl) | exact Rd.getF rfl C9 rfl (by repeat (first | assumption | exact mS | apply mT)) (by intro x; first | rfl | (cases x; rfl) | (rcases x with ⟨_, _, _⟩; rfl) | (rcases x with ⟨_, _, _, _⟩; rfl)) rfl (by first | assumption | rfl | exact get!_of_lt (by omega)) (by rfl) | exact Rd.getFA rfl C9 rfl (by repeat (first | assumption | exact mS | apply mT)) (by intro x; first | rfl | (cases x; rfl) | (rcases x with ⟨_, _, _⟩; rfl) | (rcases x with ⟨_, _, _, _⟩; rfl)) rfl (by first | assumption | rfl | exact get!_of_lt (by omega)) (by rfl))) ?_
        refine WA.rd_yes rfl rfl rfl rfl rfl rfl (Rd.move rfl rfl) ?_
        refine WA.rd_yes rfl rfl rfl rfl rfl rfl (Rd.move rfl rfl) ?_
        refine WA.rd_yes rfl rfl rfl rfl rfl rfl (Rd.sub rfl rfl rfl (by omega)) ?_
        refine WA.rd_yes rfl rfl rfl rfl rfl rfl ((by first | exact Rd.idx (k := i - 1) rfl S47 rfl rfl (by omega) (by repeat (first | assumption | exact mS | apply mT)) (by first | omega | (simp only [List.length_cons, List.length_nil, List.length_append, List.length_map]; omega)) | exact Rd.idxA (k := i - 1) rfl S47 rfl rfl (by omega) (by repeat (first | assumption | exact mS | apply mT)) (by first | omega | (simp only [List.length_cons, List.length_nil, List.length_append, List.length_map]; omega)) | exact Rd.idxR (k := i - 1) rfl S47 rfl rfl (by omega) (by omega))) ?_
        refine WA.rd_yes rfl rfl rfl rfl rfl rfl ((by first | exact Rd.field rfl F51_0 rfl rfl | exact Rd.fieldE rfl F51_0 rfl (by repeat (first | assumption | exact mS | apply mT)) (by omega) | exact Rd.fieldA rfl F51_0 rfl (by repeat (first | assumption | exact mS | apply mT)) (by omega))) ?_
        refine WA.rd_yes rfl rfl rfl rfl rfl rfl ((by first | exact Rd.get rfl C9 rfl (by repeat (first | assumption | exact mS | apply mT)) (by first | assumption | rfl | exact get!_of_lt (by omega)) | exact Rd.getA rfl C9 rfl (by repeat (first | assumption | exact mS | apply mT)) (by first | assumption | rfl | exact get!_of_lt (by omega)) | exact Rd.row1 rfl C9 rfl (by repeat (first | assumption | exact mS | apply mT)) (by rfl) | exact Rd.getF rfl C9 rfl (by repeat (first | assumption | exact mS | apply mT)) (by intro x; first | rfl | (cases x; rfl) | (rcases x with ⟨_, _, _⟩; rfl) | (rcases x with ⟨_, _, _, _⟩; rfl)) rfl (by first | assumption | rfl | exact get!_of_lt (by omega)) (by rfl) | exact Rd.getFA rfl C9 rfl (by repeat (first | assumption | exact mS | apply mT)) (by intro x; first | rfl | (cases x; rfl) | (rcases x with ⟨_, _, _⟩; rfl) | (rcases x with ⟨_, _, _, _⟩; rfl)) rfl (by first | assumption | rfl | exact get!_of_lt (by omega)) (by rfl))) ?_
        refine WA.rd_yes rfl rfl rfl rfl rfl rfl (Rd.sleqP rfl rfl rfl) ?_
        refine WA.rd rfl rfl rfl (Rd.pick_t rfl rfl rfl) ?_
        refine WA.nil ?_
        exact ⟨by repeat (first | exact Sub.nil | refine Sub.cons rfl (by first | rfl | (first | exact vb_f (by omega) | exact vb ⟨fun h => ⟨by omega, h⟩, fun h => h.2⟩)) ?_), by first | exact (fun _ h => h.thin (SubL.mem (by repeat (first | exact SubL.refl | refine SubL.cons (by repeat (first | assumption | exact mS | apply mT)) ?_ | refine SubL.skip ?_)))) | exact (fun w h => OwnL.sat (by repeat (first | exact OwnL.refl | apply OwnL.take (by repeat (first | exact Take.head _ | apply Take.tail)) | apply OwnL.drop)) w (h.thin (SubL.mem (by repeat (first | exact SubL.refl | refine SubL.cons (by repeat (first | assumption | exact mS | apply mT)) ?_ | refine SubL.skip ?_)))))⟩
      · skip
        refine WA.no rfl rfl rfl rfl rfl rfl ?_
        refine WA.no rfl rfl rfl rfl rfl rfl ?_
        refine WA.no rfl rfl rfl rfl rfl rfl ?_
        refine WA.no rfl rfl rfl rfl rfl rfl ?_
        refine WA.no rfl rfl rfl rfl rfl rfl ?_
        refine WA.no rfl rfl rfl rfl rfl rfl ?_
        refine WA.no rfl rfl rfl rfl rfl rfl ?_
        refine WA.no rfl rfl rfl rfl rfl rfl ?_
        refine WA.no rfl rfl rfl rfl rfl rfl ?_
        refine WA.no rfl rfl rfl rfl rfl rfl ?_
        refine WA.no rfl rfl rfl rfl rfl rfl ?_
        refine WA.no rfl rfl rfl rfl rfl rfl ?_
        refine WA.rd rfl rfl rfl (Rd.pick_f rfl rfl rfl) ?_
        refine WA.nil ?_
        exact ⟨by repeat (first | exact Sub.nil | refine Sub.cons rfl (by first | rfl | (first | exact vb_f (by omega) | exact vb ⟨fun h => ⟨by omega, h⟩, fun h => h.2⟩)) ?_), by first | exact (fun _ h => h.thin (SubL.mem (by repeat (first | exact SubL.refl | refine SubL.cons (by repeat (first | assumption | exact mS | apply mT)) ?_ | refine SubL.skip ?_)))) | exact (fun w h => OwnL.sat (by repeat (first | exact OwnL.refl | apply OwnL.take (by repeat (first | exact Take.head _ | apply Take.tail)) | apply OwnL.drop)) w (h.thin (SubL.mem (by repeat (first | exact SubL.refl | refine SubL.cons (by repeat (first | assumption | exact mS | apply mT)) ?_ | refine SubL.skip ?_)))))⟩
    · skip
      first | refine WC.ite rfl (fun hc2 => ?_) (fun hc2 => ?_) | refine WC.cond rfl (fun hc2 => ?_) (fun hc2 => ?_)
      · skip
        refine WC.seq ?_
        refine WC.region ?_
        refine WL.rd rfl rfl rfl (Rd.assign rfl rfl) ?_
        refine WL.rd rfl rfl rfl (Rd.assign rfl rfl) ?_
        refine WL.nil ?_
        refine thenQ.normal ?_
        refine WC.ret (Ret.two Try.results15 rfl rfl ?_)
        refine hkO fun h => hc2.2 ?_
        have := h.1 (i - 1) (by omega)
        rwa [show i - 1 + 1 = i from by omega] at this
      · skip
        refine WC.skip ?_
        refine blockQ.normal ?_
        refine thenQ.normal ?_
        refine WC.region ?_
        refine WL.rd rfl rfl rfl (Rd.add rfl rfl rfl (by omega)) ?_
        refine WL.rd rfl rfl rfl (Rd.move rfl rfl) ?_
        refine WL.nil ?_
        exact loopQ1.mk (i + 1) ⟨by omega, fun j hj => by
        rcases Nat.lt_or_ge (j + 1) i with h | h
        · exact i2 j h
        · obtain rfl : i = j + 1 := by omega
          rcases Classical.em (Lt l[j]!.key l[j + 1]!.key) with h5 | h5
          · exact h5
          · exact absurd ⟨by omega, h5⟩ hc2⟩ (by omega) (by repeat (first | exact Sub.nil | refine Sub.cons rfl (by first | rfl | (congr 1; omega) | assumption) ?_)) (fun w h => OwnL.sat (by repeat (first | exact OwnL.refl | apply OwnL.take (by repeat (first | exact Take.head _ | apply Take.tail)) | apply OwnL.drop)) w (h.thin (SubL.mem (by repeat (first | exact SubL.refl | refine SubL.cons (by repeat (first | assumption | exact mS | apply mT)) ?_ | refine SubL.skip ?_)))))
  · skip
    have hO : OrdG l := fun j hj => i2 j (by omega)
    refine WC.exit ?_
    refine thenQ.exit ?_
    refine loopQ1.exit ?_
    refine blockQ.exit ?_
    refine thenQ.normal ?_
    refine WC.seq ?_
    refine WC.seq ?_
    refine WC.region ?_
    refine WL.rd rfl rfl rfl (Rd.move rfl rfl) ?_
    refine WL.op rfl ?_
    refine OpW.call rfl rfl (by repeat (first | exact Evs.nil | apply Evs.cons rfl)) (by kernel_rfl) rfl rfl rfl ?_
    refine right_spec ha ?_
    refine WL.rd rfl rfl rfl ((by first | exact Rd.notd rfl rfl | exact Rd.not rfl rfl)) ?_
    refine WL.nil ?_
    refine thenQ.normal ?_
    first | refine WC.ite rfl (fun hc3 => ?_) (fun hc3 => ?_) | refine WC.cond rfl (fun hc3 => ?_) (fun hc3 => ?_)
    · skip
      refine WC.seq ?_
      refine WC.region ?_
      refine WL.rd rfl rfl rfl (Rd.assign rfl rfl) ?_
      refine WL.rd rfl rfl rfl (Rd.assign rfl rfl) ?_
      refine WL.nil ?_
      refine thenQ.normal ?_
      refine WC.ret (Ret.two Try.results15 rfl rfl ?_)
      exact hkO fun h => hc3 h.2
    · skip
      have hR : RightP a := Decidable.not_not.1 hc3
      refine WC.skip ?_
      refine thenQ.normal ?_
      refine WC.seq ?_
      refine WC.region ?_
      refine WL.op rfl ?_
      refine OpW.alloc rfl I65 rfl (by repeat (first | exact NF.nil | apply NF.cons)) rfl rfl ?_; intro b7
      refine WL.op rfl ?_
      refine OpW.store1 rfl Z65 rfl rfl (by first | exact ⟨rfl, rfl⟩ | assumption) (by repeat (first | assumption | exact Take.head _ | apply Take.tail)) (by first | (simp; done) | omega | exact of_decide_eq_true rfl | (simp only [List.length_append, List.length_replicate, List.length_map, List.length_set]; omega)) rfl ?_
      refine WL.nil ?_
      refine thenQ.normal ?_
      refine WC.seq ?_
      refine WC.seq ?_
      refine WC.region ?_
      refine WL.rd rfl rfl rfl (Rd.move rfl rfl) ?_
      refine WL.rd rfl rfl rfl (Rd.func rfl (by repeat (first | exact Evs.nil | apply Evs.cons rfl)) (by repeat (first | exact Evs.nil | apply Evs.cons rfl)) ⟨_, rfl⟩) ?_
      refine WL.op rfl ?_
      refine OpW.call rfl rfl (by repeat (first | exact Evs.nil | apply Evs.cons rfl)) (by kernel_rfl) rfl rfl rfl ?_
      refine ghas_spec (cb := b7) hl (by repeat (first | assumption | exact mS | apply mT)) ?_; intro bb hbb
      refine WL.nil ?_
      refine thenQ.normal ?_
      first | refine WC.ite rfl (fun hc4 => ?_) (fun hc4 => ?_) | refine WC.cond rfl (fun hc4 => ?_) (fun hc4 => ?_)
      · skip
        have hBB := hbb.1 hc4
        refine WC.seq ?_
        refine WC.region ?_
        refine WL.rd rfl rfl rfl (Rd.assign rfl rfl) ?_
        refine WL.rd rfl rfl rfl (Rd.assign rfl rfl) ?_
        refine WL.nil ?_
        refine thenQ.normal ?_
        refine WC.heap (R' := R) (O' := O) (fun w h => OwnL.sat (by repeat (first | exact OwnL.refl | apply OwnL.take (by repeat (first | exact Take.head _ | apply Take.tail)) | apply OwnL.drop)) w (h.thin (SubL.mem (by repeat (first | exact SubL.refl | refine SubL.cons (by repeat (first | assumption | exact mS | apply mT)) ?_ | refine SubL.skip ?_))))) ?_
        refine WC.ret (Ret.two Try.results15 rfl rfl ?_)
        exact hkF hO hR hBB
      · skip
        have hBB : ¬ ∃ x ∈ l, BadG x := fun h => by rw [hbb.2 h] at hc4; cases hc4
        refine WC.skip ?_
        refine thenQ.normal ?_
        refine WC.seq ?_
        refine WC.region ?_
        refine WL.rd rfl rfl rfl (Rd.move rfl rfl) ?_
        refine WL.op rfl ?_
        refine OpW.call rfl rfl (by repeat (first | exact Evs.nil | apply Evs.cons rfl)) (by kernel_rfl) rfl rfl rfl ?_
        refine of_spec ha hR.nodup ?_; intro b40 m40 h40
        refine WL.heap (R' := R) (O' := mapC vs sdv b40 m40 :: O) (fun w h => OwnL.sat (by repeat (first | exact OwnL.refl | apply OwnL.take (by repeat (first | exact Take.head _ | apply Take.tail)) | apply OwnL.drop)) w (h.thin (SubL.mem (by repeat (first | exact SubL.refl | refine SubL.cons (by repeat (first | assumption | exact mS | apply mT)) ?_ | refine SubL.skip ?_))))) ?_
        refine WL.rd rfl rfl rfl (Rd.assign rfl rfl) ?_
        refine WL.nil ?_
        refine thenQ.normal ?_
        refine WC.seq ?_
        refine WC.seq ?_
        refine WC.region ?_
        refine WL.rd rfl rfl rfl (Rd.move rfl rfl) ?_
        refine WL.rd rfl rfl rfl ((by first | exact Rd.lenE rfl rfl Try.underlying47 (by repeat (first | assumption | exact mS | apply mT)) | exact Rd.lenA rfl rfl Try.underlying47 (by repeat (first | assumption | exact mS | apply mT)) | exact Rd.len rfl rfl Try.underlying47)) ?_
        refine WL.rd rfl rfl rfl (Rd.move rfl rfl) ?_
        refine WL.nil ?_
        refine thenQ.normal ?_
        refine WC.block ?_
        refine WC.pick [43, 8, 41, 42] (by repeat (first | exact Pick.nil | apply Pick.cons rfl)) ?_
        refine WC.loop2 1 (fun (i : Nat) (m : GoMap (List UInt8) Sd) => [(43, .int .i64 (i : Int))]) (fun (i : Nat) (m : GoMap (List UInt8) Sd) => mapC vs sdv b40 m :: O) (fun (i : Nat) (m : GoMap (List UInt8) Sd) => i ≤ l.length ∧ Upd m a (l.take i) ∧ ∀ x ∈ l.take i, says a x.key = x.old) (fun (i : Nat) (m : GoMap (List UInt8) Sd) => l.length - i) (0) (m40) (by repeat (first | exact Split.zero | apply Split.succ)) ?hinv2 (by repeat (first | exact Sub.nil | refine Sub.cons rfl (by first | rfl | (congr 1; omega) | assumption) ?_)) (fun _ h => h) ?_
        case hinv2 =>
          exact ⟨Nat.zero_le _, Upd.start h40, by simp⟩
        intro i m
        rintro ⟨i1, i3, i4⟩
        refine WC.seq ?_
        refine WC.region ?_
        refine WL.rd rfl rfl rfl (Rd.lss rfl rfl rfl) ?_
        refine WL.nil ?_
        refine thenQ.normal ?_
        refine WC.seq ?_
        first | refine WC.ite rfl (fun hc5 => ?_) (fun hc5 => ?_) | refine WC.cond rfl (fun hc5 => ?_) (fun hc5 => ?_)
        · skip
          refine WC.skip ?_
          refine thenQ.normal ?_
          refine WC.seq ?_
          refine WC.block ?_
          refine WC.seq ?_
          refine WC.region ?_
          refine WL.rd rfl rfl rfl ((by first | exact Rd.idx (k := i) rfl S47 rfl rfl (by omega) (by repeat (first | assumption | exact mS | apply mT)) (by first | omega | (simp only [List.length_cons, List.length_nil, List.length_append, List.length_map]; omega)) | exact Rd.idxA (k := i) rfl S47 rfl rfl (by omega) (by repeat (first | assumption | exact mS | apply mT)) (by first | omega | (simp only [List.length_cons, List.length_nil, List.length_append, List.length_map]; omega)) | exact Rd.idxR (k := i) rfl S47 rfl rfl (by omega) (by omega))) ?_
          refine WL.rd rfl rfl rfl ((by first | exact Rd.rowS rfl G51 rfl (by repeat (first | assumption | exact mS | apply mT)) (by repeat (first | exact NF.nil | apply NF.cons)) rfl | exact Rd.getS rfl G51 rfl (by repeat (first | assumption | exact mS | apply mT)) (by intro x; first | rfl | (cases x; rfl) | (rcases x with ⟨_, _, _⟩; rfl) | (rcases x with ⟨_, _, _, _⟩; rfl)) (by first | assumption | rfl | exact get!_of_lt (by omega)) (by repeat (first | exact NF.nil | apply NF.cons)) | exact Rd.getSA rfl G51 rfl (by repeat (first | assumption | exact mS | apply mT)) (by intro x; first | rfl | (cases x; rfl) | (rcases x with ⟨_, _, _⟩; rfl) | (rcases x with ⟨_, _, _, _⟩; rfl)) (by first | assumption | rfl | exact get!_of_lt (by omega)) (by repeat (first | exact NF.nil | apply NF.cons)))) ?_
          refine WL.op rfl ?_
          refine OpW.alloc rfl I51 rfl (by repeat (first | exact NF.nil | apply NF.cons)) rfl rfl ?_; intro b10
          refine WL.op rfl ?_
          refine OpW.storeS rfl G51 rfl rfl (by repeat (first | exact NF.nil | apply NF.cons)) (by repeat (first | assumption | exact Take.head _ | apply Take.tail)) rfl rfl (by repeat (first | exact NF.nil | apply NF.cons)) rfl ?_
          refine WL.nil ?_
          refine thenQ.normal ?_
          refine WC.seq ?_
          refine WC.seq ?_
          refine WC.region ?_
          refine WL.rd rfl rfl rfl (Rd.move rfl rfl) ?_
          refine WL.rd rfl rfl rfl ((by first | exact Rd.field rfl F51_0 rfl rfl | exact Rd.fieldE rfl F51_0 rfl (by repeat (first | assumption | exact mS | apply mT)) (by omega) | exact Rd.fieldA rfl F51_0 rfl (by repeat (first | assumption | exact mS | apply mT)) (by omega))) ?_
          refine WL.rd rfl rfl rfl (Rd.row1 (b := b10) (off := 0) (u := vs l[i]!.key) rfl C9 rfl (by repeat (first | assumption | exact mS | apply mT)) rfl) ?_
          refine WL.rd rfl rfl rfl ((by first | exact Rd.lookup M61 K9 rfl rfl rfl (by repeat (first | assumption | exact mS | apply mT)) (by rfl) | exact Rd.lookupR M61 K9 rfl rfl rfl (by repeat (first | assumption | exact mS | apply mT)) (by rfl))) ?_
          refine WL.say 50 (u := sdv (says a l[i]!.key)) rfl (by rw [sdOf_v, i3.sd, upd_none (gtake_nodup hO.asc.nodup (by omega))]) ?_
          refine WL.rd rfl rfl rfl ((by first | exact Rd.field rfl F51_1 rfl rfl | exact Rd.fieldE rfl F51_1 rfl (by repeat (first | assumption | exact mS | apply mT)) (by omega) | exact Rd.fieldA rfl F51_1 rfl (by repeat (first | assumption | exact mS | apply mT)) (by omega))) ?_
          refine WL.rd rfl rfl rfl (Rd.rowS (b := b10) (off := 1) rfl G38 rfl (by repeat (first | assumption | exact mS | apply mT)) (by repeat (first | exact NF.nil | apply NF.cons)) rfl) ?_
          refine WL.rd rfl rfl rfl (Rd.aneq rfl rfl rfl (EqSd (says a l[i]!.key) l[i]!.old)) ?_
          refine WL.nil ?_
          refine thenQ.normal ?_
          first | refine WC.ite rfl (fun hc6 => ?_) (fun hc6 => ?_) | refine WC.cond rfl (fun hc6 => ?_) (fun hc6 => ?_)
          · skip
            refine WC.seq ?_
            refine WC.region ?_
            refine WL.rd rfl rfl rfl (Rd.assign rfl rfl) ?_
            refine WL.rd rfl rfl rfl (Rd.assign rfl rfl) ?_
            refine WL.nil ?_
            refine thenQ.normal ?_
            refine WC.heap (R' := R) (O' := O) (fun w h => OwnL.sat (by repeat (first | exact OwnL.refl | apply OwnL.take (by repeat (first | exact Take.head _ | apply Take.tail)) | apply OwnL.drop)) w (h.thin (SubL.mem (by repeat (first | exact SubL.refl | refine SubL.cons (by repeat (first | assumption | exact mS | apply mT)) ?_ | refine SubL.skip ?_))))) ?_
            refine WC.ret (Ret.two Try.results15 rfl rfl ?_)
            exact hkS hO hR hBB ⟨l[i]!, get!_mem (by omega), hc6⟩
          · skip
            refine WC.skip ?_
            refine thenQ.normal ?_
            refine WC.region ?_
            refine WL.rd rfl rfl rfl (Rd.move rfl rfl) ?_
            refine WL.rd rfl rfl rfl ((by first | exact Rd.field rfl F51_0 rfl rfl | exact Rd.fieldE rfl F51_0 rfl (by repeat (first | assumption | exact mS | apply mT)) (by omega) | exact Rd.fieldA rfl F51_0 rfl (by repeat (first | assumption | exact mS | apply mT)) (by omega))) ?_
            refine WL.rd rfl rfl rfl (Rd.row1 (b := b10) (off := 0) (u := vs l[i]!.key) rfl C9 rfl (by repeat (first | assumption | exact mS | apply mT)) rfl) ?_
            refine WL.rd rfl rfl rfl ((by first | exact Rd.field rfl F51_2 rfl rfl | exact Rd.fieldE rfl F51_2 rfl (by repeat (first | assumption | exact mS | apply mT)) (by omega) | exact Rd.fieldA rfl F51_2 rfl (by repeat (first | assumption | exact mS | apply mT)) (by omega))) ?_
            refine WL.rd rfl rfl rfl (Rd.rowS (b := b10) (off := 3) rfl G38 rfl (by repeat (first | assumption | exact mS | apply mT)) (by repeat (first | exact NF.nil | apply NF.cons)) rfl) ?_
            refine WL.op rfl ?_
            refine OpW.mapUpdate (venc := sdv) (v := l[i]!.new) M61 K9 rfl rfl rfl rfl (by repeat (first | assumption | exact Take.head _ | apply Take.tail)) (by rfl) (by rfl) rfl ?_
            refine WL.nil ?_
            refine blockQ.normal ?_
            refine thenQ.normal ?_
            refine WC.region ?_
            refine WL.rd rfl rfl rfl (Rd.add rfl rfl rfl (by omega)) ?_
            refine WL.rd rfl rfl rfl (Rd.move rfl rfl) ?_
            refine WL.nil ?_
            exact loopQ2.mk (i + 1) (m.set l[i]!.key l[i]!.new) ⟨by omega, i3.step hO.asc.nodup (by omega), fun x hx => by
            rw [take_snoc (by omega), List.mem_append, List.mem_singleton] at hx
            rcases hx with h | h
            · exact i4 x h
            · rw [h]; exact Decidable.not_not.1 hc6⟩ (by omega) (by repeat (first | exact Sub.nil | refine Sub.cons rfl (by first | rfl | (congr 1; omega) | assumption) ?_)) (fun w h => OwnL.sat (by repeat (first | exact OwnL.refl | apply OwnL.take (by repeat (first | exact Take.head _ | apply Take.tail)) | apply OwnL.drop)) w (h.thin (SubL.mem (by repeat (first | exact SubL.refl | refine SubL.cons (by repeat (first | assumption | exact mS | apply mT)) ?_ | refine SubL.skip ?_)))))
        · skip
          rw [List.take_of_length_le (by omega)] at i3 i4
          refine WC.exit ?_
          refine thenQ.exit ?_
          refine loopQ2.exit ?_
          refine blockQ.exit ?_
          refine thenQ.normal ?_
          refine WC.seq ?_
          refine WC.region ?_
          refine WL.rd rfl rfl rfl (Rd.move rfl rfl) ?_
          refine WL.heap (R' := mapP vs sdv b40 m :: R) (O' := O) (fun w h => h.shareM (Take.head _)) ?_
          refine WL.op rfl ?_
          refine OpW.call rfl rfl (by repeat (first | exact Evs.nil | apply Evs.cons rfl)) (by kernel_rfl) rfl rfl rfl ?_
          refine items_spec (m := m) List.mem_cons_self (by have := i3.len; have := hKa.1; have := hKl.1; omega) (fun k hk' => ?_) ?_
          · rcases (i3.ks k).1 hk' with h | h
            · obtain ⟨x, hx, rfl⟩ := List.mem_map.1 h; exact hKa.2 x hx
            · obtain ⟨x, hx, rfl⟩ := List.mem_map.1 h; exact hKl.2 x hx
          intro v61 ks hka hkm
          refine WL.heap (R' := R) (O' := accC 45 2 encI v61 (itemsL (sdOf m) ks) :: O) (fun w h => OwnL.sat (by repeat (first | exact OwnL.refl | apply OwnL.take (by repeat (first | exact Take.head _ | apply Take.tail)) | apply OwnL.drop)) w (h.thin (SubL.mem (by repeat (first | exact SubL.refl | refine SubL.cons (by repeat (first | assumption | exact mS | apply mT)) ?_ | refine SubL.skip ?_))))) ?_
          refine WL.rd rfl rfl rfl (Rd.assign rfl rfl) ?_
          refine WL.rd rfl rfl rfl (Rd.assign rfl rfl) ?_
          refine WL.nil ?_
          refine thenQ.normal ?_
          refine WC.ret (Ret.two Try.results15 rfl rfl ?_)
          have hf : sdOf m = upd a l := funext i3.sd
          rw [hf]
          exact hk hO hR hBB i4 v61 ks hka (fun k => (hkm k).trans (i3.ks k))
end
end Go.Proofs.Ytbbeifdmgmadiaa
