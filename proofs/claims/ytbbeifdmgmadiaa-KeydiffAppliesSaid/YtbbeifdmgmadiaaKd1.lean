/-
  Layer 20: keyed lists: are the keys rising; what a list says of a key; a list as a map.
-/
import Derived.Test.YtbbeifdmgmadiaaRng
import Derived.Test.YtbbeifdmgmadiaaTy
import Derived.Test.YtbbeifdmgmadiaaAcc
import Derived.Test.YtbbeifdmgmadiaaOpa
namespace Go.Proofs.Ytbbeifdmgmadiaa
open Go Go.SL

abbrev vid (v : Value) : Value := v
abbrev It := List UInt8 × List UInt8
def encI (x : It) : List Value := [vs x.1, vs x.2]
/-- What a list says of a key. -/
abbrev Sd := List UInt8 × Bool
abbrev sdv (s : Sd) : Value := .agg #[vs s.1, .bool s.2]
structure Ch where
  key : List UInt8
  old : Sd
  new : Sd
deriving DecidableEq
def encG (x : Ch) : List Value := [vs x.key, vs x.old.1, .bool x.old.2, vs x.new.1, .bool x.new.2]
structure Cf where
  key : List UInt8
  base : Sd
  ours : Sd
  theirs : Sd
deriving DecidableEq
def encF (x : Cf) : List Value := [vs x.key, vs x.base.1, .bool x.base.2, vs x.ours.1, .bool x.ours.2, vs x.theirs.1, .bool x.theirs.2]
instance : Inhabited Ch := ⟨⟨[], ([], false), ([], false)⟩⟩
instance : Inhabited Cf := ⟨⟨[], ([], false), ([], false), ([], false)⟩⟩
def RightP (l : List It) : Prop := ∀ i, i < l.length - 1 → Lt l[i]!.1 l[i + 1]!.1
instance (l : List It) : Decidable (RightP l) := by unfold RightP; infer_instance
theorem map_get! {α β : Type} [Inhabited α] [Inhabited β] (f : α → β) {l : List α} {i : Nat} (h : i < l.length) : (l.map f)[i]! = f l[i]! := by
  rw [getElem!_pos _ i (by simpa using h), getElem!_pos l i h]; simp
theorem RightP.asc {l : List It} (h : RightP l) : Asc (l.map (·.1)) := Asc.of_steps fun i hi => by
  rw [List.length_map] at hi
  rw [map_get! _ (by omega), map_get! _ hi]
  exact h i (by omega)
theorem RightP.of {l : List It} (h : Asc (l.map (·.1))) : RightP l := fun i hi => by
  have := h.steps (i := i) (by rw [List.length_map]; omega)
  rwa [map_get! _ (by omega), map_get! _ (by omega)] at this
theorem RightP.nodup {l : List It} (h : RightP l) : (l.map (·.1)).Nodup := h.asc.nodup
def look (l : List It) (k : List UInt8) : Option Sd := (l.find? fun x => decide (x.1 = k)).map fun x => (x.2, true)
def says (l : List It) (k : List UInt8) : Sd := (look l k).getD ([], false)
theorem look_none {l : List It} {k : List UInt8} : look l k = none ↔ k ∉ l.map (·.1) := by
  unfold look
  rw [Option.map_eq_none_iff, List.find?_eq_none]
  constructor
  · intro h hk
    obtain ⟨x, hx, rfl⟩ := List.mem_map.1 hk
    exact h x hx (by simp)
  · intro h x hx
    simp only [decide_eq_true_eq]
    rintro rfl
    exact h (List.mem_map_of_mem hx)
theorem look_snoc {l : List It} {x : It} (h : x.1 ∉ l.map (·.1)) (k : List UInt8) : look (l ++ [x]) k = if k = x.1 then some (x.2, true) else look l k := by
  by_cases e : k = x.1
  · subst e
    rw [if_pos rfl]
    have h1 := look_none.2 h
    unfold look at h1 ⊢
    rw [Option.map_eq_none_iff] at h1
    rw [List.find?_append, h1]; simp
  · rw [if_neg e]
    unfold look
    rw [List.find?_append]
    have : ([x].find? fun y => decide (y.1 = k)) = none := by simp; exact fun h => e h.symm
    rw [this, Option.or_none]
/-- A map that says what a list says. -/
def MapOf (m : GoMap (List UInt8) Sd) (l : List It) : Prop := (∀ k, m.get k = look l k) ∧ m.l.length ≤ l.length
theorem MapOf.zero : MapOf GoMap.empty [] := ⟨fun _ => rfl, Nat.le_refl _⟩
theorem take_snoc {α : Type} [Inhabited α] {l : List α} {i : Nat} (h : i < l.length) : l.take (i + 1) = l.take i ++ [l[i]!] := by
  rw [List.take_add_one, List.getElem?_eq_getElem h, getElem!_pos l i h]; rfl
theorem nodup_take {l : List It} (hn : (l.map (·.1)).Nodup) {i : Nat} (h : i < l.length) : l[i]!.1 ∉ (l.take i).map (·.1) := by
  have : ((l.take (i + 1)).map (·.1)).Nodup := by rw [List.map_take]; exact hn.sublist (List.take_sublist _ _)
  rw [take_snoc h, List.map_append, List.nodup_append] at this
  intro hm
  exact this.2.2 _ hm _ (by simp) rfl
theorem MapOf.step {m : GoMap (List UInt8) Sd} {l : List It} {i : Nat} (hn : (l.map (·.1)).Nodup) (hi : i < l.length) (h : MapOf m (l.take i)) : MapOf (m.set l[i]!.1 (l[i]!.2, true)) (l.take (i + 1)) := by
  refine ⟨fun k => ?_, ?_⟩
  · rw [GoMap.get_set, take_snoc hi, look_snoc (nodup_take hn hi), h.1 k]
  · have h1 := h.2
    have h2 := GoMap.set_len_le m l[i]!.1 (l[i]!.2, true)
    rw [List.length_take] at h1 ⊢
    omega
theorem MapOf.ks {m : GoMap (List UInt8) Sd} {l : List It} (h : MapOf m l) (k : List UInt8) : k ∈ m.ks ↔ k ∈ l.map (·.1) := by
  rw [GoMap.mem_ks]
  constructor
  · rintro ⟨v, hv⟩
    rw [h.1 k] at hv
    rcases Classical.em (k ∈ l.map (·.1)) with e | e
    · exact e
    · rw [look_none.2 e] at hv; cases hv
  · intro hk
    rw [h.1 k]
    cases e : look l k with
    | none => exact absurd hk (look_none.1 e)
    | some v => exact ⟨v, rfl⟩
section
variable {R : List RO} {O : List Own} {POST : Value → List RO → List Own → Prop} {l : List It} {lv : Value}
set_option maxRecDepth 20000 in
theorem right_spec (hl : SlE encI lv l ∈ R) (hk : POST (.bool (decide (RightP l))) R O) : Fun Try.prog 16 #[lv] R O POST := by
  refine Fun.len hl fun hll => ?_
  refine Fun.enter (l := [_]) Try.func16 rfl Try.ntmps16 rfl (L0 := [(0, _)]) rfl ?_
  refine WC.seq ?_
  refine WC.region ?_
  refine WL.rd rfl rfl rfl (Rd.assign rfl rfl) ?_
  refine WL.nil ?_
  refine thenQ.normal ?_
  refine WC.seq ?_
  refine WC.seq ?_
  refine WC.region ?_
  refine WL.rd rfl rfl rfl (Rd.assign rfl rfl) ?_
  refine WL.nil ?_
  refine thenQ.normal ?_
  refine WC.block ?_
  refine WC.pick [3, 0] (by repeat (first | exact Pick.nil | apply Pick.cons rfl)) ?_
  refine WC.loop1o 1 (fun (i : Nat) => [(3, .int .i64 ((i : Int) + 1))]) (fun (i : Nat) => (i ≤ l.length - 1) ∧ ∀ j, j < i → Lt l[j]!.1 l[j + 1]!.1) (fun (i : Nat) => l.length - i) (0) (by repeat (first | exact Split.zero | apply Split.succ)) ?hinv1 (by repeat (first | exact Sub.nil | refine Sub.cons rfl (by first | rfl | (congr 1; omega) | assumption) ?_)) (fun _ h => h) ?_
  case hinv1 =>
    exact ⟨Nat.zero_le _, fun j hj => absurd hj (Nat.not_lt_zero _)⟩
  intro i
  rintro ⟨i1, i2⟩
  refine WC.seq ?_
  refine WC.seq ?_
  refine WC.region ?_
  refine WL.rd rfl rfl rfl (Rd.move rfl rfl) ?_
  refine WL.rd rfl rfl rfl (Rd.move rfl rfl) ?_
  refine WL.rd rfl rfl rfl ((by first | exact Rd.lenE rfl rfl Try.underlying24 (by repeat (first | assumption | exact mS | apply mT)) | exact Rd.lenA rfl rfl Try.underlying24 (by repeat (first | assumption | exact mS | apply mT)) | exact Rd.len rfl rfl Try.underlying24)) ?_
  refine WL.rd rfl rfl rfl (Rd.lss rfl rfl rfl) ?_
  refine WL.nil ?_
  refine thenQ.normal ?_
  first | refine WC.ite rfl (fun hc1 => ?_) (fun hc1 => ?_) | refine WC.cond rfl (fun hc1 => ?_) (fun hc1 => ?_)
  · skip
    refine WC.skip ?_
    refine thenQ.normal ?_
    refine WC.seq ?_
    refine WC.block ?_
    refine WC.seq ?_
    refine WC.still mixed (by kernel_rfl) ?_
    refine WA.rd rfl rfl rfl (Rd.move rfl rfl) ?_
    refine WA.rd rfl rfl rfl (Rd.move rfl rfl) ?_
    refine WA.rd rfl rfl rfl ((by first | exact Rd.idx (k := i + 1) rfl S24 rfl rfl (by omega) (by repeat (first | assumption | exact mS | apply mT)) (by first | omega | (simp only [List.length_cons, List.length_nil, List.length_append, List.length_map]; omega)) | exact Rd.idxA (k := i + 1) rfl S24 rfl rfl (by omega) (by repeat (first | assumption | exact mS | apply mT)) (by first | omega | (simp only [List.length_cons, List.length_nil, List.length_append, List.length_map]; omega)) | exact Rd.idxR (k := i + 1) rfl S24 rfl rfl (by omega) (by omega))) ?_
    refine WA.rd rfl rfl rfl ((by first | exact Rd.field rfl F45_0 rfl rfl | exact Rd.fieldE rfl F45_0 rfl (by repeat (first | assumption | exact mS | apply mT)) (by omega) | exact Rd.fieldA rfl F45_0 rfl (by repeat (first | assumption | exact mS | apply mT)) (by omega))) ?_
    refine WA.rd rfl rfl rfl ((by first | exact Rd.get rfl C9 rfl (by repeat (first | assumption | exact mS | apply mT)) (by first | assumption | rfl | exact get!_of_lt (by omega)) | exact Rd.getA rfl C9 rfl (by repeat (first | assumption | exact mS | apply mT)) (by first | assumption | rfl | exact get!_of_lt (by omega)) | exact Rd.row1 rfl C9 rfl (by repeat (first | assumption | exact mS | apply mT)) (by rfl) | exact Rd.getF rfl C9 rfl (by repeat (first | assumption | exact mS | apply mT)) (by intro x; first | rfl | (cases x; rfl) | (rcases x with ⟨_, _, _⟩; rfl) | (rcases x with ⟨_, _, _, _⟩; rfl)) rfl (by first | assumption | rfl | exact get!_of_lt (by omega)) (by rfl) | exact Rd.getFA rfl C9 rfl (by repeat (first | assumption | exact mS | apply mT)) (by intro x; first | rfl | (cases x; rfl) | (rcases x with ⟨_, _, _⟩; rfl) | (rcases x with ⟨_, _, _, _⟩; rfl)) rfl (by first | assumption | rfl | exact get!_of_lt (by omega)) (by rfl))) ?_
    refine WA.rd rfl rfl rfl (Rd.move rfl rfl) ?_
    refine WA.rd rfl rfl rfl (Rd.move rfl rfl) ?_
    refine WA.rd rfl rfl rfl (Rd.sub rfl rfl rfl (by omega)) ?_
    refine WA.rd rfl rfl rfl ((by first | exact Rd.idx (k := i) rfl S24 rfl rfl (by omega) (by repeat (first | assumption | exact mS | apply mT)) (by first | omega | (simp only [List.length_cons, List.length_nil, List.length_append, List.length_map]; omega)) | exact Rd.idxA (k := i) rfl S24 rfl rfl (by omega) (by repeat (first | assumption | exact mS | apply mT)) (by first | omega | (simp only [List.length_cons, List.length_nil, List.length_append, List.length_map]; omega)) | exact Rd.idxR (k := i) rfl S24 rfl rfl (by omega) (by omega))) ?_
    refine WA.rd rfl rfl rfl ((by first | exact Rd.field rfl F45_0 rfl rfl | exact Rd.fieldE rfl F45_0 rfl (by repeat (first | assumption | exact mS | apply mT)) (by omega) | exact Rd.fieldA rfl F45_0 rfl (by repeat (first | assumption | exact mS | apply mT)) (by omega))) ?_
    refine WA.rd rfl rfl rfl ((by first | exact Rd.get rfl C9 rfl (by repeat (first | assumption | exact mS | apply mT)) (by first | assumption | rfl | exact get!_of_lt (by omega)) | exact Rd.getA rfl C9 rfl (by repeat (first | assumption | exact mS | apply mT)) (by first | assumption | rfl | exact get!_of_lt (by omega)) | exact Rd.row1 rfl C9 rfl (by repeat (first | assumption | exact mS | apply mT)) (by rfl) | exact Rd.getF rfl C9 rfl (by repeat (first | assumption | exact mS | apply mT)) (by intro x; first | rfl | (cases x; rfl) | (rcases x with ⟨_, _, _⟩; rfl) | (rcases x with ⟨_, _, _, _⟩; rfl)) rfl (by first | assumption | rfl | exact get!_of_lt (by omega)) (by rfl) | exact Rd.getFA rfl C9 rfl (by repeat (first | assumption | exact mS | apply mT)) (by intro x; first | rfl | (cases x; rfl) | (rcases x with ⟨_, _, _⟩; rfl) | (rcases x with ⟨_, _, _, _⟩; rfl)) rfl (by first | assumption | rfl | exact get!_of_lt (by omega)) (by rfl))) ?_
    refine WA.rd rfl rfl rfl (Rd.sleqP rfl rfl rfl) ?_
    refine WA.nil ?_
    refine thenQ.normal ?_
    first | refine WC.ite rfl (fun hc2 => ?_) (fun hc2 => ?_) | refine WC.cond rfl (fun hc2 => ?_) (fun hc2 => ?_)
    · skip
      refine WC.seq ?_
      refine WC.region ?_
      refine WL.rd rfl rfl rfl (Rd.assign rfl rfl) ?_
      refine WL.nil ?_
      refine thenQ.normal ?_
      refine WC.ret (Ret.one Try.results16 rfl ?_)
      rw [decide_eq_false (fun h => hc2 (h i (by omega)))] at hk
      exact hk
    · skip
      refine WC.skip ?_
      refine blockQ.normal ?_
      refine thenQ.normal ?_
      refine WC.region ?_
      refine WL.rd rfl rfl rfl (Rd.move rfl rfl) ?_
      refine WL.rd rfl rfl rfl (Rd.add rfl rfl rfl (by omega)) ?_
      refine WL.rd rfl rfl rfl (Rd.assign rfl rfl) ?_
      refine WL.nil ?_
      exact loopQ1.mk (i + 1) ⟨by omega, fun j hj => by
      rcases Nat.lt_or_ge j i with h | h
      · exact i2 j h
      · obtain rfl : j = i := by omega
        exact Decidable.not_not.1 hc2⟩ (by omega) (by repeat (first | exact Sub.nil | refine Sub.cons rfl (by first | rfl | (congr 1; omega) | assumption) ?_)) (fun w h => OwnL.sat (by repeat (first | exact OwnL.refl | apply OwnL.take (by repeat (first | exact Take.head _ | apply Take.tail)) | apply OwnL.drop)) w (h.thin (SubL.mem (by repeat (first | exact SubL.refl | refine SubL.cons (by repeat (first | assumption | exact mS | apply mT)) ?_ | refine SubL.skip ?_)))))
  · skip
    refine WC.exit ?_
    refine thenQ.exit ?_
    refine loopQ1.exit ?_
    refine blockQ.exit ?_
    refine thenQ.normal ?_
    refine WC.seq ?_
    refine WC.region ?_
    refine WL.rd rfl rfl rfl (Rd.assign rfl rfl) ?_
    refine WL.nil ?_
    refine thenQ.normal ?_
    refine WC.ret (Ret.one Try.results16 rfl ?_)
    rw [decide_eq_true (show RightP l from fun j hj => i2 j (by omega))] at hk
    exact hk
set_option maxRecDepth 20000 in
theorem rright_spec (hl : SlE encI lv l ∈ R) (hk : POST (.bool (decide (RightP l))) R O) : Fun Try.prog 11 #[lv] R O POST := by
  refine Fun.len hl fun hll => ?_
  refine Fun.enter (l := [_]) Try.func11 rfl Try.ntmps11 rfl (L0 := [(0, _)]) rfl ?_
  refine WC.seq ?_
  refine WC.region ?_
  refine WL.rd rfl rfl rfl (Rd.assign rfl rfl) ?_
  refine WL.nil ?_
  refine thenQ.normal ?_
  refine WC.seq ?_
  refine WC.seq ?_
  refine WC.region ?_
  refine WL.rd rfl rfl rfl (Rd.assign rfl rfl) ?_
  refine WL.nil ?_
  refine thenQ.normal ?_
  refine WC.block ?_
  refine WC.pick [3, 0] (by repeat (first | exact Pick.nil | apply Pick.cons rfl)) ?_
  refine WC.loop1o 1 (fun (i : Nat) => [(3, .int .i64 (i : Int))]) (fun (i : Nat) => (i ≤ l.length - 1) ∧ ∀ j, j < i → j < l.length - 1 → Lt l[j]!.1 l[j + 1]!.1) (fun (i : Nat) => l.length - i) (0) (by repeat (first | exact Split.zero | apply Split.succ)) ?hinv1 (by repeat (first | exact Sub.nil | refine Sub.cons rfl (by first | rfl | (congr 1; omega) | assumption) ?_)) (fun _ h => h) ?_
  case hinv1 =>
    exact ⟨Nat.zero_le _, fun j hj => absurd hj (Nat.not_lt_zero _)⟩
  intro i
  rintro ⟨i1, i2⟩
  refine WC.seq ?_
  refine WC.seq ?_
  refine WC.region ?_
  refine WL.rd rfl rfl rfl (Rd.move rfl rfl) ?_
  refine WL.rd rfl rfl rfl (Rd.add rfl rfl rfl (by omega)) ?_
  refine WL.rd rfl rfl rfl (Rd.move rfl rfl) ?_
  refine WL.rd rfl rfl rfl ((by first | exact Rd.lenE rfl rfl Try.underlying25 (by repeat (first | assumption | exact mS | apply mT)) | exact Rd.lenA rfl rfl Try.underlying25 (by repeat (first | assumption | exact mS | apply mT)) | exact Rd.len rfl rfl Try.underlying25)) ?_
  refine WL.rd rfl rfl rfl (Rd.lss rfl rfl rfl) ?_
  refine WL.nil ?_
  refine thenQ.normal ?_
  first | refine WC.ite rfl (fun hc1 => ?_) (fun hc1 => ?_) | refine WC.cond rfl (fun hc1 => ?_) (fun hc1 => ?_)
  · skip
    refine WC.skip ?_
    refine thenQ.normal ?_
    refine WC.seq ?_
    refine WC.block ?_
    refine WC.seq ?_
    refine WC.still mixed (by kernel_rfl) ?_
    refine WA.rd rfl rfl rfl (Rd.move rfl rfl) ?_
    refine WA.rd rfl rfl rfl (Rd.move rfl rfl) ?_
    refine WA.rd rfl rfl rfl ((by first | exact Rd.idx (k := i) rfl S25 rfl rfl (by omega) (by repeat (first | assumption | exact mS | apply mT)) (by first | omega | (simp only [List.length_cons, List.length_nil, List.length_append, List.length_map]; omega)) | exact Rd.idxA (k := i) rfl S25 rfl rfl (by omega) (by repeat (first | assumption | exact mS | apply mT)) (by first | omega | (simp only [List.length_cons, List.length_nil, List.length_append, List.length_map]; omega)) | exact Rd.idxR (k := i) rfl S25 rfl rfl (by omega) (by omega))) ?_
    refine WA.rd rfl rfl rfl ((by first | exact Rd.field rfl F42_0 rfl rfl | exact Rd.fieldE rfl F42_0 rfl (by repeat (first | assumption | exact mS | apply mT)) (by omega) | exact Rd.fieldA rfl F42_0 rfl (by repeat (first | assumption | exact mS | apply mT)) (by omega))) ?_
    refine WA.rd rfl rfl rfl ((by first | exact Rd.get rfl C9 rfl (by repeat (first | assumption | exact mS | apply mT)) (by first | assumption | rfl | exact get!_of_lt (by omega)) | exact Rd.getA rfl C9 rfl (by repeat (first | assumption | exact mS | apply mT)) (by first | assumption | rfl | exact get!_of_lt (by omega)) | exact Rd.row1 rfl C9 rfl (by repeat (first | assumption | exact mS | apply mT)) (by rfl) | exact Rd.getF rfl C9 rfl (by repeat (first | assumption | exact mS | apply mT)) (by intro x; first | rfl | (cases x; rfl) | (rcases x with ⟨_, _, _⟩; rfl) | (rcases x with ⟨_, _, _, _⟩; rfl)) rfl (by first | assumption | rfl | exact get!_of_lt (by omega)) (by rfl) | exact Rd.getFA rfl C9 rfl (by repeat (first | assumption | exact mS | apply mT)) (by intro x; first | rfl | (cases x; rfl) | (rcases x with ⟨_, _, _⟩; rfl) | (rcases x with ⟨_, _, _, _⟩; rfl)) rfl (by first | assumption | rfl | exact get!_of_lt (by omega)) (by rfl))) ?_
    refine WA.rd rfl rfl rfl (Rd.move rfl rfl) ?_
    refine WA.rd rfl rfl rfl (Rd.move rfl rfl) ?_
    refine WA.rd rfl rfl rfl (Rd.add rfl rfl rfl (by omega)) ?_
    refine WA.rd rfl rfl rfl ((by first | exact Rd.idx (k := i + 1) rfl S25 rfl rfl (by omega) (by repeat (first | assumption | exact mS | apply mT)) (by first | omega | (simp only [List.length_cons, List.length_nil, List.length_append, List.length_map]; omega)) | exact Rd.idxA (k := i + 1) rfl S25 rfl rfl (by omega) (by repeat (first | assumption | exact mS | apply mT)) (by first | omega | (simp only [List.length_cons, List.length_nil, List.length_append, List.length_map]; omega)) | exact Rd.idxR (k := i + 1) rfl S25 rfl rfl (by omega) (by omega))) ?_
    refine WA.rd rfl rfl rfl ((by first | exact Rd.field rfl F42_0 rfl rfl | exact Rd.fieldE rfl F42_0 rfl (by repeat (first | assumption | exact mS | apply mT)) (by omega) | exact Rd.fieldA rfl F42_0 rfl (by repeat (first | assumption | exact mS | apply mT)) (by omega))) ?_
    refine WA.rd rfl rfl rfl ((by first | exact Rd.get rfl C9 rfl (by repeat (first | assumption | exact mS | apply mT)) (by first | assumption | rfl | exact get!_of_lt (by omega)) | exact Rd.getA rfl C9 rfl (by repeat (first | assumption | exact mS | apply mT)) (by first | assumption | rfl | exact get!_of_lt (by omega)) | exact Rd.row1 rfl C9 rfl (by repeat (first | assumption | exact mS | apply mT)) (by rfl) | exact Rd.getF rfl C9 rfl (by repeat (first | assumption | exact mS | apply mT)) (by intro x; first | rfl | (cases x; rfl) | (rcases x with ⟨_, _, _⟩; rfl) | (rcases x with ⟨_, _, _, _⟩; rfl)) rfl (by first | assumption | rfl | exact get!_of_lt (by omega)) (by rfl) | exact Rd.getFA rfl C9 rfl (by repeat (first | assumption | exact mS | apply mT)) (by intro x; first | rfl | (cases x; rfl) | (rcases x with ⟨_, _, _⟩; rfl) | (rcases x with ⟨_, _, _, _⟩; rfl)) rfl (by first | assumption | rfl | exact get!_of_lt (by omega)) (by rfl))) ?_
    refine WA.rd rfl rfl rfl (Rd.slssP rfl rfl rfl) ?_
    refine WA.rd rfl rfl rfl ((by first | exact Rd.notd rfl rfl | exact Rd.not rfl rfl)) ?_
    refine WA.nil ?_
    refine thenQ.normal ?_
    first | refine WC.ite rfl (fun hc2 => ?_) (fun hc2 => ?_) | refine WC.cond rfl (fun hc2 => ?_) (fun hc2 => ?_)
    · skip
      refine WC.seq ?_
      refine WC.region ?_
      refine WL.rd rfl rfl rfl (Rd.assign rfl rfl) ?_
      refine WL.nil ?_
      refine thenQ.normal ?_
      refine WC.ret (Ret.one Try.results11 rfl ?_)
      rw [decide_eq_false (fun h => hc2 (h i (by omega)))] at hk
      exact hk
    · skip
      refine WC.skip ?_
      refine blockQ.normal ?_
      refine thenQ.normal ?_
      refine WC.region ?_
      refine WL.rd rfl rfl rfl (Rd.move rfl rfl) ?_
      refine WL.rd rfl rfl rfl (Rd.add rfl rfl rfl (by omega)) ?_
      refine WL.rd rfl rfl rfl (Rd.assign rfl rfl) ?_
      refine WL.nil ?_
      exact loopQ1.mk (i + 1) ⟨by omega, fun j hj hj2 => by
      rcases Nat.lt_or_ge j i with h | h
      · exact i2 j h hj2
      · obtain rfl : j = i := by omega
        exact Decidable.not_not.1 hc2⟩ (by omega) (by repeat (first | exact Sub.nil | refine Sub.cons rfl (by first | rfl | (congr 1; omega) | assumption) ?_)) (fun w h => OwnL.sat (by repeat (first | exact OwnL.refl | apply OwnL.take (by repeat (first | exact Take.head _ | apply Take.tail)) | apply OwnL.drop)) w (h.thin (SubL.mem (by repeat (first | exact SubL.refl | refine SubL.cons (by repeat (first | assumption | exact mS | apply mT)) ?_ | refine SubL.skip ?_)))))
  · skip
    refine WC.exit ?_
    refine thenQ.exit ?_
    refine loopQ1.exit ?_
    refine blockQ.exit ?_
    refine thenQ.normal ?_
    refine WC.seq ?_
    refine WC.region ?_
    refine WL.rd rfl rfl rfl (Rd.assign rfl rfl) ?_
    refine WL.nil ?_
    refine thenQ.normal ?_
    refine WC.ret (Ret.one Try.results11 rfl ?_)
    rw [decide_eq_true (show RightP l from fun j hj => i2 j (by omega) hj)] at hk
    exact hk
theorem says_at {i : Nat} (hi : i < l.length) {k : List UInt8} (h : k ∉ (l.take i).map (·.1)) (e : l[i]!.1 = k) : says l k = (l[i]!.2, true) := by
  have h1 : look (l.take (i + 1)) k = some (l[i]!.2, true) := by rw [take_snoc hi, look_snoc (by rw [e]; exact h), if_pos e.symm]
  have h2 : look l k = some (l[i]!.2, true) := by
    unfold look at h1 ⊢
    obtain ⟨x, h3, h4⟩ := Option.map_eq_some_iff.1 h1
    have h5 : (l.take (i + 1) ++ l.drop (i + 1)).find? (fun y => decide (y.1 = k)) = some x := by rw [List.find?_append, h3]; rfl
    rw [List.take_append_drop] at h5
    rw [h5]
    exact congrArg some h4
  rw [says, h2]; rfl
theorem says_none {k : List UInt8} (h : k ∉ l.map (·.1)) : says l k = ([], false) := by rw [says, look_none.2 h]; rfl
set_option maxRecDepth 20000 in
theorem says0_spec {k : List UInt8} (hl : SlE encI lv l ∈ R) (hk : ∀ b cs, POST (sdv (says l k)) R (rowC b 36 cs :: O)) : Fun Try.prog 13 #[lv, vs k] R O POST := by
  refine Fun.len hl fun hll => ?_
  refine Fun.enter (l := [_, _]) Try.func13 rfl Try.ntmps13 rfl (L0 := [(0, _), (1, _)]) rfl ?_
  refine WC.seq ?_
  refine WC.region ?_
  refine WL.op rfl ?_
  refine OpW.alloc rfl I36 rfl (by repeat (first | exact NF.nil | apply NF.cons)) rfl rfl ?_; intro b4
  refine WL.nil ?_
  refine thenQ.normal ?_
  refine WC.seq ?_
  refine WC.seq ?_
  refine WC.region ?_
  refine WL.rd rfl rfl rfl (Rd.assign rfl rfl) ?_
  refine WL.nil ?_
  refine thenQ.normal ?_
  refine WC.block ?_
  refine WC.pick [5, 0, 1, 4] (by repeat (first | exact Pick.nil | apply Pick.cons rfl)) ?_
  refine WC.loop1o 1 (fun (i : Nat) => [(5, .int .i64 (i : Int))]) (fun (i : Nat) => i ≤ l.length ∧ k ∉ (l.take i).map (·.1)) (fun (i : Nat) => l.length - i) (0) (by repeat (first | exact Split.zero | apply Split.succ)) ?hinv1 (by repeat (first | exact Sub.nil | refine Sub.cons rfl (by first | rfl | (congr 1; omega) | assumption) ?_)) (fun _ h => h) ?_
  case hinv1 =>
    exact ⟨Nat.zero_le _, by simp⟩
  intro i
  rintro ⟨i1, i2⟩
  refine WC.seq ?_
  refine WC.seq ?_
  refine WC.region ?_
  refine WL.rd rfl rfl rfl (Rd.move rfl rfl) ?_
  refine WL.rd rfl rfl rfl (Rd.move rfl rfl) ?_
  refine WL.rd rfl rfl rfl ((by first | exact Rd.lenE rfl rfl Try.underlying25 (by repeat (first | assumption | exact mS | apply mT)) | exact Rd.lenA rfl rfl Try.underlying25 (by repeat (first | assumption | exact mS | apply mT)) | exact Rd.len rfl rfl Try.underlying25)) ?_
  refine WL.rd rfl rfl rfl (Rd.lss rfl rfl rfl) ?_
  refine WL.nil ?_
  refine thenQ.normal ?_
  first | refine WC.ite rfl (fun hc1 => ?_) (fun hc1 => ?_) | refine WC.cond rfl (fun hc1 => ?_) (fun hc1 => ?_)
  · skip
    refine WC.skip ?_
    refine thenQ.normal ?_
    refine WC.seq ?_
    refine WC.block ?_
    refine WC.seq ?_
    refine WC.region ?_
    refine WL.rd rfl rfl rfl (Rd.move rfl rfl) ?_
    refine WL.rd rfl rfl rfl (Rd.move rfl rfl) ?_
    refine WL.rd rfl rfl rfl ((by first | exact Rd.idx (k := i) rfl S25 rfl rfl (by omega) (by repeat (first | assumption | exact mS | apply mT)) (by first | omega | (simp only [List.length_cons, List.length_nil, List.length_append, List.length_map]; omega)) | exact Rd.idxA (k := i) rfl S25 rfl rfl (by omega) (by repeat (first | assumption | exact mS | apply mT)) (by first | omega | (simp only [List.length_cons, List.length_nil, List.length_append, List.length_map]; omega)) | exact Rd.idxR (k := i) rfl S25 rfl rfl (by omega) (by omega))) ?_
    refine WL.rd rfl rfl rfl ((by first | exact Rd.field rfl F42_0 rfl rfl | exact Rd.fieldE rfl F42_0 rfl (by repeat (first | assumption | exact mS | apply mT)) (by omega) | exact Rd.fieldA rfl F42_0 rfl (by repeat (first | assumption | exact mS | apply mT)) (by omega))) ?_
    refine WL.rd rfl rfl rfl ((by first | exact Rd.get rfl C9 rfl (by repeat (first | assumption | exact mS | apply mT)) (by first | assumption | rfl | exact get!_of_lt (by omega)) | exact Rd.getA rfl C9 rfl (by repeat (first | assumption | exact mS | apply mT)) (by first | assumption | rfl | exact get!_of_lt (by omega)) | exact Rd.row1 rfl C9 rfl (by repeat (first | assumption | exact mS | apply mT)) (by rfl) | exact Rd.getF rfl C9 rfl (by repeat (first | assumption | exact mS | apply mT)) (by intro x; first | rfl | (cases x; rfl) | (rcases x with ⟨_, _, _⟩; rfl) | (rcases x with ⟨_, _, _, _⟩; rfl)) rfl (by first | assumption | rfl | exact get!_of_lt (by omega)) (by rfl) | exact Rd.getFA rfl C9 rfl (by repeat (first | assumption | exact mS | apply mT)) (by intro x; first | rfl | (cases x; rfl) | (rcases x with ⟨_, _, _⟩; rfl) | (rcases x with ⟨_, _, _, _⟩; rfl)) rfl (by first | assumption | rfl | exact get!_of_lt (by omega)) (by rfl))) ?_
    refine WL.rd rfl rfl rfl (Rd.move rfl rfl) ?_
    refine WL.rd rfl rfl rfl (Rd.seql rfl rfl rfl) ?_
    refine WL.nil ?_
    refine thenQ.normal ?_
    first | refine WC.ite rfl (fun hc2 => ?_) (fun hc2 => ?_) | refine WC.cond rfl (fun hc2 => ?_) (fun hc2 => ?_)
    · skip
      refine WC.seq ?_
      refine WC.region ?_
      refine WL.rd rfl rfl rfl (Rd.move rfl rfl) ?_
      refine WL.rd rfl rfl rfl (Rd.move rfl rfl) ?_
      refine WL.rd rfl rfl rfl ((by first | exact Rd.idx (k := i) rfl S25 rfl rfl (by omega) (by repeat (first | assumption | exact mS | apply mT)) (by first | omega | (simp only [List.length_cons, List.length_nil, List.length_append, List.length_map]; omega)) | exact Rd.idxA (k := i) rfl S25 rfl rfl (by omega) (by repeat (first | assumption | exact mS | apply mT)) (by first | omega | (simp only [List.length_cons, List.length_nil, List.length_append, List.length_map]; omega)) | exact Rd.idxR (k := i) rfl S25 rfl rfl (by omega) (by omega))) ?_
      refine WL.rd rfl rfl rfl ((by first | exact Rd.field rfl F42_1 rfl rfl | exact Rd.fieldE rfl F42_1 rfl (by repeat (first | assumption | exact mS | apply mT)) (by omega) | exact Rd.fieldA rfl F42_1 rfl (by repeat (first | assumption | exact mS | apply mT)) (by omega))) ?_
      refine WL.rd rfl rfl rfl ((by first | exact Rd.get rfl C9 rfl (by repeat (first | assumption | exact mS | apply mT)) (by first | assumption | rfl | exact get!_of_lt (by omega)) | exact Rd.getA rfl C9 rfl (by repeat (first | assumption | exact mS | apply mT)) (by first | assumption | rfl | exact get!_of_lt (by omega)) | exact Rd.row1 rfl C9 rfl (by repeat (first | assumption | exact mS | apply mT)) (by rfl) | exact Rd.getF rfl C9 rfl (by repeat (first | assumption | exact mS | apply mT)) (by intro x; first | rfl | (cases x; rfl) | (rcases x with ⟨_, _, _⟩; rfl) | (rcases x with ⟨_, _, _, _⟩; rfl)) rfl (by first | assumption | rfl | exact get!_of_lt (by omega)) (by rfl) | exact Rd.getFA rfl C9 rfl (by repeat (first | assumption | exact mS | apply mT)) (by intro x; first | rfl | (cases x; rfl) | (rcases x with ⟨_, _, _⟩; rfl) | (rcases x with ⟨_, _, _, _⟩; rfl)) rfl (by first | assumption | rfl | exact get!_of_lt (by omega)) (by rfl))) ?_
      refine WL.rd rfl rfl rfl (Rd.buildN (ps := [(0, _), (1, _)]) rfl Bs36 I36 rfl (by repeat (first | exact Evs.nil | apply Evs.cons rfl)) (by repeat (first | exact CellsOf.nil | apply CellsOf.cons rfl)) (by apply NFo.mk; repeat (first | exact NF.nil | apply NF.cons))) ?_
      refine WL.op rfl ?_
      refine OpW.storeS rfl G36 rfl rfl (by repeat (first | exact NF.nil | apply NF.cons)) (by repeat (first | assumption | exact Take.head _ | apply Take.tail)) rfl rfl (by repeat (first | exact NF.nil | apply NF.cons)) rfl ?_
      refine WL.nil ?_
      refine thenQ.normal ?_
      refine WC.heap (R' := R) (O' := rowC b4 36 [vs l[i]!.2, .bool true] :: O) (fun w h => OwnL.sat (by repeat (first | exact OwnL.refl | apply OwnL.take (by repeat (first | exact Take.head _ | apply Take.tail)) | apply OwnL.drop)) w (h.thin (SubL.mem (by repeat (first | exact SubL.refl | refine SubL.cons (by repeat (first | assumption | exact mS | apply mT)) ?_ | refine SubL.skip ?_))))) ?_
      refine WC.ret (Ret.cellRow Try.results13 rfl (by repeat (first | assumption | exact mS | apply mT)) G36 (by rfl) ?_)
      have h := hk b4 [vs l[i]!.2, .bool true]
      rw [says_at (by omega) i2 hc2] at h
      exact h
    · skip
      refine WC.skip ?_
      refine blockQ.normal ?_
      refine thenQ.normal ?_
      refine WC.region ?_
      refine WL.rd rfl rfl rfl (Rd.move rfl rfl) ?_
      refine WL.rd rfl rfl rfl (Rd.add rfl rfl rfl (by omega)) ?_
      refine WL.rd rfl rfl rfl (Rd.assign rfl rfl) ?_
      refine WL.nil ?_
      exact loopQ1.mk (i + 1) ⟨by omega, by rw [take_snoc (by omega), List.map_append]; simp only [List.mem_append]; rintro (h | h); exact i2 h; simp only [List.map_cons, List.map_nil, List.mem_singleton] at h; exact hc2 h.symm⟩ (by omega) (by repeat (first | exact Sub.nil | refine Sub.cons rfl (by first | rfl | (congr 1; omega) | assumption) ?_)) (fun w h => OwnL.sat (by repeat (first | exact OwnL.refl | apply OwnL.take (by repeat (first | exact Take.head _ | apply Take.tail)) | apply OwnL.drop)) w (h.thin (SubL.mem (by repeat (first | exact SubL.refl | refine SubL.cons (by repeat (first | assumption | exact mS | apply mT)) ?_ | refine SubL.skip ?_)))))
  · skip
    refine WC.exit ?_
    refine thenQ.exit ?_
    refine loopQ1.exit ?_
    refine blockQ.exit ?_
    refine thenQ.normal ?_
    refine WC.seq ?_
    refine WC.region ?_
    refine WL.rd rfl rfl rfl (Rd.buildN (ps := []) rfl Bs36 I36 rfl (by repeat (first | exact Evs.nil | apply Evs.cons rfl)) (by repeat (first | exact CellsOf.nil | apply CellsOf.cons rfl)) (by apply NFo.mk; repeat (first | exact NF.nil | apply NF.cons))) ?_
    refine WL.op rfl ?_
    refine OpW.storeS rfl G36 rfl rfl (by repeat (first | exact NF.nil | apply NF.cons)) (by repeat (first | assumption | exact Take.head _ | apply Take.tail)) rfl rfl (by repeat (first | exact NF.nil | apply NF.cons)) rfl ?_
    refine WL.nil ?_
    refine thenQ.normal ?_
    refine WC.ret (Ret.cellRow Try.results13 rfl (by repeat (first | assumption | exact mS | apply mT)) G36 (by rfl) ?_)
    rw [List.take_of_length_le (by omega)] at i2
    have h := hk b4 [vs [], .bool false]
    rw [says_none i2] at h
    exact h
theorem says_spec {k : List UInt8} (hl : SlE encI lv l ∈ R) (hk : POST (sdv (says l k)) R O) : Fun Try.prog 13 #[lv, vs k] R O POST := by
  refine Fun.thin (post' := fun v R' O' => v = sdv (says l k) ∧ R' = R ∧ ∃ b cs, O' = rowC b 36 cs :: O) (says0_spec hl fun b cs => ⟨rfl, rfl, b, cs, rfl⟩) ?_
  rintro v R' O' ⟨rfl, rfl, b, cs, rfl⟩
  exact ⟨_, _, hk, fun w h => h.drop⟩
set_option maxRecDepth 20000 in
theorem of_spec (hl : SlE encI lv l ∈ R) (hn : (l.map (·.1)).Nodup) (hk : ∀ b m, MapOf m l → POST (.map (some b)) R (mapC vs sdv b m :: O)) : Fun Try.prog 18 #[lv] R O POST := by
  refine Fun.len hl fun hll => ?_
  refine Fun.enter (l := [_]) Try.func18 rfl Try.ntmps18 rfl (L0 := [(0, _)]) rfl ?_
  refine WC.seq ?_
  refine WC.region ?_
  refine WL.rd rfl rfl rfl (Rd.assign rfl rfl) ?_
  refine WL.nil ?_
  refine thenQ.normal ?_
  refine WC.seq ?_
  refine WC.region ?_
  refine WL.op rfl ?_
  refine OpW.makeMap vs sdv rfl rfl rfl ?_; intro b6
  refine WL.rd rfl rfl rfl (Rd.assign rfl rfl) ?_
  refine WL.nil ?_
  refine thenQ.normal ?_
  refine WC.seq ?_
  refine WC.seq ?_
  refine WC.region ?_
  refine WL.rd rfl rfl rfl (Rd.move rfl rfl) ?_
  refine WL.rd rfl rfl rfl ((by first | exact Rd.lenE rfl rfl Try.underlying24 (by repeat (first | assumption | exact mS | apply mT)) | exact Rd.lenA rfl rfl Try.underlying24 (by repeat (first | assumption | exact mS | apply mT)) | exact Rd.len rfl rfl Try.underlying24)) ?_
  refine WL.rd rfl rfl rfl (Rd.move rfl rfl) ?_
  refine WL.nil ?_
  refine thenQ.normal ?_
  refine WC.block ?_
  refine WC.pick [9, 3, 7, 8] (by repeat (first | exact Pick.nil | apply Pick.cons rfl)) ?_
  refine WC.loop2 1 (fun (i : Nat) (m : GoMap (List UInt8) Sd) => [(9, .int .i64 (i : Int))]) (fun (i : Nat) (m : GoMap (List UInt8) Sd) => mapC vs sdv b6 m :: O) (fun (i : Nat) (m : GoMap (List UInt8) Sd) => i ≤ l.length ∧ MapOf m (l.take i)) (fun (i : Nat) (m : GoMap (List UInt8) Sd) => l.length - i) (0) (GoMap.empty) (by repeat (first | exact Split.zero | apply Split.succ)) ?hinv1 (by repeat (first | exact Sub.nil | refine Sub.cons rfl (by first | rfl | (congr 1; omega) | assumption) ?_)) (fun _ h => h) ?_
  case hinv1 =>
    exact ⟨Nat.zero_le _, MapOf.zero⟩
  intro i m
  rintro ⟨i1, i2⟩
  refine WC.seq ?_
  refine WC.region ?_
  refine WL.rd rfl rfl rfl (Rd.lss rfl rfl rfl) ?_
  refine WL.nil ?_
  refine thenQ.normal ?_
  refine WC.seq ?_
  first | refine WC.ite rfl (fun hc1 => ?_) (fun hc1 => ?_) | refine WC.cond rfl (fun hc1 => ?_) (fun hc1 => ?_)
  · skip
    refine WC.skip ?_
    refine thenQ.normal ?_
    refine WC.seq ?_
    refine WC.block ?_
    refine WC.seq ?_
    refine WC.region ?_
    refine WL.rd rfl rfl rfl ((by first | exact Rd.idx (k := i) rfl S24 rfl rfl (by omega) (by repeat (first | assumption | exact mS | apply mT)) (by first | omega | (simp only [List.length_cons, List.length_nil, List.length_append, List.length_map]; omega)) | exact Rd.idxA (k := i) rfl S24 rfl rfl (by omega) (by repeat (first | assumption | exact mS | apply mT)) (by first | omega | (simp only [List.length_cons, List.length_nil, List.length_append, List.length_map]; omega)) | exact Rd.idxR (k := i) rfl S24 rfl rfl (by omega) (by omega))) ?_
    refine WL.rd rfl rfl rfl ((by first | exact Rd.rowS rfl G45 rfl (by repeat (first | assumption | exact mS | apply mT)) (by repeat (first | exact NF.nil | apply NF.cons)) rfl | exact Rd.getS rfl G45 rfl (by repeat (first | assumption | exact mS | apply mT)) (by intro x; first | rfl | (cases x; rfl) | (rcases x with ⟨_, _, _⟩; rfl) | (rcases x with ⟨_, _, _, _⟩; rfl)) (by first | assumption | rfl | exact get!_of_lt (by omega)) (by repeat (first | exact NF.nil | apply NF.cons)) | exact Rd.getSA rfl G45 rfl (by repeat (first | assumption | exact mS | apply mT)) (by intro x; first | rfl | (cases x; rfl) | (rcases x with ⟨_, _, _⟩; rfl) | (rcases x with ⟨_, _, _, _⟩; rfl)) (by first | assumption | rfl | exact get!_of_lt (by omega)) (by repeat (first | exact NF.nil | apply NF.cons)))) ?_
    refine WL.op rfl ?_
    refine OpW.alloc rfl I45 rfl (by repeat (first | exact NF.nil | apply NF.cons)) rfl rfl ?_; intro b5
    refine WL.op rfl ?_
    refine OpW.storeS rfl G45 rfl rfl (by repeat (first | exact NF.nil | apply NF.cons)) (by repeat (first | assumption | exact Take.head _ | apply Take.tail)) rfl rfl (by repeat (first | exact NF.nil | apply NF.cons)) rfl ?_
    refine WL.nil ?_
    refine thenQ.normal ?_
    refine WC.region ?_
    refine WL.rd rfl rfl rfl (Rd.move rfl rfl) ?_
    refine WL.rd rfl rfl rfl ((by first | exact Rd.field rfl F45_0 rfl rfl | exact Rd.fieldE rfl F45_0 rfl (by repeat (first | assumption | exact mS | apply mT)) (by omega) | exact Rd.fieldA rfl F45_0 rfl (by repeat (first | assumption | exact mS | apply mT)) (by omega))) ?_
    refine WL.rd rfl rfl rfl (Rd.row1 (b := b5) (off := 0) (u := vs l[i]!.1) rfl C9 rfl (by repeat (first | assumption | exact mS | apply mT)) rfl) ?_
    refine WL.rd rfl rfl rfl ((by first | exact Rd.field rfl F45_1 rfl rfl | exact Rd.fieldE rfl F45_1 rfl (by repeat (first | assumption | exact mS | apply mT)) (by omega) | exact Rd.fieldA rfl F45_1 rfl (by repeat (first | assumption | exact mS | apply mT)) (by omega))) ?_
    refine WL.rd rfl rfl rfl (Rd.row1 (b := b5) (off := 1) (u := vs l[i]!.2) rfl C9 rfl (by repeat (first | assumption | exact mS | apply mT)) rfl) ?_
    refine WL.rd rfl rfl rfl (Rd.buildN (ps := [(0, _), (1, _)]) rfl Bs38 I38 rfl (by repeat (first | exact Evs.nil | apply Evs.cons rfl)) (by repeat (first | exact CellsOf.nil | apply CellsOf.cons rfl)) (by apply NFo.mk; repeat (first | exact NF.nil | apply NF.cons))) ?_
    refine WL.op rfl ?_
    refine OpW.mapUpdate (venc := sdv) (v := (l[i]!.2, true)) M61 K9 rfl rfl rfl rfl (by repeat (first | assumption | exact Take.head _ | apply Take.tail)) (by rfl) (by rfl) rfl ?_
    refine WL.nil ?_
    refine blockQ.normal ?_
    refine thenQ.normal ?_
    refine WC.region ?_
    refine WL.rd rfl rfl rfl (Rd.add rfl rfl rfl (by omega)) ?_
    refine WL.rd rfl rfl rfl (Rd.move rfl rfl) ?_
    refine WL.nil ?_
    exact loopQ2.mk (i + 1) (m.set l[i]!.1 (l[i]!.2, true)) ⟨by omega, i2.step hn (by omega)⟩ (by omega) (by repeat (first | exact Sub.nil | refine Sub.cons rfl (by first | rfl | (congr 1; omega) | assumption) ?_)) (fun w h => OwnL.sat (by repeat (first | exact OwnL.refl | apply OwnL.take (by repeat (first | exact Take.head _ | apply Take.tail)) | apply OwnL.drop)) w (h.thin (SubL.mem (by repeat (first | exact SubL.refl | refine SubL.cons (by repeat (first | assumption | exact mS | apply mT)) ?_ | refine SubL.skip ?_)))))
  · skip
    refine WC.exit ?_
    refine thenQ.exit ?_
    refine loopQ2.exit ?_
    refine blockQ.exit ?_
    refine thenQ.normal ?_
    refine WC.seq ?_
    refine WC.region ?_
    refine WL.rd rfl rfl rfl (Rd.move rfl rfl) ?_
    refine WL.rd rfl rfl rfl (Rd.assign rfl rfl) ?_
    refine WL.nil ?_
    refine thenQ.normal ?_
    refine WC.ret (Ret.one Try.results18 rfl ?_)
    rw [List.take_of_length_le (by omega)] at i2
    exact hk b6 m i2
end
end Go.Proofs.Ytbbeifdmgmadiaa
