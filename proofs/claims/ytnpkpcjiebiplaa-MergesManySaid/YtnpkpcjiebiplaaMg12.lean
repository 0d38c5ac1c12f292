/-
  Layer 8: lists shown, checked; the document's ranks and parts.
-/
import Derived.Test.YtnpkpcjiebiplaaMg11
import Derived.Test.YtnpkpcjiebiplaaBld
namespace Go.Proofs.Ytnpkpcjiebiplaa
open Go Go.SL
/-! ### plain -/
def lineS (p : Pr) : T := p.1 ++ [32] ++ p.2 ++ [10]
def showL (l : List Pr) : T := l.flatMap lineS
theorem showL_app (l m : List Pr) : showL (l ++ m) = showL l ++ showL m := by simp [showL]
theorem showL_next {l : List Pr} {i : Nat} (h : i < l.length) : showL (l.take (i + 1)) = showL (l.take i) ++ lineS l[i]! := by rw [take_snoc' h, showL_app]; simp [showL]
theorem lineS_len (p : Pr) : (lineS p).length = p.1.length + p.2.length + 2 := by simp [lineS]; omega
theorem showL_take {l : List Pr} {i : Nat} : (showL (l.take i)).length ≤ (showL l).length := by
  have h := congrArg List.length (congrArg showL (List.take_append_drop i l))
  rw [showL_app, List.length_append] at h; omega
theorem cut_join {c : UInt8} {s : T} (h : c ∈ s) : s = cutA c s ++ c :: cutB c s := by
  obtain ⟨h1, h2, h3⟩ := cut_found h
  have h4 := List.takeWhile_append_dropWhile (p := fun x : UInt8 => decide (x ≠ c)) (l := s)
  have h5 : (cutA c s ++ s.dropWhile fun x => decide (x ≠ c)).drop (cutA c s).length = s.dropWhile fun x => decide (x ≠ c) := by
    rw [List.drop_append_of_le_length (Nat.le_refl _), List.drop_length, List.nil_append]
  rw [show cutA c s ++ s.dropWhile (fun x => decide (x ≠ c)) = s from h4] at h5
  have h6 : s[(cutA c s).length]! = c := by
    cases hd : s.dropWhile fun x => decide (x ≠ c) with
    | nil =>
      rw [hd] at h5
      have := congrArg List.length h5
      rw [List.length_drop] at this
      simp at this; omega
    | cons x r =>
      have hx := List.head?_dropWhile_not (fun x : UInt8 => decide (x ≠ c)) s
      rw [hd] at hx h5
      have hx' : x = c := by simpa using hx
      have h7 := congrArg (fun q : T => q[0]?) h5
      simp only [List.getElem?_drop, Nat.add_zero, List.getElem?_cons_zero] at h7
      rw [get!_some h7, hx']
  conv => lhs; rw [← List.take_append_drop (cutA c s).length s, ← h2, drop_get h1, ← h3, h6]
theorem lineOk_show {s : T} (h : LineOk s) : s = lineS (pairOf s) ++ cutB 10 s := by
  have e1 := cut_join h.1
  have e2 := cut_join h.2.1
  have e3 : lineS (pairOf s) = cutA 10 s ++ [10] := by
    unfold lineS pairOf
    conv => rhs; rw [e2]
    simp
  conv => lhs; rw [e1]
  rw [e3]; simp
theorem Prs.shown {n : Nat} {out : List Pr} {s : T} {r : PRes} (h : Prs n out s r) (h0 : r.err = 0) : showL r.l = showL out ++ s := by
  induction h with
  | done => simp
  | many => simp at h0
  | form => simp at h0
  | twice => simp at h0
  | next h hn hl hp k ih =>
    rw [ih h0, showL_app, List.append_assoc]
    conv => rhs; rw [lineOk_show hl]
    simp [showL]
def known (pre : List Pr) (s : T) : Prop := s.length ≤ 1 ∨ ∃ p ∈ pre, p.1 ++ p.2 = s
instance (pre : List Pr) (s : T) : Decidable (known pre s) := by unfold known; infer_instance
theorem known_next {l : List Pr} {k : Nat} {s : T} (h : k < l.length) : known (l.take (k + 1)) s ↔ known (l.take k) s ∨ l[k]!.1 ++ l[k]!.2 = s := by
  unfold known
  rw [take_snoc' h]
  constructor
  · rintro (h | ⟨p, hp, e⟩)
    · exact .inl (.inl h)
    · rcases List.mem_append.1 hp with g | g
      · exact .inl (.inr ⟨p, g, e⟩)
      · rw [List.mem_singleton.1 g] at e; exact .inr e
  · rintro ((h | ⟨p, hp, e⟩) | e)
    · exact .inl h
    · exact .inr ⟨p, List.mem_append_left _ hp, e⟩
    · exact .inr ⟨_, List.mem_append_right _ (List.mem_singleton.2 rfl), e⟩
def okAt (l : List Pr) (i : Nat) : Prop := known (l.take i) l[i]!.1 ∧ known (l.take i) l[i]!.2
instance (l : List Pr) (i : Nat) : Decidable (okAt l i) := by unfold okAt; infer_instance
def InvIs (l : List Pr) (k : Int) : Prop := (k = -1 ∧ ∀ j, j < l.length → okAt l j) ∨ ∃ i : Nat, k = i ∧ i < l.length ∧ ¬ okAt l i ∧ ∀ j, j < i → okAt l j
theorem InvIs.uniq {l : List Pr} {k k' : Int} (h : InvIs l k) (h' : InvIs l k') : k = k' := by
  rcases h with ⟨rfl, h⟩ | ⟨i, rfl, h1, h2, h3⟩ <;> rcases h' with ⟨rfl, g⟩ | ⟨j, rfl, g1, g2, g3⟩
  · rfl
  · exact absurd (h j g1) g2
  · exact absurd (g i h1) h2
  · rcases Nat.lt_trichotomy i j with e | e | e
    · exact absurd (g3 i e) h2
    · rw [e]
    · exact absurd (h3 j e) g2
def rkI (l : List Pr) (p : Pr) : Int := match rk l p with
  | some r => (r : Int)
  | none => -1
theorem hasPair_iff {l : List Pr} {q : List T} {r : Nat} : HasPair l q r ↔ ∃ j, j + 1 < q.length ∧ rk l (q[j]!, q[j + 1]!) = some r := by
  constructor
  · rintro ⟨u, a, b, v, rfl, h⟩
    refine ⟨u.length, by simp, ?_⟩
    have e1 : (u ++ a :: b :: v)[u.length]! = a := get!_some (by simp)
    have e2 : (u ++ a :: b :: v)[u.length + 1]! = b := get!_some (by rw [List.getElem?_append_right (by omega)]; simp)
    rw [e1, e2]; exact h
  · rintro ⟨j, hj, h⟩
    refine ⟨q.take j, _, _, q.drop (j + 2), ?_, h⟩
    rw [← drop_get (by omega), ← drop_get (by omega), List.take_append_drop]
def Best (l : List Pr) (q : List T) (i : Nat) (k : Int) : Prop :=
  (k = -1 ∧ ∀ j, j < i → rk l (q[j]!, q[j + 1]!) = none) ∨ ∃ r : Nat, k = r ∧ (∃ j, j < i ∧ rk l (q[j]!, q[j + 1]!) = some r) ∧ ∀ j r', j < i → rk l (q[j]!, q[j + 1]!) = some r' → r ≤ r'
theorem Best.ge {l : List Pr} {q : List T} {i : Nat} {k : Int} (h : Best l q i k) : -1 ≤ k := by
  rcases h with ⟨rfl, _⟩ | ⟨r, rfl, _⟩ <;> omega
theorem rkI_ge (l : List Pr) (p : Pr) : -1 ≤ rkI l p := by unfold rkI; split <;> omega
theorem rkI_lt (l : List Pr) (p : Pr) : rkI l p < l.length + 1 := by
  unfold rkI
  split
  · rename_i r h; have := (rk_at h).1; omega
  · omega
theorem Best.next {l : List Pr} {q : List T} {i : Nat} {k : Int} (h : Best l q i k) : Best l q (i + 1) (if 0 ≤ rkI l (q[i]!, q[i + 1]!) ∧ (k < 0 ∨ rkI l (q[i]!, q[i + 1]!) < k) then rkI l (q[i]!, q[i + 1]!) else k) := by
  have cases_lt : ∀ {j}, j < i + 1 → j < i ∨ j = i := fun h => by omega
  cases hr : rk l (q[i]!, q[i + 1]!) with
  | none =>
    rw [show rkI l (q[i]!, q[i + 1]!) = -1 from by unfold rkI; rw [hr], if_neg (by omega)]
    rcases h with ⟨rfl, h⟩ | ⟨r, rfl, ⟨j, hj, e⟩, h⟩
    · exact .inl ⟨rfl, fun j hj => by rcases cases_lt hj with g | rfl; exact h j g; exact hr⟩
    · exact .inr ⟨r, rfl, ⟨j, by omega, e⟩, fun j r' hj e => by
        rcases cases_lt hj with g | rfl
        · exact h j r' g e
        · rw [hr] at e; cases e⟩
  | some s =>
    have hs : rkI l (q[i]!, q[i + 1]!) = (s : Int) := by unfold rkI; rw [hr]
    rw [hs]
    rcases h with ⟨rfl, h⟩ | ⟨r, rfl, ⟨j, hj, e⟩, h⟩
    · rw [if_pos (by omega)]
      exact .inr ⟨s, rfl, ⟨i, by omega, hr⟩, fun j r' hj e => by
        rcases cases_lt hj with g | rfl
        · rw [h j g] at e; cases e
        · rw [hr] at e; cases e; exact Nat.le_refl _⟩
    · by_cases c : s < r
      · rw [if_pos (by omega)]
        exact .inr ⟨s, rfl, ⟨i, by omega, hr⟩, fun j r' hj e => by
          rcases cases_lt hj with g | rfl
          · have := h j r' g e; omega
          · rw [hr] at e; cases e; exact Nat.le_refl _⟩
      · rw [if_neg (by omega)]
        exact .inr ⟨r, rfl, ⟨j, by omega, e⟩, fun j r' hj e => by
          rcases cases_lt hj with g | rfl
          · exact h j r' g e
          · rw [hr] at e; cases e; omega⟩
theorem pass_len_le (A B : T) : ∀ ps : List T, (pass A B ps).length ≤ ps.length
  | [] => Nat.le_refl _
  | [_] => Nat.le_refl _
  | a :: b :: r => by
    rw [pass]
    by_cases e : a = A ∧ b = B
    · rw [if_pos e]; have := pass_len_le A B r; simp only [List.length_cons]; omega
    · rw [if_neg e]; have := pass_len_le A B (b :: r); simp only [List.length_cons] at this ⊢; omega
theorem pass_lt {A B : T} : ∀ {u v : List T}, (pass A B (u ++ A :: B :: v)).length < (u ++ A :: B :: v).length
  | [], v => by
    rw [List.nil_append, pass, if_pos ⟨rfl, rfl⟩]; have := pass_len_le A B v; simp only [List.length_cons]; omega
  | [a], v => by
    show (pass A B (a :: A :: B :: v)).length < _
    rw [pass]
    by_cases e : a = A ∧ A = B
    · rw [if_pos e]; have := pass_len_le A B (B :: v); simp only [List.length_cons, List.length_append, List.length_nil] at this ⊢; omega
    · rw [if_neg e]; have := pass_lt (A := A) (B := B) (u := []) (v := v); simp only [List.length_cons, List.length_append, List.length_nil, List.nil_append] at this ⊢; omega
  | a :: b :: u, v => by
    show (pass A B (a :: b :: (u ++ A :: B :: v))).length < _
    rw [pass]
    by_cases e : a = A ∧ b = B
    · rw [if_pos e]; have := pass_lt (A := A) (B := B) (u := u) (v := v); simp only [List.length_cons, List.length_append] at this ⊢; omega
    · rw [if_neg e]; have := pass_lt (A := A) (B := B) (u := b :: u) (v := v); simp only [List.length_cons, List.length_append, List.cons_append] at this ⊢; omega
theorem pass_drop_yes {A B : T} {q : List T} {i : Nat} (h : i + 1 < q.length) (h1 : q[i]! = A) (h2 : q[i + 1]! = B) : pass A B (q.drop i) = (q[i]! ++ q[i + 1]!) :: pass A B (q.drop (i + 2)) := by
  rw [drop_get (by omega), drop_get (l := q) (j := i + 1) (by omega), pass, if_pos ⟨h1, h2⟩]
theorem pass_drop_no {A B : T} {q : List T} {i : Nat} (h : i < q.length) (h1 : ¬ (i + 1 < q.length ∧ q[i]! = A ∧ q[i + 1]! = B)) : pass A B (q.drop i) = q[i]! :: pass A B (q.drop (i + 1)) := by
  rw [drop_get h]
  by_cases g : i + 1 < q.length
  · rw [drop_get (l := q) (j := i + 1) g, pass, if_neg (fun e => h1 ⟨g, e⟩)]
  · rw [List.drop_of_length_le (by omega)]; rfl
theorem mem_flat_len {q : List T} {w : T} (h : q.flatten = w) {i : Nat} (hi : i < q.length) : q[i]!.length ≤ w.length := by
  have e : q = q.take i ++ q[i]! :: q.drop (i + 1) := by rw [← drop_get hi, List.take_append_drop]
  rw [e] at h
  rw [← h]; simp; omega
theorem mem_flat_len2 {q : List T} {w : T} (h : q.flatten = w) {i : Nat} (hi : i + 1 < q.length) : q[i]!.length + q[i + 1]!.length ≤ w.length := by
  have e : q = q.take i ++ q[i]! :: q[i + 1]! :: q.drop (i + 2) := by rw [← drop_get (l := q) (j := i + 1) hi, ← drop_get (by omega), List.take_append_drop]
  rw [e] at h
  rw [← h]; simp; omega
/-! ### walks -/
section
variable {R : List RO} {O O' : List Own} {POST : Value → List RO → List Own → Prop} {l : List Pr} {lv : Value}
set_option maxRecDepth 20000 in
theorem show_spec (hR : SlE encP lv l ∈ R) (hsz : (showL l).length ≤ 140737488355328) (hk : POST (vs (showL l)) R O) : Fun Try.prog 21 #[lv] R O POST := by
  refine Fun.len hR fun hll => ?_
  refine Fun.enter (l := [_]) Try.func21 rfl Try.ntmps21 rfl (L0 := [(0, _)]) rfl ?_
  refine WC.seq ?_
  refine WC.region ?_
  refine WL.rd rfl rfl rfl (Rd.assign rfl rfl) ?_
  refine WL.nil ?_
  refine thenQ.normal ?_
  refine WC.seq ?_
  refine WC.region ?_
  refine WL.op rfl ?_
  refine OpW.alloc rfl I72 rfl (by repeat (first | exact NF.nil | apply NF.cons)) rfl rfl ?_; intro b3
  refine WL.heap (fun w h => Sat.accNil (e := 5) (size := 1) (enc := one vy) h) ?_
  refine WL.nil ?_
  refine thenQ.normal ?_
  refine WC.seq ?_
  refine WC.seq ?_
  refine WC.region ?_
  refine WL.rd rfl rfl rfl (Rd.move rfl rfl) ?_
  refine WL.rd rfl rfl rfl ((by first | exact Rd.lenE rfl rfl Try.underlying24 (by repeat (first | assumption | exact mS | apply mT)) | exact Rd.lenA rfl rfl Try.underlying24 (by repeat (first | assumption | exact mS | apply mT)) | exact Rd.len rfl rfl Try.underlying24)) ?_
  refine WL.rd rfl rfl rfl (Rd.move rfl rfl) ?_
  refine WL.nil ?_
  refine thenQ.normal ?_
  refine WC.block ?_
  refine WC.pick [8, 3, 6, 7] (by repeat (first | exact Pick.nil | apply Pick.cons rfl)) ?_
  refine WC.loop3 1 (fun (i : Nat) (p : Value) (v : Value) => [(8, vi i)]) (fun (i : Nat) (p : Value) (v : Value) => rowC b3 72 [p, v] :: accC 5 1 (one vy) v (showL (l.take i)) :: O) (fun (i : Nat) (p : Value) (v : Value) => i ≤ l.length ∧ (p = .pointer none ∨ p = pself b3 0)) (fun (i : Nat) (p : Value) (v : Value) => l.length - i) (0) (.pointer none) (nilS) (by repeat (first | exact Split.zero | apply Split.succ)) ?hinv1 (by repeat (first | exact Sub.nil | refine Sub.cons rfl (by first | rfl | (congr 1; omega) | assumption) ?_)) (fun w h => OwnL.sat (by repeat (first | exact OwnL.refl | apply OwnL.take (by repeat (first | exact Take.head _ | apply Take.tail)) | apply OwnL.drop)) w (h.thin (SubL.mem (by repeat (first | exact SubL.refl | refine SubL.cons (by repeat (first | assumption | exact mS | apply mT)) ?_ | refine SubL.skip ?_))))) ?_
  case hinv1 =>
    exact ⟨Nat.zero_le _, .inl rfl⟩
  intro i p v
  rintro ⟨i1, i2⟩
  refine WC.seq ?_
  refine WC.region ?_
  refine WL.rd rfl rfl rfl (Rd.lss rfl rfl rfl) ?_
  refine WL.nil ?_
  refine thenQ.normal ?_
  refine WC.seq ?_
  first | refine WC.ite rfl (fun hc1 => ?_) (fun hc1 => ?_) | refine WC.cond rfl (fun hc1 => ?_) (fun hc1 => ?_)
  · skip
    have hn := showL_next (l := l) (i := i) (by omega)
    have hn2 := congrArg List.length hn
    have hn3 := showL_take (l := l) (i := i + 1)
    have hn4 := lineS_len l[i]!
    rw [List.length_append] at hn2
    refine WC.skip ?_
    refine thenQ.normal ?_
    refine WC.seq ?_
    refine WC.block ?_
    refine WC.seq ?_
    refine WC.region ?_
    refine WL.rd rfl rfl rfl ((by first | exact Rd.idx (k := i) rfl S24 rfl rfl (by omega) (by repeat (first | assumption | exact mS | apply mT)) (by first | omega | (simp only [List.length_cons, List.length_nil, List.length_append, List.length_map]; omega)) | exact Rd.idxA (k := i) rfl S24 rfl rfl (by omega) (by repeat (first | assumption | exact mS | apply mT)) (by first | omega | (simp only [List.length_cons, List.length_nil, List.length_append, List.length_map]; omega)) | exact Rd.idxR (k := i) rfl S24 rfl rfl (by omega) (by omega))) ?_
    refine WL.rd rfl rfl rfl (Rd.getS (enc := encP) (size := 2) (xs := l) (k := i) (a := l[i]!) (cs := [vs l[i]!.1, vs l[i]!.2]) rfl G42 rfl hR (fun x => rfl) (get!_of_lt (by omega)) (NF.refl _)) ?_
    refine WL.op rfl ?_
    refine OpW.alloc rfl I42 rfl (by repeat (first | exact NF.nil | apply NF.cons)) rfl rfl ?_; intro b5
    refine WL.op rfl ?_
    refine OpW.storeS rfl G42 rfl rfl (by repeat (first | exact NF.nil | apply NF.cons)) (by repeat (first | assumption | exact Take.head _ | apply Take.tail)) rfl rfl (by repeat (first | exact NF.nil | apply NF.cons)) rfl ?_
    refine WL.nil ?_
    refine thenQ.normal ?_
    refine WC.region ?_
    refine WL.rd rfl rfl rfl ((by first | exact Rd.field rfl F42_0 rfl rfl | exact Rd.fieldE rfl F42_0 rfl (by repeat (first | assumption | exact mS | apply mT)) (by omega) | exact Rd.fieldA rfl F42_0 rfl (by repeat (first | assumption | exact mS | apply mT)) (by omega))) ?_
    refine WL.rd rfl rfl rfl ((by first | exact Rd.get rfl C9 rfl (by repeat (first | assumption | exact mS | apply mT)) (by first | assumption | rfl | exact get!_of_lt (by omega)) | exact Rd.getA rfl C9 rfl (by repeat (first | assumption | exact mS | apply mT)) (by first | assumption | rfl | exact get!_of_lt (by omega)) | exact Rd.row1 rfl C9 rfl (by repeat (first | assumption | exact mS | apply mT)) (by rfl) | exact Rd.getF rfl C9 rfl (by repeat (first | assumption | exact mS | apply mT)) (by intro x; first | rfl | (cases x; rfl) | (rcases x with ⟨_, _, _⟩; rfl) | (rcases x with ⟨_, _, _, _⟩; rfl)) rfl (by first | assumption | rfl | exact get!_of_lt (by omega)) (by rfl) | exact Rd.getFA rfl C9 rfl (by repeat (first | assumption | exact mS | apply mT)) (by intro x; first | rfl | (cases x; rfl) | (rcases x with ⟨_, _, _⟩; rfl) | (rcases x with ⟨_, _, _, _⟩; rfl)) rfl (by first | assumption | rfl | exact get!_of_lt (by omega)) (by rfl))) ?_
    refine WL.rd rfl rfl rfl (Rd.scat rfl rfl rfl (by simp only [List.length_cons, List.length_nil]; omega)) ?_
    refine WL.rd rfl rfl rfl ((by first | exact Rd.field rfl F42_1 rfl rfl | exact Rd.fieldE rfl F42_1 rfl (by repeat (first | assumption | exact mS | apply mT)) (by omega) | exact Rd.fieldA rfl F42_1 rfl (by repeat (first | assumption | exact mS | apply mT)) (by omega))) ?_
    refine WL.rd rfl rfl rfl ((by first | exact Rd.get rfl C9 rfl (by repeat (first | assumption | exact mS | apply mT)) (by first | assumption | rfl | exact get!_of_lt (by omega)) | exact Rd.getA rfl C9 rfl (by repeat (first | assumption | exact mS | apply mT)) (by first | assumption | rfl | exact get!_of_lt (by omega)) | exact Rd.row1 rfl C9 rfl (by repeat (first | assumption | exact mS | apply mT)) (by rfl) | exact Rd.getF rfl C9 rfl (by repeat (first | assumption | exact mS | apply mT)) (by intro x; first | rfl | (cases x; rfl) | (rcases x with ⟨_, _, _⟩; rfl) | (rcases x with ⟨_, _, _, _⟩; rfl)) rfl (by first | assumption | rfl | exact get!_of_lt (by omega)) (by rfl) | exact Rd.getFA rfl C9 rfl (by repeat (first | assumption | exact mS | apply mT)) (by intro x; first | rfl | (cases x; rfl) | (rcases x with ⟨_, _, _⟩; rfl) | (rcases x with ⟨_, _, _, _⟩; rfl)) rfl (by first | assumption | rfl | exact get!_of_lt (by omega)) (by rfl))) ?_
    refine WL.rd rfl rfl rfl (Rd.scat rfl rfl rfl (by simp only [List.length_append, List.length_cons, List.length_nil]; omega)) ?_
    refine WL.rd rfl rfl rfl (Rd.scat rfl rfl rfl (by simp only [List.length_append, List.length_cons, List.length_nil]; omega)) ?_
    refine WL.op rfl ?_
    refine OpW.call rfl rfl (by repeat (first | exact Evs.nil | apply Evs.cons rfl)) (by kernel_rfl) rfl rfl rfl ?_
    refine Fun.heap (R' := R) (O' := rowC b3 72 [p, v] :: accC 5 1 (one vy) v (showL (l.take i)) :: O) (fun w h => OwnL.sat (by repeat (first | exact OwnL.refl | apply OwnL.take (by repeat (first | exact Take.head _ | apply Take.tail)) | apply OwnL.drop)) w (h.thin (SubL.mem (by repeat (first | exact SubL.refl | refine SubL.cons (by repeat (first | assumption | exact mS | apply mT)) ?_ | refine SubL.skip ?_))))) ?_
    refine bws_spec (off := 0) (cs := [p, v]) (bs := showL (l.take i)) (s := lineS l[i]!) i2 rfl rfl (by kernel_rfl) (by omega) ?_; intro v19 hv19
    refine WL.nil ?_
    refine blockQ.normal ?_
    refine thenQ.normal ?_
    refine WC.region ?_
    refine WL.rd rfl rfl rfl (Rd.add rfl rfl rfl (by omega)) ?_
    refine WL.rd rfl rfl rfl (Rd.move rfl rfl) ?_
    refine WL.nil ?_
    exact loopQ3.mk (i + 1) (pself b3 0) v19 ⟨by omega, .inr rfl⟩ (by omega) (by repeat (first | exact Sub.nil | refine Sub.cons rfl (by first | rfl | (congr 1; omega) | assumption) ?_)) (fun w h => by rw [hn]; exact (fun w h => OwnL.sat (by repeat (first | exact OwnL.refl | apply OwnL.take (by repeat (first | exact Take.head _ | apply Take.tail)) | apply OwnL.drop)) w (h.thin (SubL.mem (by repeat (first | exact SubL.refl | refine SubL.cons (by repeat (first | assumption | exact mS | apply mT)) ?_ | refine SubL.skip ?_))))) w h)
  · skip
    refine WC.exit ?_
    refine thenQ.exit ?_
    refine loopQ3.exit ?_
    refine blockQ.exit ?_
    refine thenQ.normal ?_
    refine WC.seq ?_
    refine WC.region ?_
    refine WL.op rfl ?_
    refine OpW.call rfl rfl (by repeat (first | exact Evs.nil | apply Evs.cons rfl)) (by kernel_rfl) rfl rfl rfl ?_
    refine bstr_spec (off := 0) (cs := [p, v]) rfl ?_
    refine WL.rd rfl rfl rfl (Rd.assign rfl rfl) ?_
    refine WL.nil ?_
    refine thenQ.normal ?_
    refine WC.heap (R' := R) (O' := O) (fun w h => OwnL.sat (by repeat (first | exact OwnL.refl | apply OwnL.take (by repeat (first | exact Take.head _ | apply Take.tail)) | apply OwnL.drop)) w (h.thin (SubL.mem (by repeat (first | exact SubL.refl | refine SubL.cons (by repeat (first | assumption | exact mS | apply mT)) ?_ | refine SubL.skip ?_))))) ?_
    refine WC.ret (Ret.one Try.results21 rfl ?_)
    obtain rfl : i = l.length := by omega
    rw [List.take_length]
    exact hk
set_option maxRecDepth 20000 in
theorem is_spec {s : T} {b3 b : Nat} {m : GoMap T Bool} {pre : List Pr} (h3 : rowC b3 54 [.map (some b)] ∈ O) (hm : mapC vs vbl b m ∈ O) (hp : ∀ s, m.get s = some true ↔ ∃ p ∈ pre, p.1 ++ p.2 = s)
    (hk : POST (.bool (decide (known pre s))) R O) : Fun Try.prog 23 #[vs s, .pointer (some ⟨b3, 0, none⟩)] R O POST := by
  refine Fun.enter (l := [_, _]) Try.func23 rfl Try.ntmps23 rfl (L0 := [(0, _), (1, _)]) rfl ?_
  refine WC.seq ?_
  refine WC.region ?_
  refine WL.rd rfl rfl rfl (Rd.assign rfl rfl) ?_
  refine WL.nil ?_
  refine thenQ.normal ?_
  refine WC.pick [0, 1] (by repeat (first | exact Pick.nil | apply Pick.cons rfl)) ?_
  refine WC.val 3 (.bool (decide (known pre s))) ?_ ?_
  · skip
    refine WC.region ?_
    refine WL.rd rfl rfl rfl (Rd.move rfl rfl) ?_
    refine WL.rd rfl rfl rfl (Rd.slen (ts := #[]) (ty := 0) rfl rfl Try.underlying9) ?_
    refine WL.rd rfl rfl rfl (Rd.leq rfl rfl rfl) ?_
    refine WL.rd rfl rfl rfl (Rd.move rfl rfl) ?_
    refine WL.case 7 rfl (fun hg7 => ?_) (fun hg7 => ?_)
    · skip
      refine WL.no rfl rfl rfl rfl rfl rfl ?_
      refine WL.no rfl rfl rfl rfl rfl rfl ?_
      refine WL.no rfl rfl rfl rfl rfl rfl ?_
      refine WL.rd rfl rfl rfl (Rd.pick_t rfl rfl rfl) ?_
      refine WL.rd rfl rfl rfl (Rd.assign rfl rfl) ?_
      refine WL.nil ?_
      exact ⟨by repeat (first | exact Sub.nil | refine Sub.cons rfl (by first | rfl | (first | exact vb_t (.inl (by omega)) | exact vb ⟨fun h => .inr ((hp s).1 h), fun h => (hp s).2 (h.elim (fun g => absurd g (by omega)) id)⟩)) ?_), by first | exact (fun _ h => h.thin (SubL.mem (by repeat (first | exact SubL.refl | refine SubL.cons (by repeat (first | assumption | exact mS | apply mT)) ?_ | refine SubL.skip ?_)))) | exact (fun w h => OwnL.sat (by repeat (first | exact OwnL.refl | apply OwnL.take (by repeat (first | exact Take.head _ | apply Take.tail)) | apply OwnL.drop)) w (h.thin (SubL.mem (by repeat (first | exact SubL.refl | refine SubL.cons (by repeat (first | assumption | exact mS | apply mT)) ?_ | refine SubL.skip ?_)))))⟩
    · skip
      refine WL.rd_yes rfl rfl rfl rfl rfl rfl (Rd.row1 (off := 0) (u := .map (some b)) rfl C54 rfl h3 rfl) ?_
      refine WL.rd_yes rfl rfl rfl rfl rfl rfl (Rd.move rfl rfl) ?_
      refine WL.rd_yes rfl rfl rfl rfl rfl rfl (Rd.lookup (k := s) M54 K9 rfl rfl rfl hm rfl) ?_
      refine WL.say 10 (u := .bool (decide (m.get s = some true))) rfl (by cases m.get s with | none => rfl | some b => cases b <;> rfl) ?_
      refine WL.rd rfl rfl rfl (Rd.pick_f rfl rfl rfl) ?_
      refine WL.rd rfl rfl rfl (Rd.assign rfl rfl) ?_
      refine WL.nil ?_
      exact ⟨by repeat (first | exact Sub.nil | refine Sub.cons rfl (by first | rfl | (first | exact vb_t (.inl (by omega)) | exact vb ⟨fun h => .inr ((hp s).1 h), fun h => (hp s).2 (h.elim (fun g => absurd g (by omega)) id)⟩)) ?_), by first | exact (fun _ h => h.thin (SubL.mem (by repeat (first | exact SubL.refl | refine SubL.cons (by repeat (first | assumption | exact mS | apply mT)) ?_ | refine SubL.skip ?_)))) | exact (fun w h => OwnL.sat (by repeat (first | exact OwnL.refl | apply OwnL.take (by repeat (first | exact Take.head _ | apply Take.tail)) | apply OwnL.drop)) w (h.thin (SubL.mem (by repeat (first | exact SubL.refl | refine SubL.cons (by repeat (first | assumption | exact mS | apply mT)) ?_ | refine SubL.skip ?_)))))⟩
  · skip
    refine WC.ret (Ret.one Try.results23 rfl ?_)
    exact hk
set_option maxRecDepth 20000 in
theorem invalid_spec (hR : SlE encP lv l ∈ R) (hq : ∀ p ∈ l, p.1.length + p.2.length ≤ 9000000000000000000) (hk : ∀ k, InvIs l k → POST (vi k) R O) : Fun Try.prog 13 #[lv] R O POST := by
  refine Fun.len hR fun hll => ?_
  refine Fun.enter (l := [_]) Try.func13 rfl Try.ntmps13 rfl (L0 := [(0, _)]) rfl ?_
  refine WC.seq ?_
  refine WC.region ?_
  refine WL.rd rfl rfl rfl (Rd.assign rfl rfl) ?_
  refine WL.nil ?_
  refine thenQ.normal ?_
  refine WC.seq ?_
  refine WC.region ?_
  refine WL.op rfl ?_
  refine OpW.makeMap vs vbl rfl rfl rfl ?_; intro b7
  refine WL.op rfl ?_
  refine OpW.alloc rfl I54 rfl (by repeat (first | exact NF.nil | apply NF.cons)) rfl rfl ?_; intro b3
  refine WL.op rfl ?_
  refine OpW.store1 rfl Z54 rfl rfl (by first | exact ⟨rfl, rfl⟩ | assumption) (by repeat (first | assumption | exact Take.head _ | apply Take.tail)) (by first | (simp; done) | omega | exact of_decide_eq_true rfl | (simp only [List.length_append, List.length_replicate, List.length_map, List.length_set]; omega)) rfl ?_
  refine WL.nil ?_
  refine thenQ.normal ?_
  refine WC.seq ?_
  refine WC.region ?_
  refine WL.rd rfl rfl rfl (Rd.func rfl (by repeat (first | exact Evs.nil | apply Evs.cons rfl)) (by repeat (first | exact Evs.nil | apply Evs.cons rfl)) ⟨_, rfl⟩) ?_
  refine WL.rd rfl rfl rfl (Rd.assign rfl rfl) ?_
  refine WL.nil ?_
  refine thenQ.normal ?_
  refine WC.seq ?_
  refine WC.seq ?_
  refine WC.region ?_
  refine WL.rd rfl rfl rfl (Rd.move rfl rfl) ?_
  refine WL.rd rfl rfl rfl ((by first | exact Rd.lenE rfl rfl Try.underlying24 (by repeat (first | assumption | exact mS | apply mT)) | exact Rd.lenA rfl rfl Try.underlying24 (by repeat (first | assumption | exact mS | apply mT)) | exact Rd.len rfl rfl Try.underlying24)) ?_
  refine WL.rd rfl rfl rfl (Rd.move rfl rfl) ?_
  refine WL.nil ?_
  refine thenQ.normal ?_
  refine WC.block ?_
  refine WC.pick [11, 3, 4, 9, 10] (by repeat (first | exact Pick.nil | apply Pick.cons rfl)) ?_
  refine WC.loop2 1 (fun (i : Nat) (m : GoMap T Bool) => [(11, vi i)]) (fun (i : Nat) (m : GoMap T Bool) => rowC b3 54 [.map (some b7)] :: mapC vs vbl b7 m :: O) (fun (i : Nat) (m : GoMap T Bool) => i ≤ l.length ∧ (∀ s, m.get s = some true ↔ ∃ p ∈ l.take i, p.1 ++ p.2 = s) ∧ ∀ j, j < i → okAt l j) (fun (i : Nat) (m : GoMap T Bool) => l.length - i) (0) (GoMap.empty) (by repeat (first | exact Split.zero | apply Split.succ)) ?hinv1 (by repeat (first | exact Sub.nil | refine Sub.cons rfl (by first | rfl | (congr 1; omega) | assumption) ?_)) (fun _ h => h) ?_
  case hinv1 =>
    exact ⟨Nat.zero_le _, fun s => by simp, fun j h => absurd h (Nat.not_lt_zero _)⟩
  intro i m
  rintro ⟨i1, i2, i3⟩
  refine WC.seq ?_
  refine WC.region ?_
  refine WL.rd rfl rfl rfl (Rd.lss rfl rfl rfl) ?_
  refine WL.nil ?_
  refine thenQ.normal ?_
  refine WC.seq ?_
  first | refine WC.ite rfl (fun hc1 => ?_) (fun hc1 => ?_) | refine WC.cond rfl (fun hc1 => ?_) (fun hc1 => ?_)
  · skip
    have hqi := hq l[i]! (get!_mem (by omega))
    refine WC.skip ?_
    refine thenQ.normal ?_
    refine WC.seq ?_
    refine WC.block ?_
    refine WC.seq ?_
    refine WC.region ?_
    refine WL.rd rfl rfl rfl (Rd.move rfl rfl) ?_
    refine WL.rd rfl rfl rfl ((by first | exact Rd.idx (k := i) rfl S24 rfl rfl (by omega) (by repeat (first | assumption | exact mS | apply mT)) (by first | omega | (simp only [List.length_cons, List.length_nil, List.length_append, List.length_map]; omega)) | exact Rd.idxA (k := i) rfl S24 rfl rfl (by omega) (by repeat (first | assumption | exact mS | apply mT)) (by first | omega | (simp only [List.length_cons, List.length_nil, List.length_append, List.length_map]; omega)) | exact Rd.idxR (k := i) rfl S24 rfl rfl (by omega) (by omega))) ?_
    refine WL.rd rfl rfl rfl (Rd.getS (enc := encP) (size := 2) (xs := l) (k := i) (a := l[i]!) (cs := [vs l[i]!.1, vs l[i]!.2]) rfl G42 rfl hR (fun x => rfl) (get!_of_lt (by omega)) (NF.refl _)) ?_
    refine WL.op rfl ?_
    refine OpW.alloc rfl I42 rfl (by repeat (first | exact NF.nil | apply NF.cons)) rfl rfl ?_; intro b6
    refine WL.rd rfl rfl rfl (Rd.assign rfl rfl) ?_
    refine WL.op rfl ?_
    refine OpW.storeS rfl G42 rfl rfl (by repeat (first | exact NF.nil | apply NF.cons)) (by repeat (first | assumption | exact Take.head _ | apply Take.tail)) rfl rfl (by repeat (first | exact NF.nil | apply NF.cons)) rfl ?_
    refine WL.nil ?_
    refine thenQ.normal ?_
    refine WC.seq ?_
    refine WC.pick [3, 4, 5, 6, 9, 10, 11] (by repeat (first | exact Pick.nil | apply Pick.cons rfl)) ?_
    refine WC.val 27 (.bool (decide (¬ okAt l i))) ?_ ?_
    · skip
      refine WC.region ?_
      refine WL.rd rfl rfl rfl (Rd.move rfl rfl) ?_
      refine WL.rd rfl rfl rfl ((by first | exact Rd.field rfl F42_0 rfl rfl | exact Rd.fieldE rfl F42_0 rfl (by repeat (first | assumption | exact mS | apply mT)) (by omega) | exact Rd.fieldA rfl F42_0 rfl (by repeat (first | assumption | exact mS | apply mT)) (by omega))) ?_
      refine WL.rd rfl rfl rfl ((by first | exact Rd.get rfl C9 rfl (by repeat (first | assumption | exact mS | apply mT)) (by first | assumption | rfl | exact get!_of_lt (by omega)) | exact Rd.getA rfl C9 rfl (by repeat (first | assumption | exact mS | apply mT)) (by first | assumption | rfl | exact get!_of_lt (by omega)) | exact Rd.row1 rfl C9 rfl (by repeat (first | assumption | exact mS | apply mT)) (by rfl) | exact Rd.getF rfl C9 rfl (by repeat (first | assumption | exact mS | apply mT)) (by intro x; first | rfl | (cases x; rfl) | (rcases x with ⟨_, _, _⟩; rfl) | (rcases x with ⟨_, _, _, _⟩; rfl)) rfl (by first | assumption | rfl | exact get!_of_lt (by omega)) (by rfl) | exact Rd.getFA rfl C9 rfl (by repeat (first | assumption | exact mS | apply mT)) (by intro x; first | rfl | (cases x; rfl) | (rcases x with ⟨_, _, _⟩; rfl) | (rcases x with ⟨_, _, _, _⟩; rfl)) rfl (by first | assumption | rfl | exact get!_of_lt (by omega)) (by rfl))) ?_
      refine WL.op rfl ?_
      refine OpW.call rfl rfl (by repeat (first | exact Evs.nil | apply Evs.cons rfl)) (by kernel_rfl) rfl rfl rfl ?_
      refine is_spec (pre := l.take i) (by repeat (first | assumption | exact mS | apply mT)) (by repeat (first | assumption | exact mS | apply mT)) i2 ?_
      refine WL.rd rfl rfl rfl ((by first | exact Rd.notd rfl rfl | exact Rd.not rfl rfl)) ?_
      refine WL.rd rfl rfl rfl (Rd.move rfl rfl) ?_
      refine WL.case 21 rfl (fun hg21 => ?_) (fun hg21 => ?_)
      · skip
        refine WL.no rfl rfl rfl rfl rfl rfl ?_
        refine WL.no rfl rfl rfl rfl rfl rfl ?_
        refine WL.no rfl rfl rfl rfl rfl rfl ?_
        refine WL.no rfl rfl rfl rfl rfl rfl ?_
        refine WL.no rfl rfl rfl rfl rfl rfl ?_
        refine WL.rd rfl rfl rfl (Rd.pick_t rfl rfl rfl) ?_
        refine WL.nil ?_
        exact ⟨by repeat (first | exact Sub.nil | refine Sub.cons rfl (by first | rfl | (first | exact vb_t (fun h => hg21 h.1) | exact vb ⟨fun h g => h g.2, fun h g => h ⟨Decidable.not_not.1 hg21, g⟩⟩)) ?_), by first | exact (fun _ h => h.thin (SubL.mem (by repeat (first | exact SubL.refl | refine SubL.cons (by repeat (first | assumption | exact mS | apply mT)) ?_ | refine SubL.skip ?_)))) | exact (fun w h => OwnL.sat (by repeat (first | exact OwnL.refl | apply OwnL.take (by repeat (first | exact Take.head _ | apply Take.tail)) | apply OwnL.drop)) w (h.thin (SubL.mem (by repeat (first | exact SubL.refl | refine SubL.cons (by repeat (first | assumption | exact mS | apply mT)) ?_ | refine SubL.skip ?_)))))⟩
      · skip
        refine WL.rd_yes rfl rfl rfl rfl rfl rfl (Rd.move rfl rfl) ?_
        refine WL.rd_yes rfl rfl rfl rfl rfl rfl ((by first | exact Rd.field rfl F42_1 rfl rfl | exact Rd.fieldE rfl F42_1 rfl (by repeat (first | assumption | exact mS | apply mT)) (by omega) | exact Rd.fieldA rfl F42_1 rfl (by repeat (first | assumption | exact mS | apply mT)) (by omega))) ?_
        refine WL.rd_yes rfl rfl rfl rfl rfl rfl ((by first | exact Rd.get rfl C9 rfl (by repeat (first | assumption | exact mS | apply mT)) (by first | assumption | rfl | exact get!_of_lt (by omega)) | exact Rd.getA rfl C9 rfl (by repeat (first | assumption | exact mS | apply mT)) (by first | assumption | rfl | exact get!_of_lt (by omega)) | exact Rd.row1 rfl C9 rfl (by repeat (first | assumption | exact mS | apply mT)) (by rfl) | exact Rd.getF rfl C9 rfl (by repeat (first | assumption | exact mS | apply mT)) (by intro x; first | rfl | (cases x; rfl) | (rcases x with ⟨_, _, _⟩; rfl) | (rcases x with ⟨_, _, _, _⟩; rfl)) rfl (by first | assumption | rfl | exact get!_of_lt (by omega)) (by rfl) | exact Rd.getFA rfl C9 rfl (by repeat (first | assumption | exact mS | apply mT)) (by intro x; first | rfl | (cases x; rfl) | (rcases x with ⟨_, _, _⟩; rfl) | (rcases x with ⟨_, _, _, _⟩; rfl)) rfl (by first | assumption | rfl | exact get!_of_lt (by omega)) (by rfl))) ?_
        refine WL.op_yes rfl rfl rfl rfl ?_
        refine OpW.call rfl rfl (by repeat (first | exact Evs.nil | apply Evs.cons rfl)) (by kernel_rfl) rfl rfl rfl ?_
        refine is_spec (pre := l.take i) (by repeat (first | assumption | exact mS | apply mT)) (by repeat (first | assumption | exact mS | apply mT)) i2 ?_
        refine WL.rd_yes rfl rfl rfl rfl rfl rfl ((by first | exact Rd.notd rfl rfl | exact Rd.not rfl rfl)) ?_
        refine WL.rd rfl rfl rfl (Rd.pick_f rfl rfl rfl) ?_
        refine WL.nil ?_
        exact ⟨by repeat (first | exact Sub.nil | refine Sub.cons rfl (by first | rfl | (first | exact vb_t (fun h => hg21 h.1) | exact vb ⟨fun h g => h g.2, fun h g => h ⟨Decidable.not_not.1 hg21, g⟩⟩)) ?_), by first | exact (fun _ h => h.thin (SubL.mem (by repeat (first | exact SubL.refl | refine SubL.cons (by repeat (first | assumption | exact mS | apply mT)) ?_ | refine SubL.skip ?_)))) | exact (fun w h => OwnL.sat (by repeat (first | exact OwnL.refl | apply OwnL.take (by repeat (first | exact Take.head _ | apply Take.tail)) | apply OwnL.drop)) w (h.thin (SubL.mem (by repeat (first | exact SubL.refl | refine SubL.cons (by repeat (first | assumption | exact mS | apply mT)) ?_ | refine SubL.skip ?_)))))⟩
    · skip
      first | refine WC.ite rfl (fun hc2 => ?_) (fun hc2 => ?_) | refine WC.cond rfl (fun hc2 => ?_) (fun hc2 => ?_)
      · skip
        refine WC.seq ?_
        refine WC.region ?_
        refine WL.rd rfl rfl rfl (Rd.move rfl rfl) ?_
        refine WL.rd rfl rfl rfl (Rd.assign rfl rfl) ?_
        refine WL.nil ?_
        refine thenQ.normal ?_
        refine WC.heap (R' := R) (O' := O) (fun w h => OwnL.sat (by repeat (first | exact OwnL.refl | apply OwnL.take (by repeat (first | exact Take.head _ | apply Take.tail)) | apply OwnL.drop)) w (h.thin (SubL.mem (by repeat (first | exact SubL.refl | refine SubL.cons (by repeat (first | assumption | exact mS | apply mT)) ?_ | refine SubL.skip ?_))))) ?_
        refine WC.ret (Ret.one Try.results13 rfl ?_)
        exact hk i (.inr ⟨i, rfl, by omega, hc2, i3⟩)
      · skip
        refine WC.skip ?_
        refine thenQ.normal ?_
        refine WC.region ?_
        refine WL.rd rfl rfl rfl (Rd.row1 (b := b3) (off := 0) (u := .map (some b7)) rfl C54 rfl (by repeat (first | assumption | exact mS | apply mT)) rfl) ?_
        refine WL.rd rfl rfl rfl ((by first | exact Rd.field rfl F42_0 rfl rfl | exact Rd.fieldE rfl F42_0 rfl (by repeat (first | assumption | exact mS | apply mT)) (by omega) | exact Rd.fieldA rfl F42_0 rfl (by repeat (first | assumption | exact mS | apply mT)) (by omega))) ?_
        refine WL.rd rfl rfl rfl ((by first | exact Rd.get rfl C9 rfl (by repeat (first | assumption | exact mS | apply mT)) (by first | assumption | rfl | exact get!_of_lt (by omega)) | exact Rd.getA rfl C9 rfl (by repeat (first | assumption | exact mS | apply mT)) (by first | assumption | rfl | exact get!_of_lt (by omega)) | exact Rd.row1 rfl C9 rfl (by repeat (first | assumption | exact mS | apply mT)) (by rfl) | exact Rd.getF rfl C9 rfl (by repeat (first | assumption | exact mS | apply mT)) (by intro x; first | rfl | (cases x; rfl) | (rcases x with ⟨_, _, _⟩; rfl) | (rcases x with ⟨_, _, _, _⟩; rfl)) rfl (by first | assumption | rfl | exact get!_of_lt (by omega)) (by rfl) | exact Rd.getFA rfl C9 rfl (by repeat (first | assumption | exact mS | apply mT)) (by intro x; first | rfl | (cases x; rfl) | (rcases x with ⟨_, _, _⟩; rfl) | (rcases x with ⟨_, _, _, _⟩; rfl)) rfl (by first | assumption | rfl | exact get!_of_lt (by omega)) (by rfl))) ?_
        refine WL.rd rfl rfl rfl ((by first | exact Rd.field rfl F42_1 rfl rfl | exact Rd.fieldE rfl F42_1 rfl (by repeat (first | assumption | exact mS | apply mT)) (by omega) | exact Rd.fieldA rfl F42_1 rfl (by repeat (first | assumption | exact mS | apply mT)) (by omega))) ?_
        refine WL.rd rfl rfl rfl ((by first | exact Rd.get rfl C9 rfl (by repeat (first | assumption | exact mS | apply mT)) (by first | assumption | rfl | exact get!_of_lt (by omega)) | exact Rd.getA rfl C9 rfl (by repeat (first | assumption | exact mS | apply mT)) (by first | assumption | rfl | exact get!_of_lt (by omega)) | exact Rd.row1 rfl C9 rfl (by repeat (first | assumption | exact mS | apply mT)) (by rfl) | exact Rd.getF rfl C9 rfl (by repeat (first | assumption | exact mS | apply mT)) (by intro x; first | rfl | (cases x; rfl) | (rcases x with ⟨_, _, _⟩; rfl) | (rcases x with ⟨_, _, _, _⟩; rfl)) rfl (by first | assumption | rfl | exact get!_of_lt (by omega)) (by rfl) | exact Rd.getFA rfl C9 rfl (by repeat (first | assumption | exact mS | apply mT)) (by intro x; first | rfl | (cases x; rfl) | (rcases x with ⟨_, _, _⟩; rfl) | (rcases x with ⟨_, _, _, _⟩; rfl)) rfl (by first | assumption | rfl | exact get!_of_lt (by omega)) (by rfl))) ?_
        refine WL.rd rfl rfl rfl (Rd.scat rfl rfl rfl (by omega)) ?_
        refine WL.op rfl ?_
        refine OpW.mapUpdate (k := l[i]!.1 ++ l[i]!.2) (v := true) M54 K9 rfl rfl rfl rfl (by repeat (first | assumption | exact Take.head _ | apply Take.tail)) rfl rfl rfl ?_
        refine WL.nil ?_
        refine blockQ.normal ?_
        refine thenQ.normal ?_
        refine WC.region ?_
        refine WL.rd rfl rfl rfl (Rd.add rfl rfl rfl (by omega)) ?_
        refine WL.rd rfl rfl rfl (Rd.move rfl rfl) ?_
        refine WL.nil ?_
        exact loopQ2.mk (i + 1) (m.set (l[i]!.1 ++ l[i]!.2) true) ⟨by omega, fun s => by
        rw [GoMap.get_set, take_snoc' (show i < l.length by omega)]
        by_cases e : s = l[i]!.1 ++ l[i]!.2
        · rw [if_pos e]
          exact ⟨fun _ => ⟨_, List.mem_append_right _ (List.mem_singleton.2 rfl), e.symm⟩, fun _ => rfl⟩
        · rw [if_neg e, i2]
          constructor
          · rintro ⟨p, hp, e2⟩; exact ⟨p, List.mem_append_left _ hp, e2⟩
          · rintro ⟨p, hp, e2⟩
            rcases List.mem_append.1 hp with g | g
            · exact ⟨p, g, e2⟩
            · rw [List.mem_singleton.1 g] at e2; exact absurd e2.symm e, fun j hj => by
        rcases Nat.lt_or_ge j i with g | g
        · exact i3 j g
        · obtain rfl : j = i := by omega
          exact Decidable.not_not.1 hc2⟩ (by omega) (by repeat (first | exact Sub.nil | refine Sub.cons rfl (by first | rfl | (congr 1; omega) | assumption) ?_)) (fun w h => OwnL.sat (by repeat (first | exact OwnL.refl | apply OwnL.take (by repeat (first | exact Take.head _ | apply Take.tail)) | apply OwnL.drop)) w (h.thin (SubL.mem (by repeat (first | exact SubL.refl | refine SubL.cons (by repeat (first | assumption | exact mS | apply mT)) ?_ | refine SubL.skip ?_)))))
  · skip
    refine WC.exit ?_
    refine thenQ.exit ?_
    refine loopQ2.exit ?_
    refine blockQ.exit ?_
    refine thenQ.normal ?_
    refine WC.seq ?_
    refine WC.region ?_
    refine WL.rd rfl rfl rfl (Rd.assign rfl rfl) ?_
    refine WL.nil ?_
    refine thenQ.normal ?_
    refine WC.heap (R' := R) (O' := O) (fun w h => OwnL.sat (by repeat (first | exact OwnL.refl | apply OwnL.take (by repeat (first | exact Take.head _ | apply Take.tail)) | apply OwnL.drop)) w (h.thin (SubL.mem (by repeat (first | exact SubL.refl | refine SubL.cons (by repeat (first | assumption | exact mS | apply mT)) ?_ | refine SubL.skip ?_))))) ?_
    refine WC.ret (Ret.one Try.results13 rfl ?_)
    exact hk (-1) (.inl ⟨rfl, fun j hj => i3 j (by omega)⟩)
set_option maxRecDepth 20000 in
theorem rinvalid_spec (hR : SlE encP lv l ∈ R) (hq : ∀ p ∈ l, p.1.length + p.2.length ≤ 9000000000000000000) (hk : ∀ k, InvIs l k → POST (vi k) R O) : Fun Try.prog 14 #[lv] R O POST := by
  refine Fun.len hR fun hll => ?_
  refine Fun.enter (l := [_]) Try.func14 rfl Try.ntmps14 rfl (L0 := [(0, _)]) rfl ?_
  refine WC.seq ?_
  refine WC.region ?_
  refine WL.rd rfl rfl rfl (Rd.assign rfl rfl) ?_
  refine WL.nil ?_
  refine thenQ.normal ?_
  refine WC.seq ?_
  refine WC.seq ?_
  refine WC.region ?_
  refine WL.rd rfl rfl rfl (Rd.assign rfl rfl) ?_
  refine WL.nil ?_
  refine thenQ.normal ?_
  refine WC.block ?_
  refine WC.pick [3, 0] (by repeat (first | exact Pick.nil | apply Pick.cons rfl)) ?_
  refine WC.loop1o 1 (fun (i : Nat) => [(3, vi i)]) (fun (i : Nat) => i ≤ l.length ∧ ∀ j, j < i → okAt l j) (fun (i : Nat) => l.length - i) (0) (by repeat (first | exact Split.zero | apply Split.succ)) ?hinv1 (by repeat (first | exact Sub.nil | refine Sub.cons rfl (by first | rfl | (congr 1; omega) | assumption) ?_)) (fun _ h => h) ?_
  case hinv1 =>
    exact ⟨Nat.zero_le _, fun j h => absurd h (Nat.not_lt_zero _)⟩
  intro i
  rintro ⟨i1, i2⟩
  refine WC.seq ?_
  refine WC.seq ?_
  refine WC.region ?_
  refine WL.rd rfl rfl rfl (Rd.move rfl rfl) ?_
  refine WL.rd rfl rfl rfl (Rd.move rfl rfl) ?_
  refine WL.rd rfl rfl rfl ((by first | exact Rd.lenE rfl rfl Try.underlying30 (by repeat (first | assumption | exact mS | apply mT)) | exact Rd.lenA rfl rfl Try.underlying30 (by repeat (first | assumption | exact mS | apply mT)) | exact Rd.len rfl rfl Try.underlying30)) ?_
  refine WL.rd rfl rfl rfl (Rd.lss rfl rfl rfl) ?_
  refine WL.nil ?_
  refine thenQ.normal ?_
  first | refine WC.ite rfl (fun hc1 => ?_) (fun hc1 => ?_) | refine WC.cond rfl (fun hc1 => ?_) (fun hc1 => ?_)
  · skip
    refine WC.skip ?_
    refine thenQ.normal ?_
    refine WC.seq ?_
    refine WC.block ?_
    refine WC.seq ?_
    refine WC.still mixed (by kernel_rfl) ?_
    refine WA.rd rfl rfl rfl (Rd.move rfl rfl) ?_
    refine WA.rd rfl rfl rfl (Rd.move rfl rfl) ?_
    refine WA.rd rfl rfl rfl ((by first | exact Rd.idx (k := i) rfl S30 rfl rfl (by omega) (by repeat (first | assumption | exact mS | apply mT)) (by first | omega | (simp only [List.length_cons, List.length_nil, List.length_append, List.length_map]; omega)) | exact Rd.idxA (k := i) rfl S30 rfl rfl (by omega) (by repeat (first | assumption | exact mS | apply mT)) (by first | omega | (simp only [List.length_cons, List.length_nil, List.length_append, List.length_map]; omega)) | exact Rd.idxR (k := i) rfl S30 rfl rfl (by omega) (by omega))) ?_
    refine WA.rd rfl rfl rfl ((by first | exact Rd.field rfl F48_0 rfl rfl | exact Rd.fieldE rfl F48_0 rfl (by repeat (first | assumption | exact mS | apply mT)) (by omega) | exact Rd.fieldA rfl F48_0 rfl (by repeat (first | assumption | exact mS | apply mT)) (by omega))) ?_
    refine WA.rd rfl rfl rfl (Rd.getF (enc := encP) (size := 2) (xs := l) (k := i) (f := 0) (a := l[i]!) (u := vs l[i]!.1) rfl C9 rfl hR (fun x => rfl) (by omega) (get!_of_lt (by omega)) rfl) ?_
    refine WA.rd rfl rfl rfl (Rd.slen (ts := #[]) (ty := 0) rfl rfl Try.underlying9) ?_
    refine WA.rd rfl rfl rfl (Rd.lss rfl rfl rfl) ?_
    refine WA.rd rfl rfl rfl (Rd.move rfl rfl) ?_
    refine WA.rd rfl rfl rfl (Rd.move rfl rfl) ?_
    refine WA.rd rfl rfl rfl ((by first | exact Rd.idx (k := i) rfl S30 rfl rfl (by omega) (by repeat (first | assumption | exact mS | apply mT)) (by first | omega | (simp only [List.length_cons, List.length_nil, List.length_append, List.length_map]; omega)) | exact Rd.idxA (k := i) rfl S30 rfl rfl (by omega) (by repeat (first | assumption | exact mS | apply mT)) (by first | omega | (simp only [List.length_cons, List.length_nil, List.length_append, List.length_map]; omega)) | exact Rd.idxR (k := i) rfl S30 rfl rfl (by omega) (by omega))) ?_
    refine WA.rd rfl rfl rfl ((by first | exact Rd.field rfl F48_1 rfl rfl | exact Rd.fieldE rfl F48_1 rfl (by repeat (first | assumption | exact mS | apply mT)) (by omega) | exact Rd.fieldA rfl F48_1 rfl (by repeat (first | assumption | exact mS | apply mT)) (by omega))) ?_
    refine WA.rd rfl rfl rfl (Rd.getF (enc := encP) (size := 2) (xs := l) (k := i) (f := 1) (a := l[i]!) (u := vs l[i]!.2) rfl C9 rfl hR (fun x => rfl) (by omega) (get!_of_lt (by omega)) rfl) ?_
    refine WA.rd rfl rfl rfl (Rd.slen (ts := #[]) (ty := 0) rfl rfl Try.underlying9) ?_
    refine WA.rd rfl rfl rfl (Rd.lss rfl rfl rfl) ?_
    refine WA.rd rfl rfl rfl (Rd.assign rfl rfl) ?_
    refine WA.say 4 (u := .bool (decide (known (l.take 0) l[i]!.1))) rfl (vb ⟨fun h => .inl (by omega), fun h => by rcases h with h | ⟨p, hp, _⟩; omega; simp at hp⟩) ?_
    refine WA.rd rfl rfl rfl (Rd.assign rfl rfl) ?_
    refine WA.say 5 (u := .bool (decide (known (l.take 0) l[i]!.2))) rfl (vb ⟨fun h => .inl (by omega), fun h => by rcases h with h | ⟨p, hp, _⟩; omega; simp at hp⟩) ?_
    refine WA.nil ?_
    refine thenQ.normal ?_
    refine WC.seq ?_
    refine WC.seq ?_
    refine WC.region ?_
    refine WL.rd rfl rfl rfl (Rd.assign rfl rfl) ?_
    refine WL.nil ?_
    refine thenQ.normal ?_
    refine WC.block ?_
    refine WC.pick [4, 5, 6, 0, 3] (by repeat (first | exact Pick.nil | apply Pick.cons rfl)) ?_
    refine WC.loop1o 3 (fun (k : Nat) => [(4, .bool (decide (known (l.take k) l[i]!.1))), (5, .bool (decide (known (l.take k) l[i]!.2))), (6, vi k)]) (fun (k : Nat) => k ≤ i) (fun (k : Nat) => i - k) (0) (by repeat (first | exact Split.zero | apply Split.succ)) ?hinv2 (by repeat (first | exact Sub.nil | refine Sub.cons rfl (by first | rfl | (congr 1; omega) | assumption) ?_)) (fun _ h => h) ?_
    case hinv2 =>
      exact Nat.zero_le _
    intro k
    rintro j1
    refine WC.seq ?_
    refine WC.seq ?_
    refine WC.region ?_
    refine WL.rd rfl rfl rfl (Rd.move rfl rfl) ?_
    refine WL.rd rfl rfl rfl (Rd.move rfl rfl) ?_
    refine WL.rd rfl rfl rfl (Rd.lss rfl rfl rfl) ?_
    refine WL.nil ?_
    refine thenQ.normal ?_
    first | refine WC.ite rfl (fun hc2 => ?_) (fun hc2 => ?_) | refine WC.cond rfl (fun hc2 => ?_) (fun hc2 => ?_)
    · skip
      have hqk := hq l[k]! (get!_mem (by omega))
      refine WC.skip ?_
      refine thenQ.normal ?_
      refine WC.seq ?_
      refine WC.block ?_
      refine WC.seq ?_
      refine WC.still mixed (by kernel_rfl) ?_
      refine WA.rd rfl rfl rfl (Rd.move rfl rfl) ?_
      refine WA.rd rfl rfl rfl (Rd.move rfl rfl) ?_
      refine WA.rd rfl rfl rfl ((by first | exact Rd.idx (k := k) rfl S30 rfl rfl (by omega) (by repeat (first | assumption | exact mS | apply mT)) (by first | omega | (simp only [List.length_cons, List.length_nil, List.length_append, List.length_map]; omega)) | exact Rd.idxA (k := k) rfl S30 rfl rfl (by omega) (by repeat (first | assumption | exact mS | apply mT)) (by first | omega | (simp only [List.length_cons, List.length_nil, List.length_append, List.length_map]; omega)) | exact Rd.idxR (k := k) rfl S30 rfl rfl (by omega) (by omega))) ?_
      refine WA.rd rfl rfl rfl ((by first | exact Rd.field rfl F48_0 rfl rfl | exact Rd.fieldE rfl F48_0 rfl (by repeat (first | assumption | exact mS | apply mT)) (by omega) | exact Rd.fieldA rfl F48_0 rfl (by repeat (first | assumption | exact mS | apply mT)) (by omega))) ?_
      refine WA.rd rfl rfl rfl (Rd.getF (enc := encP) (size := 2) (xs := l) (k := k) (f := 0) (a := l[k]!) (u := vs l[k]!.1) rfl C9 rfl hR (fun x => rfl) (by omega) (get!_of_lt (by omega)) rfl) ?_
      refine WA.rd rfl rfl rfl (Rd.move rfl rfl) ?_
      refine WA.rd rfl rfl rfl (Rd.move rfl rfl) ?_
      refine WA.rd rfl rfl rfl ((by first | exact Rd.idx (k := k) rfl S30 rfl rfl (by omega) (by repeat (first | assumption | exact mS | apply mT)) (by first | omega | (simp only [List.length_cons, List.length_nil, List.length_append, List.length_map]; omega)) | exact Rd.idxA (k := k) rfl S30 rfl rfl (by omega) (by repeat (first | assumption | exact mS | apply mT)) (by first | omega | (simp only [List.length_cons, List.length_nil, List.length_append, List.length_map]; omega)) | exact Rd.idxR (k := k) rfl S30 rfl rfl (by omega) (by omega))) ?_
      refine WA.rd rfl rfl rfl ((by first | exact Rd.field rfl F48_1 rfl rfl | exact Rd.fieldE rfl F48_1 rfl (by repeat (first | assumption | exact mS | apply mT)) (by omega) | exact Rd.fieldA rfl F48_1 rfl (by repeat (first | assumption | exact mS | apply mT)) (by omega))) ?_
      refine WA.rd rfl rfl rfl (Rd.getF (enc := encP) (size := 2) (xs := l) (k := k) (f := 1) (a := l[k]!) (u := vs l[k]!.2) rfl C9 rfl hR (fun x => rfl) (by omega) (get!_of_lt (by omega)) rfl) ?_
      refine WA.rd rfl rfl rfl (Rd.scat rfl rfl rfl (by omega)) ?_
      refine WA.rd rfl rfl rfl (Rd.assign rfl rfl) ?_
      refine WA.nil ?_
      refine thenQ.normal ?_
      refine WC.seq ?_
      refine WC.region ?_
      refine WL.rd rfl rfl rfl (Rd.move rfl rfl) ?_
      refine WL.rd rfl rfl rfl (Rd.move rfl rfl) ?_
      refine WL.case 45 rfl (fun hg45 => ?_) (fun hg45 => ?_)
      · skip
        refine WL.no rfl rfl rfl rfl rfl rfl ?_
        refine WL.no rfl rfl rfl rfl rfl rfl ?_
        refine WL.no rfl rfl rfl rfl rfl rfl ?_
        refine WL.no rfl rfl rfl rfl rfl rfl ?_
        refine WL.no rfl rfl rfl rfl rfl rfl ?_
        refine WL.no rfl rfl rfl rfl rfl rfl ?_
        refine WL.no rfl rfl rfl rfl rfl rfl ?_
        refine WL.rd rfl rfl rfl (Rd.pick_t rfl rfl rfl) ?_
        refine WL.rd rfl rfl rfl (Rd.assign rfl rfl) ?_
        refine WL.say 4 (u := .bool (decide (known (l.take (k + 1)) l[i]!.1))) rfl (vb_t ((known_next (by omega)).2 (.inl hg45))) ?_
        refine WL.nil ?_
        refine thenQ.normal ?_
        refine WC.region ?_
        refine WL.rd rfl rfl rfl (Rd.move rfl rfl) ?_
        refine WL.rd rfl rfl rfl (Rd.move rfl rfl) ?_
        refine WL.case 55 rfl (fun hg55 => ?_) (fun hg55 => ?_)
        · skip
          refine WL.no rfl rfl rfl rfl rfl rfl ?_
          refine WL.no rfl rfl rfl rfl rfl rfl ?_
          refine WL.no rfl rfl rfl rfl rfl rfl ?_
          refine WL.no rfl rfl rfl rfl rfl rfl ?_
          refine WL.no rfl rfl rfl rfl rfl rfl ?_
          refine WL.no rfl rfl rfl rfl rfl rfl ?_
          refine WL.no rfl rfl rfl rfl rfl rfl ?_
          refine WL.rd rfl rfl rfl (Rd.pick_t rfl rfl rfl) ?_
          refine WL.rd rfl rfl rfl (Rd.assign rfl rfl) ?_
          refine WL.say 5 (u := .bool (decide (known (l.take (k + 1)) l[i]!.2))) rfl (vb_t ((known_next (by omega)).2 (.inl hg55))) ?_
          refine WL.nil ?_
          refine blockQ.normal ?_
          refine thenQ.normal ?_
          refine WC.region ?_
          refine WL.rd rfl rfl rfl (Rd.move rfl rfl) ?_
          refine WL.rd rfl rfl rfl (Rd.add rfl rfl rfl (by omega)) ?_
          refine WL.rd rfl rfl rfl (Rd.assign rfl rfl) ?_
          refine WL.nil ?_
          exact loopQ1.mk (k + 1) (by omega) (by omega) (by repeat (first | exact Sub.nil | refine Sub.cons rfl (by first | rfl | (congr 1; omega) | assumption) ?_)) (fun w h => OwnL.sat (by repeat (first | exact OwnL.refl | apply OwnL.take (by repeat (first | exact Take.head _ | apply Take.tail)) | apply OwnL.drop)) w (h.thin (SubL.mem (by repeat (first | exact SubL.refl | refine SubL.cons (by repeat (first | assumption | exact mS | apply mT)) ?_ | refine SubL.skip ?_)))))
        · skip
          refine WL.rd_yes rfl rfl rfl rfl rfl rfl (Rd.move rfl rfl) ?_
          refine WL.rd_yes rfl rfl rfl rfl rfl rfl (Rd.move rfl rfl) ?_
          refine WL.rd_yes rfl rfl rfl rfl rfl rfl (Rd.move rfl rfl) ?_
          refine WL.rd_yes rfl rfl rfl rfl rfl rfl ((by first | exact Rd.idx (k := i) rfl S30 rfl rfl (by omega) (by repeat (first | assumption | exact mS | apply mT)) (by first | omega | (simp only [List.length_cons, List.length_nil, List.length_append, List.length_map]; omega)) | exact Rd.idxA (k := i) rfl S30 rfl rfl (by omega) (by repeat (first | assumption | exact mS | apply mT)) (by first | omega | (simp only [List.length_cons, List.length_nil, List.length_append, List.length_map]; omega)) | exact Rd.idxR (k := i) rfl S30 rfl rfl (by omega) (by omega))) ?_
          refine WL.rd_yes rfl rfl rfl rfl rfl rfl ((by first | exact Rd.field rfl F48_1 rfl rfl | exact Rd.fieldE rfl F48_1 rfl (by repeat (first | assumption | exact mS | apply mT)) (by omega) | exact Rd.fieldA rfl F48_1 rfl (by repeat (first | assumption | exact mS | apply mT)) (by omega))) ?_
          refine WL.rd_yes rfl rfl rfl rfl rfl rfl (Rd.getF (enc := encP) (size := 2) (xs := l) (k := i) (f := 1) (a := l[i]!) (u := vs l[i]!.2) rfl C9 rfl hR (fun x => rfl) (by omega) (get!_of_lt (by omega)) rfl) ?_
          refine WL.rd_yes rfl rfl rfl rfl rfl rfl (Rd.seql rfl rfl rfl) ?_
          refine WL.rd rfl rfl rfl (Rd.pick_f rfl rfl rfl) ?_
          refine WL.rd rfl rfl rfl (Rd.assign rfl rfl) ?_
          refine WL.say 5 (u := .bool (decide (known (l.take (k + 1)) l[i]!.2))) rfl (vb ⟨fun h => (known_next (by omega)).2 (.inr h), fun h => ((known_next (by omega)).1 h).resolve_left hg55⟩) ?_
          refine WL.nil ?_
          refine blockQ.normal ?_
          refine thenQ.normal ?_
          refine WC.region ?_
          refine WL.rd rfl rfl rfl (Rd.move rfl rfl) ?_
          refine WL.rd rfl rfl rfl (Rd.add rfl rfl rfl (by omega)) ?_
          refine WL.rd rfl rfl rfl (Rd.assign rfl rfl) ?_
          refine WL.nil ?_
          exact loopQ1.mk (k + 1) (by omega) (by omega) (by repeat (first | exact Sub.nil | refine Sub.cons rfl (by first | rfl | (congr 1; omega) | assumption) ?_)) (fun w h => OwnL.sat (by repeat (first | exact OwnL.refl | apply OwnL.take (by repeat (first | exact Take.head _ | apply Take.tail)) | apply OwnL.drop)) w (h.thin (SubL.mem (by repeat (first | exact SubL.refl | refine SubL.cons (by repeat (first | assumption | exact mS | apply mT)) ?_ | refine SubL.skip ?_)))))
      · skip
        refine WL.rd_yes rfl rfl rfl rfl rfl rfl (Rd.move rfl rfl) ?_
        refine WL.rd_yes rfl rfl rfl rfl rfl rfl (Rd.move rfl rfl) ?_
        refine WL.rd_yes rfl rfl rfl rfl rfl rfl (Rd.move rfl rfl) ?_
        refine WL.rd_yes rfl rfl rfl rfl rfl rfl ((by first | exact Rd.idx (k := i) rfl S30 rfl rfl (by omega) (by repeat (first | assumption | exact mS | apply mT)) (by first | omega | (simp only [List.length_cons, List.length_nil, List.length_append, List.length_map]; omega)) | exact Rd.idxA (k := i) rfl S30 rfl rfl (by omega) (by repeat (first | assumption | exact mS | apply mT)) (by first | omega | (simp only [List.length_cons, List.length_nil, List.length_append, List.length_map]; omega)) | exact Rd.idxR (k := i) rfl S30 rfl rfl (by omega) (by omega))) ?_
        refine WL.rd_yes rfl rfl rfl rfl rfl rfl ((by first | exact Rd.field rfl F48_0 rfl rfl | exact Rd.fieldE rfl F48_0 rfl (by repeat (first | assumption | exact mS | apply mT)) (by omega) | exact Rd.fieldA rfl F48_0 rfl (by repeat (first | assumption | exact mS | apply mT)) (by omega))) ?_
        refine WL.rd_yes rfl rfl rfl rfl rfl rfl (Rd.getF (enc := encP) (size := 2) (xs := l) (k := i) (f := 0) (a := l[i]!) (u := vs l[i]!.1) rfl C9 rfl hR (fun x => rfl) (by omega) (get!_of_lt (by omega)) rfl) ?_
        refine WL.rd_yes rfl rfl rfl rfl rfl rfl (Rd.seql rfl rfl rfl) ?_
        refine WL.rd rfl rfl rfl (Rd.pick_f rfl rfl rfl) ?_
        refine WL.rd rfl rfl rfl (Rd.assign rfl rfl) ?_
        refine WL.say 4 (u := .bool (decide (known (l.take (k + 1)) l[i]!.1))) rfl (vb ⟨fun h => (known_next (by omega)).2 (.inr h), fun h => ((known_next (by omega)).1 h).resolve_left hg45⟩) ?_
        refine WL.nil ?_
        refine thenQ.normal ?_
        refine WC.region ?_
        refine WL.rd rfl rfl rfl (Rd.move rfl rfl) ?_
        refine WL.rd rfl rfl rfl (Rd.move rfl rfl) ?_
        refine WL.case 55 rfl (fun hg55 => ?_) (fun hg55 => ?_)
        · skip
          refine WL.no rfl rfl rfl rfl rfl rfl ?_
          refine WL.no rfl rfl rfl rfl rfl rfl ?_
          refine WL.no rfl rfl rfl rfl rfl rfl ?_
          refine WL.no rfl rfl rfl rfl rfl rfl ?_
          refine WL.no rfl rfl rfl rfl rfl rfl ?_
          refine WL.no rfl rfl rfl rfl rfl rfl ?_
          refine WL.no rfl rfl rfl rfl rfl rfl ?_
          refine WL.rd rfl rfl rfl (Rd.pick_t rfl rfl rfl) ?_
          refine WL.rd rfl rfl rfl (Rd.assign rfl rfl) ?_
          refine WL.say 5 (u := .bool (decide (known (l.take (k + 1)) l[i]!.2))) rfl (vb_t ((known_next (by omega)).2 (.inl hg55))) ?_
          refine WL.nil ?_
          refine blockQ.normal ?_
          refine thenQ.normal ?_
          refine WC.region ?_
          refine WL.rd rfl rfl rfl (Rd.move rfl rfl) ?_
          refine WL.rd rfl rfl rfl (Rd.add rfl rfl rfl (by omega)) ?_
          refine WL.rd rfl rfl rfl (Rd.assign rfl rfl) ?_
          refine WL.nil ?_
          exact loopQ1.mk (k + 1) (by omega) (by omega) (by repeat (first | exact Sub.nil | refine Sub.cons rfl (by first | rfl | (congr 1; omega) | assumption) ?_)) (fun w h => OwnL.sat (by repeat (first | exact OwnL.refl | apply OwnL.take (by repeat (first | exact Take.head _ | apply Take.tail)) | apply OwnL.drop)) w (h.thin (SubL.mem (by repeat (first | exact SubL.refl | refine SubL.cons (by repeat (first | assumption | exact mS | apply mT)) ?_ | refine SubL.skip ?_)))))
        · skip
          refine WL.rd_yes rfl rfl rfl rfl rfl rfl (Rd.move rfl rfl) ?_
          refine WL.rd_yes rfl rfl rfl rfl rfl rfl (Rd.move rfl rfl) ?_
          refine WL.rd_yes rfl rfl rfl rfl rfl rfl (Rd.move rfl rfl) ?_
          refine WL.rd_yes rfl rfl rfl rfl rfl rfl ((by first | exact Rd.idx (k := i) rfl S30 rfl rfl (by omega) (by repeat (first | assumption | exact mS | apply mT)) (by first | omega | (simp only [List.length_cons, List.length_nil, List.length_append, List.length_map]; omega)) | exact Rd.idxA (k := i) rfl S30 rfl rfl (by omega) (by repeat (first | assumption | exact mS | apply mT)) (by first | omega | (simp only [List.length_cons, List.length_nil, List.length_append, List.length_map]; omega)) | exact Rd.idxR (k := i) rfl S30 rfl rfl (by omega) (by omega))) ?_
          refine WL.rd_yes rfl rfl rfl rfl rfl rfl ((by first | exact Rd.field rfl F48_1 rfl rfl | exact Rd.fieldE rfl F48_1 rfl (by repeat (first | assumption | exact mS | apply mT)) (by omega) | exact Rd.fieldA rfl F48_1 rfl (by repeat (first | assumption | exact mS | apply mT)) (by omega))) ?_
          refine WL.rd_yes rfl rfl rfl rfl rfl rfl (Rd.getF (enc := encP) (size := 2) (xs := l) (k := i) (f := 1) (a := l[i]!) (u := vs l[i]!.2) rfl C9 rfl hR (fun x => rfl) (by omega) (get!_of_lt (by omega)) rfl) ?_
          refine WL.rd_yes rfl rfl rfl rfl rfl rfl (Rd.seql rfl rfl rfl) ?_
          refine WL.rd rfl rfl rfl (Rd.pick_f rfl rfl rfl) ?_
          refine WL.rd rfl rfl rfl (Rd.assign rfl rfl) ?_
          refine WL.say 5 (u := .bool (decide (known (l.take (k + 1)) l[i]!.2))) rfl (vb ⟨fun h => (known_next (by omega)).2 (.inr h), fun h => ((known_next (by omega)).1 h).resolve_left hg55⟩) ?_
          refine WL.nil ?_
          refine blockQ.normal ?_
          refine thenQ.normal ?_
          refine WC.region ?_
          refine WL.rd rfl rfl rfl (Rd.move rfl rfl) ?_
          refine WL.rd rfl rfl rfl (Rd.add rfl rfl rfl (by omega)) ?_
          refine WL.rd rfl rfl rfl (Rd.assign rfl rfl) ?_
          refine WL.nil ?_
          exact loopQ1.mk (k + 1) (by omega) (by omega) (by repeat (first | exact Sub.nil | refine Sub.cons rfl (by first | rfl | (congr 1; omega) | assumption) ?_)) (fun w h => OwnL.sat (by repeat (first | exact OwnL.refl | apply OwnL.take (by repeat (first | exact Take.head _ | apply Take.tail)) | apply OwnL.drop)) w (h.thin (SubL.mem (by repeat (first | exact SubL.refl | refine SubL.cons (by repeat (first | assumption | exact mS | apply mT)) ?_ | refine SubL.skip ?_)))))
    · skip
      obtain rfl : k = i := by omega
      refine WC.exit ?_
      refine thenQ.exit ?_
      refine loopQ1.exit ?_
      refine blockQ.exit ?_
      refine thenQ.normal ?_
      refine WC.pick [0, 3, 4, 5] (by repeat (first | exact Pick.nil | apply Pick.cons rfl)) ?_
      refine WC.val 69 (.bool (decide (¬ okAt l k))) ?_ ?_
      · skip
        refine WC.region ?_
        refine WL.rd rfl rfl rfl (Rd.move rfl rfl) ?_
        refine WL.rd rfl rfl rfl ((by first | exact Rd.notd rfl rfl | exact Rd.not rfl rfl)) ?_
        refine WL.rd rfl rfl rfl (Rd.move rfl rfl) ?_
        refine WL.case 66 rfl (fun hg66 => ?_) (fun hg66 => ?_)
        · skip
          refine WL.no rfl rfl rfl rfl rfl rfl ?_
          refine WL.no rfl rfl rfl rfl rfl rfl ?_
          refine WL.rd rfl rfl rfl (Rd.pick_t rfl rfl rfl) ?_
          refine WL.nil ?_
          exact ⟨by repeat (first | exact Sub.nil | refine Sub.cons rfl (by first | rfl | (first | exact vb_t (fun h => hg66 h.1) | exact vb ⟨fun h g => h g.2, fun h g => h ⟨Decidable.not_not.1 hg66, g⟩⟩)) ?_), by first | exact (fun _ h => h.thin (SubL.mem (by repeat (first | exact SubL.refl | refine SubL.cons (by repeat (first | assumption | exact mS | apply mT)) ?_ | refine SubL.skip ?_)))) | exact (fun w h => OwnL.sat (by repeat (first | exact OwnL.refl | apply OwnL.take (by repeat (first | exact Take.head _ | apply Take.tail)) | apply OwnL.drop)) w (h.thin (SubL.mem (by repeat (first | exact SubL.refl | refine SubL.cons (by repeat (first | assumption | exact mS | apply mT)) ?_ | refine SubL.skip ?_)))))⟩
        · skip
          refine WL.rd_yes rfl rfl rfl rfl rfl rfl (Rd.move rfl rfl) ?_
          refine WL.rd_yes rfl rfl rfl rfl rfl rfl ((by first | exact Rd.notd rfl rfl | exact Rd.not rfl rfl)) ?_
          refine WL.rd rfl rfl rfl (Rd.pick_f rfl rfl rfl) ?_
          refine WL.nil ?_
          exact ⟨by repeat (first | exact Sub.nil | refine Sub.cons rfl (by first | rfl | (first | exact vb_t (fun h => hg66 h.1) | exact vb ⟨fun h g => h g.2, fun h g => h ⟨Decidable.not_not.1 hg66, g⟩⟩)) ?_), by first | exact (fun _ h => h.thin (SubL.mem (by repeat (first | exact SubL.refl | refine SubL.cons (by repeat (first | assumption | exact mS | apply mT)) ?_ | refine SubL.skip ?_)))) | exact (fun w h => OwnL.sat (by repeat (first | exact OwnL.refl | apply OwnL.take (by repeat (first | exact Take.head _ | apply Take.tail)) | apply OwnL.drop)) w (h.thin (SubL.mem (by repeat (first | exact SubL.refl | refine SubL.cons (by repeat (first | assumption | exact mS | apply mT)) ?_ | refine SubL.skip ?_)))))⟩
      · skip
        first | refine WC.ite rfl (fun hc3 => ?_) (fun hc3 => ?_) | refine WC.cond rfl (fun hc3 => ?_) (fun hc3 => ?_)
        · skip
          refine WC.seq ?_
          refine WC.region ?_
          refine WL.rd rfl rfl rfl (Rd.move rfl rfl) ?_
          refine WL.rd rfl rfl rfl (Rd.assign rfl rfl) ?_
          refine WL.nil ?_
          refine thenQ.normal ?_
          refine WC.ret (Ret.one Try.results14 rfl ?_)
          exact hk k (.inr ⟨k, rfl, by omega, hc3, i2⟩)
        · skip
          refine WC.skip ?_
          refine blockQ.normal ?_
          refine thenQ.normal ?_
          refine WC.region ?_
          refine WL.rd rfl rfl rfl (Rd.move rfl rfl) ?_
          refine WL.rd rfl rfl rfl (Rd.add rfl rfl rfl (by omega)) ?_
          refine WL.rd rfl rfl rfl (Rd.assign rfl rfl) ?_
          refine WL.nil ?_
          exact loopQ1.mk (k + 1) ⟨by omega, fun j hj => by
          rcases Nat.lt_or_ge j k with g | g
          · exact i2 j g
          · obtain rfl : j = k := by omega
            exact Decidable.not_not.1 hc3⟩ (by omega) (by repeat (first | exact Sub.nil | refine Sub.cons rfl (by first | rfl | (congr 1; omega) | assumption) ?_)) (fun w h => OwnL.sat (by repeat (first | exact OwnL.refl | apply OwnL.take (by repeat (first | exact Take.head _ | apply Take.tail)) | apply OwnL.drop)) w (h.thin (SubL.mem (by repeat (first | exact SubL.refl | refine SubL.cons (by repeat (first | assumption | exact mS | apply mT)) ?_ | refine SubL.skip ?_)))))
  · skip
    refine WC.exit ?_
    refine thenQ.exit ?_
    refine loopQ1.exit ?_
    refine blockQ.exit ?_
    refine thenQ.normal ?_
    refine WC.seq ?_
    refine WC.region ?_
    refine WL.rd rfl rfl rfl (Rd.assign rfl rfl) ?_
    refine WL.nil ?_
    refine thenQ.normal ?_
    refine WC.ret (Ret.one Try.results14 rfl ?_)
    exact hk (-1) (.inl ⟨rfl, fun j hj => i2 j (by omega)⟩)
set_option maxRecDepth 20000 in
theorem rank_spec {p : Pr} (hR : SlE encP lv l ∈ R) (hk : POST (vi (rkI l p)) R O) : Fun Try.prog 29 #[lv, vp p] R O POST := by
  refine Fun.len hR fun hll => ?_
  refine Fun.enter (l := [_, _]) Try.func29 rfl Try.ntmps29 rfl (L0 := [(0, _), (1, _)]) rfl ?_
  refine WC.seq ?_
  refine WC.region ?_
  refine WL.op rfl ?_
  refine OpW.box rfl rfl (by repeat (first | exact NF.nil | apply NF.cons)) rfl rfl ?_; intro b3
  refine WL.rd rfl rfl rfl (Rd.assign rfl rfl) ?_
  refine WL.nil ?_
  refine thenQ.normal ?_
  refine WC.seq ?_
  refine WC.seq ?_
  refine WC.region ?_
  refine WL.rd rfl rfl rfl (Rd.assign rfl rfl) ?_
  refine WL.nil ?_
  refine thenQ.normal ?_
  refine WC.block ?_
  refine WC.pick [5, 0, 3] (by repeat (first | exact Pick.nil | apply Pick.cons rfl)) ?_
  refine WC.loop1o 1 (fun (i : Nat) => [(5, vi i)]) (fun (i : Nat) => i ≤ l.length ∧ ∀ j, j < i → l[j]! ≠ p) (fun (i : Nat) => l.length - i) (0) (by repeat (first | exact Split.zero | apply Split.succ)) ?hinv1 (by repeat (first | exact Sub.nil | refine Sub.cons rfl (by first | rfl | (congr 1; omega) | assumption) ?_)) (fun _ h => h) ?_
  case hinv1 =>
    exact ⟨Nat.zero_le _, fun j h => absurd h (Nat.not_lt_zero _)⟩
  intro i
  rintro ⟨i1, i2⟩
  refine WC.seq ?_
  refine WC.seq ?_
  refine WC.region ?_
  refine WL.rd rfl rfl rfl (Rd.move rfl rfl) ?_
  refine WL.rd rfl rfl rfl (Rd.move rfl rfl) ?_
  refine WL.rd rfl rfl rfl ((by first | exact Rd.lenE rfl rfl Try.underlying30 (by repeat (first | assumption | exact mS | apply mT)) | exact Rd.lenA rfl rfl Try.underlying30 (by repeat (first | assumption | exact mS | apply mT)) | exact Rd.len rfl rfl Try.underlying30)) ?_
  refine WL.rd rfl rfl rfl (Rd.lss rfl rfl rfl) ?_
  refine WL.nil ?_
  refine thenQ.normal ?_
  first | refine WC.ite rfl (fun hc1 => ?_) (fun hc1 => ?_) | refine WC.cond rfl (fun hc1 => ?_) (fun hc1 => ?_)
  · skip
    refine WC.skip ?_
    refine thenQ.normal ?_
    refine WC.seq ?_
    refine WC.block ?_
    refine WC.seq ?_
    refine WC.still mixed (by kernel_rfl) ?_
    refine WA.rd rfl rfl rfl (Rd.move rfl rfl) ?_
    refine WA.rd rfl rfl rfl (Rd.move rfl rfl) ?_
    refine WA.rd rfl rfl rfl ((by first | exact Rd.idx (k := i) rfl S30 rfl rfl (by omega) (by repeat (first | assumption | exact mS | apply mT)) (by first | omega | (simp only [List.length_cons, List.length_nil, List.length_append, List.length_map]; omega)) | exact Rd.idxA (k := i) rfl S30 rfl rfl (by omega) (by repeat (first | assumption | exact mS | apply mT)) (by first | omega | (simp only [List.length_cons, List.length_nil, List.length_append, List.length_map]; omega)) | exact Rd.idxR (k := i) rfl S30 rfl rfl (by omega) (by omega))) ?_
    refine WA.rd rfl rfl rfl (Rd.getS (enc := encP) (size := 2) (xs := l) (k := i) (a := l[i]!) (cs := [vs l[i]!.1, vs l[i]!.2]) rfl G48 rfl hR (fun x => rfl) (get!_of_lt (by omega)) (NF.refl _)) ?_
    refine WA.rd rfl rfl rfl ((by first | exact Rd.rowS rfl G48 rfl (by repeat (first | assumption | exact mS | apply mT)) (by repeat (first | exact NF.nil | apply NF.cons)) rfl | exact Rd.getS rfl G48 rfl (by repeat (first | assumption | exact mS | apply mT)) (by intro x; first | rfl | (cases x; rfl) | (rcases x with ⟨_, _, _⟩; rfl) | (rcases x with ⟨_, _, _, _⟩; rfl)) (by first | assumption | rfl | exact get!_of_lt (by omega)) (by repeat (first | exact NF.nil | apply NF.cons)) | exact Rd.getSA rfl G48 rfl (by repeat (first | assumption | exact mS | apply mT)) (by intro x; first | rfl | (cases x; rfl) | (rcases x with ⟨_, _, _⟩; rfl) | (rcases x with ⟨_, _, _, _⟩; rfl)) (by first | assumption | rfl | exact get!_of_lt (by omega)) (by repeat (first | exact NF.nil | apply NF.cons)))) ?_
    refine WA.rd rfl rfl rfl (Rd.aeql rfl rfl rfl (EqS.iff (ERef _ _ _ _) (q := l[i]! = p) Prod.ext_iff.symm)) ?_
    refine WA.nil ?_
    refine thenQ.normal ?_
    first | refine WC.ite rfl (fun hc2 => ?_) (fun hc2 => ?_) | refine WC.cond rfl (fun hc2 => ?_) (fun hc2 => ?_)
    · skip
      refine WC.seq ?_
      refine WC.region ?_
      refine WL.rd rfl rfl rfl (Rd.move rfl rfl) ?_
      refine WL.rd rfl rfl rfl (Rd.assign rfl rfl) ?_
      refine WL.nil ?_
      refine thenQ.normal ?_
      refine WC.heap (R' := R) (O' := O) (fun w h => OwnL.sat (by repeat (first | exact OwnL.refl | apply OwnL.take (by repeat (first | exact Take.head _ | apply Take.tail)) | apply OwnL.drop)) w (h.thin (SubL.mem (by repeat (first | exact SubL.refl | refine SubL.cons (by repeat (first | assumption | exact mS | apply mT)) ?_ | refine SubL.skip ?_))))) ?_
      refine WC.ret (Ret.one Try.results29 rfl ?_)
      rw [show rkI l p = (i : Int) from by rw [rkI, rk_of (by omega) hc2 i2]] at hk
      exact hk
    · skip
      refine WC.skip ?_
      refine blockQ.normal ?_
      refine thenQ.normal ?_
      refine WC.region ?_
      refine WL.rd rfl rfl rfl (Rd.move rfl rfl) ?_
      refine WL.rd rfl rfl rfl (Rd.add rfl rfl rfl (by omega)) ?_
      refine WL.rd rfl rfl rfl (Rd.assign rfl rfl) ?_
      refine WL.nil ?_
      exact loopQ1.mk (i + 1) ⟨by omega, fun j hj => by
      rcases Nat.lt_or_ge j i with g | g
      · exact i2 j g
      · obtain rfl : j = i := by omega
        exact hc2⟩ (by omega) (by repeat (first | exact Sub.nil | refine Sub.cons rfl (by first | rfl | (congr 1; omega) | assumption) ?_)) (fun w h => OwnL.sat (by repeat (first | exact OwnL.refl | apply OwnL.take (by repeat (first | exact Take.head _ | apply Take.tail)) | apply OwnL.drop)) w (h.thin (SubL.mem (by repeat (first | exact SubL.refl | refine SubL.cons (by repeat (first | assumption | exact mS | apply mT)) ?_ | refine SubL.skip ?_)))))
  · skip
    refine WC.exit ?_
    refine thenQ.exit ?_
    refine loopQ1.exit ?_
    refine blockQ.exit ?_
    refine thenQ.normal ?_
    refine WC.seq ?_
    refine WC.region ?_
    refine WL.rd rfl rfl rfl (Rd.assign rfl rfl) ?_
    refine WL.nil ?_
    refine thenQ.normal ?_
    refine WC.heap (R' := R) (O' := O) (fun w h => OwnL.sat (by repeat (first | exact OwnL.refl | apply OwnL.take (by repeat (first | exact Take.head _ | apply Take.tail)) | apply OwnL.drop)) w (h.thin (SubL.mem (by repeat (first | exact SubL.refl | refine SubL.cons (by repeat (first | assumption | exact mS | apply mT)) ?_ | refine SubL.skip ?_))))) ?_
    refine WC.ret (Ret.one Try.results29 rfl ?_)
    rw [show rkI l p = -1 from by rw [rkI, rk_none.2 (fun g => by
      obtain ⟨j, hj, e⟩ := List.getElem_of_mem g
      exact i2 j (by omega) (by rw [getElem!_pos l j hj, e]))]] at hk
    exact hk
end
end Go.Proofs.Ytnpkpcjiebiplaa
