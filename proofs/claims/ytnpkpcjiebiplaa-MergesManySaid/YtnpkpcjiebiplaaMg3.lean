/-
  Layer 8: plain: the parts of a word by rounds; parts laid out in a row; links between them.
-/
import Derived.Test.YtnpkpcjiebiplaaMg1
namespace Go.Proofs.Ytnpkpcjiebiplaa
open Go Go.SL
abbrev T := List UInt8
/-! ### ranks -/
def rk : List Pr → Pr → Option Nat
  | [], _ => none
  | x :: l, p => if x = p then some 0 else (rk l p).map (· + 1)
theorem rk_at : ∀ {l : List Pr} {p : Pr} {r : Nat}, rk l p = some r → r < l.length ∧ l[r]! = p ∧ ∀ j, j < r → l[j]! ≠ p
  | [], _, _, h => by cases h
  | x :: l, p, r, h => by
    rw [rk] at h
    by_cases e : x = p
    · rw [if_pos e] at h; cases h; exact ⟨by simp, e, fun j hj => absurd hj (Nat.not_lt_zero _)⟩
    · rw [if_neg e] at h
      obtain ⟨r', h1, rfl⟩ := Option.map_eq_some_iff.1 h
      obtain ⟨g1, g2, g3⟩ := rk_at h1
      refine ⟨by simp; omega, ?_, fun j hj => ?_⟩
      · rw [List.getElem!_cons_succ]; exact g2
      · cases j with
        | zero => exact e
        | succ j => rw [List.getElem!_cons_succ]; exact g3 j (by omega)
theorem rk_none : ∀ {l : List Pr} {p : Pr}, rk l p = none ↔ p ∉ l
  | [], _ => by simp [rk]
  | x :: l, p => by
    rw [rk]
    by_cases e : x = p
    · rw [if_pos e]; simp [e]
    · rw [if_neg e, Option.map_eq_none_iff, rk_none, List.mem_cons, not_or]
      exact ⟨fun h => ⟨fun g => e g.symm, h⟩, fun h => h.2⟩
theorem rk_of {l : List Pr} {p : Pr} {r : Nat} (h1 : r < l.length) (h2 : l[r]! = p) (h3 : ∀ j, j < r → l[j]! ≠ p) : rk l p = some r := by
  cases h : rk l p with
  | none =>
    rw [rk_none] at h
    rw [getElem!_pos l r h1] at h2
    exact absurd (h2 ▸ List.getElem_mem h1) h
  | some r' =>
    obtain ⟨g1, g2, g3⟩ := rk_at h
    rcases Nat.lt_trichotomy r r' with e | e | e
    · exact absurd h2 (g3 r e)
    · rw [e]
    · exact absurd g2 (h3 r' e)
theorem rk_inj {l : List Pr} {p q : Pr} {r : Nat} (h : rk l p = some r) (h' : rk l q = some r) : p = q := (rk_at h).2.1.symm.trans (rk_at h').2.1
theorem rk_app : ∀ (l m : List Pr) (p : Pr), rk (l ++ m) p = (rk l p).or ((rk m p).map (· + l.length))
  | [], m, p => by simp [rk]
  | x :: l, m, p => by
    rw [List.cons_append, rk, rk, rk_app l m p]
    by_cases e : x = p
    · rw [if_pos e, if_pos e]; rfl
    · rw [if_neg e, if_neg e]
      cases h : rk l p with
      | some r => rfl
      | none =>
        cases h2 : rk m p with
        | none => rfl
        | some r => simp; omega
/-! ### rounds -/
def pass (A B : T) : List T → List T
  | a :: b :: r => if a = A ∧ b = B then (a ++ b) :: pass A B r else a :: pass A B (b :: r)
  | [a] => [a]
  | [] => []
def NoAdj (A B : T) (ps : List T) : Prop := ∀ u v, ps ≠ u ++ A :: B :: v
theorem NoAdj.tail {A B a : T} {ps : List T} (h : NoAdj A B (a :: ps)) : NoAdj A B ps := fun u v e => h (a :: u) v (by rw [e]; rfl)
theorem pass_none {A B : T} : ∀ {ps : List T}, NoAdj A B ps → pass A B ps = ps
  | [], _ => rfl
  | [_], _ => rfl
  | a :: b :: r, h => by
    rw [pass, if_neg (fun g => h [] r (by rw [g.1, g.2]; rfl)), pass_none h.tail]
theorem pass_at {A B : T} : ∀ {u v : List T}, NoAdj A B (u ++ [A]) → pass A B (u ++ A :: B :: v) = u ++ (A ++ B) :: pass A B v
  | [], v, _ => by rw [List.nil_append, pass, if_pos ⟨rfl, rfl⟩]; rfl
  | [a], v, h => by
    show pass A B (a :: A :: B :: v) = _
    rw [pass, if_neg (fun g => h [] [] (by rw [g.1, ← g.2]; rfl)), pass, if_pos ⟨rfl, rfl⟩]; rfl
  | a :: b :: u, v, h => by
    show pass A B (a :: b :: (u ++ A :: B :: v)) = _
    rw [pass, if_neg (fun g => h [] (u ++ [A]) (by rw [g.1, g.2]; rfl))]
    have ih := pass_at (u := b :: u) (v := v) (by exact NoAdj.tail h)
    show a :: pass A B ((b :: u) ++ A :: B :: v) = _
    rw [ih]; rfl
theorem pass_join (A B : T) : ∀ ps : List T, (pass A B ps).flatten = ps.flatten
  | [] => rfl
  | [_] => rfl
  | a :: b :: r => by
    rw [pass]
    by_cases e : a = A ∧ b = B
    · rw [if_pos e, List.flatten_cons, pass_join A B r]; simp
    · rw [if_neg e, List.flatten_cons, pass_join A B (b :: r)]; simp
def HasPair (l : List Pr) (ps : List T) (r : Nat) : Prop := ∃ u a b v, ps = u ++ a :: b :: v ∧ rk l (a, b) = some r
inductive Spl (l : List Pr) : List T → List T → Prop
  | done {ps : List T} (h : ∀ r, ¬ HasPair l ps r) : Spl l ps ps
  | step {ps out : List T} {r : Nat} (h : HasPair l ps r) (hm : ∀ r', HasPair l ps r' → r ≤ r') (k : Spl l (pass l[r]!.1 l[r]!.2 ps) out) : Spl l ps out
theorem Spl.uniq {l : List Pr} {ps x y : List T} (h : Spl l ps x) (h' : Spl l ps y) : x = y := by
  induction h with
  | done hn =>
    cases h' with
    | done => rfl
    | step g => exact absurd g (hn _)
  | step g gm k ih =>
    cases h' with
    | done hn => exact absurd g (hn _)
    | step g' gm' k' =>
      have e := Nat.le_antisymm (gm _ g') (gm' _ g)
      subst e
      exact ih k'
/-- A round by a rank below which there is no pair. -/
theorem Spl.round {l : List Pr} {ps out : List T} {r : Nat} {A B : T} (hr : rk l (A, B) = some r) (hm : ∀ r', HasPair l ps r' → r ≤ r') (h : Spl l (pass A B ps) out) : Spl l ps out := by
  by_cases hp : HasPair l ps r
  · refine Spl.step hp hm ?_
    rw [(rk_at hr).2.1]; exact h
  · rw [pass_none (fun u v e => hp ⟨u, A, B, v, e, hr⟩)] at h
    exact h
/-! ### places -/
def off (u : List T) : Nat := u.flatten.length
theorem off_nil : off [] = 0 := rfl
theorem off_cons (a : T) (u : List T) : off (a :: u) = a.length + off u := by simp [off]
theorem off_app (u v : List T) : off (u ++ v) = off u + off v := by simp [off]
def Full (ps : List T) : Prop := ∀ p ∈ ps, p ≠ []
theorem len_pos {p : T} (h : p ≠ []) : 0 < p.length := List.length_pos_iff.2 h
theorem Full.left {u v : List T} (h : Full (u ++ v)) : Full u := fun p hp => h p (List.mem_append_left _ hp)
theorem Full.right {u v : List T} (h : Full (u ++ v)) : Full v := fun p hp => h p (List.mem_append_right _ hp)
theorem Full.mid {u v : List T} {a : T} (h : Full (u ++ a :: v)) : a ≠ [] := h a (List.mem_append_right _ List.mem_cons_self)
/-- Where a piece stands tells which one it is. -/
theorem place {ps : List T} (hf : Full ps) : ∀ {u u' v v' : List T} {a a' : T}, ps = u ++ a :: v → ps = u' ++ a' :: v' → off u = off u' → u = u' ∧ a = a' ∧ v = v' := by
  intro u
  induction u generalizing ps with
  | nil =>
    intro u' v v' a a' h h' ho
    cases u' with
    | nil => rw [h] at h'; simp at h'; exact ⟨rfl, h'.1, h'.2⟩
    | cons b u' =>
      have := len_pos (hf b (by rw [h']; simp))
      rw [off_nil, off_cons] at ho; omega
  | cons b u ih =>
    intro u' v v' a a' h h' ho
    cases u' with
    | nil =>
      have := len_pos (hf b (by rw [h]; simp))
      rw [off_nil, off_cons] at ho; omega
    | cons b' u' =>
      rw [h] at h'
      simp only [List.cons_append, List.cons.injEq] at h'
      obtain ⟨rfl, h'⟩ := h'
      rw [off_cons, off_cons] at ho
      obtain ⟨e1, e2, e3⟩ := ih (ps := u ++ a :: v) (fun p hp => hf p (by rw [h]; exact List.mem_cons_of_mem _ hp)) rfl h' (by omega)
      exact ⟨by rw [e1], e2, e3⟩
/-! ### a row of parts -/
def lay (ps : List T) : List T := ps.flatMap fun p => p :: List.replicate (p.length - 1) []
theorem lay_app (u v : List T) : lay (u ++ v) = lay u ++ lay v := by simp [lay]
theorem lay_cons (a : T) (v : List T) : lay (a :: v) = a :: List.replicate (a.length - 1) [] ++ lay v := rfl
theorem lay_len : ∀ {ps : List T}, Full ps → (lay ps).length = off ps
  | [], _ => rfl
  | a :: v, h => by
    have h1 := len_pos (h a List.mem_cons_self)
    have ih := lay_len (ps := v) (fun p hp => h p (List.mem_cons_of_mem _ hp))
    rw [lay_cons, List.length_append, List.length_cons, List.length_replicate, ih, off_cons]; omega
theorem lay_get {u v : List T} {a : T} (h : Full (u ++ a :: v)) : (lay (u ++ a :: v))[off u]? = some a := by
  rw [lay_app, lay_cons, List.getElem?_append_right (by rw [lay_len h.left]; exact Nat.le_refl _), lay_len h.left, Nat.sub_self]; rfl
theorem lay_merge {u v : List T} {a b : T} (h : Full (u ++ a :: b :: v)) : ((lay (u ++ a :: b :: v)).set (off u) (a ++ b)).set (off u + a.length) [] = lay (u ++ (a ++ b) :: v) := by
  have ha := len_pos h.mid
  have hb : 0 < b.length := len_pos (h b (by simp))
  have hu := lay_len h.left
  rw [lay_app, lay_app, lay_cons, lay_cons, lay_cons]
  rw [List.set_append_right _ _ (by omega), hu, Nat.sub_self]
  rw [List.cons_append, List.set_cons_zero]
  rw [List.set_append_right _ _ (by omega), hu, show off u + a.length - off u = (a.length - 1) + 1 from by omega, List.set_cons_succ]
  rw [List.set_append_right _ _ (by rw [List.length_replicate]; exact Nat.le_refl _), List.length_replicate, Nat.sub_self, List.cons_append, List.set_cons_zero]
  congr 1
  rw [List.cons_append]
  congr 1
  rw [List.length_append, show a.length + b.length - 1 = (a.length - 1) + b.length from by omega, ← List.replicate_append_replicate, List.append_assoc]
  congr 1
  have e : List.replicate b.length ([] : T) = [] :: List.replicate (b.length - 1) [] := by
    rw [← List.replicate_succ, show b.length - 1 + 1 = b.length from by omega]
  rw [e]; rfl
theorem lay_filter : ∀ {ps : List T}, Full ps → (lay ps).filter (fun s => decide (s ≠ [])) = ps
  | [], _ => rfl
  | a :: v, h => by
    have ih := lay_filter (ps := v) (fun p hp => h p (List.mem_cons_of_mem _ hp))
    rw [lay_cons, List.filter_append, ih, List.filter_cons_of_pos (by simpa using h a List.mem_cons_self)]
    have : (List.replicate (a.length - 1) ([] : T)).filter (fun s => decide (s ≠ [])) = [] := by
      rw [List.filter_eq_nil_iff]
      intro x hx
      rw [List.eq_of_mem_replicate hx]; simp
    rw [this]; rfl
theorem lay_start : ∀ {ps : List T} {j : Nat} {a : T}, Full ps → (lay ps)[j]? = some a → a ≠ [] → ∃ u v, ps = u ++ a :: v ∧ off u = j
  | [], j, a, _, h, _ => by simp [lay] at h
  | b :: v, j, a, hf, h, hne => by
    have hb := len_pos (hf b List.mem_cons_self)
    rw [lay_cons] at h
    cases j with
    | zero =>
      simp at h
      exact ⟨[], v, by rw [h]; rfl, rfl⟩
    | succ j =>
      rw [List.cons_append, List.getElem?_cons_succ] at h
      rcases Nat.lt_or_ge j (b.length - 1) with hj | hj
      · rw [List.getElem?_append_left (by rw [List.length_replicate]; exact hj), List.getElem?_replicate, if_pos hj] at h
        exact absurd (Option.some.inj h).symm hne
      · rw [List.getElem?_append_right (by rw [List.length_replicate]; exact hj), List.length_replicate] at h
        obtain ⟨u, w, e, ho⟩ := lay_start (ps := v) (fun p hp => hf p (List.mem_cons_of_mem _ hp)) h hne
        exact ⟨b :: u, w, by rw [e]; rfl, by rw [off_cons, ho]; omega⟩
end Go.Proofs.Ytnpkpcjiebiplaa
