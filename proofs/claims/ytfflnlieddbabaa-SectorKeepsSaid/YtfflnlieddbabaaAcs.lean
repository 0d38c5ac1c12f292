/-
  Lists of own slices: one is taken out, and put back. No program is in sight.
-/
import Derived.Test.YtfflnlieddbabaaAcc
namespace Go.SL
open Go

section
variable {α : Type} {e : TypeId} {size : Nat} {enc : α → List Value} {L : List (Value × List α)} {R : List RO} {O T T' : List Own} {w : World}
def accsL (e : TypeId) (size : Nat) (enc : α → List Value) (L : List (Value × List α)) : List Own := L.map fun p => accC e size enc p.1 p.2
/-- The end of a list is said otherwise. -/
inductive TailP (T T' : List Own) : List Own → List Own → Prop
  | here : TailP T T' T T'
  | cons {c : Own} {O O' : List Own} (h : TailP T T' O O') : TailP T T' (c :: O) (c :: O')
theorem TailP.perm {O O' : List Own} (h : TailP T T' O O') (hp : T.Perm T') : O.Perm O' := by
  induction h with
  | here => exact hp
  | cons _ ih => exact List.Perm.cons _ ih
theorem erase_perm {β : Type} : ∀ (l : List β) (i : Nat) (x : β), l[i]? = some x → l.Perm (x :: l.eraseIdx i)
  | a :: l, 0, x, h => by simp at h; subst h; exact List.Perm.refl _
  | a :: l, i + 1, x, h => by
    have := erase_perm l i x (by simpa using h)
    exact (List.Perm.cons a this).trans (List.Perm.swap _ _ _)
theorem set_perm {β : Type} : ∀ (l : List β) (i : Nat) (x : β), i < l.length → (x :: l.eraseIdx i).Perm (l.set i x)
  | a :: l, 0, x, _ => List.Perm.refl _
  | a :: l, i + 1, x, h => by
    have := set_perm l i x (by simpa using h)
    exact (List.Perm.swap _ _ _).trans (List.Perm.cons a this)
theorem get!_of_lt' {β : Type} [Inhabited β] {l : List β} {i : Nat} (hi : i < l.length) : l[i]? = some l[i]! := by simp [hi]
theorem get!_mem {β : Type} [Inhabited β] {l : List β} {i : Nat} (hi : i < l.length) : l[i]! ∈ l := by rw [getElem!_pos l i hi]; exact List.getElem_mem _
theorem accs_take (i : Nat) (hi : i < L.length) : (accsL e size enc L ++ O).Perm (accC e size enc L[i]!.1 L[i]!.2 :: (accsL e size enc (L.eraseIdx i) ++ O)) := by
  have h := (erase_perm L i L[i]! (get!_of_lt' hi)).map (fun p => accC e size enc p.1 p.2)
  exact List.Perm.append_right O h
theorem accs_put (i : Nat) (hi : i < L.length) (v : Value) (xs : List α) : (accC e size enc v xs :: (accsL e size enc (L.eraseIdx i) ++ O)).Perm (accsL e size enc (L.set i (v, xs)) ++ O) := by
  have h := (set_perm L i (v, xs) hi).map (fun p => accC e size enc p.1 p.2)
  exact List.Perm.append_right O h
theorem Sat.accsTake {O1 O2 : List Own} (i : Nat) (hi : i < L.length) (h : Sat R O1 w) (ht : TailP (accsL e size enc L ++ O) (accC e size enc L[i]!.1 L[i]!.2 :: (accsL e size enc (L.eraseIdx i) ++ O)) O1 O2) : Sat R O2 w := h.perm (ht.perm (accs_take i hi))
theorem Sat.accsPut {O1 O2 : List Own} (i : Nat) (hi : i < L.length) (v : Value) (xs : List α) (h : Sat R O1 w) (ht : TailP (accC e size enc v xs :: (accsL e size enc (L.eraseIdx i) ++ O)) (accsL e size enc (L.set i (v, xs)) ++ O) O1 O2) : Sat R O2 w := h.perm (ht.perm (accs_put i hi v xs))
/-- Each of some slices. -/
def AllSl (enc : α → List Value) (L : List (Value × List α)) : RO := fun w => ∀ p ∈ L, SlE enc p.1 p.2 w
theorem Sat.accsShare : ∀ {L : List (Value × List α)} {R : List RO}, Sat R (accsL e size enc L ++ O) w → Sat (AllSl enc L :: R) O w
  | [], R, h => h.derive fun w _ p hp => absurd hp List.not_mem_nil
  | p :: L, R, h => by
    have h1 : Sat R (accC e size enc p.1 p.2 :: (accsL e size enc L ++ O)) w := h
    have h2 := h1.shareA (Take.head _)
    have h3 := Sat.accsShare h2
    have h4 := h3.derive (q := AllSl enc (p :: L)) (fun w hR q hq => by
      rcases List.mem_cons.1 hq with rfl | hq
      · exact hR (SlE enc q.1 q.2) (List.mem_cons_of_mem _ List.mem_cons_self)
      · exact hR (AllSl enc L) List.mem_cons_self q hq)
    exact h4.thin (fun q hq => by
      rcases List.mem_cons.1 hq with rfl | hq
      · exact List.mem_cons_self
      · exact List.mem_cons_of_mem _ (List.mem_cons_of_mem _ (List.mem_cons_of_mem _ hq)))
theorem accs_owned {O1 O2 : List Own} {w : World} (ht : TailP (accsL e size enc L ++ O) O O1 O2) (h : Sat R O1 w) : Sat (AllSl enc L :: R) O2 w := by
  have h1 : ∀ {O1 O2 : List Own}, TailP (accsL e size enc L ++ O) O O1 O2 → O1.Perm (accsL e size enc L ++ O2) := by
    intro O1 O2 ht
    induction ht with
    | here => exact List.Perm.refl _
    | cons _ ih => exact (List.Perm.cons _ ih).trans List.perm_middle.symm
  exact (h.perm (h1 ht)).accsShare
theorem AllSl.get {i : Nat} (hi : i < L.length) (h : AllSl enc L w) : SlE enc L[i]!.1 L[i]!.2 w := h _ (get!_mem hi)
end
end Go.SL
