/-
  The whole: texts joined, in frames, laid into sectors: what is so of them (plain).
-/
import Derived.Test.YtodedkoebcdejaaDoorCr5
import Derived.Test.YtodedkoebcdejaaDoorSh6
import Derived.Test.YtodedkoebcdejaaDoorSe5
import Derived.Test.YtodedkoebcdejaaDoorOpw
namespace Go.Proofs.YtodedkoebcdejaaDoor
open Go Go.SL

abbrev VT := Value × List (List UInt8)
def encL (x : VT) : List Value := [x.1]
def QL (w : World) (x : VT) : Prop := SlE (one vs) x.1 x.2 w
theorem elsL : ElsW Tryd.prog 24 encL QL := by
  have h4 := elsW_slice Tryd.underlying24 (size := 1) (by kernel_rfl) (by decide) (elsW_string Tryd.underlying9) (fun _ => rfl)
  exact elsW_map (fun x => x) h4 (fun _ => rfl) (fun w a h => h.1)
theorem QL.stable {W : World} {a : VT} (w' : World) (h : QL W a) (ha : Agree (· ∈ owned []) W w') : QL w' a := SlE.stable h w' ha
theorem ql_of {L : List VT} {i : Nat} {w : World} (hi : i < L.length) (h : AllQ QL L w) : SlE (one vs) L[i]!.1 L[i]!.2 w := by
  rw [getElem!_pos L i hi]
  exact h _ (List.getElem_mem _)
/-- What is framed. -/
def bodies (L : List VT) : List (List UInt8) := L.map fun p => joinE p.2
theorem bodies_get {L : List VT} {i : Nat} (h : i < L.length) : (bodies L)[i]! = joinE L[i]!.2 := by
  unfold bodies
  rw [getElem!_pos _ i (by rw [List.length_map]; exact h), List.getElem_map, getElem!_pos L i h]
def Fit (l : List (List UInt8)) : Prop := l.length ≤ 21 ∧ ∀ t ∈ l, t.length ≤ 1000
theorem join_fit {l : List (List UInt8)} (h : Fit l) : (joinE l).length ≤ 30000 := by
  obtain ⟨h1, h2⟩ := h
  have key : ∀ l : List (List UInt8), (∀ t ∈ l, t.length ≤ 1000) → (joinE l).length ≤ 1010 * l.length := by
    intro l
    induction l with
    | nil => intro _; simp [joinE]
    | cons t l ih =>
      intro hl
      have ht := hl t List.mem_cons_self
      have := ih (fun x hx => hl x (List.mem_cons_of_mem _ hx))
      have hp := putE_short (n := t.length) (by omega)
      rw [joinE_cons, List.length_append, List.length_append, putI_len (by omega), List.length_cons]
      omega
  have := key l h2
  omega
def Shorts (l : List (List UInt8)) (n : Nat) : Prop := ∀ j, j < n → l[j]!.length ≤ 30000
theorem frm_len {l : List (List UInt8)} {n j : Nat} (h : Shorts l n) (hj : j < n) : 5 ≤ (frm l j).length ∧ (frm l j).length ≤ 30011 := by
  have h1 := h j hj
  have hp := putE_short (n := l[j]!.length) (by omega)
  have := frame_length (k := UInt8.ofNat (j % 256)) (b := l[j]!) (by omega)
  rw [frm]; omega
theorem cat_len {l : List (List UInt8)} : ∀ {n : Nat}, Shorts l n → (cat l n).length ≤ 30011 * n ∧ n ≤ (cat l n).length
  | 0, _ => ⟨Nat.le_refl _, Nat.le_refl _⟩
  | n + 1, h => by
    obtain ⟨h1, h2⟩ := cat_len (n := n) fun j hj => h j (by omega)
    have h3 := frm_len h (j := n) (by omega)
    rw [cat, List.length_append]; omega
theorem frm_nx {l : List (List UInt8)} {n j : Nat} (h : Shorts l n) (hj : j < n) (t : List UInt8) : nextF (frm l j ++ t) = ((UInt8.ofNat (j % 256)).toNat, l[j]!, ((frm l j).length : Int), 0) := by
  have h1 := h j hj
  rw [frm, frame_next (by omega)]
theorem whole_all {l : List (List UInt8)} {n : Nat} (h : Shorts l n) : wholeE (cat l n) = ((cat l n).length, n) := by
  have key : ∀ k, k ≤ n → ∀ f, wholeF (f + k) (cat l n) 0 0 = wholeF f (cat l n) (cat l k).length k := by
    intro k
    induction k with
    | zero => intro _ f; rfl
    | succ k ih =>
      intro hk f
      obtain ⟨r, hr⟩ := cat_prefix l (k := k + 1) (n := n) hk
      have hd : (cat l n).drop (cat l k).length = frm l k ++ r := by
        rw [hr, cat, List.append_assoc, List.drop_left]
      have hx := frm_nx h (j := k) (by omega) r
      rw [show f + (k + 1) = (f + 1) + k from by omega, ih (by omega) (f + 1), wholeF, hd, hx, if_neg (fun h => h rfl), Int.toNat_natCast, cat, List.length_append]
  have hl := (cat_len h).2
  rw [wholeE, show (cat l n).length + 1 = ((cat l n).length + 1 - n) + n from by omega, key n (Nat.le_refl _)]
  exact wholeF_stop (by omega) (by rw [List.drop_length]; decide)
/-- Frames from the k-th on. -/
def from_ (l : List (List UInt8)) (n k : Nat) : List UInt8 := (cat l n).drop (cat l k).length
theorem from_step {l : List (List UInt8)} {n k : Nat} (hk : k < n) : from_ l n k = frm l k ++ from_ l n (k + 1) := by
  obtain ⟨r, hr⟩ := cat_prefix l (k := k + 1) (n := n) hk
  unfold from_
  have e1 : (cat l n).drop (cat l k).length = frm l k ++ r := by rw [hr, cat, List.append_assoc, List.drop_left]
  have e2 : (cat l n).drop (cat l (k + 1)).length = r := by rw [hr, List.drop_left]
  rw [e1, e2]
/-- What the sector i is to hold. -/
def chunk (s : List UInt8) (i : Nat) : List UInt8 := (s.take (min (512 * i + 512) s.length)).drop (512 * i)
def backE (s : List UInt8) (i : Nat) : List UInt8 := s.take (512 * i) ++ List.replicate (512 * i - s.length) 0
theorem chunk_len {s : List UInt8} {i : Nat} (h : 512 * i ≤ s.length) : (chunk s i).length = min (512 * i + 512) s.length - 512 * i := by
  unfold chunk; rw [List.length_drop, List.length_take]; omega
theorem back_step {s : List UInt8} {i : Nat} (h : 512 * i < s.length) : backE s (i + 1) = backE s i ++ fullE (chunk s i) := by
  have hl := chunk_len (s := s) (i := i) (by omega)
  unfold backE fullE
  rw [show 512 * i - s.length = 0 from by omega, List.replicate_zero, List.append_nil, hl, ← List.append_assoc]
  have e : s.take (512 * i) ++ chunk s i = s.take (512 * (i + 1)) := by
    unfold chunk
    have := List.take_append_drop (512 * i) (s.take (min (512 * i + 512) s.length))
    rw [List.take_take, Nat.min_eq_left (by omega)] at this
    rw [this]
    rcases Nat.le_total (512 * i + 512) s.length with h1 | h1
    · rw [Nat.min_eq_left h1]; rfl
    · rw [Nat.min_eq_right h1, List.take_of_length_le (Nat.le_refl _), List.take_of_length_le (by omega)]
  rw [e]
  congr 2
  omega
theorem back_len {s : List UInt8} {i : Nat} (h : 512 * i < s.length + 512) : (backE s i).length = 512 * i := by
  unfold backE
  rw [List.length_append, List.length_take, List.length_replicate]; omega
theorem back_all {s : List UInt8} {n : Nat} (h : s.length ≤ 512 * n) : (backE s n).take s.length = s := by
  unfold backE
  rw [List.take_of_length_le (l := s) h, List.take_left]
/-- The disk behind n writes, one to each sector from the first on. -/
def disk (N : Nat) (s : List UInt8) (n : Nat) : DSt := ⟨List.replicate N zs512, (List.range n).map (fun j => (j, fullE (chunk s j))), 0, [], false, n⟩
theorem disk_put {N n : Nat} {s : List UInt8} (h : n < N) (hs : 512 * n ≤ s.length) : putS (disk N s n) (n : Int) (chunk s n) = disk N s (n + 1) := by
  have hl := chunk_len hs
  have hb : badB (disk N s n) (n : Int) (chunk s n) = false := by
    unfold badB hasB disk
    simp only [List.length_replicate, decide_eq_false_iff_not, decide_eq_true_eq]
    omega
  have hst := stepE_on (s := disk N s n) Bool.false_ne_true (by show ¬ (0 : Nat) = 1; omega)
  unfold putS
  rw [hb, if_neg Bool.false_ne_true, hst.1, if_pos rfl, hst.2]
  unfold disk
  simp only [List.range_succ, List.map_append, List.map_cons, List.map_nil, Int.toNat_natCast]
theorem disk_ok {N n : Nat} {s : List UInt8} (h : n ≤ N) (hN : N ≤ 4096) : DOk (disk N s n) n :=
  ⟨fun w hw => by
    obtain ⟨j, hj, rfl⟩ := List.mem_map.1 hw
    have := List.mem_range.1 hj
    show j < (List.replicate N zs512).length
    rw [List.length_replicate]; omega, by show (List.replicate N zs512).length ≤ _; rw [List.length_replicate]; omega, by show 0 ≤ _; omega, by show ((List.range n).map _).length ≤ _; simp, Nat.le_refl _⟩
theorem disk_lasts {N : Nat} {s : List UInt8} (m : Nat) : ∀ n, n ≤ m → n ≤ N → failN ((List.range m).map (fun j => (j, fullE (chunk s j)))) [1] (List.replicate N zs512) n = (List.range n).map (fun j => fullE (chunk s j)) ++ List.replicate (N - n) zs512
  | 0, _, _ => by simp [failN]
  | n + 1, h1, h2 => by
    rw [failN_succ, if_pos (odd_one n), disk_lasts m n (by omega) (by omega)]
    have e : ((List.range m).map (fun j => (j, fullE (chunk s j))))[n]! = (n, fullE (chunk s n)) := by
      rw [getElem!_pos _ n (by simp; omega)]; simp
    rw [e]
    have e2 : N - n = (N - (n + 1)) + 1 := by omega
    rw [e2, List.replicate_succ, List.set_append_right _ _ (by simp)]
    simp [List.range_succ]
/-- What lasts in the end. -/
theorem disk_end {N n : Nat} {s : List UInt8} (h : n ≤ N) : (crashS (syncS (disk N s n)) []).lasts = (List.range n).map (fun j => fullE (chunk s j)) ++ List.replicate (N - n) zs512 ∧ (crashS (syncS (disk N s n)) []).since = [] ∧ (crashS (syncS (disk N s n)) []).off = false := by
  have hst := stepE_on (s := disk N s n) Bool.false_ne_true (by show ¬ (0 : Nat) = 1; omega)
  have hsy : syncS (disk N s n) = { disk N s n with lasts := (List.range n).map (fun j => fullE (chunk s j)) ++ List.replicate (N - n) zs512, since := [], done := n + 1 } := by
    unfold syncS
    rw [hst.1, if_pos rfl, hst.2]
    have := disk_lasts (N := N) (s := s) n n (Nat.le_refl _) h
    simp only [disk, List.length_map, List.length_range] at this ⊢
    rw [this]
  rw [hsy]
  exact ⟨rfl, rfl, rfl⟩
theorem disk_read {N n i : Nat} {s : List UInt8} (h : n ≤ N) (hi : i < n) : (readE (crashS (syncS (disk N s n)) []) (i : Int)).1 = fullE (chunk s i) := by
  obtain ⟨h1, h2, h3⟩ := disk_end (s := s) h
  generalize crashS (syncS (disk N s n)) [] = t at *
  have hl : t.lasts.length = N := by rw [h1]; simp; omega
  have hb : hasB t (i : Int) = true := by unfold hasB; rw [hl]; simp; omega
  unfold readE lookN
  rw [hb, h3, h2]
  simp only [not_true_eq_false, if_false, Bool.false_eq_true, List.length_nil, List.range_zero, List.foldl_nil, Int.toNat_natCast]
  rw [h1, getElem!_pos _ i (by simp; omega), List.getElem_append_left (by simp; omega)]
  simp
theorem split_join {xs : List (List UInt8)} (h : Fit xs) {l out : List (List UInt8)} {r : List UInt8} {e : Int} (hp : Parts (joinE xs) l r) (he : e = 0 ∧ r = [] ∧ out = l ∨ e = (nextE r).2.2 ∧ e ≠ 0 ∧ r ≠ [] ∧ out = []) : e = 0 ∧ out = xs := by
  obtain ⟨hj1, hsm1, _⟩ := hp.join
  have hsm : Small xs := fun t ht => by have := h.2 t ht; omega
  have hst : Stuck r := by
    rcases he with ⟨_, h, _⟩ | ⟨h1, h2, _⟩
    · exact .inl h
    · exact .inr (by rw [← h1]; exact h2)
  obtain ⟨rfl, rfl⟩ := join_uniq (p := []) hsm hsm1 (.inl rfl) hst (by rw [List.append_nil]; exact hj1)
  rcases he with ⟨h1, _, h2⟩ | ⟨_, _, h3, _⟩
  · exact ⟨h1, h2⟩
  · exact absurd rfl h3
end Go.Proofs.YtodedkoebcdejaaDoor
