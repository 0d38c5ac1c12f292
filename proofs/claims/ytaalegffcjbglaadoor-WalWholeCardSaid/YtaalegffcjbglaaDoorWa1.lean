/-
  Layer 6: what a log does (plain).
-/
import Derived.Test.YtaalegffcjbglaaDoorCr2
import Derived.Test.YtaalegffcjbglaaDoorBld
import Derived.Test.YtaalegffcjbglaaDoorSe8
namespace Go.Proofs.YtaalegffcjbglaaDoor
open Go Go.SL

abbrev Chg := Int × List UInt8
def encC (x : Chg) : List Value := [.int .i64 x.1, vs x.2]
theorem encC_one (x : Chg) : ((encC x).all Value.oneCell') = true := rfl
def byteOf (n : Nat) : UInt8 := UInt8.ofNat (n % 256)
/-- A head that says changes. -/
def hdB (x : List Chg) : List UInt8 := [87, 76, byteOf x.length] ++ x.flatMap fun c => [byteOf (c.1.toNat / 256), byteOf c.1.toNat]
def allB (x : List Chg) : List UInt8 := hdB x ++ x.flatMap fun c => fullE c.2
def headB (x : List Chg) : List UInt8 := hdB x ++ le4 (sumE (allB x))
/-- Writes one after the other, up to the first that fails. -/
def runP : DSt → List Chg → DSt × Nat
  | s, [] => (s, 0)
  | s, c :: r => if dputE s c.1 c.2 ≠ 0 then (putS s c.1 c.2, dputE s c.1 c.2) else runP (putS s c.1 c.2) r
def thenE (p : DSt × Nat) (f : DSt → DSt × Nat) : DSt × Nat := if p.2 ≠ 0 then p else f p.1
def makeS (s : DSt) (x : List Chg) : DSt × Nat := thenE (runP s x) fun t => (syncS t, stepE t)
def sayS (s : DSt) (f : Int) (h : List UInt8) : DSt × Nat := makeS s [(f, h)]
def mayB (s : DSt) (f z i : Int) : Bool := decide (0 ≤ i ∧ i < (s.lasts.length : Int) ∧ ¬ (f ≤ i ∧ i < f + z))
def fitsB (s : DSt) (f z : Int) : Bool := decide (0 ≤ f ∧ 2 ≤ z ∧ z ≤ 65 ∧ f + z ≤ (s.lasts.length : Int))
def decC (s : DSt) (f : Int) (h : List UInt8) (i : Nat) : Chg := (((h[3 + 2 * i]!.toNat * 256 + h[4 + 2 * i]!.toNat : Nat) : Int), (readE s (f + 1 + i)).1)
def decN (s : DSt) (f : Int) (h : List UInt8) (n : Nat) : List Chg := (List.range n).map (decC s f h)
/-- What the head says; the error. -/
def saidE (s : DSt) (f z : Int) : List Chg × Nat :=
  if (readE s f).2 ≠ 0 then ([], (readE s f).2)
  else if (readE s f).1.take 2 ≠ [87, 76] ∨ (readE s f).1[2]!.toNat < 1 ∨ z ≤ ((readE s f).1[2]!.toNat : Int) then ([], 0)
  else if ¬ ∀ c ∈ decN s f (readE s f).1 (readE s f).1[2]!.toNat, mayB s f z c.1 = true then ([], 0)
  else if (readE s f).1 ≠ fullE (headB (decN s f (readE s f).1 (readE s f).1[2]!.toNat)) then ([], 0)
  else (decN s f (readE s f).1 (readE s f).1[2]!.toNat, 0)
/-- An opening: the disk behind it, how many changes were made, the error. -/
def doneE (s : DSt) (f : Int) (x : List Chg) : DSt × Nat := thenE (makeS s x) fun t => sayS t f []
def openE (s : DSt) (f z : Int) : DSt × Nat × Nat :=
  if ¬ fitsB s f z then (s, 0, 1)
  else if (saidE s f z).2 ≠ 0 then (s, 0, (saidE s f z).2)
  else if (saidE s f z).1 = [] then (s, 0, 0)
  else if (doneE s f (saidE s f z).1).2 ≠ 0 then ((doneE s f (saidE s f z).1).1, 0, (doneE s f (saidE s f z).1).2)
  else ((doneE s f (saidE s f z).1).1, (saidE s f z).1.length, 0)
def imagesE (f : Int) (x : List Chg) : List Chg := x.zipIdx.map fun p => (f + 1 + (p.2 : Int), p.1.2)
def chgBad (s : DSt) (f z : Int) (c : Chg) : Bool := decide (¬ mayB s f z c.1 = true ∨ 512 < c.2.length)
def commitE (s : DSt) (f z : Int) (x : List Chg) : DSt × Nat :=
  if x = [] ∨ z ≤ (x.length : Int) then (s, 1)
  else if ∃ c ∈ x, chgBad s f z c = true then (s, 1)
  else thenE (makeS s (imagesE f x)) fun t => thenE (sayS t f (headB x)) fun t => doneE t f x
/-- Each sector is whole. -/
structure W512 (s : DSt) : Prop where
  lasts : ∀ l ∈ s.lasts, l.length = 512
  since : ∀ w ∈ s.since, w.2.length = 512
theorem W512.new {n : Nat} : W512 (newS n) := ⟨fun l hl => by rw [List.eq_of_mem_replicate hl]; exact List.length_replicate, fun w hw => absurd hw List.not_mem_nil⟩
theorem W512.failN {s : DSt} (h : W512 s) (keep : List Int) : ∀ n, n ≤ s.since.length → ∀ l ∈ Go.Proofs.YtaalegffcjbglaaDoor.failN s.since keep s.lasts n, l.length = 512
  | 0, _ => h.lasts
  | n + 1, hn => by
    rw [failN_succ]
    have ih := W512.failN h keep n (by omega)
    split
    · intro l hl
      rcases List.mem_or_eq_of_mem_set hl with h1 | h1
      · exact ih l h1
      · rw [h1, getElem!_pos s.since n (by omega)]; exact h.since _ (List.getElem_mem _)
    · exact ih
theorem W512.fail {s : DSt} (h : W512 s) (keep : List Int) : W512 (failS s keep) := ⟨h.failN keep _ (Nat.le_refl _), fun w hw => absurd hw List.not_mem_nil⟩
theorem W512.step {s : DSt} (h : W512 s) : W512 (stepS s) := by
  unfold stepS
  split
  · exact h
  · split
    · exact h.fail _
    · exact ⟨h.lasts, h.since⟩
theorem W512.put {s : DSt} (h : W512 s) (i : Int) (d : List UInt8) : W512 (putS s i d) := by
  unfold putS
  split
  · exact h
  · rename_i hb
    split
    · refine ⟨h.step.lasts, fun w hw => ?_⟩
      rcases List.mem_append.1 hw with hw | hw
      · exact h.step.since w hw
      · rw [List.mem_singleton] at hw; subst hw; exact full_len (bad_not hb).2
    · exact h.step
theorem W512.sync {s : DSt} (h : W512 s) : W512 (syncS s) := by
  unfold syncS
  split
  · exact ⟨h.step.failN [1] _ (Nat.le_refl _), fun w hw => absurd hw List.not_mem_nil⟩
  · exact h.step
theorem W512.cut {s : DSt} (h : W512 s) (n : Int) (keep : List Int) : W512 (cutS s n keep) := ⟨h.lasts, h.since⟩
theorem W512.crash {s : DSt} (h : W512 s) (keep : List Int) : W512 (crashS s keep) := ⟨(h.fail keep).lasts, (h.fail keep).since⟩
theorem W512.on {s : DSt} (h : W512 s) : W512 (onS s) := ⟨h.lasts, h.since⟩
theorem W512.look {s : DSt} (h : W512 s) {n : Nat} (hn : n < s.lasts.length) : ∀ k, k ≤ s.since.length → (lookN s n k).length = 512
  | 0, _ => by show (s.lasts[n]!).length = 512; rw [getElem!_pos s.lasts n hn]; exact h.lasts _ (List.getElem_mem _)
  | k + 1, hk => by
    rw [lookN_succ]
    split
    · rw [getElem!_pos s.since k (by omega)]; exact h.since _ (List.getElem_mem _)
    · exact W512.look h hn k (by omega)
theorem read_ok {s : DSt} (h : W512 s) {i : Int} (h0 : (readE s i).2 = 0) : (readE s i).1.length = 512 ∧ hasB s i = true ∧ s.off = false := by
  unfold readE at h0 ⊢
  by_cases h1 : hasB s i = true
  · rw [if_neg (fun hh => hh h1)] at h0 ⊢
    by_cases h2 : s.off = true
    · rw [if_pos h2] at h0; simp at h0
    · rw [if_neg h2]
      exact ⟨h.look (has_iff h1).1 _ (Nat.le_refl _), h1, by simpa using h2⟩
  · rw [if_pos h1] at h0; simp at h0
theorem read_0 {s : DSt} {i : Int} (h1 : hasB s i = true) (h2 : s.off = false) : (readE s i).2 = 0 := by
  unfold readE
  rw [if_neg (fun hh => hh h1), if_neg (by rw [h2]; exact Bool.false_ne_true)]
theorem put_lasts (s : DSt) (i : Int) (d : List UInt8) : (putS s i d).lasts.length = s.lasts.length := by
  unfold putS
  split
  · rfl
  · split
    · exact step_lasts s
    · exact step_lasts s
theorem sync_lasts (s : DSt) : (syncS s).lasts.length = s.lasts.length := by
  unfold syncS
  split
  · show (failN _ _ _ _).length = _; rw [failN_len]; exact step_lasts s
  · exact step_lasts s
theorem put_keepW (s : DSt) (i : Int) (d : List UInt8) : (putS s i d).keep = s.keep := by
  unfold putS
  split
  · rfl
  · split
    · exact step_keep s
    · exact step_keep s
theorem sync_keepW (s : DSt) : (syncS s).keep = s.keep := by
  unfold syncS
  split
  · exact step_keep s
  · exact step_keep s
/-- What is so of a disk, and stays so. -/
structure Dk (s : DSt) (m : Nat) : Prop where
  ok : DOk s m
  w : W512 s
theorem Dk.put {s : DSt} {m : Nat} (h : Dk s m) (i : Int) (d : List UInt8) : Dk (putS s i d) (m + 1) := ⟨h.ok.put i d, h.w.put i d⟩
theorem Dk.sync {s : DSt} {m : Nat} (h : Dk s m) : Dk (syncS s) (m + 1) := ⟨h.ok.sync, h.w.sync⟩
theorem Dk.mono {s : DSt} {m m' : Nat} (h : Dk s m) (hm : m ≤ m') : Dk s m' := ⟨h.ok.mono hm, h.w⟩
theorem run_dk : ∀ {x : List Chg} {s : DSt} {m : Nat}, Dk s m → Dk (runP s x).1 (m + x.length) ∧ (runP s x).1.lasts.length = s.lasts.length ∧ (runP s x).1.keep = s.keep
  | [], s, m, h => ⟨h, rfl, rfl⟩
  | c :: r, s, m, h => by
    rw [runP, List.length_cons]
    split
    · exact ⟨(h.put _ _).mono (by omega), put_lasts _ _ _, put_keepW _ _ _⟩
    · obtain ⟨h1, h2, h3⟩ := run_dk (x := r) (h.put c.1 c.2)
      exact ⟨h1.mono (by omega), h2.trans (put_lasts _ _ _), h3.trans (put_keepW _ _ _)⟩
theorem make_dk {x : List Chg} {s : DSt} {m : Nat} (h : Dk s m) : Dk (makeS s x).1 (m + x.length + 1) ∧ (makeS s x).1.lasts.length = s.lasts.length ∧ (makeS s x).1.keep = s.keep := by
  obtain ⟨h1, h2, h3⟩ := run_dk (x := x) h
  unfold makeS thenE
  split
  · exact ⟨h1.mono (by omega), h2, h3⟩
  · exact ⟨h1.sync, (sync_lasts _).trans h2, (sync_keepW _).trans h3⟩
theorem full_full {h : List UInt8} (hh : h.length ≤ 512) : fullE (fullE h) = fullE h := by
  have e : (fullE h).length = 512 := full_len hh
  rw [fullE.eq_1 (fullE h), e]; simp
theorem put_full {s : DSt} {i : Int} {h : List UInt8} (hh : h.length ≤ 512) : putS s i (fullE h) = putS s i h ∧ dputE s i (fullE h) = dputE s i h := by
  have e : badB s i (fullE h) = badB s i h := by
    unfold badB
    rw [decide_eq_decide, full_len hh]
    constructor
    · intro h1; rcases h1 with h1 | h1
      · exact .inl h1
      · omega
    · intro h1; rcases h1 with h1 | h1
      · exact .inl h1
      · omega
  unfold putS dputE
  rw [e, full_full hh]
  exact ⟨rfl, rfl⟩
theorem say_full {s : DSt} {f : Int} {h : List UInt8} (hh : h.length ≤ 512) : sayS s f (fullE h) = sayS s f h := by
  unfold sayS makeS
  rw [runP, runP, (put_full hh).1, (put_full hh).2]
  rfl
theorem say_is (s : DSt) (f : Int) (h : List UInt8) : sayS s f h = if dputE s f h ≠ 0 then (putS s f h, dputE s f h) else (syncS (putS s f h), stepE (putS s f h)) := by
  have h1 : runP s [(f, h)] = if dputE s f h ≠ 0 then (putS s f h, dputE s f h) else (putS s f h, 0) := by rw [runP, runP]
  unfold sayS makeS
  rw [h1]
  by_cases e : dputE s f h ≠ 0
  · rw [if_pos e, if_pos e]; unfold thenE; rw [if_pos (by exact e)]
  · rw [if_neg e, if_neg e]; rfl
theorem hdB_len (x : List Chg) : (hdB x).length = 3 + 2 * x.length := by
  unfold hdB
  rw [List.length_append]
  have : (x.flatMap fun c => [byteOf (c.1.toNat / 256), byteOf c.1.toNat]).length = 2 * x.length := by
    induction x with
    | nil => rfl
    | cons c r ih => rw [List.flatMap_cons, List.length_append, ih]; show 2 + 2 * r.length = 2 * (r.length + 1); omega
  rw [this]; rfl
theorem headB_len (x : List Chg) : (headB x).length = 7 + 2 * x.length := by
  unfold headB
  rw [List.length_append, hdB_len]; show _ + 4 = _; omega
theorem flat_full_len {x : List Chg} (h : ∀ c ∈ x, c.2.length ≤ 512) : (x.flatMap fun c => fullE c.2).length = 512 * x.length := by
  induction x with
  | nil => rfl
  | cons c r ih =>
    rw [List.flatMap_cons, List.length_append, ih (fun c hc => h c (List.mem_cons_of_mem _ hc)), full_len (h c List.mem_cons_self), List.length_cons]; omega
theorem le4_sn (n i : Nat) : (le4 n).take (i + 1) = (le4 n).take i ++ (if i < 4 then [UInt8.ofNat (n / 256 ^ i % 256)] else []) := by
  match i with
  | 0 => simp [le4]
  | 1 => rfl
  | 2 => rfl
  | 3 => rfl
  | i + 4 => rw [if_neg (by omega), List.append_nil, List.take_of_length_le (by simp [le4]), List.take_of_length_le (by simp [le4])]
theorem flat_next {x : List Chg} {g : Chg → List UInt8} {j : Nat} (h : j < x.length) : (x.take (j + 1)).flatMap g = (x.take j).flatMap g ++ g x[j]! := by
  rw [List.take_add_one, get!_of_lt h, List.flatMap_append]; simp
theorem chg_mem {x : List Chg} {j : Nat} (h : j < x.length) : x[j]! ∈ x := by rw [getElem!_pos x j h]; exact List.getElem_mem _
theorem run_at {s : DSt} {x : List Chg} {j : Nat} {t : DSt} (h : j < x.length) (hr : runP s x = runP t (x.drop j)) : runP s x = if dputE t x[j]!.1 x[j]!.2 ≠ 0 then (putS t x[j]!.1 x[j]!.2, dputE t x[j]!.1 x[j]!.2) else runP (putS t x[j]!.1 x[j]!.2) (x.drop (j + 1)) := by
  rw [hr, List.drop_eq_getElem_cons h, runP, getElem!_pos x j h]
theorem images_len (f : Int) (x : List Chg) : (imagesE f x).length = x.length := by simp [imagesE]
theorem images_get {f : Int} {x : List Chg} {j : Nat} (h : j < x.length) : (imagesE f x)[j]! = (f + 1 + (j : Int), x[j]!.2) := by
  rw [getElem!_pos _ j (by rw [images_len]; exact h), getElem!_pos x j h]
  simp [imagesE]
theorem dec_get {s : DSt} {f : Int} {h : List UInt8} {n j : Nat} (hj : j < n) : (decN s f h n)[j]! = decC s f h j := by
  unfold decN
  rw [getElem!_pos _ j (by simp; exact hj)]; simp
theorem dec_len (s : DSt) (f : Int) (h : List UInt8) (n : Nat) : (decN s f h n).length = n := by simp [decN]
theorem dec_next (s : DSt) (f : Int) (h : List UInt8) (n : Nat) : decN s f h (n + 1) = decN s f h n ++ [decC s f h n] := by
  unfold decN; rw [List.range_succ, List.map_append]; rfl
end Go.Proofs.YtaalegffcjbglaaDoor
