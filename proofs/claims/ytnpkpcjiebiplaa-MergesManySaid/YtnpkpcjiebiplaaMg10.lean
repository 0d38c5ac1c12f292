/-
  Layer 8: texts cut at a byte, tokens, lines, lists of merges as texts: the program's and the document's.
-/
import Derived.Test.YtnpkpcjiebiplaaMg9
import Derived.Test.YtnpkpcjiebiplaaShelf
namespace Go.Proofs.Ytnpkpcjiebiplaa
open Go Go.SL
/-! ### plain -/
def cutA (c : UInt8) (s : T) : T := s.takeWhile fun x => decide (x ≠ c)
def cutB (c : UInt8) (s : T) : T := (s.dropWhile fun x => decide (x ≠ c)).tail
theorem cut_at {c : UInt8} : ∀ {s : T} {i : Nat}, i ≤ s.length → (∀ j, j < i → s[j]! ≠ c) → (i < s.length → s[i]! = c) → cutA c s = s.take i ∧ cutB c s = s.drop (i + 1) ∧ (c ∈ s ↔ i < s.length)
  | [], i, h1, _, _ => by
    obtain rfl : i = 0 := by simpa using h1
    exact ⟨rfl, rfl, by simp⟩
  | x :: s, 0, _, _, h3 => by
    have e : x = c := by simpa using h3 (by simp)
    subst e
    exact ⟨by simp [cutA, List.takeWhile], by simp [cutB, List.dropWhile], by simp⟩
  | x :: s, i + 1, h1, h2, h3 => by
    have hx : x ≠ c := by simpa using h2 0 (by omega)
    obtain ⟨e1, e2, e3⟩ := cut_at (c := c) (s := s) (i := i) (by simpa using h1) (fun j hj => by simpa using h2 (j + 1) (by omega)) (fun h => by simpa using h3 (by simpa using h))
    refine ⟨?_, ?_, ?_⟩
    · rw [List.take_succ_cons, ← e1, cutA, List.takeWhile_cons_of_pos (by simpa using hx)]; rfl
    · rw [List.drop_succ_cons, ← e2, cutB, List.dropWhile_cons_of_pos (by simpa using hx)]; rfl
    · rw [List.mem_cons, List.length_cons, e3]
      constructor
      · rintro (h | h)
        · exact absurd h.symm hx
        · omega
      · intro h; exact .inr (by omega)
theorem cut_len {c : UInt8} (s : T) : (cutA c s).length ≤ s.length := by
  have := List.takeWhile_append_dropWhile (p := fun x : UInt8 => decide (x ≠ c)) (l := s)
  have h := congrArg List.length this
  rw [List.length_append] at h
  unfold cutA; omega
theorem cutB_len {c : UInt8} (s : T) : (cutB c s).length ≤ s.length := by
  have := List.takeWhile_append_dropWhile (p := fun x : UInt8 => decide (x ≠ c)) (l := s)
  have h := congrArg List.length this
  rw [List.length_append] at h
  unfold cutB
  rw [List.length_tail]; omega
theorem cutB_lt {c : UInt8} {s : T} (h : s ≠ []) : (cutB c s).length < s.length := by
  have := List.takeWhile_append_dropWhile (p := fun x : UInt8 => decide (x ≠ c)) (l := s)
  have h2 := congrArg List.length this
  rw [List.length_append] at h2
  have := List.length_pos_iff.2 h
  unfold cutB
  rw [List.length_tail]; omega
theorem index_cut {c : UInt8} : ∀ (s : T), Lib.indexByte s c = if c ∈ s then ((cutA c s).length : Int) else -1
  | [] => rfl
  | x :: s => by
    rw [Lib.indexByte]
    by_cases e : x = c
    · rw [if_pos (by simpa using e), if_pos (by simp [e]), cutA, List.takeWhile_cons_of_neg (by simpa using e)]; rfl
    · rw [if_neg (by simpa using e), index_cut s]
      by_cases h : c ∈ s
      · rw [if_pos h, if_pos (List.mem_cons_of_mem _ h), if_neg (by first | (simp; done) | (simp; omega)), cutA, cutA, List.takeWhile_cons_of_pos (by simpa using e), List.length_cons]; omega
      · rw [if_neg h, if_pos (by rfl), if_neg (by simp [h]; exact fun g => e g.symm)]
theorem cut_found {c : UInt8} : ∀ {s : T}, c ∈ s → (cutA c s).length < s.length ∧ cutA c s = s.take (cutA c s).length ∧ cutB c s = s.drop ((cutA c s).length + 1)
  | x :: s, h => by
    by_cases e : x = c
    · subst e
      have e0 : cutA x (x :: s) = [] := by rw [cutA, List.takeWhile_cons_of_neg (by simp)]
      rw [e0]
      exact ⟨by simp, rfl, by rw [cutB, List.dropWhile_cons_of_neg (by simp)]; rfl⟩
    · obtain ⟨h1, h2, h3⟩ := cut_found (c := c) (s := s) (by rcases List.mem_cons.1 h with g | g; exact absurd g.symm e; exact g)
      have e0 : cutA c (x :: s) = x :: cutA c s := by rw [cutA, List.takeWhile_cons_of_pos (by simpa using e)]; rfl
      have e1 : cutB c (x :: s) = cutB c s := by rw [cutB, List.dropWhile_cons_of_pos (by simpa using e)]; rfl
      rw [e0, e1]
      exact ⟨by simp; omega, by rw [List.length_cons, List.take_succ_cons, ← h2], by rw [List.length_cons, List.drop_succ_cons]; exact h3⟩
theorem cut_none {c : UInt8} {s : T} (h : c ∉ s) : cutA c s = s ∧ cutB c s = [] := by
  obtain ⟨h1, h2, _⟩ := cut_at (c := c) (s := s) (i := s.length) (Nat.le_refl _) (fun j hj e => h (by rw [← e]; exact get!_mem hj)) (fun h => absurd h (Nat.lt_irrefl _))
  exact ⟨by rw [h1, List.take_length], by rw [h2, List.drop_of_length_le (by omega)]⟩
def inside (c : UInt8) : Prop := 33 ≤ c.toNat ∧ c.toNat ≤ 126
def goodP (s : T) : Prop := (∀ i, i < s.length → inside s[i]!) ∧ 0 < s.length ∧ s.length < 65
instance (c : UInt8) : Decidable (inside c) := by unfold inside; infer_instance
instance (s : T) : Decidable (goodP s) := by unfold goodP; infer_instance
def LineOk (s : T) : Prop := (10 : UInt8) ∈ s ∧ (32 : UInt8) ∈ cutA 10 s ∧ goodP (cutA 32 (cutA 10 s)) ∧ goodP (cutB 32 (cutA 10 s))
def pairOf (s : T) : Pr := (cutA 32 (cutA 10 s), cutB 32 (cutA 10 s))
structure PRes where
  l : List Pr
  at_ : Int
  err : Int
inductive Prs : Nat → List Pr → T → PRes → Prop
  | done {n : Nat} {out : List Pr} : Prs n out [] ⟨out, 0, 0⟩
  | many {n : Nat} {out : List Pr} {s : T} (h : s ≠ []) (hn : 4096 < n) : Prs n out s ⟨[], n, 6⟩
  | form {n : Nat} {out : List Pr} {s : T} (h : s ≠ []) (hn : n ≤ 4096) (hl : ¬ LineOk s) : Prs n out s ⟨[], n, 2⟩
  | twice {n : Nat} {out : List Pr} {s : T} (h : s ≠ []) (hn : n ≤ 4096) (hl : LineOk s) (hp : pairOf s ∈ out) : Prs n out s ⟨[], n, 10⟩
  | next {n : Nat} {out : List Pr} {s : T} {r : PRes} (h : s ≠ []) (hn : n ≤ 4096) (hl : LineOk s) (hp : pairOf s ∉ out) (k : Prs (n + 1) (out ++ [pairOf s]) (cutB 10 s) r) : Prs n out s r
theorem Prs.uniq {n : Nat} {out : List Pr} {s : T} {r r' : PRes} (h : Prs n out s r) (h' : Prs n out s r') : r = r' := by
  induction h with
  | done => cases h' with
    | done => rfl
    | many h => exact absurd rfl h
    | form h => exact absurd rfl h
    | twice h => exact absurd rfl h
    | next h => exact absurd rfl h
  | many h hn => cases h' with
    | done => exact absurd rfl h
    | many => rfl
    | form _ g => omega
    | twice _ g => omega
    | next _ g => omega
  | form h hn hl => cases h' with
    | done => exact absurd rfl h
    | many _ g => omega
    | form => rfl
    | twice _ _ g => exact absurd g hl
    | next _ _ g => exact absurd g hl
  | twice h hn hl hp => cases h' with
    | done => exact absurd rfl h
    | many _ g => omega
    | form _ _ g => exact absurd hl g
    | twice => rfl
    | next _ _ _ g => exact absurd hp g
  | next h hn hl hp k ih => cases h' with
    | done => exact absurd rfl h
    | many _ g => omega
    | form _ _ g => exact absurd hl g
    | twice _ _ _ g => exact absurd g hp
    | next _ _ _ _ g => exact ih g
def ParseIs (s : T) (r : PRes) : Prop := (262144 < s.length ∧ r = ⟨[], 0, 6⟩) ∨ (s.length ≤ 262144 ∧ Prs 1 [] s r)
theorem ParseIs.uniq {s : T} {r r' : PRes} (h : ParseIs s r) (h' : ParseIs s r') : r = r' := by
  rcases h with ⟨h1, rfl⟩ | ⟨h1, h⟩ <;> rcases h' with ⟨g1, rfl⟩ | ⟨g1, g⟩
  · rfl
  · omega
  · omega
  · exact h.uniq g
/-! ### walks -/
section
variable {R : List RO} {O O' : List Own} {POST : Value → List RO → List Own → Prop}
set_option maxRecDepth 20000 in
theorem cut0_spec {s : T} {c : UInt8} (hs : s.length ≤ 9000000000000000000) (hk : POST (.tuple #[vs (cutA c s), vs (cutB c s), .bool (decide (c ∈ s))]) R O) : Fun Try.prog 33 #[vs s, vs [c]] R O POST := by
  have hcl := cut_len (c := c) s
  refine Fun.enter (l := [_, _]) Try.func33 rfl Try.ntmps33 rfl (L0 := [(0, _), (1, _)]) rfl ?_
  refine WC.seq ?_
  refine WC.region ?_
  refine WL.rd rfl rfl rfl (Rd.assign rfl rfl) ?_
  refine WL.rd rfl rfl rfl (Rd.assign rfl rfl) ?_
  refine WL.rd rfl rfl rfl (Rd.assign rfl rfl) ?_
  refine WL.nil ?_
  refine thenQ.normal ?_
  refine WC.seq ?_
  refine WC.seq ?_
  refine WC.region ?_
  refine WL.rd rfl rfl rfl (Rd.move rfl rfl) ?_
  refine WL.rd rfl rfl rfl (Rd.move rfl rfl) ?_
  refine WL.op rfl ?_
  refine OpW.call rfl rfl (by repeat (first | exact Evs.nil | apply Evs.cons rfl)) (by kernel_rfl) rfl rfl rfl ?_
  refine Fun.still (v := .int .i64 (if c ∈ s then ((cutA c s).length : Int) else -1)) (fun w => by rw [← index_cut]; exact Try.stringslite_Index_one ⟨s.toArray⟩ c w) ?_
  refine WL.rd rfl rfl rfl (Rd.assign rfl rfl) ?_
  refine WL.nil ?_
  refine thenQ.normal ?_
  refine WC.seq ?_
  refine WC.region ?_
  refine WL.rd rfl rfl rfl (Rd.move rfl rfl) ?_
  refine WL.rd rfl rfl rfl (Rd.geq rfl rfl rfl) ?_
  refine WL.nil ?_
  refine thenQ.normal ?_
  first | refine WC.ite rfl (fun hc1 => ?_) (fun hc1 => ?_) | refine WC.cond rfl (fun hc1 => ?_) (fun hc1 => ?_)
  · skip
    have hm : c ∈ s := Decidable.byContradiction fun g => by rw [if_neg g] at hc1; omega
    obtain ⟨h1, h2, h3⟩ := cut_found hm
    refine WC.say 7 (u := vi (cutA c s).length) rfl (by rw [if_pos hm]) ?_
    refine WC.seq ?_
    refine WC.still mixed (by kernel_rfl) ?_
    refine WA.rd rfl rfl rfl (Rd.move rfl rfl) ?_
    refine WA.rd rfl rfl rfl (Rd.move rfl rfl) ?_
    refine WA.rd rfl rfl rfl (Rd.scut_h (hi := (cutA c s).length) rfl Try.underlying9 rfl rfl (by omega) (by omega)) ?_
    refine WA.rd rfl rfl rfl (Rd.move rfl rfl) ?_
    refine WA.rd rfl rfl rfl (Rd.move rfl rfl) ?_
    refine WA.rd rfl rfl rfl (Rd.move rfl rfl) ?_
    refine WA.rd rfl rfl rfl (Rd.slen (ts := #[]) (ty := 0) rfl rfl Try.underlying9) ?_
    refine WA.rd rfl rfl rfl (Rd.add rfl rfl rfl (by simp only [List.length_cons, List.length_nil]; omega)) ?_
    refine WA.say 20 (u := vi ((cutA c s).length + 1 : Nat)) rfl (by simp) ?_
    refine WA.rd rfl rfl rfl (Rd.scut_l (lo := (cutA c s).length + 1) rfl Try.underlying9 rfl rfl (by omega) (by omega)) ?_
    refine WA.rd rfl rfl rfl (Rd.assign rfl rfl) ?_
    refine WA.rd rfl rfl rfl (Rd.assign rfl rfl) ?_
    refine WA.rd rfl rfl rfl (Rd.assign rfl rfl) ?_
    refine WA.nil ?_
    refine thenQ.normal ?_
    refine WC.ret (Ret.three Try.results33 rfl rfl rfl ?_)
    rw [← h2, ← h3, show decide (c ∈ s) = true from decide_eq_true hm] at *
    exact hk
  · skip
    refine WC.skip ?_
    refine thenQ.normal ?_
    refine WC.seq ?_
    refine WC.region ?_
    refine WL.rd rfl rfl rfl (Rd.move rfl rfl) ?_
    refine WL.rd rfl rfl rfl (Rd.assign rfl rfl) ?_
    refine WL.rd rfl rfl rfl (Rd.assign rfl rfl) ?_
    refine WL.rd rfl rfl rfl (Rd.assign rfl rfl) ?_
    refine WL.nil ?_
    refine thenQ.normal ?_
    refine WC.ret (Ret.three Try.results33 rfl rfl rfl ?_)
    have hm : c ∉ s := fun g => by rw [if_pos g] at hc1; omega
    obtain ⟨h1, h2⟩ := cut_none hm
    rw [h1, h2, show decide (c ∈ s) = false from decide_eq_false hm] at hk
    exact hk
set_option maxRecDepth 20000 in
theorem cut_spec {s : T} {c : UInt8} (hs : s.length ≤ 9000000000000000000) (hk : POST (.tuple #[vs (cutA c s), vs (cutB c s), .bool (decide (c ∈ s))]) R O) : Fun Try.prog 22 #[vs s, vs [c]] R O POST := by
  refine Fun.enter (l := [_, _]) Try.func22 rfl Try.ntmps22 rfl (L0 := [(0, _), (1, _)]) rfl ?_
  refine WC.seq ?_
  refine WC.region ?_
  refine WL.rd rfl rfl rfl (Rd.assign rfl rfl) ?_
  refine WL.rd rfl rfl rfl (Rd.assign rfl rfl) ?_
  refine WL.rd rfl rfl rfl (Rd.assign rfl rfl) ?_
  refine WL.nil ?_
  refine thenQ.normal ?_
  refine WC.seq ?_
  refine WC.region ?_
  refine WL.rd rfl rfl rfl (Rd.move rfl rfl) ?_
  refine WL.rd rfl rfl rfl (Rd.move rfl rfl) ?_
  refine WL.op rfl ?_
  refine OpW.call rfl rfl (by repeat (first | exact Evs.nil | apply Evs.cons rfl)) (by kernel_rfl) rfl rfl rfl ?_
  refine cut0_spec hs ?_
  refine WL.rd rfl rfl rfl (Rd.extract rfl rfl rfl) ?_
  refine WL.rd rfl rfl rfl (Rd.extract rfl rfl rfl) ?_
  refine WL.rd rfl rfl rfl (Rd.extract rfl rfl rfl) ?_
  refine WL.rd rfl rfl rfl (Rd.assign rfl rfl) ?_
  refine WL.rd rfl rfl rfl (Rd.assign rfl rfl) ?_
  refine WL.rd rfl rfl rfl (Rd.assign rfl rfl) ?_
  refine WL.nil ?_
  refine thenQ.normal ?_
  refine WC.ret (Ret.three Try.results22 rfl rfl rfl ?_)
  exact hk
set_option maxRecDepth 20000 in
theorem good_spec {s : T} (hs : s.length ≤ 9000000000000000000) (hk : POST (.bool (decide (goodP s))) R O) : Fun Try.prog 15 #[vs s] R O POST := by
  refine Fun.enter (l := [_]) Try.func15 rfl Try.ntmps15 rfl (L0 := [(0, _)]) rfl ?_
  refine WC.seq ?_
  refine WC.region ?_
  refine WL.rd rfl rfl rfl (Rd.assign rfl rfl) ?_
  refine WL.nil ?_
  refine thenQ.normal ?_
  refine WC.seq ?_
  refine WC.pick [0] (by repeat (first | exact Pick.nil | apply Pick.cons rfl)) ?_
  refine WC.val 11 (.bool (decide (s.length < 1 ∨ 64 < s.length))) ?_ ?_
  · skip
    refine WC.region ?_
    refine WL.rd rfl rfl rfl (Rd.move rfl rfl) ?_
    refine WL.rd rfl rfl rfl (Rd.slen (ts := #[]) (ty := 0) rfl rfl Try.underlying9) ?_
    refine WL.rd rfl rfl rfl (Rd.lss rfl rfl rfl) ?_
    refine WL.rd rfl rfl rfl (Rd.move rfl rfl) ?_
    refine WL.case 7 rfl (fun hg7 => ?_) (fun hg7 => ?_)
    · skip
      refine WL.no rfl rfl rfl rfl rfl rfl ?_
      refine WL.no rfl rfl rfl rfl rfl rfl ?_
      refine WL.no rfl rfl rfl rfl rfl rfl ?_
      refine WL.rd rfl rfl rfl (Rd.pick_t rfl rfl rfl) ?_
      refine WL.nil ?_
      exact ⟨by repeat (first | exact Sub.nil | refine Sub.cons rfl (by first | rfl | (first | exact vb_t (by omega) | exact vb ⟨fun h => .inr (by omega), fun h => by omega⟩)) ?_), by first | exact (fun _ h => h.thin (SubL.mem (by repeat (first | exact SubL.refl | refine SubL.cons (by repeat (first | assumption | exact mS | apply mT)) ?_ | refine SubL.skip ?_)))) | exact (fun w h => OwnL.sat (by repeat (first | exact OwnL.refl | apply OwnL.take (by repeat (first | exact Take.head _ | apply Take.tail)) | apply OwnL.drop)) w (h.thin (SubL.mem (by repeat (first | exact SubL.refl | refine SubL.cons (by repeat (first | assumption | exact mS | apply mT)) ?_ | refine SubL.skip ?_)))))⟩
    · skip
      refine WL.rd_yes rfl rfl rfl rfl rfl rfl (Rd.move rfl rfl) ?_
      refine WL.rd_yes rfl rfl rfl rfl rfl rfl (Rd.slen (ts := #[]) (ty := 0) rfl rfl Try.underlying9) ?_
      refine WL.rd_yes rfl rfl rfl rfl rfl rfl (Rd.gtr rfl rfl rfl) ?_
      refine WL.rd rfl rfl rfl (Rd.pick_f rfl rfl rfl) ?_
      refine WL.nil ?_
      exact ⟨by repeat (first | exact Sub.nil | refine Sub.cons rfl (by first | rfl | (first | exact vb_t (by omega) | exact vb ⟨fun h => .inr (by omega), fun h => by omega⟩)) ?_), by first | exact (fun _ h => h.thin (SubL.mem (by repeat (first | exact SubL.refl | refine SubL.cons (by repeat (first | assumption | exact mS | apply mT)) ?_ | refine SubL.skip ?_)))) | exact (fun w h => OwnL.sat (by repeat (first | exact OwnL.refl | apply OwnL.take (by repeat (first | exact Take.head _ | apply Take.tail)) | apply OwnL.drop)) w (h.thin (SubL.mem (by repeat (first | exact SubL.refl | refine SubL.cons (by repeat (first | assumption | exact mS | apply mT)) ?_ | refine SubL.skip ?_)))))⟩
  · skip
    first | refine WC.ite rfl (fun hc1 => ?_) (fun hc1 => ?_) | refine WC.cond rfl (fun hc1 => ?_) (fun hc1 => ?_)
    · skip
      refine WC.seq ?_
      refine WC.region ?_
      refine WL.rd rfl rfl rfl (Rd.assign rfl rfl) ?_
      refine WL.nil ?_
      refine thenQ.normal ?_
      refine WC.ret (Ret.one Try.results15 rfl ?_)
      rw [show decide (goodP s) = false from decide_eq_false (fun h => by have := h.2; omega)] at hk
      exact hk
    · skip
      refine WC.skip ?_
      refine thenQ.normal ?_
      refine WC.seq ?_
      refine WC.seq ?_
      refine WC.region ?_
      refine WL.rd rfl rfl rfl (Rd.move rfl rfl) ?_
      refine WL.rd rfl rfl rfl (Rd.slen (ts := #[]) (ty := 0) rfl rfl Try.underlying9) ?_
      refine WL.rd rfl rfl rfl (Rd.move rfl rfl) ?_
      refine WL.nil ?_
      refine thenQ.normal ?_
      refine WC.block ?_
      refine WC.pick [14, 0, 13] (by repeat (first | exact Pick.nil | apply Pick.cons rfl)) ?_
      refine WC.loop1o 1 (fun (i : Nat) => [(14, vi i)]) (fun (i : Nat) => i ≤ s.length ∧ ∀ j, j < i → inside s[j]!) (fun (i : Nat) => s.length - i) (0) (by repeat (first | exact Split.zero | apply Split.succ)) ?hinv1 (by repeat (first | exact Sub.nil | refine Sub.cons rfl (by first | rfl | (congr 1; omega) | assumption) ?_)) (fun _ h => h) ?_
      case hinv1 =>
        exact ⟨Nat.zero_le _, fun j h => absurd h (Nat.not_lt_zero _)⟩
      intro i
      rintro ⟨i1, i2⟩
      refine WC.seq ?_
      refine WC.region ?_
      refine WL.rd rfl rfl rfl (Rd.lss rfl rfl rfl) ?_
      refine WL.nil ?_
      refine thenQ.normal ?_
      refine WC.seq ?_
      first | refine WC.ite rfl (fun hc2 => ?_) (fun hc2 => ?_) | refine WC.cond rfl (fun hc2 => ?_) (fun hc2 => ?_)
      · skip
        refine WC.skip ?_
        refine thenQ.normal ?_
        refine WC.seq ?_
        refine WC.block ?_
        refine WC.seq ?_
        refine WC.region ?_
        refine WL.rd rfl rfl rfl (Rd.move rfl rfl) ?_
        refine WL.rd rfl rfl rfl (Rd.assign rfl rfl) ?_
        refine WL.nil ?_
        refine thenQ.normal ?_
        refine WC.pick [0, 3, 13, 14] (by repeat (first | exact Pick.nil | apply Pick.cons rfl)) ?_
        refine WC.val 26 (.bool (decide (¬ inside s[i]!))) ?_ ?_
        · skip
          refine WC.region ?_
          refine WL.rd rfl rfl rfl (Rd.move rfl rfl) ?_
          refine WL.rd rfl rfl rfl (Rd.move rfl rfl) ?_
          refine WL.rd rfl rfl rfl (Rd.sidx (k := i) rfl Try.underlying9 rfl rfl (by omega) (by first | assumption | rfl | exact get!_of_lt (by omega))) ?_
          refine WL.rd rfl rfl rfl (Rd.lss rfl rfl rfl) ?_
          refine WL.rd rfl rfl rfl (Rd.move rfl rfl) ?_
          refine WL.case 21 rfl (fun hg21 => ?_) (fun hg21 => ?_)
          · skip
            refine WL.no rfl rfl rfl rfl rfl rfl ?_
            refine WL.no rfl rfl rfl rfl rfl rfl ?_
            refine WL.no rfl rfl rfl rfl rfl rfl ?_
            refine WL.no rfl rfl rfl rfl rfl rfl ?_
            refine WL.rd rfl rfl rfl (Rd.pick_t rfl rfl rfl) ?_
            refine WL.nil ?_
            exact ⟨by repeat (first | exact Sub.nil | refine Sub.cons rfl (by first | rfl | (first | exact vb_t (fun h => by have := h.1; omega) | exact vb ⟨fun h g => by have := g.2; omega, fun h => by unfold inside at h; omega⟩)) ?_), by first | exact (fun _ h => h.thin (SubL.mem (by repeat (first | exact SubL.refl | refine SubL.cons (by repeat (first | assumption | exact mS | apply mT)) ?_ | refine SubL.skip ?_)))) | exact (fun w h => OwnL.sat (by repeat (first | exact OwnL.refl | apply OwnL.take (by repeat (first | exact Take.head _ | apply Take.tail)) | apply OwnL.drop)) w (h.thin (SubL.mem (by repeat (first | exact SubL.refl | refine SubL.cons (by repeat (first | assumption | exact mS | apply mT)) ?_ | refine SubL.skip ?_)))))⟩
          · skip
            refine WL.rd_yes rfl rfl rfl rfl rfl rfl (Rd.move rfl rfl) ?_
            refine WL.rd_yes rfl rfl rfl rfl rfl rfl (Rd.move rfl rfl) ?_
            refine WL.rd_yes rfl rfl rfl rfl rfl rfl (Rd.sidx (k := i) rfl Try.underlying9 rfl rfl (by omega) (by first | assumption | rfl | exact get!_of_lt (by omega))) ?_
            refine WL.rd_yes rfl rfl rfl rfl rfl rfl (Rd.gtr rfl rfl rfl) ?_
            refine WL.rd rfl rfl rfl (Rd.pick_f rfl rfl rfl) ?_
            refine WL.nil ?_
            exact ⟨by repeat (first | exact Sub.nil | refine Sub.cons rfl (by first | rfl | (first | exact vb_t (fun h => by have := h.1; omega) | exact vb ⟨fun h g => by have := g.2; omega, fun h => by unfold inside at h; omega⟩)) ?_), by first | exact (fun _ h => h.thin (SubL.mem (by repeat (first | exact SubL.refl | refine SubL.cons (by repeat (first | assumption | exact mS | apply mT)) ?_ | refine SubL.skip ?_)))) | exact (fun w h => OwnL.sat (by repeat (first | exact OwnL.refl | apply OwnL.take (by repeat (first | exact Take.head _ | apply Take.tail)) | apply OwnL.drop)) w (h.thin (SubL.mem (by repeat (first | exact SubL.refl | refine SubL.cons (by repeat (first | assumption | exact mS | apply mT)) ?_ | refine SubL.skip ?_)))))⟩
        · skip
          first | refine WC.ite rfl (fun hc3 => ?_) (fun hc3 => ?_) | refine WC.cond rfl (fun hc3 => ?_) (fun hc3 => ?_)
          · skip
            refine WC.seq ?_
            refine WC.region ?_
            refine WL.rd rfl rfl rfl (Rd.assign rfl rfl) ?_
            refine WL.nil ?_
            refine thenQ.normal ?_
            refine WC.ret (Ret.one Try.results15 rfl ?_)
            rw [show decide (goodP s) = false from decide_eq_false (fun h => hc3 (h.1 i (by omega)))] at hk
            exact hk
          · skip
            refine WC.skip ?_
            refine blockQ.normal ?_
            refine thenQ.normal ?_
            refine WC.region ?_
            refine WL.rd rfl rfl rfl (Rd.add rfl rfl rfl (by omega)) ?_
            refine WL.rd rfl rfl rfl (Rd.move rfl rfl) ?_
            refine WL.nil ?_
            exact loopQ1.mk (i + 1) ⟨by omega, fun j hj => by
            rcases Nat.lt_or_ge j i with h | h
            · exact i2 j h
            · obtain rfl : j = i := by omega
              exact Decidable.not_not.1 hc3⟩ (by omega) (by repeat (first | exact Sub.nil | refine Sub.cons rfl (by first | rfl | (congr 1; omega) | assumption) ?_)) (fun w h => OwnL.sat (by repeat (first | exact OwnL.refl | apply OwnL.take (by repeat (first | exact Take.head _ | apply Take.tail)) | apply OwnL.drop)) w (h.thin (SubL.mem (by repeat (first | exact SubL.refl | refine SubL.cons (by repeat (first | assumption | exact mS | apply mT)) ?_ | refine SubL.skip ?_)))))
      · skip
        refine WC.exit ?_
        refine thenQ.exit ?_
        refine loopQ1.exit ?_
        refine blockQ.exit ?_
        refine thenQ.normal ?_
        refine WC.seq ?_
        refine WC.region ?_
        refine WL.rd rfl rfl rfl (Rd.assign rfl rfl) ?_
        refine WL.nil ?_
        refine thenQ.normal ?_
        refine WC.ret (Ret.one Try.results15 rfl ?_)
        rw [show decide (goodP s) = true from decide_eq_true ⟨fun j hj => i2 j (by omega), by omega, by omega⟩] at hk
        exact hk
set_option maxRecDepth 20000 in
theorem rgood_spec {s : T} (hs : s.length ≤ 9000000000000000000) (hk : POST (.bool (decide (goodP s))) R O) : Fun Try.prog 16 #[vs s] R O POST := by
  refine Fun.enter (l := [_]) Try.func16 rfl Try.ntmps16 rfl (L0 := [(0, _)]) rfl ?_
  refine WC.seq ?_
  refine WC.region ?_
  refine WL.rd rfl rfl rfl (Rd.assign rfl rfl) ?_
  refine WL.nil ?_
  refine thenQ.normal ?_
  refine WC.seq ?_
  refine WC.seq ?_
  refine WC.region ?_
  refine WL.rd rfl rfl rfl (Rd.assign rfl rfl) ?_
  refine WL.nil ?_
  refine thenQ.normal ?_
  refine WC.block ?_
  refine WC.pick [3, 0] (by repeat (first | exact Pick.nil | apply Pick.cons rfl)) ?_
  refine WC.loop1o 1 (fun (i : Nat) => [(3, vi i)]) (fun (i : Nat) => i ≤ s.length ∧ ∀ j, j < i → inside s[j]!) (fun (i : Nat) => s.length - i) (0) (by repeat (first | exact Split.zero | apply Split.succ)) ?hinv1 (by repeat (first | exact Sub.nil | refine Sub.cons rfl (by first | rfl | (congr 1; omega) | assumption) ?_)) (fun _ h => h) ?_
  case hinv1 =>
    exact ⟨Nat.zero_le _, fun j h => absurd h (Nat.not_lt_zero _)⟩
  intro i
  rintro ⟨i1, i2⟩
  refine WC.seq ?_
  refine WC.seq ?_
  refine WC.region ?_
  refine WL.rd rfl rfl rfl (Rd.move rfl rfl) ?_
  refine WL.rd rfl rfl rfl (Rd.move rfl rfl) ?_
  refine WL.rd rfl rfl rfl (Rd.slen (ts := #[]) (ty := 0) rfl rfl Try.underlying9) ?_
  refine WL.rd rfl rfl rfl (Rd.lss rfl rfl rfl) ?_
  refine WL.nil ?_
  refine thenQ.normal ?_
  first | refine WC.ite rfl (fun hc1 => ?_) (fun hc1 => ?_) | refine WC.cond rfl (fun hc1 => ?_) (fun hc1 => ?_)
  · skip
    refine WC.skip ?_
    refine thenQ.normal ?_
    refine WC.seq ?_
    refine WC.block ?_
    refine WC.pick [0, 3] (by repeat (first | exact Pick.nil | apply Pick.cons rfl)) ?_
    refine WC.val 19 (.bool (decide (¬ inside s[i]!))) ?_ ?_
    · skip
      refine WC.region ?_
      refine WL.rd rfl rfl rfl (Rd.move rfl rfl) ?_
      refine WL.rd rfl rfl rfl (Rd.move rfl rfl) ?_
      refine WL.rd rfl rfl rfl (Rd.sidx (k := i) rfl Try.underlying9 rfl rfl (by omega) (by first | assumption | rfl | exact get!_of_lt (by omega))) ?_
      refine WL.rd rfl rfl rfl (Rd.lss rfl rfl rfl) ?_
      refine WL.rd rfl rfl rfl (Rd.move rfl rfl) ?_
      refine WL.case 14 rfl (fun hg14 => ?_) (fun hg14 => ?_)
      · skip
        refine WL.no rfl rfl rfl rfl rfl rfl ?_
        refine WL.no rfl rfl rfl rfl rfl rfl ?_
        refine WL.no rfl rfl rfl rfl rfl rfl ?_
        refine WL.no rfl rfl rfl rfl rfl rfl ?_
        refine WL.rd rfl rfl rfl (Rd.pick_t rfl rfl rfl) ?_
        refine WL.nil ?_
        exact ⟨by repeat (first | exact Sub.nil | refine Sub.cons rfl (by first | rfl | (first | exact vb_t (fun h => by have := h.1; omega) | exact vb ⟨fun h g => by have := g.2; omega, fun h => by unfold inside at h; omega⟩)) ?_), by first | exact (fun _ h => h.thin (SubL.mem (by repeat (first | exact SubL.refl | refine SubL.cons (by repeat (first | assumption | exact mS | apply mT)) ?_ | refine SubL.skip ?_)))) | exact (fun w h => OwnL.sat (by repeat (first | exact OwnL.refl | apply OwnL.take (by repeat (first | exact Take.head _ | apply Take.tail)) | apply OwnL.drop)) w (h.thin (SubL.mem (by repeat (first | exact SubL.refl | refine SubL.cons (by repeat (first | assumption | exact mS | apply mT)) ?_ | refine SubL.skip ?_)))))⟩
      · skip
        refine WL.rd_yes rfl rfl rfl rfl rfl rfl (Rd.move rfl rfl) ?_
        refine WL.rd_yes rfl rfl rfl rfl rfl rfl (Rd.move rfl rfl) ?_
        refine WL.rd_yes rfl rfl rfl rfl rfl rfl (Rd.sidx (k := i) rfl Try.underlying9 rfl rfl (by omega) (by first | assumption | rfl | exact get!_of_lt (by omega))) ?_
        refine WL.rd_yes rfl rfl rfl rfl rfl rfl (Rd.gtr rfl rfl rfl) ?_
        refine WL.rd rfl rfl rfl (Rd.pick_f rfl rfl rfl) ?_
        refine WL.nil ?_
        exact ⟨by repeat (first | exact Sub.nil | refine Sub.cons rfl (by first | rfl | (first | exact vb_t (fun h => by have := h.1; omega) | exact vb ⟨fun h g => by have := g.2; omega, fun h => by unfold inside at h; omega⟩)) ?_), by first | exact (fun _ h => h.thin (SubL.mem (by repeat (first | exact SubL.refl | refine SubL.cons (by repeat (first | assumption | exact mS | apply mT)) ?_ | refine SubL.skip ?_)))) | exact (fun w h => OwnL.sat (by repeat (first | exact OwnL.refl | apply OwnL.take (by repeat (first | exact Take.head _ | apply Take.tail)) | apply OwnL.drop)) w (h.thin (SubL.mem (by repeat (first | exact SubL.refl | refine SubL.cons (by repeat (first | assumption | exact mS | apply mT)) ?_ | refine SubL.skip ?_)))))⟩
    · skip
      first | refine WC.ite rfl (fun hc2 => ?_) (fun hc2 => ?_) | refine WC.cond rfl (fun hc2 => ?_) (fun hc2 => ?_)
      · skip
        refine WC.seq ?_
        refine WC.region ?_
        refine WL.rd rfl rfl rfl (Rd.assign rfl rfl) ?_
        refine WL.nil ?_
        refine thenQ.normal ?_
        refine WC.ret (Ret.one Try.results16 rfl ?_)
        rw [show decide (goodP s) = false from decide_eq_false (fun h => hc2 (h.1 i (by omega)))] at hk
        exact hk
      · skip
        refine WC.skip ?_
        refine blockQ.normal ?_
        refine thenQ.normal ?_
        refine WC.region ?_
        refine WL.rd rfl rfl rfl (Rd.move rfl rfl) ?_
        refine WL.rd rfl rfl rfl (Rd.add rfl rfl rfl (by omega)) ?_
        refine WL.rd rfl rfl rfl (Rd.assign rfl rfl) ?_
        refine WL.nil ?_
        exact loopQ1.mk (i + 1) ⟨by omega, fun j hj => by
        rcases Nat.lt_or_ge j i with h | h
        · exact i2 j h
        · obtain rfl : j = i := by omega
          exact Decidable.not_not.1 hc2⟩ (by omega) (by repeat (first | exact Sub.nil | refine Sub.cons rfl (by first | rfl | (congr 1; omega) | assumption) ?_)) (fun w h => OwnL.sat (by repeat (first | exact OwnL.refl | apply OwnL.take (by repeat (first | exact Take.head _ | apply Take.tail)) | apply OwnL.drop)) w (h.thin (SubL.mem (by repeat (first | exact SubL.refl | refine SubL.cons (by repeat (first | assumption | exact mS | apply mT)) ?_ | refine SubL.skip ?_)))))
  · skip
    refine WC.exit ?_
    refine thenQ.exit ?_
    refine loopQ1.exit ?_
    refine blockQ.exit ?_
    refine thenQ.normal ?_
    refine WC.seq ?_
    refine WC.region ?_
    refine WL.rd rfl rfl rfl (Rd.move rfl rfl) ?_
    refine WL.rd rfl rfl rfl (Rd.slen (ts := #[]) (ty := 0) rfl rfl Try.underlying9) ?_
    refine WL.rd rfl rfl rfl (Rd.gtr rfl rfl rfl) ?_
    refine WL.rd rfl rfl rfl (Rd.move rfl rfl) ?_
    refine WL.case 23 rfl (fun hg23 => ?_) (fun hg23 => ?_)
    · skip
      have hlen : 0 < s.length := by omega
      refine WL.rd_yes rfl rfl rfl rfl rfl rfl (Rd.move rfl rfl) ?_
      refine WL.rd_yes rfl rfl rfl rfl rfl rfl (Rd.slen (ts := #[]) (ty := 0) rfl rfl Try.underlying9) ?_
      refine WL.rd_yes rfl rfl rfl rfl rfl rfl (Rd.lss rfl rfl rfl) ?_
      refine WL.rd rfl rfl rfl (Rd.pick_t rfl rfl rfl) ?_
      refine WL.rd rfl rfl rfl (Rd.assign rfl rfl) ?_
      refine WL.nil ?_
      refine thenQ.normal ?_
      refine WC.ret (Ret.one Try.results16 rfl ?_)
      rw [show decide (goodP s) = decide ((s.length : Int) < 65) from decide_eq_decide.2 ⟨fun h => by have := h.2; omega, fun h => ⟨fun j hj => i2 j (by omega), hlen, by omega⟩⟩] at hk
      exact hk
    · skip
      refine WL.no rfl rfl rfl rfl rfl rfl ?_
      refine WL.no rfl rfl rfl rfl rfl rfl ?_
      refine WL.no rfl rfl rfl rfl rfl rfl ?_
      refine WL.rd rfl rfl rfl (Rd.pick_f rfl rfl rfl) ?_
      refine WL.rd rfl rfl rfl (Rd.assign rfl rfl) ?_
      refine WL.nil ?_
      refine thenQ.normal ?_
      refine WC.ret (Ret.one Try.results16 rfl ?_)
      rw [show decide (goodP s) = false from decide_eq_false (fun h => by have := h.2; omega)] at hk
      exact hk
end
end Go.Proofs.Ytnpkpcjiebiplaa
