/-
  Regions whose order is drawn, where what a reader leans on need hold only as long as no store behind it has come up. No program is in sight.
-/
import Derived.Test.YtfenbhaehkkkeaaLib
namespace Go.SL
open Go Go.RowKit

section
variable {P : Program} {ops : Array Oper} {Q : Exit → Act → World → Prop} {md : Region.Mode} {S : Array Bool → World → Prop}
/-- Whatever order is picked from here on, and S, at what has come up, holds behind each operation. -/
def wpAnyL (P : Program) (md : Region.Mode) (ops : Array Oper) (Q : Exit → Act → World → Prop) (S : Array Bool → World → Prop) : Nat → Array Bool → Act → World → Prop
  | 0, listed, a, w => Region.ready md ops listed = [] ∧ Q .normal a w
  | fuel + 1, listed, a, w =>
    (Region.ready md ops listed = [] → Q .normal a w) ∧
    ∀ i ∈ Region.ready md ops listed, wpOp P ops Q i (fun a' w' => S (listed.setIfInBounds i true) w' ∧ wpAnyL P md ops Q S fuel (listed.setIfInBounds i true) a' w') a w
theorem wpAny_of_L : ∀ (fuel : Nat) (listed : Array Bool) (a : Act) (w : World), wpAnyL P md ops Q S fuel listed a w → wpAny P md ops Q fuel listed a w
  | 0, _, _, _, h => h
  | fuel + 1, _, _, _, h => ⟨h.1, fun i hi => wpOp_mono (fun a' w' h' => wpAny_of_L fuel _ a' w' h'.2) (h.2 i hi)⟩
/-- Operation j waits for i. -/
def Waits (md : Region.Mode) (ops : Array Oper) (i j : Nat) : Prop := ∃ oj, ops[j]? = some oj ∧ ∃ e ∈ oj.after, Region.binds md e = true ∧ e.on = i
def Early (md : Region.Mode) (ops : Array Oper) (i : Nat) (l : Array Bool) : Prop := ∀ j, Waits md ops i j → l.getD j true = false
theorem wpAnyL_first {i : Nat} {oi : Oper} {v : Value} (hi : ops[i]? = some oi) (hsel : ∀ (j : Nat) (o : Oper) cs b, ops[j]? = some o → o.op ≠ .select cs b)
    (hQ : ∀ c a w, Q (.panic c) (a.put oi.dst v) w → Q (.panic c) a w)
    (hmono : ∀ l w, S l w → S (l.setIfInBounds i true) w) (hback : ∀ l w, S (l.setIfInBounds i true) w → S l w) :
    ∀ (fuel : Nat) (listed : Array Bool) (a : Act) (w : World),
      (∀ j oj, ops[j]? = some oj → j ≠ i → listed.getD j true = false → (∀ e ∈ oj.after, Region.binds md e = true → e.on ≠ i) → oi.apart ops oj = true) →
      i ∈ Region.ready md ops listed → Early md ops i listed → YieldsIf P ops (fun w => ∃ l, Early md ops i l ∧ S l w) oi v a → S listed w →
      wpAnyL P md ops Q S fuel (listed.setIfInBounds i true) (a.put oi.dst v) w → wpAnyL P md ops Q S (fuel + 1) listed a w := by
  intro fuel
  induction fuel with
  | zero =>
    intro listed a w _ hr hE hy hS H
    refine ⟨fun h => (by rw [h] at hr; cases hr), fun j hj => ?_⟩
    by_cases hji : j = i
    · subst hji; exact hy.wpOp hi ⟨listed, hE, hS⟩ ⟨hmono _ _ hS, H⟩
    · have := ready_mono hj hji
      rw [H.1] at this
      cases this
  | succ fuel ih =>
    intro listed a w hfree hr hE hy hS H
    refine ⟨fun h => (by rw [h] at hr; cases hr), fun j hj => ?_⟩
    by_cases hji : j = i
    · subst hji; exact hy.wpOp hi ⟨listed, hE, hS⟩ ⟨hmono _ _ hS, H⟩
    · have h1 := H.2 j (ready_mono hj hji)
      obtain ⟨hjun, oj, hoj, hall⟩ := mem_ready.1 hj
      have hnot : ∀ e ∈ oj.after, Region.binds md e = true → e.on ≠ i := fun e he hb heq => by
        have h1 := hall e he hb
        have h0 := (mem_ready.1 hr).1
        rw [heq] at h1
        rcases Nat.lt_or_ge i listed.size with h' | h'
        · simp [h'] at h0 h1; rw [h0] at h1; cases h1
        · simp [Array.getElem?_eq_none h'] at h1
      have h2 := wpOp_putIf hoj (hfree j oj hoj hji hjun hnot) (fun cs b => hsel i oi cs b hi) (fun cs b => hsel j oj cs b hoj) hQ hy h1
      have hfree' : ∀ k ok, ops[k]? = some ok → k ≠ i → (listed.setIfInBounds j true).getD k true = false →
          (∀ e ∈ ok.after, Region.binds md e = true → e.on ≠ i) → oi.apart ops ok = true := fun k ok hk hki hun hno => by
        refine hfree k ok hk hki ?_ hno
        by_cases hjk : j = k
        · subst hjk; exact hjun
        · rw [getD_set_ne true hjk] at hun; exact hun
      have hE' : Early md ops i (listed.setIfInBounds j true) := fun k hk => by
        have hjk : j ≠ k := by
          rintro rfl
          obtain ⟨ok, hok, e, he, hb, heq⟩ := hk
          rw [hoj] at hok
          cases hok
          exact hnot e he hb heq
        rw [getD_set_ne true hjk]; exact hE k hk
      refine wpOp_mono (fun a' w' h3 => ?_) h2
      have hS' : S (listed.setIfInBounds j true) w' := hback _ _ (by rw [Array.setIfInBounds_comm _ _ hji]; exact h3.2.1)
      refine ⟨hS', ih (listed.setIfInBounds j true) a' w' hfree' (ready_mono hr (Ne.symm hji)) hE' h3.1 hS' ?_⟩
      rw [Array.setIfInBounds_comm _ _ hji]
      exact h3.2.2
end

section draw
variable {P : Program} {n : Sz} {ops : Array Oper} {Q : Post} {S : List RO} {T : List Own} {U : List (Nat × Own)} {fuel : Nat} {listed : Array Bool} {L : Env} {R : List RO} {O : List Own} {o : Oper}
/-- What readers lean on: S, T to the end; each of U until its store has come up. -/
def FactsL (S : List RO) (T : List Own) (U : List (Nat × Own)) (l : Array Bool) (w : World) : Prop := (∀ p ∈ S, p w) ∧ (∀ c ∈ T, c.pred w) ∧ ∀ u ∈ U, l.getD u.1 true = false → u.2.pred w
def WE (P : Program) (n : Sz) (ops : Array Oper) (Q : Post) (S : List RO) (T : List Own) (U : List (Nat × Own)) (fuel : Nat) (listed : Array Bool) (L : Env) (R : List RO) (O : List Own) : Prop :=
  ∀ a w, Fr n L a → Sat R O w → wpAnyL P .any ops (lift n Q) (FactsL S T U) fuel listed a w
def HeldL (S : List RO) (T : List Own) (U : List (Nat × Own)) (l : Array Bool) (R : List RO) (O : List Own) : Prop := ∀ w, Sat R O w → FactsL S T U l w
/-- Those of U whose store hasn't come up. -/
def live (U : List (Nat × Own)) (l : Array Bool) : List Own := (U.filter fun u => l.getD u.1 true == false).map (·.2)
inductive Mems (O : List Own) : List Own → Prop
  | nil : Mems O []
  | cons {c : Own} {V : List Own} (h : c ∈ O) (k : Mems O V) : Mems O (c :: V)
theorem Mems.mem {V : List Own} (h : Mems O V) : ∀ c ∈ V, c ∈ O := by
  induction h with
  | nil => exact fun c hc => absurd hc List.not_mem_nil
  | cons h _ ih =>
    intro c hc
    rcases List.mem_cons.1 hc with rfl | hc
    · exact h
    · exact ih c hc
theorem HeldL.mk2 {l : Array Bool} (V : List Own) (hV : live U l = V) (hS : SubL S R) (hT : OwnL O T) (hU : Mems O V) : HeldL S T U l R O := fun _ h =>
  ⟨fun p hp => h.read (hS.mem p hp), fun c hc => h.see (hT.mem.1 c hc), fun u hu hl => h.see (hU.mem u.2 (by rw [← hV]; exact List.mem_map.2 ⟨u, List.mem_filter.2 ⟨hu, by rw [hl]; rfl⟩, rfl⟩))⟩
/-- Each store of U waits for i, and is not i. -/
def behindOk (ops : Array Oper) (U : List (Nat × Own)) (i : Nat) : Bool := U.all fun u => u.1 != i && (match ops[u.1]? with
  | some o => o.after.any fun e => Region.binds .any e && e.on == i
  | none => false)
theorem take_auxL {V : List (Nat × Own)} {i : Nat} {v : Value} {dst : Option Nat} {L' : Env} (hi : ops[i]? = some o) (hok : takeOk ops listed i = true) (hne : (U.all fun u => u.1 != i) = true) (hVU : V.Sublist U) (hb : behindOk ops V i = true) (hS : HeldL S T U listed R O) (hE : Early .any ops i listed) (hd : o.dst = dst) (hL : ∀ a, Fr n L a → Fr n L' (a.put dst v))
    (hy : ∀ a, Fr n L a → YieldsIf P ops (fun w => (∀ p ∈ S, p w) ∧ ∀ c ∈ V.map (·.2) ++ T, c.pred w) o v a) (k : WE P n ops Q S T U fuel (listed.setIfInBounds i true) L' R O) : WE P n ops Q S T U (fuel + 1) listed L R O := by
  intro a w hf hs
  simp only [takeOk, Bool.and_eq_true] at hok
  have hne2 : ∀ u ∈ U, u.1 ≠ i := fun u hu => by simpa using List.all_eq_true.1 hne u hu
  have hbw : ∀ u ∈ V, u.1 ≠ i ∧ Waits .any ops i u.1 := fun u hu => by
    have h := List.all_eq_true.1 hb u hu
    rw [Bool.and_eq_true] at h
    refine ⟨by simpa using h.1, ?_⟩
    have h2 := h.2
    cases ho : ops[u.1]? with
    | none => rw [ho] at h2; cases h2
    | some oj =>
      rw [ho] at h2
      obtain ⟨e, he, hee⟩ := Array.any_eq_true'.1 h2
      rw [Bool.and_eq_true] at hee
      exact ⟨oj, ho, e, he, hee.1, by simpa using hee.2⟩
  refine wpAnyL_first (v := v) hi (Region.noSelect_spec hok.1.1) (fun c a w h => h) ?_ ?_ fuel listed a w (Region.free_spec hi hok.1.2) (by simpa using hok.2) hE ?_ (hS w hs) ?_
  · rintro l w ⟨h1, h2, h3⟩
    exact ⟨h1, h2, fun u hu hl => h3 u hu (by rw [getD_set_ne true (Ne.symm (hne2 u hu))] at hl; exact hl)⟩
  · rintro l w ⟨h1, h2, h3⟩
    exact ⟨h1, h2, fun u hu hl => h3 u hu (by rw [getD_set_ne true (Ne.symm (hne2 u hu))]; exact hl)⟩
  · rcases hy a hf with ⟨h1, h2⟩ | h
    · refine .inl ⟨h1, fun w hw => h2 w ?_⟩
      obtain ⟨l, hEl, g1, g2, g3⟩ := hw
      refine ⟨g1, fun c hc => ?_⟩
      rcases List.mem_append.1 hc with hc | hc
      · obtain ⟨u, hu, rfl⟩ := List.mem_map.1 hc
        exact g3 u (hVU.subset hu) (hEl u.1 (hbw u hu).2)
      · exact g2 c hc
    · exact .inr h
  · rw [hd]
    exact k _ _ (hL a hf) hs
/-- No operation that waits for i has come up. -/
def earlyOk (ops : Array Oper) (listed : Array Bool) (i : Nat) : Bool := (List.range ops.size).all fun j => match ops[j]? with
  | some o => !(o.after.any fun e => Region.binds .any e && e.on == i) || (listed.getD j true == false)
  | none => true
theorem early_of {i : Nat} (h : earlyOk ops listed i = true) : Early .any ops i listed := by
  rintro j ⟨oj, hoj, e, he, hb, heq⟩
  have hj : j < ops.size := (Array.getElem?_eq_some_iff.1 hoj).1
  have h1 := List.all_eq_true.1 h j (List.mem_range.2 hj)
  rw [hoj] at h1
  simp only [Bool.or_eq_true, Bool.not_eq_true'] at h1
  rcases h1 with h1 | h1
  · have : (oj.after.any fun e => Region.binds .any e && e.on == i) = true := Array.any_eq_true'.2 ⟨e, he, by rw [hb, heq]; simp⟩
    rw [this] at h1; cases h1
  · simpa using h1
def readOk (ops : Array Oper) (listed : Array Bool) (U V : List (Nat × Own)) (i : Nat) : Bool := takeOk ops listed i && (behindOk ops V i && (earlyOk ops listed i && U.all fun u => u.1 != i))
theorem readOk_parts {V : List (Nat × Own)} {i : Nat} (h : readOk ops listed U V i = true) : takeOk ops listed i = true ∧ behindOk ops V i = true ∧ earlyOk ops listed i = true ∧ (U.all fun u => u.1 != i) = true := by
  unfold readOk at h
  rw [Bool.and_eq_true, Bool.and_eq_true, Bool.and_eq_true] at h
  exact ⟨h.1, h.2.1, h.2.2.1, h.2.2.2⟩
theorem WE.take (i : Nat) (V : List (Nat × Own)) {d : Nat} {v : Value} (hi : ops[i]? = some o) (hok : readOk ops listed U V i = true) (hVU : V.Sublist U) (hS : HeldL S T U listed R O) (hg : o.guard = none) (hd : o.dst = some d) (hn : Nat.blt d n.n = true) (h : Rd P o L S (V.map (·.2) ++ T) v)
    (k : WE P n ops Q S T U fuel (listed.setIfInBounds i true) ((d, v) :: L) R O) : WE P n ops Q S T U (fuel + 1) listed L R O :=
  take_auxL hi (readOk_parts hok).1 (readOk_parts hok).2.2.2 hVU (readOk_parts hok).2.1 hS (early_of (readOk_parts hok).2.2.1) hd (fun _ hf => hf.put hn v) (fun a hf => .inl ⟨by simp [Region.wanted, hg], fun w hw => h a.eval w (fun x u hx => hf.ev hx) hw.1 hw.2⟩) k
/-- The only operation that may come up now. -/
theorem WE.one (i : Nat) (hi : ops[i]? = some o) (hr : Region.ready .any ops listed = [i]) (hg : o.guard = none)
    (h : OpW P n o L R O (fun L' R' O' => HeldL S T U (listed.setIfInBounds i true) R' O' ∧ WE P n ops Q S T U fuel (listed.setIfInBounds i true) L' R' O')) : WE P n ops Q S T U (fuel + 1) listed L R O := by
  intro a w hf hs
  refine ⟨fun h0 => (by rw [hr] at h0; cases h0), fun j hj => ?_⟩
  rw [hr] at hj
  simp only [List.mem_singleton] at hj
  subst hj
  unfold wpOp
  rw [hi]
  simp only [Region.wanted, hg, if_true]
  exact .inl (Oper.wp_mono (fun a' w' ⟨L', R', O', hk, hf', hs'⟩ => ⟨hk.1 w' hs', hk.2 a' w' hf' hs'⟩) (h a w hf hs _))
/-- Several operations may come up now. -/
theorem WE.many (is : List Nat) (hr : Region.ready .any ops listed = is) (hne : is ≠ [])
    (h : ∀ i ∈ is, ∃ o, ops[i]? = some o ∧ o.guard = none ∧ OpW P n o L R O (fun L' R' O' => HeldL S T U (listed.setIfInBounds i true) R' O' ∧ WE P n ops Q S T U fuel (listed.setIfInBounds i true) L' R' O')) : WE P n ops Q S T U (fuel + 1) listed L R O := by
  intro a w hf hs
  refine ⟨fun h0 => absurd (hr ▸ h0) hne, fun x hx => ?_⟩
  rw [hr] at hx
  obtain ⟨o, ho, hg, hop⟩ := h x hx
  unfold wpOp
  rw [ho]
  simp only [Region.wanted, hg, if_true]
  exact .inl (Oper.wp_mono (fun a' w' ⟨L', R', O', hk, hf', hs'⟩ => ⟨hk.1 w' hs', hk.2 a' w' hf' hs'⟩) (hop a w hf hs _))
theorem WE.say (t : Nat) {v u : Value} (ht : Env.find L t = some v) (e : v = u) (k : WE P n ops Q S T U fuel listed ((t, u) :: L) R O) : WE P n ops Q S T U fuel listed L R O :=
  fun a w hf hs => k a w (hf.known ht e) hs
theorem WE.heap {R' : List RO} {O' : List Own} (hs : ∀ w, Sat R O w → Sat R' O' w) (c : WE P n ops Q S T U fuel listed L R' O') : WE P n ops Q S T U fuel listed L R O := fun a w hf h => c a w hf (hs w h)
theorem WE.done (hr : (Region.ready .any ops listed).isEmpty = true) (h : Q .normal L R O) : WE P n ops Q S T U fuel listed L R O := fun a w hf hs => by
  have hr' := List.isEmpty_iff.1 hr
  have hq := lift_normal h hf hs
  cases fuel with
  | zero => exact ⟨hr', hq⟩
  | succ m => exact ⟨fun _ => hq, fun i hi => by rw [hr'] at hi; cases hi⟩
theorem WC.drawnU {id : Nat} {l : List Oper} (T : List Own) (U : List (Nat × Own)) (m : Nat) (hlen : l.length = m) (hm : P.follows .mixedOrders = true) (h : WE P n l.toArray Q R T U m (Array.replicate m false) L R O) : WC P n (.region id l.toArray true) Q L R O := by
  subst hlen
  intro a w hf hs
  exact wp_region_any hm (wpAny_of_L _ _ _ _ (h a _ hf (hs.drew _)))
end draw
end Go.SL
