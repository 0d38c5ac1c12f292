/-
  Part 4 of the texts that the law TopWhole is proved with: Wde, Rfb, Sp3, Sp4, Sp5, Rng, Srt, It, Fw1, Fw2, Fw3, Fi2, Fi3, Fi4, Fi5, Fw4. No premise.
-/
import Derived.Test.YtckokhdjeifomaaGreatDoorZ3
import Derived.Maps.RangeRun
import Derived.Maps.Own
import Derived.Sort.KeysCollected
import Derived.Sort.Row
import Derived.Sort.Grow
import Derived.Lib.SlicesCompact
namespace Go.SL
open Go Go.RowKit
section
variable {P : Program} {ops : Array Oper} {Q : Exit → Act → World → Prop} {md : Region.Mode} {S : Array Bool → World → Prop}
/-- Whatever order is picked from here on, and S, at what has come up, holds behind each operation. -/
def wpAnyL (P : Program) (md : Region.Mode) (ops : Array Oper) (Q : Exit → Act → World → Prop) (S : Array Bool → World → Prop) : Nat → Array Bool → Act → World → Prop
 | 0, listed, a, w => Region.ready md ops listed = [] ∧ Q .normal a w
 | fuel + 1, listed, a, w =>
   (Region.ready md ops listed = [] → Q .normal a w) ∧
   ∀ i ∈ Region.ready md ops listed, wpOp P ops Q i (fun a' w' => S (listed.setIfInBounds i true) w' ∧ wpAnyL P md ops Q S fuel (listed.setIfInBounds i true) a' w') a w
theorem wpAny_of_L : ∀ (fuel : Nat) (listed : Array Bool) (a : Act) (w : World), wpAnyL P md ops Q S fuel listed a w → wpAny P md ops Q fuel listed a w
 | 0, _, _, _, h => h
 | fuel + 1, _, _, _, h => ⟨h.1, fun i hi => wpOp_mono (fun a' w' h' => wpAny_of_L fuel _ a' w' h'.2) (h.2 i hi)⟩
/-- Operation j waits for i. -/
def Waits (md : Region.Mode) (ops : Array Oper) (i j : Nat) : Prop := ∃ oj, ops[j]? = some oj ∧ ∃ e ∈ oj.after, Region.binds md e = true ∧ e.on = i
def Early (md : Region.Mode) (ops : Array Oper) (i : Nat) (l : Array Bool) : Prop := ∀ j, Waits md ops i j → l.getD j true = false
theorem wpAnyL_first {i : Nat} {oi : Oper} {v : Value} (hi : ops[i]? = some oi) (hsel : ∀ (j : Nat) (o : Oper) cs b, ops[j]? = some o → o.op ≠ .select cs b)
 (hQ : ∀ c a w, Q (.panic c) (a.put oi.dst v) w → Q (.panic c) a w)
 (hmono : ∀ l w, S l w → S (l.setIfInBounds i true) w) (hback : ∀ l w, S (l.setIfInBounds i true) w → S l w) :
 ∀ (fuel : Nat) (listed : Array Bool) (a : Act) (w : World),
  (∀ j oj, ops[j]? = some oj → j ≠ i → listed.getD j true = false → (∀ e ∈ oj.after, Region.binds md e = true → e.on ≠ i) → oi.apart ops oj = true) →
  i ∈ Region.ready md ops listed → Early md ops i listed → YieldsIf P ops (fun w => ∃ l, Early md ops i l ∧ S l w) oi v a → S listed w →
  wpAnyL P md ops Q S fuel (listed.setIfInBounds i true) (a.put oi.dst v) w → wpAnyL P md ops Q S (fuel + 1) listed a w := by
 intro fuel
 induction fuel with
 | zero =>
   intro listed a w _ hr hE hy hS H
   refine ⟨fun h => (by rw [h] at hr; cases hr), fun j hj => ?_⟩
   by_cases hji : j = i
   · subst hji; exact hy.wpOp hi ⟨listed, hE, hS⟩ ⟨hmono _ _ hS, H⟩
   · have := ready_mono hj hji
     rw [H.1] at this
     cases this
 | succ fuel ih =>
   intro listed a w hfree hr hE hy hS H
   refine ⟨fun h => (by rw [h] at hr; cases hr), fun j hj => ?_⟩
   by_cases hji : j = i
   · subst hji; exact hy.wpOp hi ⟨listed, hE, hS⟩ ⟨hmono _ _ hS, H⟩
   · have h1 := H.2 j (ready_mono hj hji)
     obtain ⟨hjun, oj, hoj, hall⟩ := mem_ready.1 hj
     have hnot : ∀ e ∈ oj.after, Region.binds md e = true → e.on ≠ i := fun e he hb heq => by
      have h1 := hall e he hb
      have h0 := (mem_ready.1 hr).1
      rw [heq] at h1
      rcases Nat.lt_or_ge i listed.size with h' | h'
      · simp [h'] at h0 h1; rw [h0] at h1; cases h1
      · simp [Array.getElem?_eq_none h'] at h1
     have h2 := wpOp_putIf hoj (hfree j oj hoj hji hjun hnot) (fun cs b => hsel i oi cs b hi) (fun cs b => hsel j oj cs b hoj) hQ hy h1
     have hfree' : ∀ k ok, ops[k]? = some ok → k ≠ i → (listed.setIfInBounds j true).getD k true = false →
      (∀ e ∈ ok.after, Region.binds md e = true → e.on ≠ i) → oi.apart ops ok = true := fun k ok hk hki hun hno => by
      refine hfree k ok hk hki ?_ hno
      by_cases hjk : j = k
      · subst hjk; exact hjun
      · rw [getD_set_ne true hjk] at hun; exact hun
     have hE' : Early md ops i (listed.setIfInBounds j true) := fun k hk => by
      have hjk : j ≠ k := by
       rintro rfl
       obtain ⟨ok, hok, e, he, hb, heq⟩ := hk
       rw [hoj] at hok
       cases hok
       exact hnot e he hb heq
      rw [getD_set_ne true hjk]; exact hE k hk
     refine wpOp_mono (fun a' w' h3 => ?_) h2
     have hS' : S (listed.setIfInBounds j true) w' := hback _ _ (by rw [Array.setIfInBounds_comm _ _ hji]; exact h3.2.1)
     refine ⟨hS', ih (listed.setIfInBounds j true) a' w' hfree' (ready_mono hr (Ne.symm hji)) hE' h3.1 hS' ?_⟩
     rw [Array.setIfInBounds_comm _ _ hji]
     exact h3.2.2
end
section draw
variable {P : Program} {n : Sz} {ops : Array Oper} {Q : Post} {S : List RO} {T : List Own} {U : List (Nat × Own)} {fuel : Nat} {listed : Array Bool} {L : Env} {R : List RO} {O : List Own} {o : Oper}
/-- What readers lean on: S, T to the end; each of U until its store has come up. -/
def FactsL (S : List RO) (T : List Own) (U : List (Nat × Own)) (l : Array Bool) (w : World) : Prop := (∀ p ∈ S, p w) ∧ (∀ c ∈ T, c.pred w) ∧ ∀ u ∈ U, l.getD u.1 true = false → u.2.pred w
def WE (P : Program) (n : Sz) (ops : Array Oper) (Q : Post) (S : List RO) (T : List Own) (U : List (Nat × Own)) (fuel : Nat) (listed : Array Bool) (L : Env) (R : List RO) (O : List Own) : Prop :=
 ∀ a w, Fr n L a → Sat R O w → wpAnyL P .any ops (lift n Q) (FactsL S T U) fuel listed a w
def HeldL (S : List RO) (T : List Own) (U : List (Nat × Own)) (l : Array Bool) (R : List RO) (O : List Own) : Prop := ∀ w, Sat R O w → FactsL S T U l w
/-- Those of U whose store hasn't come up. -/
def live (U : List (Nat × Own)) (l : Array Bool) : List Own := (U.filter fun u => l.getD u.1 true == false).map (·.2)
inductive Mems (O : List Own) : List Own → Prop
 | nil : Mems O []
 | cons {c : Own} {V : List Own} (h : c ∈ O) (k : Mems O V) : Mems O (c :: V)
theorem Mems.mem {V : List Own} (h : Mems O V) : ∀ c ∈ V, c ∈ O := by
 induction h with
 | nil => exact fun c hc => absurd hc List.not_mem_nil
 | cons h _ ih =>
   intro c hc
   rcases List.mem_cons.1 hc with rfl | hc
   · exact h
   · exact ih c hc
theorem HeldL.mk2 {l : Array Bool} (V : List Own) (hV : live U l = V) (hS : SubL S R) (hT : OwnL O T) (hU : Mems O V) : HeldL S T U l R O := fun _ h =>
 ⟨fun p hp => h.read (hS.mem p hp), fun c hc => h.see (hT.mem.1 c hc), fun u hu hl => h.see (hU.mem u.2 (by rw [← hV]; exact List.mem_map.2 ⟨u, List.mem_filter.2 ⟨hu, by rw [hl]; rfl⟩, rfl⟩))⟩
/-- Each store of U waits for i, and is not i. -/
def behindOk (ops : Array Oper) (U : List (Nat × Own)) (i : Nat) : Bool := U.all fun u => u.1 != i && (match ops[u.1]? with
 | some o => o.after.any fun e => Region.binds .any e && e.on == i
 | none => false)
theorem take_auxL {V : List (Nat × Own)} {i : Nat} {v : Value} {dst : Option Nat} {L' : Env} (hi : ops[i]? = some o) (hok : takeOk ops listed i = true) (hne : (U.all fun u => u.1 != i) = true) (hVU : V.Sublist U) (hb : behindOk ops V i = true) (hS : HeldL S T U listed R O) (hE : Early .any ops i listed) (hd : o.dst = dst) (hL : ∀ a, Fr n L a → Fr n L' (a.put dst v))
 (hy : ∀ a, Fr n L a → YieldsIf P ops (fun w => (∀ p ∈ S, p w) ∧ ∀ c ∈ V.map (·.2) ++ T, c.pred w) o v a) (k : WE P n ops Q S T U fuel (listed.setIfInBounds i true) L' R O) : WE P n ops Q S T U (fuel + 1) listed L R O := by
 intro a w hf hs
 simp only [takeOk, Bool.and_eq_true] at hok
 have hne2 : ∀ u ∈ U, u.1 ≠ i := fun u hu => by simpa using List.all_eq_true.1 hne u hu
 have hbw : ∀ u ∈ V, u.1 ≠ i ∧ Waits .any ops i u.1 := fun u hu => by
  have h := List.all_eq_true.1 hb u hu
  rw [Bool.and_eq_true] at h
  refine ⟨by simpa using h.1, ?_⟩
  have h2 := h.2
  cases ho : ops[u.1]? with
  | none => rw [ho] at h2; cases h2
  | some oj =>
    rw [ho] at h2
    obtain ⟨e, he, hee⟩ := Array.any_eq_true'.1 h2
    rw [Bool.and_eq_true] at hee
    exact ⟨oj, ho, e, he, hee.1, by simpa using hee.2⟩
 refine wpAnyL_first (v := v) hi (Region.noSelect_spec hok.1.1) (fun c a w h => h) ?_ ?_ fuel listed a w (Region.free_spec hi hok.1.2) (by simpa using hok.2) hE ?_ (hS w hs) ?_
 · rintro l w ⟨h1, h2, h3⟩
   exact ⟨h1, h2, fun u hu hl => h3 u hu (by rw [getD_set_ne true (Ne.symm (hne2 u hu))] at hl; exact hl)⟩
 · rintro l w ⟨h1, h2, h3⟩
   exact ⟨h1, h2, fun u hu hl => h3 u hu (by rw [getD_set_ne true (Ne.symm (hne2 u hu))]; exact hl)⟩
 · rcases hy a hf with ⟨h1, h2⟩ | h
   · refine .inl ⟨h1, fun w hw => h2 w ?_⟩
     obtain ⟨l, hEl, g1, g2, g3⟩ := hw
     refine ⟨g1, fun c hc => ?_⟩
     rcases List.mem_append.1 hc with hc | hc
     · obtain ⟨u, hu, rfl⟩ := List.mem_map.1 hc
       exact g3 u (hVU.subset hu) (hEl u.1 (hbw u hu).2)
     · exact g2 c hc
   · exact .inr h
 · rw [hd]
   exact k _ _ (hL a hf) hs
/-- No operation that waits for i has come up. -/
def earlyOk (ops : Array Oper) (listed : Array Bool) (i : Nat) : Bool := (List.range ops.size).all fun j => match ops[j]? with
 | some o => !(o.after.any fun e => Region.binds .any e && e.on == i) || (listed.getD j true == false)
 | none => true
theorem early_of {i : Nat} (h : earlyOk ops listed i = true) : Early .any ops i listed := by
 rintro j ⟨oj, hoj, e, he, hb, heq⟩
 have hj : j < ops.size := (Array.getElem?_eq_some_iff.1 hoj).1
 have h1 := List.all_eq_true.1 h j (List.mem_range.2 hj)
 rw [hoj] at h1
 simp only [Bool.or_eq_true, Bool.not_eq_true'] at h1
 rcases h1 with h1 | h1
 · have : (oj.after.any fun e => Region.binds .any e && e.on == i) = true := Array.any_eq_true'.2 ⟨e, he, by rw [hb, heq]; simp⟩
   rw [this] at h1; cases h1
 · simpa using h1
def readOk (ops : Array Oper) (listed : Array Bool) (U V : List (Nat × Own)) (i : Nat) : Bool := takeOk ops listed i && (behindOk ops V i && (earlyOk ops listed i && U.all fun u => u.1 != i))
theorem readOk_parts {V : List (Nat × Own)} {i : Nat} (h : readOk ops listed U V i = true) : takeOk ops listed i = true ∧ behindOk ops V i = true ∧ earlyOk ops listed i = true ∧ (U.all fun u => u.1 != i) = true := by
 unfold readOk at h
 rw [Bool.and_eq_true, Bool.and_eq_true, Bool.and_eq_true] at h
 exact ⟨h.1, h.2.1, h.2.2.1, h.2.2.2⟩
theorem WE.take (i : Nat) (V : List (Nat × Own)) {d : Nat} {v : Value} (hi : ops[i]? = some o) (hok : readOk ops listed U V i = true) (hVU : V.Sublist U) (hS : HeldL S T U listed R O) (hg : o.guard = none) (hd : o.dst = some d) (hn : Nat.blt d n.n = true) (h : Rd P o L S (V.map (·.2) ++ T) v)
 (k : WE P n ops Q S T U fuel (listed.setIfInBounds i true) ((d, v) :: L) R O) : WE P n ops Q S T U (fuel + 1) listed L R O :=
 take_auxL hi (readOk_parts hok).1 (readOk_parts hok).2.2.2 hVU (readOk_parts hok).2.1 hS (early_of (readOk_parts hok).2.2.1) hd (fun _ hf => hf.put hn v) (fun a hf => .inl ⟨by simp [Region.wanted, hg], fun w hw => h a.eval w (fun x u hx => hf.ev hx) hw.1 hw.2⟩) k
/-- The only operation that may come up now. -/
theorem WE.one (i : Nat) (hi : ops[i]? = some o) (hr : Region.ready .any ops listed = [i]) (hg : o.guard = none)
 (h : OpW P n o L R O (fun L' R' O' => HeldL S T U (listed.setIfInBounds i true) R' O' ∧ WE P n ops Q S T U fuel (listed.setIfInBounds i true) L' R' O')) : WE P n ops Q S T U (fuel + 1) listed L R O := by
 intro a w hf hs
 refine ⟨fun h0 => (by rw [hr] at h0; cases h0), fun j hj => ?_⟩
 rw [hr] at hj
 simp only [List.mem_singleton] at hj
 subst hj
 unfold wpOp
 rw [hi]
 simp only [Region.wanted, hg, if_true]
 exact .inl (Oper.wp_mono (fun a' w' ⟨L', R', O', hk, hf', hs'⟩ => ⟨hk.1 w' hs', hk.2 a' w' hf' hs'⟩) (h a w hf hs _))
/-- Several operations may come up now. -/
theorem WE.many (is : List Nat) (hr : Region.ready .any ops listed = is) (hne : is ≠ [])
 (h : ∀ i ∈ is, ∃ o, ops[i]? = some o ∧ o.guard = none ∧ OpW P n o L R O (fun L' R' O' => HeldL S T U (listed.setIfInBounds i true) R' O' ∧ WE P n ops Q S T U fuel (listed.setIfInBounds i true) L' R' O')) : WE P n ops Q S T U (fuel + 1) listed L R O := by
 intro a w hf hs
 refine ⟨fun h0 => absurd (hr ▸ h0) hne, fun x hx => ?_⟩
 rw [hr] at hx
 obtain ⟨o, ho, hg, hop⟩ := h x hx
 unfold wpOp
 rw [ho]
 simp only [Region.wanted, hg, if_true]
 exact .inl (Oper.wp_mono (fun a' w' ⟨L', R', O', hk, hf', hs'⟩ => ⟨hk.1 w' hs', hk.2 a' w' hf' hs'⟩) (hop a w hf hs _))
theorem WE.say (t : Nat) {v u : Value} (ht : Env.find L t = some v) (e : v = u) (k : WE P n ops Q S T U fuel listed ((t, u) :: L) R O) : WE P n ops Q S T U fuel listed L R O :=
 fun a w hf hs => k a w (hf.known ht e) hs
theorem WE.heap {R' : List RO} {O' : List Own} (hs : ∀ w, Sat R O w → Sat R' O' w) (c : WE P n ops Q S T U fuel listed L R' O') : WE P n ops Q S T U fuel listed L R O := fun a w hf h => c a w hf (hs w h)
theorem WE.done (hr : (Region.ready .any ops listed).isEmpty = true) (h : Q .normal L R O) : WE P n ops Q S T U fuel listed L R O := fun a w hf hs => by
 have hr' := List.isEmpty_iff.1 hr
 have hq := lift_normal h hf hs
 cases fuel with
 | zero => exact ⟨hr', hq⟩
 | succ m => exact ⟨fun _ => hq, fun i hi => by rw [hr'] at hi; cases hi⟩
theorem WC.drawnU {id : Nat} {l : List Oper} (T : List Own) (U : List (Nat × Own)) (m : Nat) (hlen : l.length = m) (hm : P.follows .mixedOrders = true) (h : WE P n l.toArray Q R T U m (Array.replicate m false) L R O) : WC P n (.region id l.toArray true) Q L R O := by
 subst hlen
 intro a w hf hs
 exact wp_region_any hm (wpAny_of_L _ _ _ _ (h a _ hf (hs.drew _)))
end draw
end Go.SL
namespace Go.SL
open Go
section
variable {P : Program} {n : Sz} {ops : Array Oper} {Q : Post} {rest : List Oper} {o : Oper} {L L' : Env} {R : List RO} {O O' : List Own}
theorem WR.drawnU {ro : Option Nat} {id : Nat} {l : List Oper} (T : List Own) (U : List (Nat × Own)) (m : Nat) (hlen : l.length = m) (hm : P.follows .mixedOrders = true) (h : WE P n l.toArray Q R T U m (Array.replicate m false) L R O) (hd : noDef l = true := by kernel_rfl) : WR ro P n (.region id l.toArray true) Q L R O := by
 subst hlen
 intro a w hf hs
 exact wpIn_region_any hm (wpAny_in (fun o ho => noDef_spec hd (by simpa using ho)) lift_out _ _ _ _ (wpAny_of_L _ _ _ _ (h a _ hf (hs.drew _))))
theorem thenR.retR {ro : Option Nat} {y : Code} (h : Q .ret L R O) : thenR ro P n y Q .ret L R O := h
theorem blockQ.retR {id : Nat} (h : Q .ret L R O) : blockQ id Q .ret L R O := h
theorem loopQ1.retR {α : Type} {ch : α → Env} {Lc : Env} {RF : α → List RO} {OF : α → List Own} {I : α → Prop} {μ : α → Nat} {m : Nat} (h : Q .ret L R O) : loopQ1 ch Lc RF OF I μ m Q .ret L R O := h
theorem loopQ2.retR {α β : Type} {ch : α → β → Env} {Lc : Env} {RF : α → β → List RO} {OF : α → β → List Own} {I : α → β → Prop} {μ : α → β → Nat} {m : Nat} (h : Q .ret L R O) : loopQ2 ch Lc RF OF I μ m Q .ret L R O := h
theorem thenQ.retR {y : Code} (h : Q .ret L R O) : thenQ P n y Q .ret L R O := h
theorem loopQ4.retR {α β γ δ : Type} {ch : α → β → γ → δ → Env} {Lc : Env} {RF : α → β → γ → δ → List RO} {OF : α → β → γ → δ → List Own} {I : α → β → γ → δ → Prop} {μ : α → β → γ → δ → Nat} {m : Nat} (h : Q .ret L R O) : loopQ4 ch Lc RF OF I μ m Q .ret L R O := h
theorem WY.case (t : Nat) {p : Prop} [Decidable p] (ht : Env.find L t = some (.bool (decide p))) (hy : p → WY P n ops Q rest ((t, .bool true) :: L) R O) (hno : ¬ p → WY P n ops Q rest ((t, .bool false) :: L) R O) : WY P n ops Q rest L R O := by
 intro a w hf hs
 by_cases h : p
 · exact hy h a w (hf.known ht (by simp [h])) hs
 · exact hno h a w (hf.known ht (by simp [h])) hs
theorem WY.op_yes {j d : Nat} {b : Bool} (hg : o.guard = some (j, b)) (hj : (ops[j]?).bind (·.dst) = some d) (hn : Nat.blt d n.n = true) (hb : Env.find L d = some (.bool b))
 (h : OpW P n o L R O (fun L' R' O' => WY P n ops Q rest L' R' O')) (hd : noDef [o] = true := by kernel_rfl) : WY P n ops Q (o :: rest) L R O := by
 intro a w hf hs
 unfold wpListIn
 rw [if_pos (by rw [wanted_of hf hg hj hn hb]; simp)]
 refine wp_in (noDef_spec hd List.mem_cons_self) ?_
 exact Oper.wp_mono (fun a' w' ⟨L', R', O', hk, hf', hs'⟩ => hk a' w' hf' hs') (h a w hf hs _)
theorem WY.rd_yes {j d e : Nat} {b : Bool} {v : Value} (hg : o.guard = some (j, b)) (hj : (ops[j]?).bind (·.dst) = some e) (hne : Nat.blt e n.n = true) (hb : Env.find L e = some (.bool b))
 (hd : o.dst = some d) (hn : Nat.blt d n.n = true) (h : Rd P o L R O v) (k : WY P n ops Q rest ((d, v) :: L) R O) (hdf : noDef [o] = true := by kernel_rfl) : WY P n ops Q (o :: rest) L R O :=
 WY.op_yes hg hj hne hb (OpW.rd hd hn h k) hdf
theorem WY.no {j d e : Nat} {b : Bool} (hg : o.guard = some (j, b)) (hj : (ops[j]?).bind (·.dst) = some e) (hne : Nat.blt e n.n = true) (hb : Env.find L e = some (.bool (!b)))
 (hd : o.dst = some d) (_ : Nat.blt d n.n = true) (k : WY P n ops Q rest ((d, undef) :: L) R O) : WY P n ops Q (o :: rest) L R O := by
 rename_i hn
 intro a w hf hs
 unfold wpListIn
 rw [if_neg (by rw [wanted_of hf hg hj hne hb]; cases b <;> simp), hd]
 exact ⟨fun _ _ => trivial, k _ _ (hf.put hn _) hs⟩
theorem WY.yield_yes {l j e : Nat} {b0 : Bool} {x : Operand} {xs : List Operand} {azs : List Value} {ts : Array TypeId} {d : Nat} (hg : o.guard = some (j, b0)) (hj : (ops[j]?).bind (·.dst) = some e) (hne : Nat.blt e n.n = true) (hb : Env.find L e = some (.bool b0)) (ho : o.op = .call { callee := .value x, args := xs.toArray, argTypes := ts })
 (hx : ev L x = some (.func (.yield l) #[] #[])) (has : Evs L xs azs) (hd : o.dst = some d) (hn : Nat.blt d n.n = true)
 (h : Yld P l azs R O (fun b R' O' => WY P n ops Q rest ((d, .bool b) :: L) R' O')) : WY P n ops Q (o :: rest) L R O := by
 intro a w hf hs
 unfold wpListIn
 rw [if_pos (by rw [wanted_of hf hg hj hne hb]; simp)]
 refine ⟨fun _ _ => trivial, ?_⟩
 have e1 : a.eval x = _ := hf.ev hx
 have e2 := has.eval (ρ := a.eval) (fun x u hx => hf.ev hx)
 obtain ⟨fn, tmps, assign, body, hy, hR⟩ := h w hs
 have hr : (execOp a.eval o).run P w = .ok (.round l fn tmps assign body) w := by
  simp only [execOp, ho, resolve, e1, Deferred.ofValue, List.map_toArray, e2, Sem.run_bind, Sem.run_pure, Result.andThen_ok, invoke]
  simpa using hy
 show o.uponIn _ _ _ _ _ _ ((o.semAt none a.eval).run P w)
 rw [Oper.semAt_none, hr, Oper.uponIn_round]
 refine ⟨fun hx => Bool.noConfusion hx, hR.mono fun e w' hq => ?_⟩
 obtain ⟨b, R', O', he, hk, hs'⟩ := hq
 subst he
 rw [hd]
 exact hk _ _ (hf.put hn _) hs'
/-- How a round may end: off its body's end, or by a jump to the end of block 'id'. -/
def roundB (id l : Nat) (n : Sz) (L : Env) (D : Nat) (ps : Array Tmp) (assign body : Code) (K : Bool → List RO → List Own → Prop) : Post
 | .normal, _, R, O => ∃ O2, Take (recC l n L D .busy none ps assign body) O O2 ∧ K true R (recC l n L D .ready none ps assign body :: O2)
 | .exit i, _, R, O => i = id ∧ ∃ O2, Take (recC l n L D .busy none ps assign body) O O2 ∧ K false R (recC l n L D .done (some (.exit id)) ps assign body :: O2)
 | _, _, _, _ => False
def assignB (id l : Nat) (P : Program) (n : Sz) (L : Env) (D : Nat) (ps : Array Tmp) (assign body : Code) (K : Bool → List RO → List Own → Prop) : Post
 | .normal, L', R, O => ∃ O2, Take (recC l n L D .ready none ps assign body) O O2 ∧ WR (some l) P ⟨n.n, []⟩ body (roundB id l n L D ps assign body K) L' R (recC l n L D .busy none ps assign body :: O2)
 | _, _, _, _ => False
theorem assignB.mk {id l : Nat} {Lr L' : Env} {D : Nat} {ps : Array Tmp} {assign body : Code} {K : Bool → List RO → List Own → Prop} {O2 : List Own} (hT : Take (recC l n Lr D .ready none ps assign body) O O2)
 (h : WR (some l) P ⟨n.n, []⟩ body (roundB id l n Lr D ps assign body K) L' R (recC l n Lr D .busy none ps assign body :: O2)) : assignB id l P n Lr D ps assign body K .normal L' R O := ⟨O2, hT, h⟩
theorem roundB.on {id l : Nat} {Lr L' : Env} {D : Nat} {ps : Array Tmp} {assign body : Code} {K : Bool → List RO → List Own → Prop} {O2 : List Own} (hT : Take (recC l n Lr D .busy none ps assign body) O O2)
 (h : K true R (recC l n Lr D .ready none ps assign body :: O2)) : roundB id l n Lr D ps assign body K .normal L' R O := ⟨O2, hT, h⟩
theorem roundB.off {id l : Nat} {Lr L' : Env} {D : Nat} {ps : Array Tmp} {assign body : Code} {K : Bool → List RO → List Own → Prop} {O2 : List Own} (hT : Take (recC l n Lr D .busy none ps assign body) O O2)
 (h : K false R (recC l n Lr D .done (some (.exit id)) ps assign body :: O2)) : roundB id l n Lr D ps assign body K (.exit id) L' R O := ⟨rfl, O2, hT, h⟩
theorem Yld.roundB {id l : Nat} {Lr : Env} {D : Nat} {ps : List Nat} {assign body : Code} {args : List Value} {K : Bool → List RO → List Own → Prop} {L0 : Env}
 (hT : Take (recC l n Lr D .ready none ps.toArray assign body) O O') (hsz : args.length = ps.length) (hps : ps.all (fun p => Nat.blt p n.n) = true) (hL0 : paramsEnv ps args Lr = L0)
 (h : WR (some l) P ⟨n.n, []⟩ assign (assignB id l P n Lr D ps.toArray assign body K) L0 R (recC l n Lr D .ready none ps.toArray assign body :: O')) : Yld P l args R O K := by
 intro w hs
 have hs1 := hs.perm hT.perm
 obtain ⟨f, tmps, hl, hf⟩ := hs1.see List.mem_cons_self
 have hy := run_yield (P := P) (args := args.toArray) hl (by simpa using hsz)
 refine ⟨f, _, assign, body, hy, ?_⟩
 refine roundIn_of_wpIn trivial ?_
 have hzip : (ps.toArray.zip args.toArray).foldl (fun t (p, v) => t.setIfInBounds p v) tmps = (ps.zip args).foldl (fun t (p, v) => t.setIfInBounds p v) tmps := by
  rw [← Array.foldl_toList]; simp
 have hf0 : Fr ⟨n.n, []⟩ L0 { tmps := (ps.toArray.zip args.toArray).foldl (fun t (p, v) => t.setIfInBounds p v) tmps, defers := [] } := by
  rw [hzip, ← hL0]; exact Fr.params ps args hps hf
 refine wpIn_mono (h _ w hf0 hs1) fun e a1 w1 hq => ?_
 cases e with
 | normal =>
   obtain ⟨L1, R1, O1, ⟨O2, hT1, hb⟩, hf1, hs1⟩ := hq
   have hs2 := hs1.perm hT1.perm
   obtain ⟨f1, tmps1, hl1, hfr1⟩ := hs2.see List.mem_cons_self
   refine ⟨_, run_beginRound hl1 rfl, ?_⟩
   refine wpIn_mono (hb a1 _ hf1 (hs2.loopPut hfr1)) fun e a2 w2 hq => ?_
   cases e with
   | normal =>
     obtain ⟨L2, R2, O3, ⟨O4, hT2, hk⟩, _, hs3⟩ := hq
     have hs4 := hs3.perm hT2.perm
     obtain ⟨f2, tmps2, hl2, hfr2⟩ := hs4.see List.mem_cons_self
     exact ⟨_, _, run_endRound none hl2, true, _, _, rfl, hk, hs4.loopPut hfr2⟩
   | exit i =>
     obtain ⟨L2, R2, O3, ⟨rfl, O4, hT2, hk⟩, _, hs3⟩ := hq
     have hs4 := hs3.perm hT2.perm
     obtain ⟨f2, tmps2, hl2, hfr2⟩ := hs4.see List.mem_cons_self
     exact ⟨_, _, run_endRound (some (.exit i)) hl2, false, _, _, rfl, hk, hs4.loopPut hfr2⟩
   | ret => obtain ⟨_, _, _, hk, _⟩ := hq; exact hk.elim
   | goto t => obtain ⟨_, _, _, hk, _⟩ := hq; exact hk.elim
   | panic c => exact hq.elim
   | outgrown => exact hq.elim
 | ret => obtain ⟨_, _, _, hk, _⟩ := hq; exact hk.elim
 | exit id => obtain ⟨_, _, _, hk, _⟩ := hq; exact hk.elim
 | goto t => obtain ⟨_, _, _, hk, _⟩ := hq; exact hk.elim
 | panic c => exact hq.elim
 | outgrown => exact hq.elim
/-- What is there behind the iterator's return: it ended, or a round broke off. -/
def EndB (P : Program) (id l D : Nat) (n : Sz) (ps : List Nat) (assign body y : Code) (Q : Post) (L : Env) (R : List RO) (O : List Own) : Prop :=
 ∃ O2, (Take (recC l n L D .ready none ps.toArray assign body) O O2 ∨ Take (recC l n L D .done (some (.exit id)) ps.toArray assign body) O O2) ∧ WC P ⟨n.n, markOf D⟩ y (onlyRet Q) L R O2
def RangeB (P : Program) (n : Sz) (id : Nat) (g : Operand) (ps : List Nat) (assign body y : Code) (Q : Post) (L : Env) (R : List RO) (O : List Own) : Prop :=
 ∃ gf fs lb, ev L g = some (.func (.func gf) (List.toArray fs) (List.toArray lb)) ∧ hasBody P gf = true ∧
  ∀ l D, Fun P gf (fs ++ .func (.yield l) #[] #[] :: lb).toArray R (recC l n L D .ready none ps.toArray assign body :: dfC D :: O) (fun _ R' O' => EndB P id l D n ps assign body y Q L R' O')
theorem RangeB.mk {id : Nat} {g : Operand} {ps : List Nat} {assign body y : Code} {gf : Nat} {fs lb : List Value} (hg : ev L g = some (.func (.func gf) fs.toArray lb.toArray)) (hb : hasBody P gf = true)
 (h : ∀ l D, Fun P gf (fs ++ .func (.yield l) #[] #[] :: lb).toArray R (recC l n L D .ready none ps.toArray assign body :: dfC D :: O) (fun _ R' O' => EndB P id l D n ps assign body y Q L R' O')) :
 RangeB P n id g ps assign body y Q L R O := ⟨gf, fs, lb, hg, hb, h⟩
theorem RangeB.core {g : Operand} {ps : List Nat} {assign body y : Code} {id : Nat} {a : Act} {w : World} (hds : n.ds = []) (hr : RangeB P n id g ps assign body y Q L R O) (hf : Fr n L a) (hs : Sat R O w) :
 (Code.block id (.rangeFunc g ps.toArray assign body)).wpIn Fence.wide 0 P (Exit.then (y.wpIn Fence.wide 0 P (lift n Q)) (lift n Q)) a w := by
 obtain ⟨gf, fs, lb, hg, hb, h⟩ := hr
 refine wpIn_block ?_
 refine wpIn_rangeFunc fun fn _ => ?_
 have hsD : Sat R (dfC w.heap.size :: O) (w.alloc (.deferred (some []))) := hs.alloc _ _ rfl (fun w' h _ => h)
 have hsz : (w.alloc (.deferred (some []))).heap.size = w.heap.size + 1 := by simp
 have hfr : Fr ⟨n.n, []⟩ L { tmps := a.tmps, defers := [] } := ⟨hf.size, rfl, fun t v ht => hf.get t v ht⟩
 have hsL : Sat R (recC (w.heap.size + 1) n L w.heap.size .ready none ps.toArray assign body :: dfC w.heap.size :: O) ((w.alloc (.deferred (some []))).alloc (.loop { state := .ready, pending := none, fn, tmps := a.tmps, params := ps.toArray, assign, body, defers := w.heap.size })) :=
  hsD.alloc _ _ (by rw [hsz]; rfl) (fun w' h _ => ⟨fn, a.tmps, by rw [hsz] at h; exact h, hfr⟩)
 have e1 : a.eval g = _ := hf.ev hg
 have hc := h (w.heap.size + 1) w.heap.size _ hsL
 obtain ⟨W1, hW1⟩ : ∃ W1, (w.alloc (.deferred (some []))).alloc (.loop { state := .ready, pending := none, fn, tmps := a.tmps, params := ps.toArray, assign, body, defers := w.heap.size }) = W1 := ⟨_, rfl⟩
 rw [hW1] at hc
 have fin : ∀ (R' : List RO) (O2 : List Own) (w3 : World), WC P ⟨n.n, markOf w.heap.size⟩ y (onlyRet Q) L R' O2 → Sat R' O2 w3 → Code.wpIn Fence.wide 0 P y (lift n Q) { a with defers := markOf w.heap.size ++ a.defers } w3 := by
  intro R' O2 w3 hy hs4
  have hf2 : Fr ⟨n.n, markOf w.heap.size⟩ L { a with defers := markOf w.heap.size ++ a.defers } := ⟨hf.size, by show _ ++ a.defers = _; rw [hf.defers, hds]; rfl, fun t v ht => hf.get t v ht⟩
  have hy' := hy _ _ hf2 hs4
  refine wpIn_wide.2 (wp_mono hy' fun e a' w' hq => ?_)
  cases e with
  | ret => obtain ⟨L', R', O', h1, h2, h3⟩ := hq; exact ⟨L', R', O', h1, h2, h3⟩
  | normal => obtain ⟨_, _, _, hk, _⟩ := hq; exact hk.elim
  | exit id => obtain ⟨_, _, _, hk, _⟩ := hq; exact hk.elim
  | goto t => obtain ⟨_, _, _, hk, _⟩ := hq; exact hk.elim
  | panic c => exact hq.elim
  | outgrown => exact hq.elim
 refine ⟨w.heap.size + 1, markOf w.heap.size, W1, { target := .fn (.func gf) lb.toArray, args := fs.toArray ++ #[.func (.yield (w.heap.size + 1)) #[] #[]] }, W1, gf, (fs ++ .func (.yield (w.heap.size + 1)) #[] #[] :: lb).toArray, W1,
  hW1 ▸ run_enterLoop_outer fn a.tmps ps.toArray assign body, ?_, fun _ _ => trivial, ?_, fun hx => Bool.noConfusion hx, (callsIn_wide (n := 0)).2 (hc.mono ?_)⟩
 · simp only [resolve, e1]
   simp [go_sem, Deferred.ofValue]
 · simp [invoke, go_sem, run_callFunc hb]
 · rintro e w2 ⟨v, R', O', rfl, ⟨O2, hT, hy⟩, hs2⟩
   rcases hT with hT | hT
   · have hs3 := hs2.perm hT.perm
     obtain ⟨f2, tmps2, hl2, hfr2⟩ := hs3.see List.mem_cons_self
     refine ⟨none, _, run_endLoop hl2 (by simp), ?_⟩
     exact fin R' O2 _ hy (hs3.loopPut (st' := .exhausted) (pe' := none) (f := f2) hfr2).drop
   · have hs3 := hs2.perm hT.perm
     obtain ⟨f2, tmps2, hl2, hfr2⟩ := hs3.see List.mem_cons_self
     refine ⟨some (.exit id), _, run_endLoop hl2 (by simp), ?_⟩
     have := fin R' O2 _ hy (hs3.loopPut (st' := .exhausted) (pe' := some (.exit id)) (f := f2) hfr2).drop
     refine wpIn_exit ?_
     simpa [Exit.inBlock, Exit.then] using this
def rangeBQ (P : Program) (n : Sz) (id : Nat) (g : Operand) (ps : List Nat) (assign body y : Code) (Q : Post) : Post
 | .normal, L, R, O => RangeB P n id g ps assign body y Q L R O
 | e, L, R, O => Q e L R O
theorem rangeBQ.normal {id : Nat} {g : Operand} {ps : List Nat} {assign body y : Code} (h : RangeB P n id g ps assign body y Q L R O) : rangeBQ P n id g ps assign body y Q .normal L R O := h
/-- A range that stands in a case, with what stands behind the case. -/
def condBQ (P : Program) (n : Sz) (id : Nat) (c g : Operand) (ps : List Nat) (assign body x y : Code) (Q : Post) : Post
 | .normal, L, R, O => ∃ b : Bool, ev L c = some (.bool b) ∧ (b = true → WC P n x (rangeBQ P n id g ps assign body y Q) L R O) ∧ (b = false → WC P n y Q L R O)
 | e, L, R, O => Q e L R O
theorem condBQ.mk {id : Nat} {c g : Operand} {ps : List Nat} {assign body x y : Code} {p : Prop} [Decidable p] (hc : ev L c = some (.bool (decide p))) (ht : p → WC P n x (rangeBQ P n id g ps assign body y Q) L R O) (hf : ¬ p → WC P n y Q L R O) :
 condBQ P n id c g ps assign body x y Q .normal L R O := ⟨_, hc, fun h => ht (of_decide_eq_true h), fun h => hf (of_decide_eq_false h)⟩
theorem condBQ.core {c g : Operand} {ps : List Nat} {assign body x y : Code} {id : Nat} {a : Act} {w : World} (hds : n.ds = []) (h : condBQ P n id c g ps assign body x y Q .normal L R O) (hfr : Fr n L a) (hs : Sat R O w) :
 (Code.cond c (.seq x (.block id (.rangeFunc g ps.toArray assign body))) .skip).wpIn Fence.wide 0 P (Exit.then (y.wpIn Fence.wide 0 P (lift n Q)) (lift n Q)) a w := by
 obtain ⟨b, hc, ht, hf⟩ := h
 refine wpIn_cond_split (hfr.ev hc) (fun h => ?_) (fun h => ?_)
 · refine wpIn_seq (wpIn_wide.2 (wp_mono (ht h a w hfr hs) fun e a' w' hq => ?_))
   cases e with
   | normal => obtain ⟨L', R', O', hk, hf', hs'⟩ := hq; exact RangeB.core hds hk hf' hs'
   | exit id => exact hq
   | goto l => exact hq
   | ret => exact hq
   | panic c => exact hq
   | outgrown => exact hq
 · exact wpIn_skip (wpIn_wide.2 (hf h a w hfr hs))
theorem WC.condRangeSeq {r : Code} {c g : Operand} {ps : List Nat} {assign body x y : Code} {id : Nat} (hds : n.ds = []) (h : WC P n r (condBQ P n id c g ps assign body x y Q) L R O) :
 WC P n (.seq (.seq r (.cond c (.seq x (.block id (.rangeFunc g ps.toArray assign body))) .skip)) y) Q L R O := by
 intro a w hf hs
 refine wpIn_wide.1 (wpIn_seq (F := Fence.wide) (n := 0) (wpIn_seq (wpIn_wide.2 (wp_mono (h a w hf hs) fun e a' w' hq => ?_))))
 cases e with
 | normal => obtain ⟨L', R', O', hk, hf', hs'⟩ := hq; exact condBQ.core hds hk hf' hs'
 | exit id => exact hq
 | goto l => exact hq
 | ret => exact hq
 | panic c => exact hq
 | outgrown => exact hq
end
end Go.SL
namespace Go.Proofs.YtckokhdjeifomaaGreatDoor
open Go Go.SL
section
variable {R : List RO} {O : List Own} {POST : Value → List RO → List Own → Prop} {n : Nat} {f : Nat → Bool}
set_option maxRecDepth 20000 in
theorem spGive_spec {xs : List Ext} {xv : Value} (hx : SlE encX xv xs ∈ R) (hn : n ≤ 4096) (ht : TurnOk n false f xs) (hl : xs.length ≤ 1000000) (hk : POST (.tuple #[spV n (turnF false f xs), .int .i64 0]) R O) : Fun Tryz.prog 38 #[spV n f, xv] R O POST := by
 refine Fun.turn ?_
 refine Fun.oneV hx fun hxv => ?_
 refine Fun.enter (l := [_, _]) Tryz.func38 rfl Tryz.ntmps38 rfl (L0 := [(0, _), (1, _)]) rfl ?_
 refine WC.seq ?_
 refine WC.region ?_
 refine WL.op rfl ?_
 refine OpW.box rfl rfl Z.N rfl rfl ?_; intro b2
 refine WL.op rfl ?_
 refine OpW.alloc rfl I63 rfl Z.N rfl rfl ?_; intro b4
 refine WL.rd rfl rfl rfl (Rd.assign rfl rfl) ?_
 refine WL.nil ?_
 refine thenQ.normal ?_
 refine WC.seq ?_
 refine WC.region ?_
 refine WL.rd rfl rfl rfl ((by exact Rd.rowS rfl G63 rfl Z.M Z.N rfl)) ?_
 refine WL.rd rfl rfl rfl (Rd.move rfl rfl) ?_
 refine WL.op rfl ?_
 refine OpW.call rfl rfl Z.E Z.K rfl rfl rfl ?_
 refine spTurn_spec (v := false) hx hn ht hl ?_
 refine WL.rd rfl rfl rfl (Rd.extract rfl rfl rfl) ?_
 refine WL.rd rfl rfl rfl (Rd.extract rfl rfl rfl) ?_
 refine WL.op rfl ?_
 refine OpW.storeS rfl G63 rfl rfl Z.N Z.T rfl rfl Z.N rfl ?_
 refine WL.rd rfl rfl rfl (Rd.assign rfl rfl) ?_
 refine WL.nil ?_
 refine thenQ.normal ?_
 refine WC.ret (Ret.cellTmp Tryz.results38 rfl rfl Z.M G63 rfl ?_)
 exact ⟨_, _, hk, Z.F⟩
set_option maxRecDepth 20000 in
theorem spClaim_spec {xs : List Ext} {xv : Value} (hx : SlE encX xv xs ∈ R) (hn : n ≤ 4096) (ht : TurnOk n true f xs) (hl : xs.length ≤ 1000000) (hk : POST (.tuple #[spV n (turnF true f xs), .int .i64 0]) R O) : Fun Tryz.prog 53 #[spV n f, xv] R O POST := by
 refine Fun.turn ?_
 refine Fun.oneV hx fun hxv => ?_
 refine Fun.enter (l := [_, _]) Tryz.func53 rfl Tryz.ntmps53 rfl (L0 := [(0, _), (1, _)]) rfl ?_
 refine WC.seq ?_
 refine WC.region ?_
 refine WL.op rfl ?_
 refine OpW.box rfl rfl Z.N rfl rfl ?_; intro b2
 refine WL.op rfl ?_
 refine OpW.alloc rfl I63 rfl Z.N rfl rfl ?_; intro b4
 refine WL.rd rfl rfl rfl (Rd.assign rfl rfl) ?_
 refine WL.nil ?_
 refine thenQ.normal ?_
 refine WC.seq ?_
 refine WC.region ?_
 refine WL.rd rfl rfl rfl ((by exact Rd.rowS rfl G63 rfl Z.M Z.N rfl)) ?_
 refine WL.rd rfl rfl rfl (Rd.move rfl rfl) ?_
 refine WL.op rfl ?_
 refine OpW.call rfl rfl Z.E Z.K rfl rfl rfl ?_
 refine spTurn_spec (v := true) hx hn ht hl ?_
 refine WL.rd rfl rfl rfl (Rd.extract rfl rfl rfl) ?_
 refine WL.rd rfl rfl rfl (Rd.extract rfl rfl rfl) ?_
 refine WL.op rfl ?_
 refine OpW.storeS rfl G63 rfl rfl Z.N Z.T rfl rfl Z.N rfl ?_
 refine WL.rd rfl rfl rfl (Rd.assign rfl rfl) ?_
 refine WL.nil ?_
 refine thenQ.normal ?_
 refine WC.ret (Ret.cellTmp Tryz.results53 rfl rfl Z.M G63 rfl ?_)
 exact ⟨_, _, hk, Z.F⟩
/-- The bits behind the last unit are none. -/
theorem spB_last {n : Nat} {f : Nat → Bool} (ho : ∀ i, n ≤ i → f i = false) (h8 : 0 < n % 8) : spN f (n / 8) / 2 ^ (n % 8) = 0 := by
 have e : ∀ k, n % 8 ≤ k → f (8 * (n / 8) + k) = false := fun k hk => ho _ Z.W
 unfold spN pk
 have b0 := b2n_le (f (8 * (n / 8))); have b1 := b2n_le (f (8 * (n / 8) + 1)); have b2 := b2n_le (f (8 * (n / 8) + 2)); have b3 := b2n_le (f (8 * (n / 8) + 3))
 have b4 := b2n_le (f (8 * (n / 8) + 4)); have b5 := b2n_le (f (8 * (n / 8) + 5)); have b6 := b2n_le (f (8 * (n / 8) + 6)); have b7 := b2n_le (f (8 * (n / 8) + 7))
 have z : b2n false = 0 := rfl
 rcases (by omega : n % 8 = 1 ∨ n % 8 = 2 ∨ n % 8 = 3 ∨ n % 8 = 4 ∨ n % 8 = 5 ∨ n % 8 = 6 ∨ n % 8 = 7) with h | h | h | h | h | h | h <;> rw [h]
 · rw [e 1 Z.W, e 2 Z.W, e 3 Z.W, e 4 Z.W, e 5 Z.W, e 6 Z.W, e 7 Z.W, z]; omega
 · rw [e 2 Z.W, e 3 Z.W, e 4 Z.W, e 5 Z.W, e 6 Z.W, e 7 Z.W, z]; omega
 · rw [e 3 Z.W, e 4 Z.W, e 5 Z.W, e 6 Z.W, e 7 Z.W, z]; omega
 · rw [e 4 Z.W, e 5 Z.W, e 6 Z.W, e 7 Z.W, z]; omega
 · rw [e 5 Z.W, e 6 Z.W, e 7 Z.W, z]; omega
 · rw [e 6 Z.W, e 7 Z.W, z]; omega
 · rw [e 7 Z.W, z]; omega
set_option maxRecDepth 20000 in
theorem spParse_spec (hn : n ≤ 4096) (ho : ∀ i, n ≤ i → f i = false) (hk : POST (.tuple #[spV n f, .int .i64 0]) R O) : Fun Tryz.prog 51 #[.int .i64 (n : Int), vs (spB n f)] R O POST := by
 refine Fun.turn ?_
 have hlen := spB_len n f
 have hlen0 := spB_len n noneF
 refine Fun.enter (l := [_, _]) Tryz.func51 rfl Tryz.ntmps51 rfl (L0 := [(0, _), (1, _)]) rfl ?_
 refine WC.seq ?_
 refine WC.region ?_
 refine WL.op rfl ?_
 refine OpW.alloc rfl I63 rfl Z.N rfl rfl ?_; intro b4
 refine WL.rd rfl rfl rfl (Rd.assign rfl rfl) ?_
 refine WL.nil ?_
 refine thenQ.normal ?_
 refine WC.seq ?_
 refine WC.region ?_
 refine WL.rd rfl rfl rfl (Rd.move rfl rfl) ?_
 refine WL.op rfl ?_
 refine OpW.call rfl rfl Z.E Z.K rfl rfl rfl ?_
 refine spNew_spec hn ?_
 refine WL.rd rfl rfl rfl (Rd.move rfl rfl) ?_
 refine WL.rd rfl rfl rfl (Rd.extract rfl rfl rfl) ?_
 refine WL.rd rfl rfl rfl (Rd.extract rfl rfl rfl) ?_
 refine WL.op rfl ?_
 refine OpW.alloc rfl I63 rfl Z.N rfl rfl ?_; intro b6
 refine WL.op rfl ?_
 refine OpW.storeS rfl G63 rfl rfl Z.N Z.T rfl rfl Z.N rfl ?_
 refine WL.rd rfl rfl rfl (Rd.assign rfl rfl) ?_
 refine WL.nil ?_
 refine thenQ.normal ?_
 refine WC.seq ?_
 refine WC.seq ?_
 refine WC.region ?_
 refine WL.rd rfl rfl rfl (Rd.move rfl rfl) ?_
 refine WL.rd rfl rfl rfl (Rd.neq rfl rfl rfl) ?_
 refine WL.nil ?_
 refine thenQ.normal ?_
 refine WC.ite rfl (fun hc1 => ?_) (fun hc1 => ?_)
 ·
  exact absurd hc1 (by decide)
 ·
  refine WC.skip ?_
  refine thenQ.normal ?_
  refine WC.seq ?_
  refine WC.seq ?_
  refine WC.region ?_
  refine WL.rd rfl rfl rfl (Rd.move rfl rfl) ?_
  refine WL.rd rfl rfl rfl (Rd.slen (ts := #[]) (ty := 0) rfl rfl Tryz.underlying9) ?_
  refine WL.rd rfl rfl rfl ((by exact Rd.field rfl F63_1 rfl rfl)) ?_
  refine WL.rd rfl rfl rfl ((by exact Rd.row1 rfl C9 rfl Z.M (by rfl))) ?_
  refine WL.rd rfl rfl rfl (Rd.slen (ts := #[]) (ty := 0) rfl rfl Tryz.underlying9) ?_
  refine WL.rd rfl rfl rfl (Rd.neq rfl rfl rfl) ?_
  refine WL.say 22 (u := .bool (decide False)) rfl (by rw [hlen, hlen0]; simp) ?_
  refine WL.rd rfl rfl rfl (Rd.move rfl rfl) ?_
  refine WL.case 23 rfl (fun hg23 => ?_) (fun hg23 => ?_)
  ·
   exact hg23.elim
  ·
   refine WL.rd_yes rfl rfl rfl rfl rfl rfl (Rd.move rfl rfl) ?_
   refine WL.rd_yes rfl rfl rfl rfl rfl rfl (Rd.remN (a := n) (b := 8) rfl rfl rfl rfl rfl Z.W) ?_
   refine WL.rd_yes rfl rfl rfl rfl rfl rfl (Rd.gtr rfl rfl rfl) ?_
   refine WL.rd_yes rfl rfl rfl rfl rfl rfl (Rd.move rfl rfl) ?_
   refine WL.case 27 rfl (fun hg27 => ?_) (fun hg27 => ?_)
   ·
    refine WL.rd_yes rfl rfl rfl rfl rfl rfl (Rd.move rfl rfl) ?_
    refine WL.rd_yes rfl rfl rfl rfl rfl rfl (Rd.move rfl rfl) ?_
    refine WL.rd_yes rfl rfl rfl rfl rfl rfl (Rd.slen (ts := #[]) (ty := 0) rfl rfl Tryz.underlying9) ?_
    refine WL.rd_yes rfl rfl rfl rfl rfl rfl (Rd.sub rfl rfl rfl Z.W) ?_
    refine WL.rd_yes rfl rfl rfl rfl rfl rfl (Rd.sidx (k := n / 8) (b := spY f (n / 8)) rfl Tryz.underlying9 rfl rfl (by rw [hlen]; omega) (by rw [← spB_get (n := n) Z.W]; exact get!_of_lt (by rw [hlen]; omega))) ?_
    refine WL.rd_yes rfl rfl rfl rfl rfl rfl (Rd.move rfl rfl) ?_
    refine WL.rd_yes rfl rfl rfl rfl rfl rfl (Rd.remN (a := n) (b := 8) rfl rfl rfl rfl rfl Z.W) ?_
    refine WL.rd_yes rfl rfl rfl rfl rfl rfl (Rd.shrN (a := spN f (n / 8)) (n := n % 8) rfl rfl rfl (by rw [spY_nat]) rfl (by show _ ≤ 8; omega)) ?_
    refine WL.rd_yes rfl rfl rfl rfl rfl rfl (Rd.neq rfl rfl rfl) ?_
    refine WL.say 36 (u := .bool false) rfl (by rw [spB_last ho Z.W]; rfl) ?_
    refine WL.rd_yes rfl rfl rfl rfl rfl rfl (Rd.pick_t rfl rfl rfl) ?_
    refine WL.rd rfl rfl rfl (Rd.pick_f rfl rfl rfl) ?_
    refine WL.nil ?_
    refine thenQ.normal ?_
    refine WC.cond rfl (fun hc2 => ?_) (fun hc2 => ?_)
    ·
     exact absurd hc2 (by decide)
    ·
     refine WC.skip ?_
     refine thenQ.normal ?_
     refine WC.seq ?_
     refine WC.region ?_
     refine WL.rd rfl rfl rfl (Rd.move rfl rfl) ?_
     refine WL.rd rfl rfl rfl ((by exact Rd.field rfl F63_1 rfl rfl)) ?_
     refine WL.op rfl ?_
     refine OpW.store1 rfl Z9 rfl rfl (by exact ⟨rfl, rfl⟩) Z.T (by (simp; done)) rfl ?_
     refine WL.nil ?_
     refine thenQ.normal ?_
     refine WC.seq ?_
     refine WC.region ?_
     refine WL.rd rfl rfl rfl ((by exact Rd.rowS rfl G63 rfl Z.M Z.N rfl)) ?_
     refine WL.op rfl ?_
     refine OpW.storeS rfl G63 rfl rfl Z.N Z.T rfl rfl Z.N rfl ?_
     refine WL.rd rfl rfl rfl (Rd.assign rfl rfl) ?_
     refine WL.nil ?_
     refine thenQ.normal ?_
     refine WC.ret (Ret.cellTmp Tryz.results51 rfl rfl Z.M G63 rfl ?_)
     exact ⟨_, _, hk, Z.F⟩
   ·
    refine WL.no rfl rfl rfl rfl rfl rfl ?_
    refine WL.no rfl rfl rfl rfl rfl rfl ?_
    refine WL.no rfl rfl rfl rfl rfl rfl ?_
    refine WL.no rfl rfl rfl rfl rfl rfl ?_
    refine WL.no rfl rfl rfl rfl rfl rfl ?_
    refine WL.no rfl rfl rfl rfl rfl rfl ?_
    refine WL.no rfl rfl rfl rfl rfl rfl ?_
    refine WL.no rfl rfl rfl rfl rfl rfl ?_
    refine WL.no rfl rfl rfl rfl rfl rfl ?_
    refine WL.rd_yes rfl rfl rfl rfl rfl rfl (Rd.pick_f rfl rfl rfl) ?_
    refine WL.rd rfl rfl rfl (Rd.pick_f rfl rfl rfl) ?_
    refine WL.nil ?_
    refine thenQ.normal ?_
    refine WC.no rfl ?_
    refine WC.skip ?_
    refine thenQ.normal ?_
    refine WC.seq ?_
    refine WC.region ?_
    refine WL.rd rfl rfl rfl (Rd.move rfl rfl) ?_
    refine WL.rd rfl rfl rfl ((by exact Rd.field rfl F63_1 rfl rfl)) ?_
    refine WL.op rfl ?_
    refine OpW.store1 rfl Z9 rfl rfl (by exact ⟨rfl, rfl⟩) Z.T (by (simp; done)) rfl ?_
    refine WL.nil ?_
    refine thenQ.normal ?_
    refine WC.seq ?_
    refine WC.region ?_
    refine WL.rd rfl rfl rfl ((by exact Rd.rowS rfl G63 rfl Z.M Z.N rfl)) ?_
    refine WL.op rfl ?_
    refine OpW.storeS rfl G63 rfl rfl Z.N Z.T rfl rfl Z.N rfl ?_
    refine WL.rd rfl rfl rfl (Rd.assign rfl rfl) ?_
    refine WL.nil ?_
    refine thenQ.normal ?_
    refine WC.ret (Ret.cellTmp Tryz.results51 rfl rfl Z.M G63 rfl ?_)
    exact ⟨_, _, hk, Z.F⟩
end
end Go.Proofs.YtckokhdjeifomaaGreatDoor
namespace Go.Proofs.YtckokhdjeifomaaGreatDoor
open Go Go.SL
section
variable {R : List RO} {O : List Own} {POST : Value → List RO → List Own → Prop} {n : Nat} {f : Nat → Bool}
abbrev extV (a k : Nat) : Value := .agg #[.int .i64 (a : Int), .int .i64 (k : Int)]
set_option maxRecDepth 20000 in
set_option maxHeartbeats 1000000 in
theorem free_it {γ : Type} {l : Nat} {c1 : Own} {I : γ → List Own} {J : Nat → γ → Prop} {g0 : γ} (hn : n ≤ 4096) (hJ0 : J 0 g0) (hskip : ∀ a g, a < n → f a = true → J a g → J (a + 1) g)
 (hY : ∀ b a k g, J a g → 1 ≤ k → a + k ≤ n → (∀ i, a ≤ i → i < a + k → f i = false) → (a + k = n ∨ f (a + k) = true) →
   Yld Tryz.prog l [extV a k] R (rowC b 63 (spCs n f) :: c1 :: I g) (fun t R' O' => (t = true ∧ ∃ g', J (a + k + 1) g' ∧ ∀ w, Sat R' O' w → Sat R (rowC b 63 (spCs n f) :: c1 :: I g') w) ∨ (t = false ∧ POST (.tuple #[]) R' O')))
 (hE : ∀ a g, n ≤ a → J a g → POST (.tuple #[]) R (c1 :: I g)) : Fun Tryz.prog 68 #[spV n f, .func (.yield l) #[] #[]] R (c1 :: I g0) POST := by
 refine Fun.turn ?_
 refine Fun.enterR (l := [_, _]) Tryz.func68 rfl Tryz.ntmps68 rfl (L0 := [(0, _), (1, _)]) rfl ?_
 refine WR.seq ?_
 refine WR.region ?_
 refine WL.op rfl ?_
 refine OpW.box rfl rfl Z.N rfl rfl ?_; intro b2
 refine WL.nil ?_
 refine thenR.normal ?_
 refine WR.seq ?_
 refine WR.region ?_
 refine WL.rd rfl rfl rfl (Rd.assign rfl rfl) ?_
 refine WL.nil ?_
 refine thenR.normal ?_
 refine WR.block ?_
 refine WR.pick [4, 1, 2] Z.P ?_
 refine WR.loop2 1 (fun (a : Nat) (g : γ) => [(4, .int .i64 (a : Int))]) (fun (a : Nat) (g : γ) => rowC b2 63 (spCs n f) :: c1 :: I g) (fun (a : Nat) (g : γ) => a ≤ n + 1 ∧ J a g) (fun (a : Nat) (g : γ) => n + 1 - a) (0) (g0) Z.L ?hinv1 (by repeat (first | exact Sub.nil | refine Sub.cons rfl (by rfl) ?_)) (fun _ h => h) ?_
 case hinv1 =>
  exact ⟨Nat.zero_le _, hJ0⟩
 intro a g
 rintro ⟨i1, i2⟩
 refine WR.seq ?_
 refine WR.seq ?_
 refine WR.region ?_
 refine WL.rd rfl rfl rfl (Rd.move rfl rfl) ?_
 refine WL.rd rfl rfl rfl ((by exact Rd.field rfl F63_0 rfl rfl)) ?_
 refine WL.rd rfl rfl rfl ((by exact Rd.row1 rfl C3 rfl Z.M (by rfl))) ?_
 refine WL.rd rfl rfl rfl (Rd.lss rfl rfl rfl) ?_
 refine WL.nil ?_
 refine thenR.normal ?_
 refine WR.ite rfl (fun hc1 => ?_) (fun hc1 => ?_)
 ·
  refine WR.skip ?_
  refine thenR.normal ?_
  refine WR.block ?_
  refine WR.seq ?_
  refine WR.region ?_
  refine WL.rd rfl rfl rfl (Rd.move rfl rfl) ?_
  refine WL.rd rfl rfl rfl (Rd.assign rfl rfl) ?_
  refine WL.nil ?_
  refine thenR.normal ?_
  refine WR.seq ?_
  refine WR.block ?_
  refine WR.pick [5, 1, 2, 4] Z.P ?_
  refine WR.loop1o 1 (fun (k : Nat) => [(5, .int .i64 ((a + k : Nat) : Int))]) (fun (k : Nat) => a + k ≤ n ∧ ∀ i, a ≤ i → i < a + k → f i = false) (fun (k : Nat) => n - (a + k)) (0) Z.L ?hinv2 (by repeat (first | exact Sub.nil | refine Sub.cons rfl (by rfl) ?_)) (fun _ h => h) ?_
  case hinv2 =>
   exact ⟨by omega, fun i h1 h2 => by omega⟩
  intro k
  rintro ⟨k1, k2⟩
  refine WR.seq ?_
  refine WR.seq ?_
  refine WR.region ?_
  refine WL.rd rfl rfl rfl (Rd.move rfl rfl) ?_
  refine WL.rd rfl rfl rfl ((by exact Rd.field rfl F63_0 rfl rfl)) ?_
  refine WL.rd rfl rfl rfl ((by exact Rd.row1 rfl C3 rfl Z.M (by rfl))) ?_
  refine WL.rd rfl rfl rfl (Rd.lss rfl rfl rfl) ?_
  refine WL.rd rfl rfl rfl (Rd.move rfl rfl) ?_
  refine WL.case 15 rfl (fun hg15 => ?_) (fun hg15 => ?_)
  ·
   refine WL.rd_yes rfl rfl rfl rfl rfl rfl ((by exact Rd.rowS rfl G63 rfl Z.M Z.N rfl)) ?_
   refine WL.rd_yes rfl rfl rfl rfl rfl rfl (Rd.move rfl rfl) ?_
   refine WL.op_yes rfl rfl rfl rfl ?_
   refine OpW.call rfl rfl Z.E Z.K rfl rfl rfl ?_
   refine spHas_spec (i := a + k) Z.W hn ?_
   refine WL.rd_yes rfl rfl rfl rfl rfl rfl ((by exact Rd.not rfl rfl)) ?_
   refine WL.rd rfl rfl rfl (Rd.pick_t rfl rfl rfl) ?_
   refine WL.nil ?_
   refine thenR.normal ?_
   refine WR.cond rfl (fun hc2 => ?_) (fun hc2 => ?_)
   ·
    have hfk : f (a + k) = false := by simpa using hc2
    refine WR.skip ?_
    refine thenR.normal ?_
    refine WR.block ?_
    refine WR.region ?_
    refine WL.rd rfl rfl rfl (Rd.move rfl rfl) ?_
    refine WL.rd rfl rfl rfl (Rd.add rfl rfl rfl Z.W) ?_
    refine WL.rd rfl rfl rfl (Rd.assign rfl rfl) ?_
    refine WL.nil ?_
    refine blockQ.normal ?_
    exact loopQ1.mk (k + 1) ⟨by omega, fun i h1 h2 => by
    rcases Nat.lt_or_ge i (a + k) with h | h
    · exact k2 i h1 h
    · obtain rfl : i = a + k := by omega
      exact hfk⟩ Z.W (by repeat (first | exact Sub.nil | refine Sub.cons rfl (by rfl) ?_)) (fun _ h => h)
   ·
    have hfk : f (a + k) = true := by simpa using hc2
    refine WR.exit ?_
    refine thenR.exit ?_
    refine loopQ1.exit ?_
    refine blockQ.exit ?_
    refine thenR.normal ?_
    refine WR.seq ?_
    refine WR.seq ?_
    refine WR.regionY ?_
    refine WY.rd rfl rfl rfl (Rd.move rfl rfl) ?_
    refine WY.rd rfl rfl rfl (Rd.move rfl rfl) ?_
    refine WY.rd rfl rfl rfl (Rd.gtr rfl rfl rfl) ?_
    refine WY.rd rfl rfl rfl (Rd.move rfl rfl) ?_
    refine WY.case 26 rfl (fun hg26 => ?_) (fun hg26 => ?_)
    ·
     refine WY.rd_yes rfl rfl rfl rfl rfl rfl (Rd.move rfl rfl) ?_
     refine WY.rd_yes rfl rfl rfl rfl rfl rfl (Rd.move rfl rfl) ?_
     refine WY.rd_yes rfl rfl rfl rfl rfl rfl (Rd.move rfl rfl) ?_
     refine WY.rd_yes rfl rfl rfl rfl rfl rfl (Rd.move rfl rfl) ?_
     refine WY.rd_yes rfl rfl rfl rfl rfl rfl (Rd.sub rfl rfl rfl Z.W) ?_
     refine WY.say 31 (u := .int .i64 (k : Int)) rfl (by congr 1; omega) ?_
     refine WY.rd_yes rfl rfl rfl rfl rfl rfl (Rd.buildN (ps := [(0, _), (1, _)]) rfl Bs120 I120 rfl Z.E Z.C (by apply NFo.mk; repeat (first | exact NF.nil | apply NF.cons))) ?_
     refine WY.yield_yes rfl rfl rfl rfl rfl rfl Z.E rfl rfl ?_
     refine (hY b2 a k g i2 Z.W k1 k2 (by exact .inr hfk)).mono ?_; intro b33 R' O' hK
     refine WY.rd_yes rfl rfl rfl rfl rfl rfl ((by exact Rd.not rfl rfl)) ?_
     refine WY.rd rfl rfl rfl (Rd.pick_t rfl rfl rfl) ?_
     refine WY.nil ?_
     refine thenR.normal ?_
     refine WR.cond rfl (fun hc3 => ?_) (fun hc3 => ?_)
     ·
      have hP : POST (.tuple #[]) R' O' := by
       rcases hK with ⟨rfl, _⟩ | ⟨_, hP⟩
       · simp at hc3
       · exact hP
      refine WR.ret (thenR.retR (blockQ.retR (loopQ2.retR (blockQ.retR (Ret.zero Tryz.results68 ?_)))))
      exact ⟨_, _, hP, fun _ h => h⟩
     ·
      obtain ⟨g', hJ', hS⟩ : ∃ g', J (a + k + 1) g' ∧ ∀ w, Sat R' O' w → Sat R (rowC b2 63 (spCs n f) :: c1 :: I g') w := by
       rcases hK with ⟨_, h⟩ | ⟨rfl, _⟩
       · exact h
       · simp at hc3
      refine WR.heap hS ?_
      refine WR.skip ?_
      refine thenR.normal ?_
      refine WR.region ?_
      refine WL.rd rfl rfl rfl (Rd.move rfl rfl) ?_
      refine WL.rd rfl rfl rfl (Rd.add rfl rfl rfl Z.W) ?_
      refine WL.rd rfl rfl rfl (Rd.assign rfl rfl) ?_
      refine WL.nil ?_
      refine blockQ.normal ?_
      first
       | exact loopQ2.mk (a + k + 1) g' ⟨by omega, hJ'⟩ Z.W (by repeat (first | exact Sub.nil | refine Sub.cons rfl (by rfl) ?_)) Z.F
       | exact loopQ2.mk (a + 1) g ⟨by omega, hskip a g Z.W (by rw [← hfk]; congr 1; omega) i2⟩ Z.W (by repeat (first | exact Sub.nil | refine Sub.cons rfl (by first | rfl | (congr 1; omega) | assumption) ?_)) Z.F
       | (exfalso; omega)
    ·
     refine WY.no rfl rfl rfl rfl rfl rfl ?_
     refine WY.no rfl rfl rfl rfl rfl rfl ?_
     refine WY.no rfl rfl rfl rfl rfl rfl ?_
     refine WY.no rfl rfl rfl rfl rfl rfl ?_
     refine WY.no rfl rfl rfl rfl rfl rfl ?_
     refine WY.no rfl rfl rfl rfl rfl rfl ?_
     refine WY.no rfl rfl rfl rfl rfl rfl ?_
     refine WY.no rfl rfl rfl rfl rfl rfl ?_
     refine WY.rd rfl rfl rfl (Rd.pick_f rfl rfl rfl) ?_
     refine WY.nil ?_
     refine thenR.normal ?_
     refine WR.no rfl ?_
     refine WR.skip ?_
     refine thenR.normal ?_
     refine WR.region ?_
     refine WL.rd rfl rfl rfl (Rd.move rfl rfl) ?_
     refine WL.rd rfl rfl rfl (Rd.add rfl rfl rfl Z.W) ?_
     refine WL.rd rfl rfl rfl (Rd.assign rfl rfl) ?_
     refine WL.nil ?_
     refine blockQ.normal ?_
     first
      | exact loopQ2.mk (a + k + 1) g' ⟨by omega, hJ'⟩ Z.W (by repeat (first | exact Sub.nil | refine Sub.cons rfl (by first | rfl | (congr 1; omega) | assumption) ?_)) Z.F
      | exact loopQ2.mk (a + 1) g ⟨by omega, hskip a g Z.W (by rw [← hfk]; congr 1; omega) i2⟩ Z.W (by repeat (first | exact Sub.nil | refine Sub.cons rfl (by first | rfl | (congr 1; omega)) ?_)) Z.F
      | (exfalso; omega)
  ·
   refine WL.no rfl rfl rfl rfl rfl rfl ?_
   refine WL.no rfl rfl rfl rfl rfl rfl ?_
   refine WL.no rfl rfl rfl rfl rfl rfl ?_
   refine WL.no rfl rfl rfl rfl rfl rfl ?_
   refine WL.rd rfl rfl rfl (Rd.pick_f rfl rfl rfl) ?_
   refine WL.nil ?_
   refine thenR.normal ?_
   refine WR.no rfl ?_
   refine WR.exit ?_
   refine thenR.exit ?_
   refine loopQ1.exit ?_
   refine blockQ.exit ?_
   refine thenR.normal ?_
   refine WR.seq ?_
   refine WR.seq ?_
   refine WR.regionY ?_
   refine WY.rd rfl rfl rfl (Rd.move rfl rfl) ?_
   refine WY.rd rfl rfl rfl (Rd.move rfl rfl) ?_
   refine WY.rd rfl rfl rfl (Rd.gtr rfl rfl rfl) ?_
   refine WY.rd rfl rfl rfl (Rd.move rfl rfl) ?_
   refine WY.case 26 rfl (fun hg26 => ?_) (fun hg26 => ?_)
   ·
    refine WY.rd_yes rfl rfl rfl rfl rfl rfl (Rd.move rfl rfl) ?_
    refine WY.rd_yes rfl rfl rfl rfl rfl rfl (Rd.move rfl rfl) ?_
    refine WY.rd_yes rfl rfl rfl rfl rfl rfl (Rd.move rfl rfl) ?_
    refine WY.rd_yes rfl rfl rfl rfl rfl rfl (Rd.move rfl rfl) ?_
    refine WY.rd_yes rfl rfl rfl rfl rfl rfl (Rd.sub rfl rfl rfl Z.W) ?_
    refine WY.say 31 (u := .int .i64 (k : Int)) rfl (by congr 1; omega) ?_
    refine WY.rd_yes rfl rfl rfl rfl rfl rfl (Rd.buildN (ps := [(0, _), (1, _)]) rfl Bs120 I120 rfl Z.E Z.C (by apply NFo.mk; repeat (first | exact NF.nil | apply NF.cons))) ?_
    refine WY.yield_yes rfl rfl rfl rfl rfl rfl Z.E rfl rfl ?_
    refine (hY b2 a k g i2 Z.W k1 k2 (by exact .inl Z.W)).mono ?_; intro b33 R' O' hK
    refine WY.rd_yes rfl rfl rfl rfl rfl rfl ((by exact Rd.not rfl rfl)) ?_
    refine WY.rd rfl rfl rfl (Rd.pick_t rfl rfl rfl) ?_
    refine WY.nil ?_
    refine thenR.normal ?_
    refine WR.cond rfl (fun hc3 => ?_) (fun hc3 => ?_)
    ·
     have hP : POST (.tuple #[]) R' O' := by
      rcases hK with ⟨rfl, _⟩ | ⟨_, hP⟩
      · simp at hc3
      · exact hP
     refine WR.ret (thenR.retR (blockQ.retR (loopQ2.retR (blockQ.retR (Ret.zero Tryz.results68 ?_)))))
     exact ⟨_, _, hP, fun _ h => h⟩
    ·
     obtain ⟨g', hJ', hS⟩ : ∃ g', J (a + k + 1) g' ∧ ∀ w, Sat R' O' w → Sat R (rowC b2 63 (spCs n f) :: c1 :: I g') w := by
      rcases hK with ⟨_, h⟩ | ⟨rfl, _⟩
      · exact h
      · simp at hc3
     refine WR.heap hS ?_
     refine WR.skip ?_
     refine thenR.normal ?_
     refine WR.region ?_
     refine WL.rd rfl rfl rfl (Rd.move rfl rfl) ?_
     refine WL.rd rfl rfl rfl (Rd.add rfl rfl rfl Z.W) ?_
     refine WL.rd rfl rfl rfl (Rd.assign rfl rfl) ?_
     refine WL.nil ?_
     refine blockQ.normal ?_
     first
      | exact loopQ2.mk (a + k + 1) g' ⟨by omega, hJ'⟩ Z.W (by repeat (first | exact Sub.nil | refine Sub.cons rfl (by rfl) ?_)) Z.F
      | exact loopQ2.mk (a + 1) g ⟨by omega, hskip a g Z.W (by rw [← hfk]; congr 1; omega) i2⟩ Z.W (by repeat (first | exact Sub.nil | refine Sub.cons rfl (by first | rfl | (congr 1; omega) | assumption) ?_)) Z.F
      | (exfalso; omega)
   ·
    refine WY.no rfl rfl rfl rfl rfl rfl ?_
    refine WY.no rfl rfl rfl rfl rfl rfl ?_
    refine WY.no rfl rfl rfl rfl rfl rfl ?_
    refine WY.no rfl rfl rfl rfl rfl rfl ?_
    refine WY.no rfl rfl rfl rfl rfl rfl ?_
    refine WY.no rfl rfl rfl rfl rfl rfl ?_
    refine WY.no rfl rfl rfl rfl rfl rfl ?_
    refine WY.no rfl rfl rfl rfl rfl rfl ?_
    refine WY.rd rfl rfl rfl (Rd.pick_f rfl rfl rfl) ?_
    refine WY.nil ?_
    refine thenR.normal ?_
    refine WR.no rfl ?_
    refine WR.skip ?_
    refine thenR.normal ?_
    refine WR.region ?_
    refine WL.rd rfl rfl rfl (Rd.move rfl rfl) ?_
    refine WL.rd rfl rfl rfl (Rd.add rfl rfl rfl Z.W) ?_
    refine WL.rd rfl rfl rfl (Rd.assign rfl rfl) ?_
    refine WL.nil ?_
    refine blockQ.normal ?_
    first
     | exact loopQ2.mk (a + k + 1) g' ⟨by omega, hJ'⟩ Z.W (by repeat (first | exact Sub.nil | refine Sub.cons rfl (by first | rfl | (congr 1; omega) | assumption) ?_)) Z.F
     | exact loopQ2.mk (a + 1) g ⟨by omega, hskip a g Z.W (by rw [← hfk]; congr 1; omega) i2⟩ Z.W (by repeat (first | exact Sub.nil | refine Sub.cons rfl (by first | rfl | (congr 1; omega) | assumption) ?_)) Z.F
     | (exfalso; omega)
 ·
  refine WR.exit ?_
  refine thenR.exit ?_
  refine loopQ2.exit ?_
  refine blockQ.exit ?_
  refine Ret.normal (Ret.zero Tryz.results68 ?_)
  exact ⟨_, _, hE a g Z.W i2, Z.F⟩
end
end Go.Proofs.YtckokhdjeifomaaGreatDoor
namespace Go.Proofs.YtckokhdjeifomaaGreatDoor
open Go Go.SL
section
variable {R : List RO} {O : List Own} {POST : Value → List RO → List Own → Prop} {n : Nat} {f : Nat → Bool}
theorem tk_app {xs : List Ext} {a m : Nat} (h : TurnOk n true f xs) (hx : ∀ x ∈ xs, x.1 + x.2 ≤ a) (h1 : 1 ≤ m) (h2 : a + m ≤ n) (h3 : ∀ i, a ≤ i → i < a + m → f i = false) : TurnOk n true f (xs ++ [(a, m)]) := by
 refine TurnOk.app.2 ⟨h, ⟨h1, h2, fun i hi hj => ?_⟩, trivial⟩
 have hn : inX xs i = false := inX_false.2 fun ⟨x, hm, k1, k2⟩ => by have := hx x hm; have h4 : a ≤ i := hi; omega
 rw [turnF_at, hn, if_neg (by simp)]
 exact h3 i hi hj
/-- What is so of what was taken when all units below a were looked at. -/
structure TkJ (n : Nat) (f : Nat → Bool) (k a : Nat) (g : Value × List Ext) : Prop where
 one : OneV g.1
 ok : TurnOk n true f g.2
 lt : ∀ x ∈ g.2, x.1 + x.2 ≤ a
 cnt : cntF f (min a n) = sumX g.2
 less : sumX g.2 < k
theorem TkJ.skip {k a : Nat} {g : Value × List Ext} (h : TkJ n f k a g) (ha : a < n) (hf : f a = true) : TkJ n f k (a + 1) g :=
 ⟨h.one, h.ok, fun x hx => by have := h.lt x hx; omega, by
   have := h.cnt
   rw [Nat.min_eq_left Z.W] at this ⊢
   rw [cntF, hf, if_pos rfl, Nat.add_zero]; exact this, h.less⟩
theorem TkJ.step {k a m : Nat} {g : Value × List Ext} {v : Value} (h : TkJ n f k a g) (hv : OneV v) (h1 : 1 ≤ m) (h2 : a + m ≤ n) (h3 : ∀ i, a ≤ i → i < a + m → f i = false) (h4 : a + m = n ∨ f (a + m) = true) (hl : sumX (g.2 ++ [(a, m)]) < k) : TkJ n f k (a + m + 1) (v, g.2 ++ [(a, m)]) := by
 refine ⟨hv, tk_app h.ok h.lt h1 h2 h3, fun x hx => ?_, ?_, hl⟩
 · rcases List.mem_append.1 hx with hx | hx
   · have := h.lt x hx; omega
   · rw [List.mem_singleton] at hx; subst hx; show a + m ≤ _; omega
 · have hc := h.cnt
   rw [Nat.min_eq_left Z.W] at hc
   have hr := cntF_run (f := f) (a := a) m h3
   have hs : sumX (g.2 ++ [(a, m)]) = sumX g.2 + m := by rw [sumX_app]; rfl
   rw [hs]
   rcases Nat.lt_or_ge (a + m) n with hlt | hge
   · have hf : f (a + m) = true := by rcases h4 with h4 | h4; omega; exact h4
     rw [Nat.min_eq_left Z.W, cntF, hf, if_pos rfl]; omega
   · rw [Nat.min_eq_right Z.W, show n = a + m by omega]; omega
set_option maxRecDepth 20000 in
set_option maxHeartbeats 4000000 in
theorem spTake_spec {k most : Nat} (hn : n ≤ 4096) (hk1 : k ≤ cntF f n) (hk2 : k ≤ most) (hm : most ≤ 1000000) (hk : ∀ v xs, OneV v → TurnOk n true f xs → sumX xs = k → POST (.tuple #[v, spV n (turnF true f xs), .int .i64 0]) (SlE encX v xs :: R) O) :
 Fun Tryz.prog 36 #[spV n f, .int .i64 (k : Int), .int .i64 (most : Int)] R O POST := by
 refine Fun.turn ?_
 have hkn : k ≤ n := Nat.le_trans hk1 (cntF_le f n)
 refine Fun.enter (l := [_, _, _]) Tryz.func36 rfl Tryz.ntmps36 rfl (L0 := [(0, _), (1, _), (2, _)]) rfl ?_
 refine WC.seq ?_
 refine WC.region ?_
 refine WL.op rfl ?_
 refine OpW.box rfl rfl Z.N rfl rfl ?_; intro b3
 refine WL.rd rfl rfl rfl (Rd.assign rfl rfl) ?_
 refine WL.op rfl ?_
 refine OpW.alloc rfl I63 rfl Z.N rfl rfl ?_; intro b7
 refine WL.rd rfl rfl rfl (Rd.assign rfl rfl) ?_
 refine WL.nil ?_
 refine thenQ.normal ?_
 refine WC.seq ?_
 refine WC.pick [1, 2, 3, 7] Z.P ?_
 refine WC.val 19 (.bool false) ?_ ?_
 ·
  refine WC.region ?_
  refine WL.rd rfl rfl rfl (Rd.move rfl rfl) ?_
  refine WL.rd rfl rfl rfl (Rd.lss rfl rfl rfl) ?_
  refine WL.rd rfl rfl rfl (Rd.move rfl rfl) ?_
  refine WL.case 16 rfl (fun hg16 => ?_) (fun hg16 => ?_)
  ·
   refine WL.no rfl rfl rfl rfl rfl rfl ?_
   refine WL.no rfl rfl rfl rfl rfl rfl ?_
   refine WL.rd rfl rfl rfl (Rd.pick_t rfl rfl rfl) ?_
   refine WL.nil ?_
   exact ⟨by repeat (first | exact Sub.nil | refine Sub.cons rfl (by first | rfl | ((exfalso; omega))) ?_), by exact (fun _ h => h.thin (SubL.mem Z.S))⟩
  ·
   refine WL.rd_yes rfl rfl rfl rfl rfl rfl (Rd.move rfl rfl) ?_
   refine WL.rd_yes rfl rfl rfl rfl rfl rfl (Rd.lss rfl rfl rfl) ?_
   refine WL.rd rfl rfl rfl (Rd.pick_f rfl rfl rfl) ?_
   refine WL.nil ?_
   exact ⟨by repeat (first | exact Sub.nil | refine Sub.cons rfl (by rfl) ?_), by exact (fun _ h => h.thin (SubL.mem Z.S))⟩
 ·
  refine WC.cond rfl (fun hc1 => ?_) (fun hc1 => ?_)
  ·
   cases hc1
  ·
   refine WC.skip ?_
   refine thenQ.normal ?_
   refine WC.seq ?_
   refine WC.region ?_
   refine WL.op rfl ?_
   refine OpW.alloc rfl I77 rfl Z.N rfl rfl ?_; intro b9
   refine WL.nil ?_
   refine thenQ.normal ?_
   refine WC.seq ?_
   refine WC.region ?_
   refine WL.rd rfl rfl rfl (Rd.move rfl rfl) ?_
   refine WL.op rfl ?_
   refine OpW.alloc rfl I3 rfl Z.N rfl rfl ?_; intro b10
   refine WL.op rfl ?_
   refine OpW.store1 rfl Z3 rfl rfl (by exact ⟨rfl, rfl⟩) Z.T (by (simp; done)) rfl ?_
   refine WL.nil ?_
   refine thenQ.normal ?_
   refine WC.condRangeSeq rfl ?_
   refine WC.heap (fun w h => h.accNil (α := Ext) (e := 120) (size := 2) (enc := encX)) ?_
   refine WC.region ?_
   refine WL.rd rfl rfl rfl ((by exact Rd.row1 rfl C3 rfl Z.M (by rfl))) ?_
   refine WL.rd rfl rfl rfl (Rd.gtr rfl rfl rfl) ?_
   refine WL.nil ?_
   refine condBQ.mk rfl (fun hc2 => ?_) (fun hc2 => ?_)
   ·
    refine WC.region ?_
    refine WL.rd rfl rfl rfl ((by exact Rd.rowS rfl G63 rfl Z.M Z.N rfl)) ?_
    refine WL.rd rfl rfl rfl (Rd.func rfl Z.E Z.E ⟨_, rfl⟩) ?_
    refine WL.nil ?_
    refine rangeBQ.normal ?_
    refine RangeB.mk rfl Z.K ?_
    intro l0 D0
    refine Fun.heap (R' := R) (O' := recC l0 _ _ D0 .ready none _ _ _ :: rowC b9 77 [.slice none 0 0] :: accC 120 2 encX (.slice none 0 0) [] :: rowC b10 3 [.int .i64 ((k - sumX [] : Nat) : Int)] :: rowC b3 63 (spCs n f) :: rowC b7 63 [.int .i64 0, vs []] :: dfC D0 :: O) Z.F ?_
    refine free_it (γ := Value × List Ext) (I := fun g => rowC b9 77 [g.1] :: accC 120 2 encX g.1 g.2 :: rowC b10 3 [.int .i64 ((k - sumX g.2 : Nat) : Int)] :: rowC b3 63 (spCs n f) :: rowC b7 63 [.int .i64 0, vs []] :: dfC D0 :: O) (J := TkJ n f k) (g0 := (.slice none 0 0, [])) hn ⟨OneV.sl, trivial, fun x hx => by (cases hx), (by rw [Nat.min_eq_left (Nat.zero_le _)]; rfl), (by show 0 < k; omega)⟩ (fun a g ha hf h => h.skip ha hf) ?round ?after
    case round =>
     rintro b a kk ⟨v, xs⟩ hJ h1 h2 h3 h4
     have hone := hJ.one
     have hless := hJ.less
     simp only at hone hless
     obtain ⟨m, hm⟩ : ∃ m, m = min kk (k - sumX xs) := ⟨_, rfl⟩
     have hsum : sumX (xs ++ [(a, m)]) = sumX xs + m := by rw [sumX_app]; rfl
     have hlen := hJ.ok.len
     simp only at hlen
     have htk : TurnOk n true f (xs ++ [(a, m)]) := tk_app hJ.ok hJ.lt Z.W Z.W (fun i hi hj => h3 i hi Z.W)
     dsimp only
     refine Yld.roundB (id := 0) Z.T rfl rfl rfl ?_
     refine WR.region ?_
     refine WL.op rfl ?_
     refine OpW.alloc rfl I120 rfl Z.N rfl rfl ?_; intro b11
     refine WL.op rfl ?_
     refine OpW.storeS rfl G120 rfl rfl Z.N Z.T rfl rfl Z.N rfl ?_
     refine WL.nil ?_
     refine assignB.mk Z.T ?_
     refine WR.block ?_
     refine WR.seq ?_
     refine WR.region ?_
     refine WL.rd rfl rfl rfl ((by exact Rd.field rfl F120_1 rfl rfl)) ?_
     refine WL.rd rfl rfl rfl ((by exact Rd.row1 rfl C3 rfl Z.M (by rfl))) ?_
     refine WL.rd rfl rfl rfl ((by exact Rd.row1 rfl C3 rfl Z.M (by rfl))) ?_
     refine WL.rd rfl rfl rfl (Rd.min2 rfl rfl rfl) ?_
     refine WL.say 30 (u := .int .i64 (m : Int)) rfl (by rw [hm]; split <;> (congr 1; omega)) ?_
     refine WL.rd rfl rfl rfl ((by exact Rd.field rfl F120_1 rfl rfl)) ?_
     refine WL.op rfl ?_
     refine OpW.store1 rfl Z3 rfl rfl (by exact ⟨rfl, rfl⟩) Z.T (by (simp; done)) rfl ?_
     refine WL.nil ?_
     refine thenR.normal ?_
     refine WR.seq ?_
     refine WR.drawnU (rowC b11 120 [.int .i64 (a : Int), .int .i64 (m : Int)] :: O) ([(8, rowC b9 77 [v]), (9, rowC b10 3 [.int .i64 ((k - sumX xs : Nat) : Int)])]) 10 rfl mixed ?_
     refine WE.take 0 [(8, rowC b9 77 [v]), (9, rowC b10 3 [.int .i64 ((k - sumX xs : Nat) : Int)])] rfl Z.K (by repeat (first | exact List.Sublist.refl _ | exact List.nil_sublist _ | apply List.Sublist.cons_cons | apply List.Sublist.cons)) (HeldL.mk2 [rowC b9 77 [v], rowC b10 3 [.int .i64 ((k - sumX xs : Nat) : Int)]] Z.K Z.S Z.O (by repeat (first | exact Mems.nil | refine Mems.cons Z.M ?_))) rfl rfl rfl ((by exact Rd.row1 rfl C77 rfl Z.M (by rfl))) ?_
     refine WE.take 1 [(8, rowC b9 77 [v]), (9, rowC b10 3 [.int .i64 ((k - sumX xs : Nat) : Int)])] rfl Z.K (by repeat (first | exact List.Sublist.refl _ | exact List.nil_sublist _ | apply List.Sublist.cons_cons | apply List.Sublist.cons)) (HeldL.mk2 [rowC b9 77 [v], rowC b10 3 [.int .i64 ((k - sumX xs : Nat) : Int)]] Z.K Z.S Z.O (by repeat (first | exact Mems.nil | refine Mems.cons Z.M ?_))) rfl rfl rfl ((by exact Rd.rowS rfl G120 rfl Z.M Z.N rfl)) ?_
     refine WE.take 4 [(9, rowC b10 3 [.int .i64 ((k - sumX xs : Nat) : Int)])] rfl Z.K (by repeat (first | exact List.Sublist.refl _ | exact List.nil_sublist _ | apply List.Sublist.cons_cons | apply List.Sublist.cons)) (HeldL.mk2 [rowC b9 77 [v], rowC b10 3 [.int .i64 ((k - sumX xs : Nat) : Int)]] Z.K Z.S Z.O (by repeat (first | exact Mems.nil | refine Mems.cons Z.M ?_))) rfl rfl rfl ((by exact Rd.row1 rfl C3 rfl Z.M (by rfl))) ?_
     refine WE.take 5 [] rfl Z.K (by repeat (first | exact List.Sublist.refl _ | exact List.nil_sublist _ | apply List.Sublist.cons_cons | apply List.Sublist.cons)) (HeldL.mk2 [rowC b9 77 [v], rowC b10 3 [.int .i64 ((k - sumX xs : Nat) : Int)]] Z.K Z.S Z.O (by repeat (first | exact Mems.nil | refine Mems.cons Z.M ?_))) rfl rfl rfl ((by exact Rd.field rfl F120_1 rfl rfl)) ?_
     refine WE.take 6 [(9, rowC b10 3 [.int .i64 ((k - sumX xs : Nat) : Int)])] rfl Z.K (by repeat (first | exact List.Sublist.refl _ | exact List.nil_sublist _ | apply List.Sublist.cons_cons | apply List.Sublist.cons)) (HeldL.mk2 [rowC b9 77 [v], rowC b10 3 [.int .i64 ((k - sumX xs : Nat) : Int)]] Z.K Z.S Z.O (by repeat (first | exact Mems.nil | refine Mems.cons Z.M ?_))) rfl rfl rfl ((by exact Rd.row1 rfl C3 rfl Z.M (by rfl))) ?_
     refine WE.take 7 [] rfl Z.K (by repeat (first | exact List.Sublist.refl _ | exact List.nil_sublist _ | apply List.Sublist.cons_cons | apply List.Sublist.cons)) (HeldL.mk2 [rowC b9 77 [v], rowC b10 3 [.int .i64 ((k - sumX xs : Nat) : Int)]] Z.K Z.S Z.O (by repeat (first | exact Mems.nil | refine Mems.cons Z.M ?_))) rfl rfl rfl (Rd.sub rfl rfl rfl Z.W) ?_
     refine WE.say 39 (u := .int .i64 ((k - sumX (xs ++ [(a, m)]) : Nat) : Int)) rfl (by congr 1; omega) ?_
     refine WE.one 2 rfl Z.K rfl ?_
     refine OpW.buildSl (ps := [(0, _)]) rfl S77 Z.E rfl rfl Z.C Z.K rfl rfl rfl ?_; intro b34
     refine ⟨(HeldL.mk2 [rowC b9 77 [v], rowC b10 3 [.int .i64 ((k - sumX xs : Nat) : Int)]] Z.K Z.S Z.O (by repeat (first | exact Mems.nil | refine Mems.cons Z.M ?_))), ?_⟩
     refine WE.one 3 rfl Z.K rfl ?_
     refine OpW.appendRow (enc := encX) rfl S77 rfl rfl Z.T Z.T [(a, m)] rfl (by rfl) rfl (by intro x; rfl) (by intro x; rfl) (by exact ⟨by simp only [maxLen, List.length_append, List.length_nil, List.length_cons, List.length_drop, List.length_take, List.length_map]; omega, by omega⟩) rfl rfl ?_; intro v35 hv35
     refine ⟨(HeldL.mk2 [rowC b9 77 [v], rowC b10 3 [.int .i64 ((k - sumX xs : Nat) : Int)]] Z.K Z.S Z.O (by repeat (first | exact Mems.nil | refine Mems.cons Z.M ?_))), ?_⟩
     refine WE.one 8 rfl Z.K rfl ?_
     refine OpW.store1 rfl Z77 rfl rfl (by assumption) Z.T (by (simp; done)) rfl ?_
     refine ⟨(HeldL.mk2 [rowC b10 3 [.int .i64 ((k - sumX xs : Nat) : Int)]] Z.K Z.S Z.O (by repeat (first | exact Mems.nil | refine Mems.cons Z.M ?_))), ?_⟩
     refine WE.one 9 rfl Z.K rfl ?_
     refine OpW.store1 rfl Z3 rfl rfl (by exact ⟨rfl, rfl⟩) Z.T (by (simp; done)) rfl ?_
     refine ⟨(HeldL.mk2 [] Z.K Z.S Z.O (by repeat (first | exact Mems.nil | refine Mems.cons Z.M ?_))), ?_⟩
     refine WE.done Z.K ?_
     refine thenR.normal ?_
     refine WR.seq ?_
     refine WR.region ?_
     refine WL.rd rfl rfl rfl ((by exact Rd.row1 rfl C3 rfl Z.M (by rfl))) ?_
     refine WL.rd rfl rfl rfl (Rd.eql rfl rfl rfl) ?_
     refine WL.nil ?_
     refine thenR.normal ?_
     refine WR.ite rfl (fun hc3 => ?_) (fun hc3 => ?_)
     ·
      refine WR.exit ?_
      refine blockQ.pass rfl ?_
      refine roundB.off Z.T ?_
      refine .inr ⟨rfl, ?_⟩
      obtain ⟨XS, hXS⟩ : ∃ XS : List Ext, XS = xs ++ [(a, m)] := ⟨_, rfl⟩
      rw [← hXS] at htk ⊢
      have hT := htk
      have hSum : sumX XS = k := by rw [hXS]; omega
      have hV := hv35
      refine ⟨_, .inr Z.T, ?_⟩
      refine WC.seq ?_
      refine WC.seq ?_
      refine WC.region ?_
      refine WL.rd rfl rfl rfl ((by exact Rd.row1 rfl C3 rfl Z.M (by rfl))) ?_
      refine WL.rd rfl rfl rfl (Rd.gtr rfl rfl rfl) ?_
      refine WL.rd rfl rfl rfl (Rd.move rfl rfl) ?_
      refine WL.case 44 rfl (fun hg44 => ?_) (fun hg44 => ?_)
      ·
       omega
      ·
       refine WL.rd_yes rfl rfl rfl rfl rfl rfl ((by exact Rd.row1 rfl C77 rfl Z.M (by rfl))) ?_
       refine WL.rd_yes rfl rfl rfl rfl rfl rfl ((by exact Rd.lenA rfl rfl Tryz.underlying77 Z.M)) ?_
       refine WL.rd_yes rfl rfl rfl rfl rfl rfl (Rd.move rfl rfl) ?_
       refine WL.rd_yes rfl rfl rfl rfl rfl rfl (Rd.gtr rfl rfl rfl) ?_
       refine WL.rd rfl rfl rfl (Rd.pick_f rfl rfl rfl) ?_
       refine WL.nil ?_
       refine thenQ.normal ?_
       refine WC.ite rfl (fun hc4 => ?_) (fun hc4 => ?_)
       ·
        (have := hT.len; omega)
       ·
        refine WC.skip ?_
        refine thenQ.normal ?_
        refine WC.seq ?_
        refine WC.heap (fun w h => Sat.shareA (e := 120) (size := 2) (enc := encX) (xs := XS) Z.T h) ?_
        refine WC.region ?_
        refine WL.rd rfl rfl rfl ((by exact Rd.rowS rfl G63 rfl Z.M Z.N rfl)) ?_
        refine WL.rd rfl rfl rfl ((by exact Rd.row1 rfl C77 rfl Z.M (by rfl))) ?_
        refine WL.op rfl ?_
        refine OpW.call rfl rfl Z.E Z.K rfl rfl rfl ?_
        refine spClaim_spec Z.M hn hT (by have := hT.len; omega) ?_
        refine WL.rd rfl rfl rfl (Rd.move rfl rfl) ?_
        refine WL.rd rfl rfl rfl (Rd.extract rfl rfl rfl) ?_
        refine WL.rd rfl rfl rfl (Rd.extract rfl rfl rfl) ?_
        refine WL.op rfl ?_
        refine OpW.alloc rfl I63 rfl Z.N rfl rfl ?_; intro b12
        refine WL.op rfl ?_
        refine OpW.storeS rfl G63 rfl rfl Z.N Z.T rfl rfl Z.N rfl ?_
        refine WL.rd rfl rfl rfl (Rd.assign rfl rfl) ?_
        refine WL.nil ?_
        refine thenQ.normal ?_
        refine WC.seq ?_
        refine WC.drawn (rowC b9 77 [v35] :: rowC b12 63 (spCs n (turnF true f XS)) :: O) 6 rfl mixed ?_
        refine WD.take 0 rfl Z.K Z.H rfl rfl rfl ((by exact Rd.row1 rfl C77 rfl Z.M (by rfl))) ?_
        refine WD.take 1 rfl Z.K Z.H rfl rfl rfl ((by exact Rd.rowS rfl G63 rfl Z.M Z.N rfl)) ?_
        refine WD.take 2 rfl Z.K Z.H rfl rfl rfl (Rd.move rfl rfl) ?_
        refine WD.take 3 rfl Z.K Z.H rfl rfl rfl (Rd.assign rfl rfl) ?_
        refine WD.one 4 rfl Z.K rfl ?_
        refine OpW.storeS rfl G63 rfl rfl Z.N Z.T rfl rfl Z.N rfl ?_
        refine ⟨Z.H, ?_⟩
        refine WD.take 5 rfl Z.K Z.H rfl rfl rfl (Rd.assign rfl rfl) ?_
        refine WD.done Z.K ?_
        refine thenQ.normal ?_
        refine WC.retO (FinO.mark Z.T) (onlyRet.mk (Ret.tmpCellTmp Tryz.results36 rfl rfl rfl Z.M G63 rfl ?_))
        exact ⟨_, _, hk _ XS hV hT hSum, Z.F⟩
     ·
      obtain rfl : m = kk := by omega
      refine WR.skip ?_
      refine blockQ.normal ?_
      refine roundB.on Z.T ?_
      exact .inl ⟨rfl, (v35, xs ++ [(a, m)]), hJ.step hv35 h1 h2 h3 h4 (by show sumX (xs ++ [(a, m)]) < k; omega), Z.F⟩
    case after =>
     intro a g ha hJ; exfalso; have h1 := hJ.cnt; have h2 := hJ.less; rw [Nat.min_eq_right ha] at h1; omega
   ·
    obtain rfl : k = 0 := by omega
    obtain ⟨XS, hXS⟩ : ∃ XS : List Ext, XS = [] := ⟨_, rfl⟩
    rw [← hXS]
    have hT : TurnOk n true f XS := by rw [hXS]; trivial
    have hSum : sumX XS = 0 := by rw [hXS]; rfl
    have hV : OneV (.slice none 0 0) := OneV.sl
    refine WC.seq ?_
    refine WC.seq ?_
    refine WC.region ?_
    refine WL.rd rfl rfl rfl ((by exact Rd.row1 rfl C3 rfl Z.M (by rfl))) ?_
    refine WL.rd rfl rfl rfl (Rd.gtr rfl rfl rfl) ?_
    refine WL.rd rfl rfl rfl (Rd.move rfl rfl) ?_
    refine WL.case 44 rfl (fun hg44 => ?_) (fun hg44 => ?_)
    ·
     omega
    ·
     refine WL.rd_yes rfl rfl rfl rfl rfl rfl ((by exact Rd.row1 rfl C77 rfl Z.M (by rfl))) ?_
     refine WL.rd_yes rfl rfl rfl rfl rfl rfl ((by exact Rd.lenA rfl rfl Tryz.underlying77 Z.M)) ?_
     refine WL.rd_yes rfl rfl rfl rfl rfl rfl (Rd.move rfl rfl) ?_
     refine WL.rd_yes rfl rfl rfl rfl rfl rfl (Rd.gtr rfl rfl rfl) ?_
     refine WL.rd rfl rfl rfl (Rd.pick_f rfl rfl rfl) ?_
     refine WL.nil ?_
     refine thenQ.normal ?_
     refine WC.ite rfl (fun hc4 => ?_) (fun hc4 => ?_)
     ·
      (have := hT.len; omega)
     ·
      refine WC.skip ?_
      refine thenQ.normal ?_
      refine WC.seq ?_
      refine WC.heap (fun w h => Sat.shareA (e := 120) (size := 2) (enc := encX) (xs := XS) Z.T h) ?_
      refine WC.region ?_
      refine WL.rd rfl rfl rfl ((by exact Rd.rowS rfl G63 rfl Z.M Z.N rfl)) ?_
      refine WL.rd rfl rfl rfl ((by exact Rd.row1 rfl C77 rfl Z.M (by rfl))) ?_
      refine WL.op rfl ?_
      refine OpW.call rfl rfl Z.E Z.K rfl rfl rfl ?_
      refine spClaim_spec Z.M hn hT (by have := hT.len; omega) ?_
      refine WL.rd rfl rfl rfl (Rd.move rfl rfl) ?_
      refine WL.rd rfl rfl rfl (Rd.extract rfl rfl rfl) ?_
      refine WL.rd rfl rfl rfl (Rd.extract rfl rfl rfl) ?_
      refine WL.op rfl ?_
      refine OpW.alloc rfl I63 rfl Z.N rfl rfl ?_; intro b12
      refine WL.op rfl ?_
      refine OpW.storeS rfl G63 rfl rfl Z.N Z.T rfl rfl Z.N rfl ?_
      refine WL.rd rfl rfl rfl (Rd.assign rfl rfl) ?_
      refine WL.nil ?_
      refine thenQ.normal ?_
      refine WC.seq ?_
      refine WC.drawn (rowC b9 77 [.slice none 0 0] :: rowC b12 63 (spCs n (turnF true f XS)) :: O) 6 rfl mixed ?_
      refine WD.take 0 rfl Z.K Z.H rfl rfl rfl ((by exact Rd.row1 rfl C77 rfl Z.M (by rfl))) ?_
      refine WD.take 1 rfl Z.K Z.H rfl rfl rfl ((by exact Rd.rowS rfl G63 rfl Z.M Z.N rfl)) ?_
      refine WD.take 2 rfl Z.K Z.H rfl rfl rfl (Rd.move rfl rfl) ?_
      refine WD.take 3 rfl Z.K Z.H rfl rfl rfl (Rd.assign rfl rfl) ?_
      refine WD.one 4 rfl Z.K rfl ?_
      refine OpW.storeS rfl G63 rfl rfl Z.N Z.T rfl rfl Z.N rfl ?_
      refine ⟨Z.H, ?_⟩
      refine WD.take 5 rfl Z.K Z.H rfl rfl rfl (Rd.assign rfl rfl) ?_
      refine WD.done Z.K ?_
      refine thenQ.normal ?_
      refine WC.ret (Ret.tmpCellTmp Tryz.results36 rfl rfl rfl Z.M G63 rfl ?_)
      exact ⟨_, _, hk _ XS hV hT hSum, Z.F⟩
end
end Go.Proofs.YtckokhdjeifomaaGreatDoor
namespace Go.SL
open Go Go.RowKit Go.MapKept Go.ChangeMaps
/-- An iterator over a map that is not written meanwhile: which stamps have come. -/
def iterC (it b c : Nat) (seen : List Nat) : Own := { blks := [it], pred := fun w => w.heap[it]? = some (.mapIter (some b) c seen.toArray c) }
section
variable {κ β : Type} {kenc : κ → Value} {venc : β → Value}
/-- What a step gives. -/
def stepV (kenc : κ → Value) (venc : β → Value) : Option (κ × β × Nat) → Value
 | none => .tuple #[.bool false]
 | some x => .tuple #[.bool true, kenc x.1, venc x.2.1]
def StepOk (m : GoMap κ β) (seen : List Nat) : Option (κ × β × Nat) → Prop
 | none => ∀ x ∈ m.l, x.2.2 ∈ seen
 | some x => x ∈ m.l ∧ x.2.2 ∉ seen
def seenOf (seen : List Nat) : Option (κ × β × Nat) → List Nat
 | none => seen
 | some x => seen ++ [x.2.2]
variable {P : Program} {n : Sz} {o : Oper} {L : Env} {R : List RO} {O O' : List Own} {K : Env → List RO → List Own → Prop} {t kt et : TypeId} {z : Value} {x y : Operand} {m : GoMap κ β} {b d it : Nat} {seen seen1 : List Nat}
theorem OpW.rangeM (T : MapT P t kt et z) (ho : o.op = .range t x) (hx : ev L x = some (.map (some b))) (hp : mapP kenc venc b m ∈ R) (hd : o.dst = some d) (hn : Nat.blt d n.n = true)
 (k : ∀ it, K ((d, .pointer (some ⟨it, 0, none⟩)) :: L) R (iterC it b m.clock [] :: O)) : OpW P n o L R O K := by
 intro a w hf hs Q
 have h : mapP kenc venc b m w := hs.read hp
 unfold Oper.wp
 have hr : (execOp a.eval o).run P w = .ok (.value (.pointer (some ⟨w.heap.size, 0, none⟩))) (w.alloc (.mapIter (some b) m.clock #[] m.clock)) := by
  simp only [execOp, ho, Sem.run_bind, hf.ev hx, run_range_map w t kt et b _ _ T.und h, Result.andThen_ok, Sem.run_pure]
 rw [hr, Oper.upon_value, hd]
 exact ⟨_, _, _, k _, hf.put hn _, hs.alloc _ _ rfl fun w' h _ => h⟩
theorem ent_born (m : GoMap κ β) : (m.l.map (ent kenc venc)).map (·.born) = m.l.map (·.2.2) := by
 rw [List.map_map]; rfl
theorem OpW.nextM (ho : o.op = .next x false) (hx : ev L x = some (.pointer (some ⟨it, 0, none⟩))) (hp : mapP kenc venc b m ∈ R) (hT : Take (iterC it b m.clock seen) O O') (hd : o.dst = some d) (hn : Nat.blt d n.n = true)
 (k : ∀ r, StepOk m seen r → K ((d, stepV kenc venc r) :: L) R (iterC it b m.clock (seenOf seen r) :: O')) : OpW P n o L R O K := by
 intro a w hf hs Q
 have h : mapP kenc venc b m w := hs.read hp
 have hs' := hs.perm hT.perm
 have hi : w.heap[it]? = some (.mapIter (some b) m.clock seen.toArray m.clock) := hs'.see List.mem_cons_self
 unfold Oper.wp
 rcases run_next_at (P := P) w o.type it b m.clock m.clock seen.toArray _ _ hi h (by
  intro e he
  simp only [List.mem_map] at he
  obtain ⟨q, hq, rfl⟩ := he
  exact m.lt q hq) (Nat.le_refl _) with ⟨h0, hr⟩ | ⟨e, he, w1, hw1, hr⟩
 · have hr' : (execOp a.eval o).run P w = .ok (.value (.tuple #[.bool false])) w := by
    simp only [execOp, ho, Sem.run_bind, hf.ev hx, hr, Result.andThen_ok, Sem.run_pure]
   rw [hr', Oper.upon_value, hd]
   refine ⟨_, _, _, k none ?_, hf.put hn _, hs'⟩
   intro q hq
   have h1 : leftOf (m.l.map (ent kenc venc)).toArray seen.toArray = #[] := Array.eq_empty_of_size_eq_zero h0
   unfold leftOf at h1
   rw [Array.filter_eq_empty_iff] at h1
   have := h1 (ent kenc venc q) (by simpa using ⟨q.1, q.2.1, q.2.2, hq, rfl⟩)
   simpa [ent] using this
 · have hr' : (execOp a.eval o).run P w = .ok (.value (.tuple #[.bool true, e.key, e.val])) (setBlock w1 it (.mapIter (some b) m.clock (seen.toArray.push e.born) m.clock)) := by
    simp only [execOp, ho, Sem.run_bind, hf.ev hx, hr, Result.andThen_ok, Sem.run_pure]
   rw [hr', Oper.upon_value, hd]
   simp only [leftOf, Array.toList_filter, List.mem_filter, List.mem_map] at he
   obtain ⟨⟨q, hq, rfl⟩, hns⟩ := he
   have hs1 : Sat R (iterC it b m.clock seen :: O') w1 := by
    rcases hw1 with rfl | rfl
    · exact hs'
    · exact hs'.drew _
   have hi1 : w1.heap[it]? = some (.mapIter (some b) m.clock seen.toArray m.clock) := hs1.see List.mem_cons_self
   have hlt : it < w1.heap.size := (Array.getElem?_eq_some_iff.1 hi1).1
   refine ⟨_, _, _, k (some q) ⟨hq, by simpa [ent] using hns⟩, hf.put hn _, ?_⟩
   refine hs1.update (iterC it b m.clock (seen ++ [q.2.2])) ⟨rfl, rfl, rfl, by simp [setBlock], fun j hj hn => ?_⟩ (fun j hj => .inl hj) (fun j hj => ?_) (by simp [iterC]) (fun w'' ha _ => ?_)
   · have : j ≠ it := fun e => hn (by simp [iterC, e])
     exact (heap_set hi1).2 j this
   · simp only [iterC, List.mem_singleton] at hj; subst hj; simpa [setBlock] using hlt
   · show w''.heap[it]? = _
     rw [ha.2.2.2.2 it (by simpa [setBlock] using hlt) (fun h => h (by simp [iterC]))]
     refine (heap_set hi1).1.trans ?_
     simp [ent]
theorem Rd.stepOn {r : Option (κ × β × Nat)} (ho : o.op = .extract x 0) (hx : ev L x = some (stepV kenc venc r)) : Rd P o L R O (.bool (decide (r.isSome = true))) := fun ρ w hρ _ _ => by
 cases r <;> simp [execOp, ho, hρ _ _ hx, stepV, Instr.extract]
theorem Rd.entryM {q : κ × β × Nat} (ho : o.op = .entry x) (hx : ev L x = some (.pointer (some ⟨it, 0, none⟩))) (hp : mapP kenc venc b m ∈ R) (hi : iterC it b m.clock seen1 ∈ O) (hq : q ∈ m.l) (hs : seen1 = seen ++ [q.2.2]) : Rd P o L R O (.tuple #[kenc q.1, venc q.2.1]) := fun ρ w hρ hR hO => by
 have h : w.heap[b]? = _ := hR _ hp
 have h2 : w.heap[it]? = _ := hO _ hi
 subst hs
 have h3 : w.heap[it]? = some (.mapIter (some b) m.clock (seen.toArray.push (ent kenc venc q).born) m.clock) := h2.trans (by simp [ent])
 have := run_entry_at (P := P) w it b m.clock seen.toArray _ _ (ent kenc venc q) h3 h (by simpa using ⟨q.1, q.2.1, q.2.2, hq, rfl⟩) (by
  show ((m.l.map (ent kenc venc)).map (·.born)).Nodup
  rw [ent_born]; exact m.born)
 simp only [execOp, ho, Sem.run_bind, hρ _ _ hx, this, Result.andThen_ok, Sem.run_pure]
 rfl
end
theorem nodup_len {α : Type} [DecidableEq α] : ∀ {l l' : List α}, l.Nodup → (∀ x ∈ l, x ∈ l') → l.length ≤ l'.length
 | [], _, _, _ => Nat.zero_le _
 | a :: l, l', hn, hs => by
   rw [List.nodup_cons] at hn
   have h1 := nodup_len (l := l) (l' := l'.erase a) hn.2 fun x hx => (List.mem_erase_of_ne (fun e => hn.1 (by rwa [e] at hx))).2 (hs x (List.mem_cons_of_mem _ hx))
   have ha := hs a List.mem_cons_self
   rw [List.length_erase_of_mem ha] at h1
   have := List.length_pos_of_mem ha
   rw [List.length_cons]; omega
/-- A contract that gives something new. -/
theorem Sat.belowOwn {R : List RO} {O : List Own} {w w' : World} {c : Own} (h : Sat R O w) (hb : Below w.heap.size w w') (hn : c.blks.Nodup) (hge : ∀ k ∈ c.blks, w.heap.size ≤ k ∧ k < w'.heap.size) (hc : ∀ w'', (∀ k ∈ c.blks, w''.heap[k]? = w'.heap[k]?) → c.pred w'') : Sat R (c :: O) w' := by
 have key : ∀ {S : Nat → Prop} {w'' : World}, Agree S w' w'' → Agree S w w'' := fun {S w''} ha =>
  (show Agree S w w' from ⟨hb.os, hb.tape, hb.output, hb.size, fun k hk _ => hb.block k hk⟩).trans ha
 refine ⟨?_, fun k hk => ?_, fun p hp w'' ha => h.ro p hp w'' ((key ha).mono fun k hk hx => ?_), fun d hd w'' ha => ?_⟩
 · simp only [owned, List.nodup_append]
   exact ⟨hn, h.nodup, fun x hx y hy e => by have := (hge x hx).1; have := h.lt y hy; omega⟩
 · simp only [owned, List.mem_append] at hk
   rcases hk with hk | hk
   · exact (hge k hk).2
   · exact Nat.lt_of_lt_of_le (h.lt k hk) hb.size
 · simp only [owned, List.mem_append] at hx
   rcases hx with hx | hx
   · have := (hge k hx).1; omega
   · exact hx
 · rcases List.mem_cons.1 hd with rfl | hd
   · refine hc w'' fun k hk => ha.2.2.2.2 k (hge k hk).2 (fun hx => hx.2 hk)
   · refine h.own d hd w'' ((key ha).mono fun k hk hx => ?_)
     simp only [owned, List.mem_append] at hx
     rcases hx with ⟨hx | hx, h2⟩
     · have := (hge k hx).1; omega
     · exact ⟨hx, h2⟩
theorem bless_eq : ∀ (x y : List UInt8), Op.bytesLess x y = decide (x < y)
 | [], [] => by simp [Op.bytesLess]
 | [], _ :: _ => by simp [Op.bytesLess]
 | _ :: _, [] => by simp [Op.bytesLess]
 | a :: x, b :: y => by
   rw [Op.bytesLess, bless_eq x y]
   simp only [List.cons_lt_cons_iff]
   by_cases h : a < b
   · simp [h]
   · by_cases h2 : b < a
     · have h3 : ¬ a = b := fun e => by subst e; exact absurd h2 (by simp)
       simp [h, h2, h3]
     · have h3 : a = b := UInt8.toNat_inj.1 (by simp only [UInt8.lt_iff_toNat_lt] at h h2; omega)
       subst h3
       simp
/-- Rising, none twice. -/
def Asc (l : List (List UInt8)) : Prop := l.Pairwise fun a b => Op.bytesLess a b = true
abbrev constR : Value → Option (DataW Unit × List MemPlace) := fun _ => some (.lit (.bool true), [])
def mapD {β : Type} (P : Program) (kt : TypeId) (venc : β → Value) (m : GoMap (List UInt8) β) : DataW Unit := .map (((m.l.map (ent vs venc)).map (Go.WideElems.rg P kt constR)).foldr DataW.insert [])
section
variable {β : Type} {venc : β → Value} {P : Program} {kt : TypeId} {m : GoMap (List UInt8) β} {b : Nat}
theorem keyOf_vs (hk : P.underlying kt = some .string) {k : List UInt8} (h : k.length ≤ maxLen) : keyOf P kt (vs k) = some (.string k) := by
 have h2 : ByteArray.size ⟨k.toArray⟩ ≤ maxLen := h
 simp [keyOf, hk, mapKey, vs, h2]
theorem rd_ent (hk : P.underlying kt = some .string) {x : List UInt8 × β × Nat} (h : x.1.length ≤ maxLen) : Go.WideElems.rd P kt constR (ent vs venc x) = some (.string x.1, .lit (.bool true)) := by
 simp [Go.WideElems.rd, ent, keyOf_vs hk h, constR]
theorem ownsMap_of {w : World} (hk : P.underlying kt = some .string) (h : mapP vs venc b m w) (hsz : m.l.length ≤ maxLen) (hl : ∀ k ∈ m.ks, k.length ≤ maxLen) : w.ownsMap P kt constR b m.l.length (mapD P kt venc m) := by
 refine ⟨_, _, h, ⟨by simpa using hsz, ⟨?_, ?_, ?_⟩, ?_⟩, by simp, rfl⟩
 · intro x hx
   simp only [List.mem_map] at hx
   obtain ⟨q, hq, rfl⟩ := hx
   exact m.lt q hq
 · show ((m.l.map (ent vs venc)).map (·.born)).Nodup
   rw [ent_born]; exact m.born
 · show ((m.l.map (ent vs venc)).map (·.key)).Nodup
   rw [List.map_map]
   have h1 : (m.l.map ((·.key) ∘ ent vs venc)) = (m.l.map (·.1)).map vs := by rw [List.map_map]; rfl
   rw [h1]
   refine List.Pairwise.map _ (fun a b h e => h ?_) m.keys
   simpa [vs] using e
 · intro x hx
   simp only [List.mem_map] at hx
   obtain ⟨q, hq, rfl⟩ := hx
   exact ⟨_, rd_ent hk (hl _ (List.mem_map_of_mem hq))⟩
theorem mapD_keys (hk : P.underlying kt = some .string) (hl : ∀ k ∈ m.ks, k.length ≤ maxLen) : (strKeys (mapD P kt venc m)).Perm m.ks := by
 show ((((m.l.map (ent vs venc)).map (Go.WideElems.rg P kt constR)).foldr DataW.insert []).map fun p => strOf p.1).Perm m.ks
 refine ((Go.WideShapes.sorted_perm _).map _).trans ?_
 rw [List.map_map, List.map_map]
 refine List.Perm.of_eq (List.map_congr_left fun q hq => ?_)
 show strOf (Go.WideElems.rg P kt constR (ent vs venc q)).1 = q.1
 rw [Go.WideElems.rg_of (rd_ent hk (hl _ (List.mem_map_of_mem hq)))]; rfl
theorem mapD_size (P : Program) (kt : TypeId) (venc : β → Value) (m : GoMap (List UInt8) β) : Go.Maps.size (mapD P kt venc m) = m.l.length := by
 show ((((m.l.map (ent vs venc)).map (Go.WideElems.rg P kt constR)).foldr DataW.insert [])).length = _
 rw [(Go.WideShapes.sorted_perm _).length_eq]; simp
theorem sort_asc {l : List (List UInt8)} (hn : l.Nodup) : Asc (l.mergeSort leB) ∧ (l.mergeSort leB).Perm l := by
 have tr : ∀ a b c : List UInt8, leB a b = true → leB b c = true → leB a c = true := fun a b c h1 h2 => by simp only [leB, decide_eq_true_eq] at *; exact List.le_trans h1 h2
 have tot : ∀ a b : List UInt8, (leB a b || leB b a) = true := fun a b => by simp only [leB, Bool.or_eq_true, decide_eq_true_eq]; exact List.le_total a b
 have hp := List.mergeSort_perm l leB
 refine ⟨?_, hp⟩
 have h1 := List.pairwise_mergeSort tr tot l
 have h2 : (l.mergeSort leB).Nodup := hp.nodup_iff.2 hn
 refine (h1.and h2).imp fun {a b} ⟨h3, h4⟩ => ?_
 rw [bless_eq, decide_eq_true_eq]
 simp only [leB, decide_eq_true_eq] at h3
 rcases Classical.em (a < b) with h5 | h5
 · exact h5
 · exact absurd (List.le_antisymm h3 (List.not_lt.1 h5)) h4
/-- Of a call that gives a map's keys, sorted. -/
theorem Fun.sortedKeys {f : FuncId} {args : Array Value} {R : List RO} {O : List Own} {st : TypeId} {POST : Value → List RO → List Own → Prop}
 (h : ∀ w, Sat R O w → Calls P f args w fun e w' => ∃ (v : Value) (ss : List (List UInt8)), e = .returned v ∧ ss.Perm (strKeys (mapD P kt venc m)) ∧ w'.ownsRow w.heap.size st 1 v ss.length ((ss.mergeSort (fun x y => decide (x ≤ y))).map Go.Proofs.encStr) ∧ (v = .slice none 0 0 ↔ ss = []) ∧ Below w.heap.size w w')
 (hk : P.underlying kt = some .string) (hl : ∀ k ∈ m.ks, k.length ≤ maxLen)
 (c : ∀ v ks, Asc ks → (∀ k, k ∈ ks ↔ k ∈ m.ks) → ks.length = m.l.length → POST v R (accC st 1 (SL.one vs) v ks :: O)) : Fun P f args R O POST := by
 intro w hs
 refine (h w hs).mono fun e w' ⟨v, ss, he, hp, hrow, _, hb⟩ => ?_
 have hp' := hp.trans (mapD_keys hk hl)
 obtain ⟨ha, hq⟩ := sort_asc (hp'.nodup_iff.2 (show m.ks.Nodup from m.keys))
 have hlen : (ss.mergeSort leB).length = ss.length := hq.length_eq
 have hfm : (ss.mergeSort leB).flatMap (SL.one vs) = (ss.mergeSort leB).map Go.Proofs.encStr := by
  generalize ss.mergeSort leB = l
  induction l with
  | nil => rfl
  | cons a l ih => rw [List.flatMap_cons, ih, List.map_cons]; rfl
 refine ⟨v, _, _, he, c v (ss.mergeSort leB) ha (fun k => (hq.trans hp').mem_iff) ((hq.trans hp').length_eq.trans (by simp [GoMap.ks])), hs.belowOwn hb ?_ ?_ ?_⟩
 · show (v.ownBlock.toList).Nodup
   cases v.ownBlock <;> simp
 · intro k hk'
   rcases hrow.2 with ⟨rfl, _⟩ | ⟨g, cap, cur, rfl, hg, h1, _⟩
   · simp [accC, Value.ownBlock] at hk'
   · simp only [accC, Value.ownBlock, Option.toList_some, List.mem_singleton] at hk'
     subst hk'
     exact ⟨hg, (Array.getElem?_eq_some_iff.1 h1).1⟩
 · intro w'' hw
   show w''.ownsRow 0 st 1 v (ss.mergeSort leB).length ((ss.mergeSort leB).flatMap (SL.one vs))
   rw [hfm, hlen]
   refine ⟨hrow.1, ?_⟩
   rcases hrow.2 with h0 | ⟨g, cap, cur, rfl, hg, h1, hrest⟩
   · exact .inl h0
   · exact .inr ⟨g, cap, cur, rfl, Nat.zero_le _, (hw g (by simp [accC, Value.ownBlock])).trans h1, hrest⟩
end
/-- The order of strings. -/
abbrev Lt (a b : List UInt8) : Prop := Op.bytesLess a b = true
theorem Lt.iff {a b : List UInt8} : Lt a b ↔ a < b := by show Op.bytesLess a b = true ↔ _; rw [bless_eq, decide_eq_true_eq]
theorem Lt.irrefl {a : List UInt8} : ¬ Lt a a := fun h => List.lt_irrefl _ (Lt.iff.1 h)
theorem Lt.trans {a b c : List UInt8} (h : Lt a b) (h' : Lt b c) : Lt a c := Lt.iff.2 (List.lt_trans (Lt.iff.1 h) (Lt.iff.1 h'))
theorem Lt.asymm {a b : List UInt8} (h : Lt a b) (h' : Lt b a) : False := Lt.irrefl (h.trans h')
theorem Lt.total {a b : List UInt8} (h : ¬ Lt a b) (hne : a ≠ b) : Lt b a := by
 rw [Lt.iff] at h ⊢
 rcases Classical.em (b < a) with h5 | h5
 · exact h5
 · exact absurd (List.le_antisymm (List.not_lt.1 h5) (List.not_lt.1 h)) hne
theorem Lt.flip (a b : List UInt8) : (Op.bytesLess a b || a == b) = decide (¬ Lt b a) := by
 by_cases h : Lt b a
 · rw [decide_eq_false (by simpa using h)]
   have h1 : ¬ Lt a b := fun h' => h'.asymm h
   have h2 : a ≠ b := fun e => by subst e; exact h.irrefl
   simp [show Op.bytesLess a b = false from Bool.eq_false_iff.2 h1, h2]
 · rw [decide_eq_true h]
   by_cases e : a = b
   · simp [e]
   · rw [show Op.bytesLess a b = true from Lt.total h (fun h => e h.symm)]; rfl
/-- Two rising lists with the same members are one. -/
theorem Asc.uniq : ∀ {l l' : List (List UInt8)}, Asc l → Asc l' → (∀ x, x ∈ l ↔ x ∈ l') → l = l'
 | [], [], _, _, _ => rfl
 | [], b :: _, _, _, h => absurd ((h b).2 List.mem_cons_self) (by simp)
 | a :: _, [], _, _, h => absurd ((h a).1 List.mem_cons_self) (by simp)
 | a :: l, b :: l', h1, h2, h => by
   rw [Asc, List.pairwise_cons] at h1 h2
   have e : a = b := by
    rcases List.mem_cons.1 ((h a).1 List.mem_cons_self) with e | e
    · exact e
    · rcases List.mem_cons.1 ((h b).2 List.mem_cons_self) with e' | e'
      · exact e'.symm
      · exact (Lt.asymm (h2.1 a e) (h1.1 b e')).elim
   subst e
   rw [Asc.uniq (l := l) (l' := l') h1.2 h2.2 fun x => ?_]
   constructor
   · intro hx
     rcases List.mem_cons.1 ((h x).1 (List.mem_cons_of_mem _ hx)) with e | e
     · subst e; exact (Lt.irrefl (h1.1 _ hx)).elim
     · exact e
   · intro hx
     rcases List.mem_cons.1 ((h x).2 (List.mem_cons_of_mem _ hx)) with e | e
     · subst e; exact (Lt.irrefl (h2.1 _ hx)).elim
     · exact e
theorem Asc.nodup {l : List (List UInt8)} (h : Asc l) : l.Nodup := List.Pairwise.imp (fun h e => by subst e; exact Lt.irrefl h) h
end Go.SL
namespace Go.SL
open Go Go.RowKit Go.Sort
theorem WR.loop3 {P : Program} {ro : Option Nat} {n : Sz} {Q : Post} {L : Env} {R : List RO} {O : List Own} {c : Code} {α β γ : Type} (m : Nat) (ch : α → β → γ → Env) (OF : α → β → γ → List Own) (I : α → β → γ → Prop) (μ : α → β → γ → Nat) (x0 : α) (y0 : β) (z0 : γ) {pre Lc : Env} (_hs : Split m L pre Lc) (h0 : I x0 y0 z0) (hL : Sub (ch x0 y0 z0 ++ Lc) L) (hS : ∀ w, Sat R O w → Sat R (OF x0 y0 z0) w)
 (round : ∀ x y z, I x y z → WR ro P n c (loopQ3 ch Lc (fun _ _ _ => R) OF I μ (μ x y z) Q) (ch x y z ++ Lc) R (OF x y z)) : WR ro P n (.loop c) Q L R O :=
 WR.loop (α := α × β × γ) (fun q => ch q.1 q.2.1 q.2.2 ++ Lc) (fun _ => R) (fun q => OF q.1 q.2.1 q.2.2) (fun q => I q.1 q.2.1 q.2.2) (fun q => μ q.1 q.2.1 q.2.2) (x0, y0, z0) h0 hL hS (fun q hq => round q.1 q.2.1 q.2.2 hq)
section
variable {R : List RO} {O O' : List Own} {e : TypeId} {xs ys : List Int} {b cap : Nat}
theorem acc_holdsI {w : World} (h : (accC e 1 (SL.one vi) (.slice (some ⟨b, 0, none⟩) xs.length cap) xs).pred w) : Holds (Value.int .i64) w b 0 xs.toArray := by
 obtain ⟨hl, hv⟩ := h
 rcases hv with ⟨h0, _⟩ | ⟨g, c, cur, hv, _, hg, hn, hc, hs, ht⟩
 · cases h0
 · simp only [Value.slice.injEq, Option.some.injEq, Addr.mk.injEq, and_true, true_and] at hv
   obtain ⟨rfl, rfl⟩ := hv
   intro j hj
   have hj' : j < xs.length := by simpa using hj
   rw [flat_one, Nat.mul_one] at ht
   have h1 : (cur.toList.take xs.length)[j]? = some (vi xs[j]!) := by rw [ht, List.getElem?_map, get!_of_lt hj']; rfl
   rw [List.getElem?_take_of_lt hj', Array.getElem?_toList] at h1
   refine ⟨?_, ?_⟩
   · simp only [World.cell?, hg, Nat.zero_add, h1]
     congr 1
     rw [show (xs.toArray)[j]! = xs[j]! from by simp]
     rfl
   · simp [World.frozen?, hg]
theorem acc_putI {w : World} {k : Nat} {os : Array Obj} (hl : ys.length = xs.length) (h : Sat R (accC e 1 (SL.one vi) (.slice (some ⟨b, 0, none⟩) xs.length cap) xs :: O) w) :
 Sat R (accC e 1 (SL.one vi) (.slice (some ⟨b, 0, none⟩) xs.length cap) ys :: O) (grow (putRow (Value.int .i64) (Go.Sort.ahead w k) b 0 ys.toArray) os) := by
 have hp := h.see List.mem_cons_self
 have hlt := ownBlock_lt hp b (by simp [Value.ownBlock])
 obtain ⟨hll, hv⟩ := hp
 rcases hv with ⟨h0, _⟩ | ⟨g, c, cur, hv, _, hg, hn, hc, hs, ht⟩
 · cases h0
 simp only [Value.slice.injEq, Option.some.injEq, Addr.mk.injEq, and_true, true_and] at hv
 obtain ⟨rfl, rfl⟩ := hv
 have hsz : (putRow (Value.int .i64) (Go.Sort.ahead w k) b 0 ys.toArray).heap.size = w.heap.size := by rw [size_putRow]; rfl
 have hheap : ∀ j, j < w.heap.size → (grow (putRow (Value.int .i64) (Go.Sort.ahead w k) b 0 ys.toArray) os).heap[j]? = if b = j then (w.heap[j]?).map (onCells (putCells (Value.int .i64) 0 ys.toArray)) else w.heap[j]? := fun j hj => by
  show ((putRow (Value.int .i64) (Go.Sort.ahead w k) b 0 ys.toArray).heap ++ os)[j]? = _
  rw [Array.getElem?_append_left (by rw [hsz]; exact hj)]
  show ((w.heap.modify b (onCells (putCells (Value.int .i64) 0 ys.toArray))))[j]? = _
  rw [Array.getElem?_modify]
 refine h.update _ ⟨rfl, rfl, rfl, ?_, fun j hj hn => ?_⟩ (fun j hj => .inl hj) (fun j hj => ?_) (by simp [accC, Value.ownBlock]) (fun w2 ha _ => ?_)
 · show w.heap.size ≤ ((putRow (Value.int .i64) (Go.Sort.ahead w k) b 0 ys.toArray).heap ++ os).size
   rw [Array.size_append, hsz]; omega
 · rw [hheap j hj, if_neg (fun e => hn (by simp [accC, Value.ownBlock, e]))]
 · have e : j = b := by simpa [accC, Value.ownBlock] using hj
   subst e
   show j < ((putRow (Value.int .i64) (Go.Sort.ahead w k) j 0 ys.toArray).heap ++ os).size
   rw [Array.size_append, hsz]; omega
 · have h2 := ha.2.2.2.2 b (by
    show b < ((putRow (Value.int .i64) (Go.Sort.ahead w k) b 0 ys.toArray).heap ++ os).size
    rw [Array.size_append, hsz]; omega) (fun hn => hn (by simp [accC, Value.ownBlock]))
   rw [hheap b hlt, if_pos rfl, hg] at h2
   refine ⟨by rw [flat_one, List.length_map, Nat.mul_one], .inr ⟨b, cap, putCells (Value.int .i64) 0 ys.toArray cur, by rw [hl], Nat.zero_le _, h2, by rw [hl]; exact hn, hc, by simp [putCells, hs], ?_⟩⟩
   rw [flat_one, Nat.mul_one]
   apply List.ext_getElem?
   intro j
   have hcs : cur.size = cap := by omega
   by_cases hj : j < ys.length
   · rw [List.getElem?_take_of_lt hj, Array.getElem?_toList, List.getElem?_map, get!_of_lt hj]
     simp only [putCells, Array.getElem?_mapIdx, Option.map_some]
     rw [Array.getElem?_eq_getElem Z.W]
     simp only [Option.map_some, Nat.zero_le, true_and, Nat.sub_zero]
     rw [if_pos (by simpa using hj)]
     congr 1
     rw [show (ys.toArray)[j]! = ys[j]! from by simp]
   · rw [List.getElem?_eq_none (by rw [List.length_take]; omega), List.getElem?_eq_none (by rw [List.length_map]; omega)]
/-- slices.Sort. -/
theorem Fun.sortsI {P : Program} {f : FuncId} {v : Value} {POST : Value → List RO → List Own → Prop}
 (hc : ∀ (blk off cap : Nat) (ss : List Int) (w : World), Holds (Value.int .i64) w blk off ss.toArray → blk < w.heap.size → ss.length < 4611686018427387904 →
   Calls P f #[.slice (some ⟨blk, off, none⟩) ss.length cap] w fun e w' => e = .returned (.tuple #[]) ∧ ∃ n os, w' = grow (putRow (Value.int .i64) (Go.Sort.ahead w n) blk off (ss.mergeSort fun x y => decide (x ≤ y)).toArray) os)
 (hne : xs ≠ [])
 (hl : xs.length < 4611686018427387904) (hk : POST (.tuple #[]) R (accC e 1 (SL.one vi) v (xs.mergeSort fun x y => decide (x ≤ y)) :: O)) : Fun P f #[v] R (accC e 1 (SL.one vi) v xs :: O) POST := by
 intro w hs
 have hp := hs.see List.mem_cons_self
 obtain ⟨_, hv⟩ := hp
 rcases hv with ⟨rfl, h0⟩ | ⟨g, c, cur, rfl, _⟩
 · exact absurd (List.length_eq_zero_iff.1 h0) hne
 · have hp := hs.see List.mem_cons_self
   refine (hc g 0 c xs w (acc_holdsI hp) (ownBlock_lt hp g (by simp [Value.ownBlock])) hl).mono fun e' w' ⟨he, k, os, hw⟩ => ⟨_, R, _, he, hk, ?_⟩
   rw [hw]
   exact acc_putI (List.length_mergeSort _) hs
end
end Go.SL
namespace Go.Proofs.YtckokhdjeifomaaGreatDoor
open Go Go.SL
abbrev kI : Int → Value := fun n => .int .i64 n
abbrev accI (v : Value) (xs : List Int) : Own := accC 3 1 (SL.one vi) v xs
abbrev nilS : Value := .slice none 0 0
theorem get!_mem {β : Type} [Inhabited β] {l : List β} {i : Nat} (hi : i < l.length) : l[i]! ∈ l := by rw [getElem!_pos l i hi]; exact List.getElem_mem _
/-- What an iterator does, whatever the rounds do: 'I' is what the loop's caller holds when so much has come. -/
def ItOk (gf : Nat) (lb : List Value) (R : List RO) (C : List Own) (S : List Int → Prop) (N : Nat) : Prop :=
 ∀ (γ : Type) (l : Nat) (c1 : Own) (I : List Int → γ → List Own → List Own) (g0 : γ) (X : List Own) (POST : Value → List RO → List Own → Prop),
  (∀ c ∈ C, c ∈ X) → (∀ xs g c X, (I xs g (c :: X)).Perm (c :: I xs g X)) →
  (∀ xs g X x, xs.length < N → Yld Tryz.prog l [vi x] R (c1 :: I xs g X) (fun b R' O' => b = true ∧ ∃ g', ∀ w, Sat R' O' w → Sat R (c1 :: I (xs ++ [x]) g' X) w)) →
  (∀ xs g, S xs → POST (.tuple #[]) R (c1 :: I xs g X)) → Fun Tryz.prog gf (.func (.yield l) #[] #[] :: lb).toArray R (c1 :: I [] g0 X) POST
theorem it_mem {γ : Type} {I : List Int → γ → List Own → List Own} (hP : ∀ xs g c X, (I xs g (c :: X)).Perm (c :: I xs g X)) {xs : List Int} {g : γ} {c : Own} : ∀ {X : List Own}, c ∈ X → c ∈ I xs g X
 | [], h => by cases h
 | d :: X, h => by
   refine (hP xs g d X).mem_iff.2 ?_
   rcases List.mem_cons.1 h with rfl | h
   · exact List.mem_cons_self
   · exact List.mem_cons_of_mem _ (it_mem hP h)
section
variable {R : List RO} {O O' : List Own} {POST : Value → List RO → List Own → Prop}
/-- What has come of a map. -/
structure Came {β : Type} (m : GoMap Int β) (xs : List Int) (seen : List Nat) : Prop where
 ex : ∃ ys : List (Int × β × Nat), ys.Nodup ∧ (∀ y ∈ ys, y ∈ m.l) ∧ seen = ys.map (·.2.2) ∧ xs = ys.map (·.1)
theorem mapl_nodup {β : Type} (m : GoMap Int β) : m.l.Nodup := List.Pairwise.of_map (S := fun a b => a ≠ b) (fun x : Int × β × Nat => x.1) (fun a b h e => h (by rw [e])) m.keys
theorem Came.start {β : Type} (m : GoMap Int β) : Came m [] [] := ⟨[], List.nodup_nil, fun _ h => absurd h List.not_mem_nil, rfl, rfl⟩
theorem Came.step {β : Type} {m : GoMap Int β} {xs : List Int} {seen : List Nat} {x : Int × β × Nat} (h : Came m xs seen) (h1 : x ∈ m.l) (h2 : x.2.2 ∉ seen) : Came m (xs ++ [x.1]) (seen ++ [x.2.2]) := by
 obtain ⟨ys, g1, g2, rfl, rfl⟩ := h.ex
 refine ⟨ys ++ [x], ?_, fun y hy => ?_, by simp, by simp⟩
 · rw [List.nodup_append]
   refine ⟨g1, by simp, fun a ha b hb => ?_⟩
   rw [List.mem_singleton.1 hb]
   rintro rfl
   exact h2 (List.mem_map_of_mem ha)
 · rcases List.mem_append.1 hy with h | h
   · exact g2 y h
   · rw [List.mem_singleton.1 h]; exact h1
theorem Came.len {β : Type} {m : GoMap Int β} {xs : List Int} {seen : List Nat} (h : Came m xs seen) : xs.length ≤ m.l.length ∧ seen.length = xs.length := by
 obtain ⟨ys, g1, g2, rfl, rfl⟩ := h.ex
 rw [List.length_map, List.length_map]
 haveI : DecidableEq (Int × β × Nat) := fun a b => Classical.propDecidable (a = b)
 exact ⟨nodup_len g1 g2, rfl⟩
theorem Came.lt {β : Type} {m : GoMap Int β} {xs : List Int} {seen : List Nat} {x : Int × β × Nat} (h : Came m xs seen) (h1 : x ∈ m.l) (h2 : x.2.2 ∉ seen) : xs.length < m.l.length := by
 have := (h.step h1 h2).len.1
 rw [List.length_append] at this
 simp at this; omega
theorem Came.all {β : Type} {m : GoMap Int β} {xs : List Int} {seen : List Nat} (h : Came m xs seen) (ha : ∀ x ∈ m.l, x.2.2 ∈ seen) : xs.Perm m.ks := by
 obtain ⟨ys, g1, g2, rfl, rfl⟩ := h.ex
 have hb : (m.l.map (·.2.2)).Nodup := m.born
 have : ys.Perm m.l := by
  rw [List.perm_ext_iff_of_nodup g1 (mapl_nodup m)]
  refine fun a => ⟨g2 a, fun hm => ?_⟩
  obtain ⟨y, hy, e⟩ := List.mem_map.1 (ha a hm)
  have := GoMap.nodup_inj (f := fun x : Int × β × Nat => x.2.2) hb (g2 y hy) hm e
  exact this ▸ hy
 exact this.map _
set_option maxRecDepth 20000 in
theorem keysI_spec {b : Nat} (hk : ∀ cb, POST (.func (.func 115) #[] #[.pointer (some ⟨cb, 0, none⟩)]) R (rowC cb 123 [.map (some b)] :: O)) : Fun Tryz.prog 95 #[.map (some b)] R O POST := by
 refine Fun.enter (l := [_]) Tryz.func95 rfl Tryz.ntmps95 rfl (L0 := [(0, _)]) rfl ?_
 refine WC.seq ?_
 refine WC.region ?_
 refine WL.op rfl ?_
 refine OpW.box1 rfl rfl (by exact ⟨rfl, rfl⟩) rfl rfl ?_; intro b1
 refine WL.rd rfl rfl rfl (Rd.assign rfl rfl) ?_
 refine WL.nil ?_
 refine thenQ.normal ?_
 refine WC.seq ?_
 refine WC.region ?_
 refine WL.rd rfl rfl rfl (Rd.func rfl Z.E Z.E ⟨_, rfl⟩) ?_
 refine WL.rd rfl rfl rfl (Rd.assign rfl rfl) ?_
 refine WL.nil ?_
 refine thenQ.normal ?_
 refine WC.ret (Ret.one Tryz.results95 rfl ?_)
 exact hk _
set_option maxRecDepth 20000 in
theorem keysI_it {m : GoMap Int (List UInt8)} {b cb : Nat} (hm : mapP kI vs b m ∈ R) : ItOk 115 [.pointer (some ⟨cb, 0, none⟩)] R [rowC cb 123 [.map (some b)]] (fun ys => ys.Perm m.ks) m.l.length := by
 intro γ l c1 I g0 X POST hC hP hY hk
 have hb : ∀ {ys g c}, rowC cb 123 [.map (some b)] ∈ c :: c1 :: I ys g X := List.mem_cons_of_mem _ (List.mem_cons_of_mem _ (it_mem hP (hC _ List.mem_cons_self)))
 have hb0 : ∀ {ys g}, rowC cb 123 [.map (some b)] ∈ c1 :: I ys g X := List.mem_cons_of_mem _ (it_mem hP (hC _ List.mem_cons_self))
 refine Fun.enterR (l := [_, _]) Tryz.func115 rfl Tryz.ntmps115 rfl (L0 := [(0, _), (1, _)]) rfl ?_
 refine WR.seq ?_
 refine WR.regionY ?_
 refine WY.rd rfl rfl rfl (Rd.row1 (off := 0) (u := .map (some b)) rfl C123 rfl hb0 rfl) ?_
 refine WY.op rfl ?_
 refine OpW.rangeM (kenc := kI) (venc := vs) (m := m) M123 rfl rfl hm rfl rfl ?_; intro it
 refine WY.nil ?_
 refine thenR.normal ?_
 refine WR.block ?_
 refine WR.pick [0, 5] Z.P ?_
 refine WR.loop3 0 (fun (xs : List Int) (seen : List Nat) (g : γ) => []) (fun (xs : List Int) (seen : List Nat) (g : γ) => iterC it b m.clock seen :: c1 :: I xs g X) (fun (xs : List Int) (seen : List Nat) (g : γ) => Came m xs seen) (fun (xs : List Int) (seen : List Nat) (g : γ) => m.l.length - xs.length) ([]) ([]) (g0) Z.L ?hinv1 (by repeat (first | exact Sub.nil | refine Sub.cons rfl (by rfl) ?_)) (fun _ h => h) ?_
 case hinv1 =>
  exact Came.start m
 intro xs seen g
 rintro i1
 refine WR.seq ?_
 refine WR.region ?_
 refine WL.op rfl ?_
 refine OpW.nextM (kenc := kI) (venc := vs) (m := m) (seen := seen) rfl rfl hm Z.T rfl rfl ?_; intro r hr
 refine WL.rd rfl rfl rfl (Rd.stepOn rfl rfl) ?_
 refine WL.nil ?_
 refine thenR.normal ?_
 refine WR.seq ?_
 refine WR.ite rfl (fun hc1 => ?_) (fun hc1 => ?_)
 ·
  obtain ⟨x, rfl⟩ := Option.isSome_iff_exists.1 hc1
  refine WR.skip ?_
  refine thenR.normal ?_
  refine WR.block ?_
  refine WR.seq ?_
  refine WR.region ?_
  refine WL.op rfl ?_
  refine OpW.rd rfl rfl (Rd.entryM (kenc := kI) (venc := vs) (m := m) (q := x) (seen := seen) rfl rfl hm Z.M hr.1 rfl) ?_
  refine WL.rd rfl rfl rfl (Rd.extract rfl rfl rfl) ?_
  refine WL.rd rfl rfl rfl (Rd.assign rfl rfl) ?_
  refine WL.nil ?_
  refine thenR.normal ?_
  refine WR.seq ?_
  refine WR.regionY ?_
  refine WY.rd rfl rfl rfl (Rd.move rfl rfl) ?_
  refine WY.rd rfl rfl rfl (Rd.move rfl rfl) ?_
  refine WY.yield rfl rfl rfl Z.E rfl rfl ?_
  refine Yld.heap (R' := R) (O' := c1 :: I xs g (iterC it b m.clock (seen ++ [x.2.2]) :: X)) (fun w h => h.perm ?_) ?_
  · exact (List.Perm.swap _ _ _).trans (List.Perm.cons _ (hP _ _ _ _).symm)
  refine (hY xs g (iterC it b m.clock (seen ++ [x.2.2]) :: X) x.1 (i1.lt hr.1 hr.2)).mono ?_
  rintro b' R' O' ⟨rfl, g', hS⟩
  refine WY.heap (R' := R) (O' := iterC it b m.clock (seen ++ [x.2.2]) :: c1 :: I (xs ++ [x.1]) g' X) (fun w h => (hS w h).perm ?_) ?_
  · exact (List.Perm.cons _ (hP _ _ _ _)).trans (List.Perm.swap _ _ _)
  refine WY.rd rfl rfl rfl ((by exact Rd.not rfl rfl)) ?_
  refine WY.nil ?_
  refine thenR.normal ?_
  refine WR.cond rfl (fun hc2 => ?_) (fun hc2 => ?_)
  ·
   cases hc2
  ·
   refine WR.skip ?_
   refine blockQ.normal ?_
   exact loopQ3.mk (xs ++ [x.1]) (seen ++ [x.2.2]) g' (i1.step hr.1 hr.2) (by have := i1.lt hr.1 hr.2; rw [List.length_append]; simp; omega) (by repeat (first | exact Sub.nil | refine Sub.cons rfl (by rfl) ?_)) Z.F
 ·
  obtain rfl : r = none := by
   cases r with
   | some x => exact absurd rfl hc1
   | none => rfl
  refine WR.heap (R' := R) (O' := c1 :: I xs g X) Z.F ?_
  refine WR.exit ?_
  refine thenR.exit ?_
  refine loopQ3.exit ?_
  refine blockQ.exit ?_
  refine Ret.normal (Ret.zero Tryz.results115 ?_)
  exact hk xs g (i1.all hr)
set_option maxRecDepth 20000 in
theorem append_it {gf : Nat} {lb : List Value} {C : List Own} {S : List Int → Prop} {N : Nat} (it : ItOk gf lb R C S N) (hb : hasBody Tryz.prog gf = true) (hN : N ≤ 1000000) (hC : ∀ c ∈ C, c ∈ O) (hk : ∀ v xs, S xs → POST v R (accI v xs :: O)) :
 Fun Tryz.prog 132 #[nilS, .func (.func gf) #[] lb.toArray] R O POST := by
 refine Fun.enter (l := [_, _]) Tryz.func132 rfl Tryz.ntmps132 rfl (L0 := [(0, _), (1, _)]) rfl ?_
 refine WC.seq ?_
 refine WC.region ?_
 refine WL.op rfl ?_
 refine OpW.box1 rfl rfl (by exact ⟨rfl, rfl⟩) rfl rfl ?_; intro b2
 refine WL.heap (fun w h => Sat.accNil (e := 3) (size := 1) (enc := SL.one vi) h) ?_
 refine WL.rd rfl rfl rfl (Rd.assign rfl rfl) ?_
 refine WL.nil ?_
 refine thenQ.normal ?_
 refine WC.rangeSeq rfl ?_
 refine WC.region ?_
 refine WL.rd rfl rfl rfl (Rd.move rfl rfl) ?_
 refine WL.nil ?_
 refine rangeQ.normal ?_
 refine RangeOk.mk rfl (hb) ?_
 intro l0 D0
 refine Fun.heap (R' := R) (O' := recC l0 _ _ D0 .ready none _ _ _ :: rowC b2 23 [nilS] :: accI nilS [] :: dfC D0 :: O) Z.F ?_
 refine it Value l0 _ (fun xs v X => rowC b2 23 [v] :: accI v xs :: X) nilS (dfC D0 :: O) _ (fun c hc => List.mem_cons_of_mem _ (hC c hc)) (fun xs v c X => (List.Perm.cons _ (List.Perm.swap _ _ _)).trans (List.Perm.swap _ _ _)) ?round ?after
 case round =>
  intro xs v X x hlen
  refine Yld.round Z.T rfl rfl rfl ?_
  refine WR.region ?_
  refine WL.rd rfl rfl rfl (Rd.assign rfl rfl) ?_
  refine WL.nil ?_
  refine assignQ.mk Z.T ?_
  refine WR.block ?_
  refine WR.region ?_
  refine WL.rd rfl rfl rfl (Rd.row1 (b := b2) (off := 0) (u := v) rfl C23 rfl Z.M rfl) ?_
  refine WL.rd rfl rfl rfl (Rd.move rfl rfl) ?_
  refine WL.op rfl ?_
  refine OpW.buildSl (ps := [(0, _)]) rfl S23 Z.E rfl rfl Z.C Z.K rfl rfl rfl ?_; intro b10
  refine WL.op rfl ?_
  refine OpW.appendRow (enc := SL.one vi) rfl S23 rfl rfl Z.T Z.T [x] rfl (by rfl) rfl (by intro x; rfl) (by intro x; rfl) (by exact ⟨by simp only [maxLen, List.length_append, List.length_nil, List.length_cons, List.length_drop, List.length_take, List.length_map]; omega, by omega⟩) rfl rfl ?_; intro v11 hv11
  refine WL.op rfl ?_
  refine OpW.store1 rfl Z23 rfl rfl (by assumption) Z.T (by (simp; done)) rfl ?_
  refine WL.nil ?_
  refine blockQ.normal ?_
  refine roundQ.on Z.T ?_
  exact ⟨rfl, v11, Z.F⟩
 case after =>
  intro xs v hS
  refine ⟨_, Z.T, ?_⟩
  refine WC.seq ?_
  refine WC.region ?_
  refine WL.rd rfl rfl rfl (Rd.row1 (b := b2) (off := 0) (u := v) rfl C23 rfl Z.M rfl) ?_
  refine WL.rd rfl rfl rfl (Rd.assign rfl rfl) ?_
  refine WL.nil ?_
  refine thenQ.normal ?_
  refine WC.heap (R' := R) (O' := dfC D0 :: accI v xs :: O) Z.F ?_
  refine WC.retO (FinO.mark Z.T) (onlyRet.mk (Ret.one Tryz.results132 rfl ?_))
  exact hk v xs hS
set_option maxRecDepth 20000 in
theorem collect_it {gf : Nat} {lb : List Value} {C : List Own} {S : List Int → Prop} {N : Nat} (it : ItOk gf lb R C S N) (hb : hasBody Tryz.prog gf = true) (hN : N ≤ 1000000) (hC : ∀ c ∈ C, c ∈ O) (hk : ∀ v xs, S xs → POST v R (accI v xs :: O)) :
 Fun Tryz.prog 113 #[.func (.func gf) #[] lb.toArray] R O POST := by
 refine Fun.enter (l := [_]) Tryz.func113 rfl Tryz.ntmps113 rfl (L0 := [(0, _)]) rfl ?_
 refine WC.seq ?_
 refine WC.region ?_
 refine WL.rd rfl rfl rfl (Rd.assign rfl rfl) ?_
 refine WL.nil ?_
 refine thenQ.normal ?_
 refine WC.seq ?_
 refine WC.region ?_
 refine WL.rd rfl rfl rfl (Rd.move rfl rfl) ?_
 refine WL.op rfl ?_
 refine OpW.call rfl rfl Z.E Z.K rfl rfl rfl ?_
 refine append_it it hb hN hC ?_; intro v4 xs hS
 refine WL.rd rfl rfl rfl (Rd.assign rfl rfl) ?_
 refine WL.nil ?_
 refine thenQ.normal ?_
 refine WC.ret (Ret.one Tryz.results113 rfl ?_)
 exact hk _ _ hS
def srt (xs : List Int) : List Int := xs.mergeSort fun x y => decide (x ≤ y)
theorem sort_spec {v : Value} {xs : List Int} (hne : xs ≠ []) (hl : xs.length ≤ 1000000) (hk : POST (.tuple #[]) R (accI v (srt xs) :: O)) : Fun Tryz.prog 114 #[v] R (accI v xs :: O) POST :=
 Fun.sortsI (fun blk off cap ss w h1 h2 h3 => Tryz.slices_Sort_int blk off cap ss w h1 h2 h3) hne Z.W hk
set_option maxRecDepth 20000 in
theorem sorted_it {gf : Nat} {lb : List Value} {C : List Own} {S : List Int → Prop} {N : Nat} (it : ItOk gf lb R C S N) (hb : hasBody Tryz.prog gf = true) (hN : N ≤ 1000000) (hSN : ∀ xs, S xs → xs ≠ [] ∧ xs.length ≤ 1000000) (hC : ∀ c ∈ C, c ∈ O) (hk : ∀ v xs, S xs → POST v R (accI v (srt xs) :: O)) :
 Fun Tryz.prog 94 #[.func (.func gf) #[] lb.toArray] R O POST := by
 refine Fun.enter (l := [_]) Tryz.func94 rfl Tryz.ntmps94 rfl (L0 := [(0, _)]) rfl ?_
 refine WC.seq ?_
 refine WC.region ?_
 refine WL.rd rfl rfl rfl (Rd.assign rfl rfl) ?_
 refine WL.nil ?_
 refine thenQ.normal ?_
 refine WC.seq ?_
 refine WC.region ?_
 refine WL.rd rfl rfl rfl (Rd.move rfl rfl) ?_
 refine WL.op rfl ?_
 refine OpW.call rfl rfl Z.E Z.K rfl rfl rfl ?_
 refine collect_it it hb hN hC ?_; intro v5 xs hS
 refine WL.rd rfl rfl rfl (Rd.assign rfl rfl) ?_
 refine WL.nil ?_
 refine thenQ.normal ?_
 refine WC.seq ?_
 refine WC.region ?_
 refine WL.rd rfl rfl rfl (Rd.move rfl rfl) ?_
 refine WL.op rfl ?_
 refine OpW.call rfl rfl Z.E Z.K rfl rfl rfl ?_
 refine sort_spec (xs := xs) (hSN _ hS).1 (hSN _ hS).2 ?_
 refine WL.nil ?_
 refine thenQ.normal ?_
 refine WC.seq ?_
 refine WC.region ?_
 refine WL.rd rfl rfl rfl (Rd.move rfl rfl) ?_
 refine WL.rd rfl rfl rfl (Rd.assign rfl rfl) ?_
 refine WL.nil ?_
 refine thenQ.normal ?_
 refine WC.ret (Ret.one Tryz.results94 rfl ?_)
 exact hk _ _ hS
end
end Go.Proofs.YtckokhdjeifomaaGreatDoor
namespace Go.Proofs
open Go.Shelf Go.RowKit Go.Lib
theorem badRuneYtckokhdjeifomaaGreatDoor (w : World) : PredAt Tryz.prog 90 #[] encR (fun r => decide (r < 33) || decide (126 < r)) w := fun W r _ => by
 unfold FnGives
 by_cases h1 : r < 33 <;> by_cases h2 : 126 < r
 all_goals
  have z1 : (r : Int) < 33 ↔ r < 33 := by omega
  have z2 : (126 : Int) < (r : Int) ↔ 126 < r := by omega
  go_enter Tryz.func90, Tryz.ntmps90
  go_wp2
  all_goals first | (exfalso; omega) | (go_ret; exact ⟨by simp [h1, h2], 0, rfl⟩)
end Go.Proofs
namespace Go.Proofs.YtckokhdjeifomaaGreatDoor
open Go Go.SL
theorem ascii_idx {p : Nat → Bool} {s : List UInt8} (h : ∀ c ∈ s, c.toNat < 128 ∧ p c.toNat = false) : ∀ (f pos : Nat), Go.Lib.idxFuncFrom p true ⟨s.toArray⟩ f pos = -1
 | 0, _ => rfl
 | f + 1, pos => by
   unfold Go.Lib.idxFuncFrom
   split
   · rename_i hp
     have hp' : pos < s.length := hp
     have hc := h s[pos] (List.getElem_mem hp')
     have hg : (⟨s.toArray⟩ : ByteArray).get! (pos + 0) = s[pos] := by
      show s.toArray[pos + 0]! = s[pos]
      rw [Nat.add_zero]; simp [hp']
     have hd : Utf8.decode ⟨s.toArray⟩ pos = (s[pos].toNat, 1) := by
      unfold Utf8.decode
      simp only [hg]
      rw [if_pos hc.1]
     rw [hd]
     simp only
     rw [hc.2, if_neg (by simp)]
     exact ascii_idx h f (pos + 1)
   · rfl
section
variable {R : List RO} {O : List Own} {POST : Value → List RO → List Own → Prop}
set_option maxRecDepth 20000 in
theorem good_spec {s : Tx} (hg : GoodN s) (hk : POST (.bool true) R O) : Fun Tryz.prog 60 #[vs s] R O POST := by
 obtain ⟨g1, g2, g3⟩ := hg
 refine Fun.enter (l := [_]) Tryz.func60 rfl Tryz.ntmps60 rfl (L0 := [(0, _)]) rfl ?_
 refine WC.seq ?_
 refine WC.region ?_
 refine WL.rd rfl rfl rfl (Rd.assign rfl rfl) ?_
 refine WL.nil ?_
 refine thenQ.normal ?_
 refine WC.seq ?_
 refine WC.region ?_
 refine WL.rd rfl rfl rfl (Rd.move rfl rfl) ?_
 refine WL.rd rfl rfl rfl (Rd.slen (ts := #[]) (ty := 0) rfl rfl Tryz.underlying9) ?_
 refine WL.rd rfl rfl rfl (Rd.gtr rfl rfl rfl) ?_
 refine WL.rd rfl rfl rfl (Rd.move rfl rfl) ?_
 refine WL.case 6 rfl (fun hg6 => ?_) (fun hg6 => ?_)
 ·
  refine WL.rd_yes rfl rfl rfl rfl rfl rfl (Rd.move rfl rfl) ?_
  refine WL.rd_yes rfl rfl rfl rfl rfl rfl (Rd.slen (ts := #[]) (ty := 0) rfl rfl Tryz.underlying9) ?_
  refine WL.rd_yes rfl rfl rfl rfl rfl rfl (Rd.leq rfl rfl rfl) ?_
  refine WL.rd rfl rfl rfl (Rd.pick_t rfl rfl rfl) ?_
  refine WL.rd rfl rfl rfl (Rd.move rfl rfl) ?_
  refine WL.case 11 rfl (fun hg11 => ?_) (fun hg11 => ?_)
  ·
   refine WL.rd_yes rfl rfl rfl rfl rfl rfl (Rd.move rfl rfl) ?_
   refine WL.op_yes rfl rfl rfl rfl ?_
   refine OpW.call rfl rfl Z.E Z.K rfl rfl rfl ?_
   refine Fun.below (v := .int .i64 (-1)) (fun w => by
    have := Tryz.strings_IndexFunc 90 #[] (Go.Proofs.enters_of Tryz.func90 Z.K rfl) _ ⟨s.toArray⟩ w (Go.Proofs.badRuneYtckokhdjeifomaaGreatDoor w)
    rw [show Go.Lib.idxFunc _ true ⟨s.toArray⟩ = -1 from ascii_idx (fun c hc => ⟨by have := (g3 c hc).2; omega, by have := g3 c hc; simp; omega⟩) _ _] at this
    exact this) ?_
   refine WL.rd_yes rfl rfl rfl rfl rfl rfl (Rd.lss rfl rfl rfl) ?_
   refine WL.rd rfl rfl rfl (Rd.pick_t rfl rfl rfl) ?_
   refine WL.rd rfl rfl rfl (Rd.assign rfl rfl) ?_
   refine WL.nil ?_
   refine thenQ.normal ?_
   refine WC.ret (Ret.one Tryz.results60 rfl ?_)
   exact hk
  ·
   omega
 ·
  omega
set_option maxRecDepth 20000 in
theorem two_spec {n : Nat} (hn : n < 65536) (hk : POST (vs (twoB n)) R O) : Fun Tryz.prog 44 #[.int .i64 (n : Int)] R O POST := by
 refine Fun.turn ?_
 refine Fun.enter (l := [_]) Tryz.func44 rfl Tryz.ntmps44 rfl (L0 := [(0, _)]) rfl ?_
 refine WC.seq ?_
 refine WC.region ?_
 refine WL.rd rfl rfl rfl (Rd.assign rfl rfl) ?_
 refine WL.nil ?_
 refine thenQ.normal ?_
 refine WC.seq ?_
 refine WC.region ?_
 refine WL.rd rfl rfl rfl (Rd.move rfl rfl) ?_
 refine WL.rd rfl rfl rfl (Rd.shrN (a := n) (n := 8) rfl rfl rfl Z.W rfl (by decide)) ?_
 refine WL.rd rfl rfl rfl (Rd.convw (kd' := .u8) rfl rfl Tryz.underlying5 (hS := Tryz.underlying3)) ?_
 refine WL.say 5 (u := vy (byteOf (n / 256))) rfl (by rw [byte_wrap]) ?_
 refine WL.rd rfl rfl rfl (Rd.move rfl rfl) ?_
 refine WL.rd rfl rfl rfl (Rd.convw (kd' := .u8) rfl rfl Tryz.underlying5 (hS := Tryz.underlying3)) ?_
 refine WL.say 7 (u := vy (byteOf n)) rfl (by rw [byte_wrap]) ?_
 refine WL.op rfl ?_
 refine OpW.buildSl (ps := [(0, _), (1, _)]) rfl S70 Z.E rfl rfl Z.C Z.K rfl rfl rfl ?_; intro b8
 refine WL.rd rfl rfl rfl (Rd.strOfR (bs := twoB n) rfl Tryz.underlying70 Tryz.underlying9 Tryz.underlying5 rfl Z.M rfl rfl Z.W) ?_
 refine WL.rd rfl rfl rfl (Rd.assign rfl rfl) ?_
 refine WL.nil ?_
 refine thenQ.normal ?_
 refine WC.ret (Ret.one Tryz.results44 rfl ?_)
 exact ⟨_, _, hk, Z.F⟩
set_option maxRecDepth 20000 in
theorem padded_spec {s : Tx} (hs : s.length ≤ 512) (hk : POST (vs (fullE s)) R O) : Fun Tryz.prog 43 #[vs s] R O POST := by
 refine Fun.enter (l := [_]) Tryz.func43 rfl Tryz.ntmps43 rfl (L0 := [(0, _)]) rfl ?_
 refine WC.seq ?_
 refine WC.region ?_
 refine WL.rd rfl rfl rfl (Rd.assign rfl rfl) ?_
 refine WL.nil ?_
 refine thenQ.normal ?_
 refine WC.seq ?_
 refine WC.region ?_
 refine WL.rd rfl rfl rfl (Rd.move rfl rfl) ?_
 refine WL.rd rfl rfl rfl (Rd.move rfl rfl) ?_
 refine WL.rd rfl rfl rfl (Rd.slen (ts := #[]) (ty := 0) rfl rfl Tryz.underlying9) ?_
 refine WL.rd rfl rfl rfl (Rd.sub rfl rfl rfl Z.W) ?_
 refine WL.op rfl ?_
 refine OpW.call rfl rfl Z.E Z.K rfl rfl rfl ?_
 refine Fun.below (v := vs (Lib.repeatL [0] (512 - s.length))) (fun w => by
  have := Tryz.strings_Repeat ⟨#[0]⟩ (512 - s.length) w Z.W (by show 1 * _ ≤ _; omega)
  rw [show ((512 - s.length : Nat) : Int) = 512 - (s.length : Int) from by omega] at this
  exact this) ?_
 rw [se_repeat_zero]
 refine WL.rd rfl rfl rfl (Rd.scat rfl rfl rfl (by rw [List.length_replicate]; omega)) ?_
 refine WL.rd rfl rfl rfl (Rd.assign rfl rfl) ?_
 refine WL.nil ?_
 refine thenQ.normal ?_
 refine WC.ret (Ret.one Tryz.results43 rfl ?_)
 exact hk
set_option maxRecDepth 20000 in
theorem head_spec {n files : Nat} (hn : n < 65536) (hf : files < 65536) (hk : POST (vs (headF n files)) R O) : Fun Tryz.prog 18 #[.int .i64 (n : Int), .int .i64 (files : Int)] R O POST := by
 refine Fun.enter (l := [_, _]) Tryz.func18 rfl Tryz.ntmps18 rfl (L0 := [(0, _), (1, _)]) rfl ?_
 refine WC.seq ?_
 refine WC.region ?_
 refine WL.rd rfl rfl rfl (Rd.assign rfl rfl) ?_
 refine WL.nil ?_
 refine thenQ.normal ?_
 refine WC.seq ?_
 refine WC.region ?_
 refine WL.rd rfl rfl rfl (Rd.move rfl rfl) ?_
 refine WL.op rfl ?_
 refine OpW.call rfl rfl Z.E Z.K rfl rfl rfl ?_
 refine two_spec hn ?_
 refine WL.rd rfl rfl rfl (Rd.scat rfl rfl rfl (by show 2 + 2 ≤ _; omega)) ?_
 refine WL.rd rfl rfl rfl (Rd.move rfl rfl) ?_
 refine WL.op rfl ?_
 refine OpW.call rfl rfl Z.E Z.K rfl rfl rfl ?_
 refine two_spec hf ?_
 refine WL.rd rfl rfl rfl (Rd.scat rfl rfl rfl (by show 4 + 2 ≤ _; omega)) ?_
 refine WL.op rfl ?_
 refine OpW.call rfl rfl Z.E Z.K rfl rfl rfl ?_
 refine padded_spec (s := [83, 70] ++ twoB n ++ twoB files) (by show 6 ≤ _; omega) ?_
 refine WL.rd rfl rfl rfl (Rd.assign rfl rfl) ?_
 refine WL.nil ?_
 refine thenQ.normal ?_
 refine WC.ret (Ret.one Tryz.results18 rfl ?_)
 exact hk
set_option maxRecDepth 20000 in
theorem dataAt_spec {files : Nat} (hf : files ≤ 5000) (hk : POST (.int .i64 ((7 + files : Nat) : Int)) R O) : Fun Tryz.prog 17 #[.int .i64 (files : Int)] R O POST := by
 refine Fun.enter (l := [_]) Tryz.func17 rfl Tryz.ntmps17 rfl (L0 := [(0, _)]) rfl ?_
 refine WC.seq ?_
 refine WC.region ?_
 refine WL.rd rfl rfl rfl (Rd.assign rfl rfl) ?_
 refine WL.nil ?_
 refine thenQ.normal ?_
 refine WC.seq ?_
 refine WC.region ?_
 refine WL.rd rfl rfl rfl (Rd.move rfl rfl) ?_
 refine WL.rd rfl rfl rfl (Rd.add rfl rfl rfl Z.W) ?_
 refine WL.rd rfl rfl rfl (Rd.add rfl rfl rfl Z.W) ?_
 refine WL.rd rfl rfl rfl (Rd.assign rfl rfl) ?_
 refine WL.nil ?_
 refine thenQ.normal ?_
 refine WC.ret (Ret.one Tryz.results17 rfl ?_)
 rw [show (2 : Int) + (files : Int) + 5 = ((7 + files : Nat) : Int) from by omega]
 exact hk
set_option maxRecDepth 20000 in
theorem needs_spec {n : Nat} (hn : n ≤ 10000000) (hk : POST (.int .i64 (needsE n : Nat)) R O) : Fun Tryz.prog 37 #[.int .i64 (n : Int)] R O POST := by
 refine Fun.enter (l := [_]) Tryz.func37 rfl Tryz.ntmps37 rfl (L0 := [(0, _)]) rfl ?_
 refine WC.seq ?_
 refine WC.region ?_
 refine WL.rd rfl rfl rfl (Rd.assign rfl rfl) ?_
 refine WL.nil ?_
 refine thenQ.normal ?_
 refine WC.seq ?_
 refine WC.region ?_
 refine WL.rd rfl rfl rfl (Rd.move rfl rfl) ?_
 refine WL.rd rfl rfl rfl (Rd.add rfl rfl rfl Z.W) ?_
 refine WL.rd rfl rfl rfl (Rd.sub rfl rfl rfl Z.W) ?_
 refine WL.rd rfl rfl rfl (Rd.quoI (a := n + 511) (b := 512) rfl rfl rfl Z.W rfl Z.W Z.W) ?_
 refine WL.rd rfl rfl rfl (Rd.assign rfl rfl) ?_
 refine WL.nil ?_
 refine thenQ.normal ?_
 refine WC.ret (Ret.one Tryz.results37 rfl ?_)
 exact hk
end
end Go.Proofs.YtckokhdjeifomaaGreatDoor
namespace Go.Proofs.YtckokhdjeifomaaGreatDoor
open Go Go.SL
abbrev inoV (e n : Nat) (xv : Value) : Value := .agg #[.int .i64 (e : Int), .int .i64 (n : Int), xv]
abbrev inoCs (e n : Nat) (xv : Value) : List Value := [.int .i64 (e : Int), .int .i64 (n : Int), xv]
theorem ext_next {xs : List Ext} {j : Nat} (h : j < xs.length) : (xs.take (j + 1)).flatMap extB = (xs.take j).flatMap extB ++ extB xs[j]! := by
 rw [List.take_add_one, get!_of_lt h, List.flatMap_append]; simp
def entH (name : Tx) (n k : Nat) : Tx := joinE [name] ++ putE n ++ putE k
theorem entH_len {files : Nat} {name : Tx} {i : Ino} (h : InoOk files name i) : (entH name i.n i.x.length).length ≤ 90 ∧ (joinE [name]).length ≤ 81 ∧ (putE i.n).length ≤ 3 := by
 obtain ⟨g1, g2, _⟩ := h.good
 have h1 := put_len (n := name.length) (k := 0) Z.W
 have h2 := put_len (n := i.n) (k := 2) (Nat.lt_of_le_of_lt h.n (by decide))
 have h3 := put_len (n := i.x.length) (k := 0) (by have := h.len; omega)
 unfold entH
 rw [join1 Z.W]
 simp only [List.length_append]
 omega
section
variable {R : List RO} {O : List Own} {POST : Value → List RO → List Own → Prop}
set_option maxRecDepth 20000 in
set_option maxHeartbeats 2000000 in
theorem entry_spec {files e : Nat} {name : Tx} {i : Ino} {xv : Value} (ht : tabR ∈ R) (hx : SlE encX xv i.x ∈ R) (hio : InoOk files name i) (hk : POST (vs (entryE name i)) R O) : Fun Tryz.prog 61 #[vs name, inoV e i.n xv] R O POST := by
 refine Fun.turn ?_
 refine Fun.oneV hx fun hxv => ?_
 obtain ⟨hl1, hl2, hl3⟩ := entH_len hio
 have hnl := hio.good.2.1
 have hn := hio.n
 have hlen := hio.len
 have hel := hio.ent
 have hel4 := hio.ent4
 have hexl : ∀ j, ((i.x.take j).flatMap extB).length ≤ 256 := fun j => by
  have := exts_len (xs := i.x.take j) (fun x hx => (hio.ext x (List.mem_of_mem_take hx)).2)
  rw [List.length_take] at this
  omega
 have hsum := sumE_lt (entB name i)
 refine Fun.enter (l := [_, _]) Tryz.func61 rfl Tryz.ntmps61 rfl (L0 := [(0, _), (1, _)]) rfl ?_
 refine WC.seq ?_
 refine WC.region ?_
 refine WL.op rfl ?_
 refine OpW.box rfl rfl Z.N rfl rfl ?_; intro b3
 refine WL.rd rfl rfl rfl (Rd.assign rfl rfl) ?_
 refine WL.nil ?_
 refine thenQ.normal ?_
 refine WC.seq ?_
 refine WC.region ?_
 refine WL.op rfl ?_
 refine OpW.alloc rfl I113 rfl Z.N rfl rfl ?_; intro b5
 refine WL.nil ?_
 refine thenQ.normal ?_
 refine WC.seq ?_
 refine WC.heap (fun w h => (h.accNil (α := UInt8) (e := 5) (size := 1) (enc := SL.one vy)).swap) ?_
 refine WC.drawn (rowC b3 79 (inoCs e i.n xv) :: O) 13 rfl mixed ?_
 refine WD.take 0 rfl Z.K Z.H rfl rfl rfl (Rd.move rfl rfl) ?_
 refine WD.take 3 rfl Z.K Z.H rfl rfl rfl ((by exact Rd.field rfl F79_1 rfl rfl)) ?_
 refine WD.take 4 rfl Z.K Z.H rfl rfl rfl ((by exact Rd.row1 rfl C3 rfl Z.M (by rfl))) ?_
 refine WD.take 7 rfl Z.K Z.H rfl rfl rfl ((by exact Rd.field rfl F79_2 rfl rfl)) ?_
 refine WD.take 8 rfl Z.K Z.H rfl rfl rfl ((by exact Rd.row1 rfl C77 rfl Z.M (by rfl))) ?_
 refine WD.take 9 rfl Z.K Z.H rfl rfl rfl (Rd.lenE (enc := encX) (xs := i.x) rfl rfl Tryz.underlying77 Z.M) ?_
 refine WD.one 1 rfl Z.K rfl ?_
 refine OpW.buildSl (ps := [(0, _)]) rfl S40 Z.E rfl rfl Z.C Z.K rfl rfl rfl ?_; intro b12
 refine ⟨Z.H, ?_⟩
 refine WD.heap (fun w h => h.shareRow (m := 1) (enc := SL.one vs) (xs := [name]) Z.T rfl rfl Z.W) ?_
 refine WD.one 2 rfl Z.K rfl ?_
 refine OpW.call rfl rfl Z.E Z.K rfl rfl rfl ?_
 refine join_spec (l := [name]) Z.M Z.W ?_
 refine ⟨Z.H, ?_⟩
 refine WD.one 5 rfl Z.K rfl ?_
 refine OpW.call rfl rfl Z.E Z.K rfl rfl rfl ?_
 refine put_spec (p := (i.n : Int)) ?_
 rw [putI_nat Z.W]
 refine ⟨Z.H, ?_⟩
 refine WD.take 6 rfl Z.K Z.H rfl rfl rfl (Rd.scat rfl rfl rfl Z.W) ?_
 refine WD.one 10 rfl Z.K rfl ?_
 refine OpW.call rfl rfl Z.E Z.K rfl rfl rfl ?_
 refine put_spec (p := (i.x.length : Int)) ?_
 rw [putI_nat Z.W]
 refine ⟨Z.H, ?_⟩
 refine WD.take 11 rfl Z.K Z.H rfl rfl rfl (Rd.scat rfl rfl rfl (by rw [List.length_append]; unfold entH at hl1; rw [List.length_append, List.length_append] at hl1; omega)) ?_
 refine WD.one 12 rfl Z.K rfl ?_
 refine OpW.call rfl rfl Z.E Z.K rfl rfl rfl ?_
 refine Fun.heap (R' := R) (O' := rowC b5 113 [.pointer none, .slice none 0 0] :: accC 5 1 (SL.one vy) (.slice none 0 0) [] :: rowC b3 79 (inoCs e i.n xv) :: O) Z.F ?_
 refine bws_spec (off := 0) (bs := []) (.inl rfl) rfl rfl Z.K (by show 0 + _ ≤ _; unfold entH at hl1; omega) ?_; intro v23 hv23
 refine ⟨Z.H, ?_⟩
 refine WD.done Z.K ?_
 refine thenQ.normal ?_
 refine WC.seq ?_
 refine WC.seq ?_
 refine WC.region ?_
 refine WL.rd rfl rfl rfl ((by exact Rd.field rfl F79_2 rfl rfl)) ?_
 refine WL.rd rfl rfl rfl ((by exact Rd.row1 rfl C77 rfl Z.M (by rfl))) ?_
 refine WL.rd rfl rfl rfl (Rd.lenE (enc := encX) (xs := i.x) rfl rfl Tryz.underlying77 Z.M) ?_
 refine WL.rd rfl rfl rfl (Rd.move rfl rfl) ?_
 refine WL.nil ?_
 refine thenQ.normal ?_
 refine WC.block ?_
 refine WC.pick [27, 5, 25, 26] Z.P ?_
 refine WC.loop2 1 (fun (j : Nat) (v : Value) => [(27, .int .i64 (j : Int))]) (fun (j : Nat) (v : Value) => rowC b5 113 [pself b5 0, v] :: accC 5 1 (SL.one vy) v (entH name i.n i.x.length ++ (i.x.take j).flatMap extB) :: rowC b3 79 (inoCs e i.n xv) :: O) (fun (j : Nat) (v : Value) => j ≤ i.x.length ∧ OneV v) (fun (j : Nat) (v : Value) => i.x.length - j) (0) (v23) Z.L ?hinv1 (by repeat (first | exact Sub.nil | refine Sub.cons rfl (by rfl) ?_)) (fun w h => by rw [List.take_zero, List.flatMap_nil, List.append_nil]; exact Z.Fw h) ?_
 case hinv1 =>
  exact ⟨Nat.zero_le _, hv23⟩
 intro j v
 rintro ⟨j1, j2⟩
 refine WC.seq ?_
 refine WC.region ?_
 refine WL.rd rfl rfl rfl (Rd.lss rfl rfl rfl) ?_
 refine WL.nil ?_
 refine thenQ.normal ?_
 refine WC.seq ?_
 refine WC.ite rfl (fun hc1 => ?_) (fun hc1 => ?_)
 ·
  have hnx := ext_next (xs := i.x) (j := j) Z.W
  have hok := hio.ext i.x[j]! (get!_mem Z.W)
  obtain ⟨⟨a, k⟩, hak⟩ : ∃ q, q = i.x[j]! := ⟨_, rfl⟩
  rw [← hak] at hnx hok
  have hok2 : a + k ≤ 4096 := hok.2
  have he1 := put_len (n := a) (k := 1) (Nat.lt_of_le_of_lt (by omega : a ≤ 4096) (by decide))
  have he2 := put_len (n := k) (k := 1) (Nat.lt_of_le_of_lt (by omega : k ≤ 4096) (by decide))
  have hj := hexl j
  refine WC.skip ?_
  refine thenQ.normal ?_
  refine WC.seq ?_
  refine WC.block ?_
  refine WC.seq ?_
  refine WC.region ?_
  refine WL.rd rfl rfl rfl (Rd.idx (enc := encX) (xs := i.x) (k := j) rfl S77 rfl rfl rfl Z.M Z.W) ?_
  refine WL.rd rfl rfl rfl (Rd.getS (enc := encX) (xs := i.x) (k := j) (a := (a, k)) (cs := [.int .i64 (a : Int), .int .i64 (k : Int)]) rfl G120 rfl Z.M (fun _ => rfl) (by rw [hak]; exact get!_of_lt Z.W) Z.N) ?_
  refine WL.op rfl ?_
  refine OpW.alloc rfl I120 rfl Z.N rfl rfl ?_; intro b7
  refine WL.op rfl ?_
  refine OpW.storeS rfl G120 rfl rfl Z.N Z.T rfl rfl Z.N rfl ?_
  refine WL.nil ?_
  refine thenQ.normal ?_
  refine WC.drawn (rowC b7 120 [.int .i64 (a : Int), .int .i64 (k : Int)] :: O) 8 rfl mixed ?_
  refine WD.take 0 rfl Z.K Z.H rfl rfl rfl ((by exact Rd.field rfl F120_0 rfl rfl)) ?_
  refine WD.take 1 rfl Z.K Z.H rfl rfl rfl ((by exact Rd.row1 rfl C3 rfl Z.M (by rfl))) ?_
  refine WD.take 3 rfl Z.K Z.H rfl rfl rfl ((by exact Rd.field rfl F120_1 rfl rfl)) ?_
  refine WD.take 4 rfl Z.K Z.H rfl rfl rfl ((by exact Rd.row1 rfl C3 rfl Z.M (by rfl))) ?_
  refine WD.one 2 rfl Z.K rfl ?_
  refine OpW.call rfl rfl Z.E Z.K rfl rfl rfl ?_
  refine put_spec (p := (a : Int)) ?_
  rw [putI_nat Z.W]
  refine ⟨Z.H, ?_⟩
  refine WD.one 5 rfl Z.K rfl ?_
  refine OpW.call rfl rfl Z.E Z.K rfl rfl rfl ?_
  refine put_spec (p := (k : Int)) ?_
  rw [putI_nat Z.W]
  refine ⟨Z.H, ?_⟩
  refine WD.take 6 rfl Z.K Z.H rfl rfl rfl (Rd.scat rfl rfl rfl Z.W) ?_
  refine WD.one 7 rfl Z.K rfl ?_
  refine OpW.call rfl rfl Z.E Z.K rfl rfl rfl ?_
  refine Fun.heap (R' := R) (O' := rowC b5 113 [pself b5 0, v] :: accC 5 1 (SL.one vy) v (entH name i.n i.x.length ++ (i.x.take j).flatMap extB) :: rowC b7 120 [.int .i64 (a : Int), .int .i64 (k : Int)] :: rowC b3 79 (inoCs e i.n xv) :: O) Z.F ?_
  refine bws_spec (off := 0) (.inr rfl) rfl rfl Z.K (by simp only [List.length_append]; omega) ?_; intro v38 hv38
  refine ⟨Z.H, ?_⟩
  refine WD.done Z.K ?_
  refine blockQ.normal ?_
  refine thenQ.normal ?_
  refine WC.region ?_
  refine WL.rd rfl rfl rfl (Rd.add rfl rfl rfl Z.W) ?_
  refine WL.rd rfl rfl rfl (Rd.move rfl rfl) ?_
  refine WL.nil ?_
  exact loopQ2.mk (j + 1) v38 ⟨by omega, hv38⟩ Z.W (by repeat (first | exact Sub.nil | refine Sub.cons rfl (by rfl) ?_)) (fun w h => by rw [hnx, ← List.append_assoc]; exact Z.Fw h)
 ·
  obtain rfl : j = i.x.length := by omega
  have hall : entH name i.n i.x.length ++ (i.x.take i.x.length).flatMap extB = entB name i := by rw [List.take_length]; rfl
  rw [hall]
  refine WC.exit ?_
  refine thenQ.exit ?_
  refine loopQ2.exit ?_
  refine blockQ.exit ?_
  refine thenQ.normal ?_
  refine WC.seq ?_
  refine WC.region ?_
  refine WL.op rfl ?_
  refine OpW.call rfl rfl Z.E Z.K rfl rfl rfl ?_
  refine bstr_spec (off := 0) rfl ?_
  refine WL.rd rfl rfl rfl (Rd.assign rfl rfl) ?_
  refine WL.nil ?_
  refine thenQ.normal ?_
  refine WC.seq ?_
  refine WC.region ?_
  refine WL.rd rfl rfl rfl (Rd.move rfl rfl) ?_
  refine WL.op rfl ?_
  refine OpW.call rfl rfl Z.E Z.K rfl rfl rfl ?_
  refine crcSum_spec ht Z.W ?_
  refine WL.rd rfl rfl rfl (Rd.assign rfl rfl) ?_
  refine WL.nil ?_
  refine thenQ.normal ?_
  refine WC.seq ?_
  refine WC.seq ?_
  refine WC.region ?_
  refine WL.rd rfl rfl rfl (Rd.move rfl rfl) ?_
  refine WL.say 8 (u := vs (entB name i ++ (le4 (sumE (entB name i))).take 0)) rfl (by rw [List.take_zero, List.append_nil]) ?_
  refine WL.nil ?_
  refine thenQ.normal ?_
  refine WC.block ?_
  refine WC.pick [8, 43, 9] Z.P ?_
  refine WC.loop1 2 (fun (m : Nat) => [(8, vs (entB name i ++ (le4 (sumE (entB name i))).take m)), (43, .int .i64 (m : Int))]) (fun (m : Nat) => O) (fun (m : Nat) => m ≤ 4) (fun (m : Nat) => 4 - m) (0) Z.L ?hinv2 (by repeat (first | exact Sub.nil | refine Sub.cons rfl (by rfl) ?_)) Z.F ?_
  case hinv2 =>
   exact Nat.zero_le _
  intro m
  rintro m1
  refine WC.seq ?_
  refine WC.region ?_
  refine WL.rd rfl rfl rfl (Rd.lss rfl rfl rfl) ?_
  refine WL.nil ?_
  refine thenQ.normal ?_
  refine WC.seq ?_
  refine WC.ite rfl (fun hc2 => ?_) (fun hc2 => ?_)
  ·
   have hls := le4_sn (sumE (entB name i)) m
   rw [if_pos Z.W] at hls
   have hlt : ((le4 (sumE (entB name i))).take m).length ≤ 4 := by rw [List.length_take]; simp [le4]; omega
   refine WC.skip ?_
   refine thenQ.normal ?_
   refine WC.seq ?_
   refine WC.block ?_
   refine WC.seq ?_
   refine WC.region ?_
   refine WL.rd rfl rfl rfl (Rd.move rfl rfl) ?_
   refine WL.rd rfl rfl rfl (Rd.assign rfl rfl) ?_
   refine WL.nil ?_
   refine thenQ.normal ?_
   refine WC.region ?_
   refine WL.rd rfl rfl rfl (Rd.move rfl rfl) ?_
   refine WL.rd rfl rfl rfl (Rd.move rfl rfl) ?_
   refine WL.rd rfl rfl rfl (Rd.move rfl rfl) ?_
   refine WL.rd rfl rfl rfl (Rd.mul rfl rfl rfl Z.W) ?_
   refine WL.rd rfl rfl rfl (Rd.shrN (a := sumE (entB name i)) (n := 8 * m) rfl rfl rfl rfl Z.W (by show 8 * m ≤ 32; omega)) ?_
   refine WL.rd rfl rfl rfl (Rd.convw (kd' := .u8) rfl rfl Tryz.underlying5 (hS := Tryz.underlying134)) ?_
   refine WL.say 51 (u := vy (UInt8.ofNat (sumE (entB name i) / 256 ^ m % 256))) rfl (by rw [wrap_byte, show (2 : Nat) ^ (8 * m) = 256 ^ m from by rw [Nat.pow_mul]]) ?_
   refine WL.op rfl ?_
   refine OpW.buildSl (ps := [(0, _)]) rfl S70 Z.E rfl rfl Z.C Z.K rfl rfl rfl ?_; intro b52
   refine WL.rd rfl rfl rfl (Rd.strOfR (bs := [UInt8.ofNat (sumE (entB name i) / 256 ^ m % 256)]) rfl Tryz.underlying70 Tryz.underlying9 Tryz.underlying5 rfl Z.M rfl rfl Z.W) ?_
   refine WL.rd rfl rfl rfl (Rd.scat rfl rfl rfl (by rw [List.length_append]; show _ + 1 ≤ _; omega)) ?_
   refine WL.rd rfl rfl rfl (Rd.assign rfl rfl) ?_
   refine WL.nil ?_
   refine blockQ.normal ?_
   refine thenQ.normal ?_
   refine WC.region ?_
   refine WL.rd rfl rfl rfl (Rd.add rfl rfl rfl Z.W) ?_
   refine WL.rd rfl rfl rfl (Rd.move rfl rfl) ?_
   refine WL.nil ?_
   exact loopQ1.mk (m + 1) Z.W Z.W (by refine Sub.cons rfl (by rw [hls, List.append_assoc]) ?_; exact (by repeat (first | exact Sub.nil | refine Sub.cons rfl (by rfl) ?_))) Z.F
  ·
   obtain rfl : m = 4 := by omega
   have e4 : (le4 (sumE (entB name i))).take 4 = le4 (sumE (entB name i)) := rfl
   rw [e4]
   refine WC.exit ?_
   refine thenQ.exit ?_
   refine loopQ1.exit ?_
   refine blockQ.exit ?_
   refine thenQ.normal ?_
   refine WC.seq ?_
   refine WC.region ?_
   refine WL.rd rfl rfl rfl (Rd.move rfl rfl) ?_
   refine WL.op rfl ?_
   refine OpW.call rfl rfl Z.E Z.K rfl rfl rfl ?_
   refine padded_spec Z.W ?_
   refine WL.rd rfl rfl rfl (Rd.assign rfl rfl) ?_
   refine WL.nil ?_
   refine thenQ.normal ?_
   refine WC.ret (Ret.one Tryz.results61 rfl ?_)
   exact ⟨_, _, hk, Z.F⟩
end
end Go.Proofs.YtckokhdjeifomaaGreatDoor
namespace Go.Proofs.YtckokhdjeifomaaGreatDoor
open Go Go.SL
section
variable {R : List RO} {O : List Own} {POST : Value → List RO → List Own → Prop}
set_option maxRecDepth 20000 in
theorem valuesX_spec {v : Value} (hv : OneV v) (hk : ∀ b, POST (.func (.func 120) #[] #[.pointer (some ⟨b, 0, none⟩)]) R (rowC b 77 [v] :: O)) : Fun Tryz.prog 107 #[v] R O POST := by
 refine Fun.enter (l := [_]) Tryz.func107 rfl Tryz.ntmps107 rfl (L0 := [(0, _)]) rfl ?_
 refine WC.seq ?_
 refine WC.region ?_
 refine WL.op rfl ?_
 refine OpW.box1 rfl rfl (by assumption) rfl rfl ?_; intro b1
 refine WL.rd rfl rfl rfl (Rd.assign rfl rfl) ?_
 refine WL.nil ?_
 refine thenQ.normal ?_
 refine WC.seq ?_
 refine WC.region ?_
 refine WL.rd rfl rfl rfl (Rd.func rfl Z.E Z.E ⟨_, rfl⟩) ?_
 refine WL.rd rfl rfl rfl (Rd.assign rfl rfl) ?_
 refine WL.nil ?_
 refine thenQ.normal ?_
 refine WC.ret (Ret.one Tryz.results107 rfl ?_)
 exact hk _
set_option maxRecDepth 20000 in
theorem valuesX_it {v : Value} {xs : List Ext} {b l : Nat} {c1 : Own} {I : Nat → List Own} (hx : SlE encX v xs ∈ R) (hl : xs.length ≤ 1000000) (hb : ∀ g, rowC b 77 [v] ∈ c1 :: I g)
 (hY : ∀ b4 j, j < xs.length → Yld Tryz.prog l [extV xs[j]!.1 xs[j]!.2] R (rowC b4 120 (encX xs[j]!) :: c1 :: I j) (fun t R' O' => t = true ∧ ∀ w, Sat R' O' w → Sat R (c1 :: I (j + 1)) w))
 (hE : POST (.tuple #[]) R (c1 :: I xs.length)) : Fun Tryz.prog 120 #[.func (.yield l) #[] #[], .pointer (some ⟨b, 0, none⟩)] R (c1 :: I 0) POST := by
 refine Fun.turn ?_
 refine Fun.enterR (l := [_, _]) Tryz.func120 rfl Tryz.ntmps120 rfl (L0 := [(0, _), (1, _)]) rfl ?_
 refine WR.seq ?_
 refine WR.region ?_
 refine WL.rd rfl rfl rfl (Rd.row1 (off := 0) (u := v) rfl C77 rfl (hb 0) rfl) ?_
 refine WL.rd rfl rfl rfl (Rd.lenE (enc := encX) (xs := xs) rfl rfl Tryz.underlying77 hx) ?_
 refine WL.rd rfl rfl rfl (Rd.move rfl rfl) ?_
 refine WL.nil ?_
 refine thenR.normal ?_
 refine WR.block ?_
 refine WR.pick [7, 0, 5, 6] Z.P ?_
 refine WR.loop1 1 (fun (j : Nat) => [(7, .int .i64 (j : Int))]) (fun (j : Nat) => c1 :: I j) (fun (j : Nat) => j ≤ xs.length) (fun (j : Nat) => xs.length - j) (0) Z.L ?hinv1 (by repeat (first | exact Sub.nil | refine Sub.cons rfl (by rfl) ?_)) (fun _ h => h) ?_
 case hinv1 =>
  exact Nat.zero_le _
 intro j
 rintro i1
 refine WR.seq ?_
 refine WR.region ?_
 refine WL.rd rfl rfl rfl (Rd.lss rfl rfl rfl) ?_
 refine WL.nil ?_
 refine thenR.normal ?_
 refine WR.seq ?_
 refine WR.ite rfl (fun hc1 => ?_) (fun hc1 => ?_)
 ·
  refine WR.skip ?_
  refine thenR.normal ?_
  refine WR.seq ?_
  refine WR.block ?_
  refine WR.seq ?_
  refine WR.region ?_
  refine WL.rd rfl rfl rfl (Rd.idx (enc := encX) (xs := xs) (k := j) rfl S77 rfl rfl rfl hx Z.W) ?_
  refine WL.rd rfl rfl rfl (Rd.getS (enc := encX) (xs := xs) (k := j) (a := xs[j]!) (cs := [.int .i64 (xs[j]!.1 : Int), .int .i64 (xs[j]!.2 : Int)]) rfl G120 rfl hx (fun _ => rfl) (get!_of_lt Z.W) Z.N) ?_
  refine WL.op rfl ?_
  refine OpW.alloc rfl I120 rfl Z.N rfl rfl ?_; intro b4
  refine WL.op rfl ?_
  refine OpW.storeS rfl G120 rfl rfl Z.N Z.T rfl rfl Z.N rfl ?_
  refine WL.nil ?_
  refine thenR.normal ?_
  refine WR.seq ?_
  refine WR.regionY ?_
  refine WY.rd rfl rfl rfl (Rd.move rfl rfl) ?_
  refine WY.rd rfl rfl rfl ((by exact Rd.rowS rfl G120 rfl Z.M Z.N rfl)) ?_
  refine WY.yield rfl rfl rfl Z.E rfl rfl ?_
  refine (hY b4 j Z.W).mono ?_; rintro b' R' O' ⟨rfl, hS⟩; refine WY.heap hS ?_
  refine WY.rd rfl rfl rfl ((by exact Rd.not rfl rfl)) ?_
  refine WY.nil ?_
  refine thenR.normal ?_
  refine WR.cond rfl (fun hc2 => ?_) (fun hc2 => ?_)
  ·
   cases hc2
  ·
   refine WR.skip ?_
   refine blockQ.normal ?_
   refine thenR.normal ?_
   refine WR.region ?_
   refine WL.rd rfl rfl rfl (Rd.add rfl rfl rfl Z.W) ?_
   refine WL.rd rfl rfl rfl (Rd.move rfl rfl) ?_
   refine WL.nil ?_
   exact loopQ1.mk (j + 1) Z.W Z.W (by repeat (first | exact Sub.nil | refine Sub.cons rfl (by rfl) ?_)) (fun _ h => h)
 ·
  obtain rfl : j = xs.length := by omega
  refine WR.exit ?_
  refine thenR.exit ?_
  refine loopQ1.exit ?_
  refine blockQ.exit ?_
  refine Ret.normal (Ret.zero Tryz.results120 ?_)
  exact ⟨_, _, hE, fun w h => h⟩
theorem sum_take {xs : List Ext} {j : Nat} (h : j < xs.length) : sumX (xs.take (j + 1)) = sumX (xs.take j) + xs[j]!.2 := by
 rw [List.take_add_one, get!_of_lt h, sumX_app]; rfl
theorem sum_take_le (xs : List Ext) (j : Nat) : sumX (xs.take j) ≤ sumX xs := by
 have := sumX_app (xs.take j) (xs.drop j)
 rw [List.take_append_drop] at this; omega
set_option maxRecDepth 20000 in
theorem count_spec {xs : List Ext} {v : Value} (hx : SlE encX v xs ∈ R) (hl : xs.length ≤ 1000000) (hs : sumX xs ≤ 1000000) (hk : POST (.int .i64 (sumX xs : Nat)) R O) : Fun Tryz.prog 83 #[v] R O POST := by
 refine Fun.turn ?_
 refine Fun.oneV hx fun hv => ?_
 refine Fun.enter (l := [_]) Tryz.func83 rfl Tryz.ntmps83 rfl (L0 := [(0, _)]) rfl ?_
 refine WC.seq ?_
 refine WC.region ?_
 refine WL.rd rfl rfl rfl (Rd.assign rfl rfl) ?_
 refine WL.nil ?_
 refine thenQ.normal ?_
 refine WC.seq ?_
 refine WC.region ?_
 refine WL.op rfl ?_
 refine OpW.alloc rfl I3 rfl Z.N rfl rfl ?_; intro b3
 refine WL.op rfl ?_
 refine OpW.store1 rfl Z3 rfl rfl (by exact ⟨rfl, rfl⟩) Z.T (by (simp; done)) rfl ?_
 refine WL.nil ?_
 refine thenQ.normal ?_
 refine WC.rangeSeq rfl ?_
 refine WC.region ?_
 refine WL.rd rfl rfl rfl (Rd.move rfl rfl) ?_
 refine WL.op rfl ?_
 refine OpW.call rfl rfl Z.E Z.K rfl rfl rfl ?_
 refine valuesX_spec hv ?_; intro b6
 refine WL.nil ?_
 refine rangeQ.normal ?_
 refine RangeOk.mk rfl Z.K ?_
 intro l0 D0
 refine Fun.heap (R' := R) (O' := recC l0 _ _ D0 .ready none _ _ _ :: rowC b3 3 [.int .i64 (sumX (xs.take 0) : Nat)] :: rowC b6 77 [v] :: dfC D0 :: O) Z.F ?_
 refine valuesX_it (I := fun j => rowC b3 3 [.int .i64 (sumX (xs.take j) : Nat)] :: rowC b6 77 [v] :: dfC D0 :: O) hx hl (fun g => Z.M) ?round ?after
 case round =>
  intro b4 j hj
  have hst := sum_take hj
  have hle := sum_take_le xs (j + 1)
  obtain ⟨⟨a, k⟩, hak⟩ : ∃ q, q = xs[j]! := ⟨_, rfl⟩
  rw [← hak] at hst ⊢
  have hst2 : sumX (xs.take (j + 1)) = sumX (xs.take j) + k := hst
  refine Yld.round Z.T rfl rfl rfl ?_
  refine WR.region ?_
  refine WL.op rfl ?_
  refine OpW.alloc rfl I120 rfl Z.N rfl rfl ?_; intro b4
  refine WL.op rfl ?_
  refine OpW.storeS rfl G120 rfl rfl Z.N Z.T rfl rfl Z.N rfl ?_
  refine WL.nil ?_
  refine assignQ.mk Z.T ?_
  refine WR.block ?_
  refine WR.region ?_
  refine WL.rd rfl rfl rfl ((by exact Rd.row1 rfl C3 rfl Z.M (by rfl))) ?_
  refine WL.rd rfl rfl rfl ((by exact Rd.field rfl F120_1 rfl rfl)) ?_
  refine WL.rd rfl rfl rfl ((by exact Rd.row1 rfl C3 rfl Z.M (by rfl))) ?_
  refine WL.rd rfl rfl rfl ((by exact Rd.max2 rfl rfl rfl)) ?_
  refine WL.say 11 (u := .int .i64 (k : Int)) rfl (by split <;> first | rfl | (congr 1; omega)) ?_
  refine WL.rd rfl rfl rfl (Rd.min2 rfl rfl rfl) ?_
  refine WL.say 12 (u := .int .i64 (k : Int)) rfl (by split <;> first | rfl | (congr 1; omega)) ?_
  refine WL.rd rfl rfl rfl (Rd.add rfl rfl rfl Z.W) ?_
  refine WL.rd rfl rfl rfl (Rd.min2 rfl rfl rfl) ?_
  refine WL.say 14 (u := .int .i64 (sumX (xs.take (j + 1)) : Nat)) rfl (by rw [hst2]; split <;> first | rfl | (congr 1; omega)) ?_
  refine WL.op rfl ?_
  refine OpW.store1 rfl Z3 rfl rfl (by exact ⟨rfl, rfl⟩) Z.T (by (simp; done)) rfl ?_
  refine WL.nil ?_
  refine blockQ.normal ?_
  refine roundQ.on Z.T ?_
  exact ⟨rfl, Z.F⟩
 case after =>
  rw [List.take_length]
  refine ⟨_, Z.T, ?_⟩
  refine WC.seq ?_
  refine WC.region ?_
  refine WL.rd rfl rfl rfl ((by exact Rd.row1 rfl C3 rfl Z.M (by rfl))) ?_
  refine WL.rd rfl rfl rfl (Rd.assign rfl rfl) ?_
  refine WL.nil ?_
  refine thenQ.normal ?_
  refine WC.retO (FinO.mark Z.T) (onlyRet.mk (Ret.one Tryz.results83 rfl ?_))
  exact ⟨_, _, hk, Z.F⟩
set_option maxRecDepth 20000 in
theorem number_spec {br be k : Nat} {r : Tx} (hn : k ≤ 1099511627776) (hr : r.length ≤ 100000) (hk : POST (.int .i64 (k : Int)) R (rowC br 9 [vs r] :: O)) : Fun Tryz.prog 81 #[.pointer (some ⟨br, 0, none⟩), .pointer (some ⟨be, 0, none⟩)] R (rowC br 9 [vs (putE k ++ r)] :: O) POST := by
 have hpl := putE_length k
 have hps := putE_short hn
 have hll : (putE k ++ r).length = more k + 1 + r.length := by rw [List.length_append]; omega
 refine Fun.enter (l := [_, _]) Tryz.func81 rfl Tryz.ntmps81 rfl (L0 := [(0, _), (1, _)]) rfl ?_
 refine WC.seq ?_
 refine WC.region ?_
 refine WL.rd rfl rfl rfl (Rd.assign rfl rfl) ?_
 refine WL.nil ?_
 refine thenQ.normal ?_
 refine WC.seq ?_
 refine WC.region ?_
 refine WL.rd rfl rfl rfl ((by exact Rd.row1 rfl C9 rfl Z.M (by rfl))) ?_
 refine WL.op rfl ?_
 refine OpW.call rfl rfl Z.E Z.K rfl rfl rfl ?_
 refine get_spec (s := putE k ++ r) (by rw [List.length_append]; omega) ?_
 rw [getE_put hn]
 dsimp only
 refine WL.rd rfl rfl rfl (Rd.move rfl rfl) ?_
 refine WL.rd rfl rfl rfl (Rd.extract rfl rfl rfl) ?_
 refine WL.rd rfl rfl rfl (Rd.extract rfl rfl rfl) ?_
 refine WL.rd rfl rfl rfl (Rd.extract rfl rfl rfl) ?_
 refine WL.rd rfl rfl rfl (Rd.assign rfl rfl) ?_
 refine WL.rd rfl rfl rfl (Rd.assign rfl rfl) ?_
 refine WL.rd rfl rfl rfl (Rd.assign rfl rfl) ?_
 refine WL.nil ?_
 refine thenQ.normal ?_
 refine WC.seq ?_
 refine WC.seq ?_
 refine WC.region ?_
 refine WL.rd rfl rfl rfl (Rd.move rfl rfl) ?_
 refine WL.rd rfl rfl rfl (Rd.neq rfl rfl rfl) ?_
 refine WL.nil ?_
 refine thenQ.normal ?_
 refine WC.ite rfl (fun hc1 => ?_) (fun hc1 => ?_)
 ·
  exact absurd rfl hc1
 ·
  refine WC.skip ?_
  refine thenQ.normal ?_
  refine WC.seq ?_
  refine WC.region ?_
  refine WL.rd rfl rfl rfl ((by exact Rd.row1 rfl C9 rfl Z.M (by rfl))) ?_
  refine WL.rd rfl rfl rfl (Rd.move rfl rfl) ?_
  refine WL.rd rfl rfl rfl (Rd.scut_l (lo := more k + 1) rfl Tryz.underlying9 rfl rfl Z.W Z.W) ?_
  refine WL.say 17 (u := vs r) rfl (by rw [← hpl, List.drop_left]) ?_
  refine WL.op rfl ?_
  refine OpW.store1 rfl Z9 rfl rfl (by exact ⟨rfl, rfl⟩) Z.T (by (simp; done)) rfl ?_
  refine WL.nil ?_
  refine thenQ.normal ?_
  refine WC.seq ?_
  refine WC.region ?_
  refine WL.rd rfl rfl rfl (Rd.move rfl rfl) ?_
  refine WL.rd rfl rfl rfl (Rd.assign rfl rfl) ?_
  refine WL.nil ?_
  refine thenQ.normal ?_
  refine WC.ret (Ret.one Tryz.results81 rfl ?_)
  exact hk
/-- What stands behind an entry. -/
def tailB (name : Tx) (i : Ino) : Tx := le4 (sumE (entB name i)) ++ List.replicate (512 - (entB name i ++ le4 (sumE (entB name i))).length) 0
theorem entry_parts {name : Tx} {i : Ino} (h : name.length ≤ 262144) : entryE name i = putE name.length ++ (name ++ (putE i.n ++ (putE i.x.length ++ (i.x.flatMap extB ++ tailB name i)))) := by
 unfold entryE fullE entB tailB
 rw [join1 h]
 unfold entB
 rw [join1 h]
 simp only [List.append_assoc]
theorem tailB_len {files : Nat} {name : Tx} {i : Ino} (h : InoOk files name i) : 4 ≤ (tailB name i).length ∧ (tailB name i).length ≤ 512 := by
 have h1 := h.ent
 have h4 := h.ent4
 unfold tailB
 rw [List.length_append, List.length_replicate]
 show 4 ≤ 4 + _ ∧ 4 + _ ≤ 512
 rw [List.length_append] at h4 ⊢
 show 4 ≤ 4 + (512 - (_ + 4)) ∧ 4 + (512 - (_ + 4)) ≤ 512
 omega
theorem ext_drop {xs : List Ext} {j : Nat} (h : j < xs.length) (t : Tx) : (xs.drop j).flatMap extB ++ t = putE xs[j]!.1 ++ (putE xs[j]!.2 ++ ((xs.drop (j + 1)).flatMap extB ++ t)) := by
 rw [List.drop_eq_getElem_cons h, List.flatMap_cons, ← getElem!_pos xs j h]
 unfold extB
 simp only [List.append_assoc]
set_option maxRecDepth 20000 in
set_option maxHeartbeats 4000000 in
theorem parse_spec {files : Nat} {name : Tx} {i : Ino} (ht : tabR ∈ R) (hio : InoOk files name i) (hk : ∀ v, OneV v → POST (.tuple #[vs name, inoV 0 i.n v, .bool true]) (SlE encX v i.x :: R) O) : Fun Tryz.prog 52 #[vs (entryE name i)] R O POST := by
 refine Fun.turn ?_
 have hnl := hio.good.2.1
 have hn := hio.n
 have hlen := hio.len
 have hlt := tailB_len hio
 have hel := hio.entry
 have hparts := entry_parts (name := name) (i := i) Z.W
 have hexl : ∀ j, ((i.x.drop j).flatMap extB).length ≤ 256 := fun j => by
  have := exts_len (xs := i.x.drop j) (fun x hx => (hio.ext x (List.mem_of_mem_drop hx)).2)
  rw [List.length_drop] at this
  omega
 have hex0 := hexl 0
 rw [List.drop_zero] at hex0
 have hp1 := put_len (n := i.n) (k := 2) (Nat.lt_of_le_of_lt hn (by decide))
 have hp2 := put_len (n := i.x.length) (k := 0) Z.W
 have hp0 := put_len (n := name.length) (k := 0) Z.W
 have hsum : sumX i.x ≤ 2048 := by rw [hio.sum]; unfold needsE; omega
 obtain ⟨T, hT⟩ : ∃ T, T = putE i.n ++ (putE i.x.length ++ (i.x.flatMap extB ++ tailB name i)) := ⟨_, rfl⟩
 rw [← hT] at hparts
 have hTl : T.length ≤ 900 := by rw [hT]; simp only [List.length_append]; omega
 refine Fun.enter (l := [_]) Tryz.func52 rfl Tryz.ntmps52 rfl (L0 := [(0, _)]) rfl ?_
 refine WC.seq ?_
 refine WC.region ?_
 refine WL.rd rfl rfl rfl (Rd.assign rfl rfl) ?_
 refine WL.op rfl ?_
 refine OpW.alloc rfl I79 rfl Z.N rfl rfl ?_; intro b3
 refine WL.rd rfl rfl rfl (Rd.assign rfl rfl) ?_
 refine WL.nil ?_
 refine thenQ.normal ?_
 refine WC.seq ?_
 refine WC.region ?_
 refine WL.rd rfl rfl rfl (Rd.move rfl rfl) ?_
 refine WL.op rfl ?_
 refine OpW.call rfl rfl Z.E Z.K rfl rfl rfl ?_
 refine next_spec (s := entryE name i) Z.W ?_
 rw [hparts, nextE_put Z.W, ← hparts]
 dsimp only
 refine WL.rd rfl rfl rfl (Rd.move rfl rfl) ?_
 refine WL.rd rfl rfl rfl (Rd.extract rfl rfl rfl) ?_
 refine WL.rd rfl rfl rfl (Rd.extract rfl rfl rfl) ?_
 refine WL.rd rfl rfl rfl (Rd.extract rfl rfl rfl) ?_
 refine WL.op rfl ?_
 refine OpW.alloc rfl I26 rfl Z.N rfl rfl ?_; intro b7
 refine WL.rd rfl rfl rfl (Rd.assign rfl rfl) ?_
 refine WL.rd rfl rfl rfl (Rd.assign rfl rfl) ?_
 refine WL.op rfl ?_
 refine OpW.store1 rfl Z26 rfl rfl (by exact ⟨rfl, rfl⟩) Z.T (by (simp; done)) rfl ?_
 refine WL.nil ?_
 refine thenQ.normal ?_
 refine WC.seq ?_
 refine WC.region ?_
 refine WL.rd rfl rfl rfl (Rd.move rfl rfl) ?_
 refine WL.rd rfl rfl rfl (Rd.move rfl rfl) ?_
 refine WL.rd rfl rfl rfl (Rd.scut_l (lo := (putE name.length).length + name.length) (s := entryE name i) rfl Tryz.underlying9 rfl rfl rfl (by rw [hparts]; simp only [List.length_append]; omega)) ?_
 refine WL.say 19 (u := vs T) rfl (by rw [hparts, ← List.append_assoc, List.drop_left' (by rw [List.length_append])]) ?_
 refine WL.op rfl ?_
 refine OpW.alloc rfl I9 rfl Z.N rfl rfl ?_; intro b8
 refine WL.op rfl ?_
 refine OpW.store1 rfl Z9 rfl rfl (by exact ⟨rfl, rfl⟩) Z.T (by (simp; done)) rfl ?_
 refine WL.nil ?_
 refine thenQ.normal ?_
 refine WC.seq ?_
 refine WC.region ?_
 refine WL.rd rfl rfl rfl (Rd.func rfl Z.E Z.E ⟨_, rfl⟩) ?_
 refine WL.rd rfl rfl rfl (Rd.assign rfl rfl) ?_
 refine WL.nil ?_
 refine thenQ.normal ?_
 refine WC.seq ?_
 refine WC.region ?_
 refine WL.rd rfl rfl rfl (Rd.move rfl rfl) ?_
 refine WL.op rfl ?_
 refine OpW.call rfl rfl Z.E Z.K rfl rfl rfl ?_
 refine Fun.heap (R' := R) (O' := rowC b8 9 [vs (putE i.n ++ (putE i.x.length ++ (i.x.flatMap extB ++ tailB name i)))] :: rowC b7 26 [.int .i64 0] :: rowC b3 79 (inoCs 0 0 (.slice none 0 0)) :: O) (by rw [← hT]; exact Z.F) ?_
 refine number_spec Z.W (by simp only [List.length_append]; omega) ?_
 refine WL.rd rfl rfl rfl (Rd.buildN (ps := [(1, _)]) rfl Bs79 I79 rfl Z.E Z.C (by apply NFo.mk; repeat (first | exact NF.nil | apply NF.cons))) ?_
 refine WL.op rfl ?_
 refine OpW.alloc rfl I79 rfl Z.N rfl rfl ?_; intro b10
 refine WL.op rfl ?_
 refine OpW.storeS rfl G79 rfl rfl Z.N Z.T rfl rfl Z.N rfl ?_
 refine WL.nil ?_
 refine thenQ.normal ?_
 refine WC.seq ?_
 refine WC.seq ?_
 refine WC.region ?_
 refine WL.rd rfl rfl rfl (Rd.move rfl rfl) ?_
 refine WL.op rfl ?_
 refine OpW.call rfl rfl Z.E Z.K rfl rfl rfl ?_
 refine Fun.heap (R' := R) (O' := rowC b8 9 [vs (putE i.x.length ++ (i.x.flatMap extB ++ tailB name i))] :: rowC b10 79 (inoCs 0 i.n (.slice none 0 0)) :: rowC b7 26 [.int .i64 0] :: rowC b3 79 (inoCs 0 0 (.slice none 0 0)) :: O) Z.F ?_
 refine number_spec Z.W (by simp only [List.length_append]; omega) ?_
 refine WL.rd rfl rfl rfl (Rd.min2 rfl rfl rfl) ?_
 refine WL.say 26 (u := .int .i64 (i.x.length : Int)) rfl (by split <;> first | rfl | (congr 1; omega)) ?_
 refine WL.rd rfl rfl rfl (Rd.move rfl rfl) ?_
 refine WL.nil ?_
 refine thenQ.normal ?_
 refine WC.block ?_
 refine WC.pick [27, 0, 3, 5, 7, 8, 9, 10, 26] Z.P ?_
 refine WC.loop2 1 (fun (j : Nat) (v : Value) => [(27, .int .i64 (j : Int))]) (fun (j : Nat) (v : Value) => rowC b8 9 [vs ((i.x.drop j).flatMap extB ++ tailB name i)] :: rowC b10 79 (inoCs 0 i.n v) :: accC 120 2 encX v (i.x.take j) :: rowC b7 26 [.int .i64 0] :: rowC b3 79 (inoCs 0 0 (.slice none 0 0)) :: O) (fun (j : Nat) (v : Value) => j ≤ i.x.length ∧ OneV v) (fun (j : Nat) (v : Value) => i.x.length - j) (0) (.slice none 0 0) Z.L ?hinv1 (by repeat (first | exact Sub.nil | refine Sub.cons rfl (by rfl) ?_)) (fun w h => by
 have h2 := h.accNil (α := Ext) (e := 120) (size := 2) (enc := encX)
 rw [List.drop_zero, List.take_zero]
 exact Z.Fw h2) ?_
 case hinv1 =>
  exact ⟨Nat.zero_le _, OneV.sl⟩
 intro j v
 rintro ⟨j1, j2⟩
 refine WC.seq ?_
 refine WC.region ?_
 refine WL.rd rfl rfl rfl (Rd.lss rfl rfl rfl) ?_
 refine WL.nil ?_
 refine thenQ.normal ?_
 refine WC.seq ?_
 refine WC.ite rfl (fun hc1 => ?_) (fun hc1 => ?_)
 ·
  have hdr := ext_drop (xs := i.x) (j := j) Z.W (tailB name i)
  have hok := hio.ext i.x[j]! (get!_mem Z.W)
  have hnx : i.x.take (j + 1) = i.x.take j ++ [i.x[j]!] := by rw [List.take_add_one, get!_of_lt Z.W]; rfl
  obtain ⟨⟨a, k⟩, hak⟩ : ∃ q, q = i.x[j]! := ⟨_, rfl⟩
  rw [← hak] at hdr hok hnx
  have hok2 : a + k ≤ 4096 := hok.2
  have hj1 := hexl (j + 1)
  have hpk := put_len (n := k) (k := 1) (Nat.lt_of_le_of_lt (by omega : k ≤ 4096) (by decide))
  rw [hdr]
  refine WC.skip ?_
  refine thenQ.normal ?_
  refine WC.seq ?_
  refine WC.block ?_
  refine WC.drawnU (rowC b7 26 [.int .i64 0] :: O) ([(10, rowC b10 79 (inoCs 0 i.n v))]) 11 rfl mixed ?_
  refine WE.take 0 [] rfl Z.K (by repeat (first | exact List.Sublist.refl _ | exact List.nil_sublist _ | apply List.Sublist.cons_cons | apply List.Sublist.cons)) (HeldL.mk2 [rowC b10 79 (inoCs 0 i.n v)] Z.K Z.S Z.O (by repeat (first | exact Mems.nil | refine Mems.cons Z.M ?_))) rfl rfl rfl ((by exact Rd.field rfl F79_2 rfl rfl)) ?_
  refine WE.take 1 [(10, rowC b10 79 (inoCs 0 i.n v))] rfl Z.K (by repeat (first | exact List.Sublist.refl _ | exact List.nil_sublist _ | apply List.Sublist.cons_cons | apply List.Sublist.cons)) (HeldL.mk2 [rowC b10 79 (inoCs 0 i.n v)] Z.K Z.S Z.O (by repeat (first | exact Mems.nil | refine Mems.cons Z.M ?_))) rfl rfl rfl ((by exact Rd.row1 rfl C77 rfl Z.M (by rfl))) ?_
  refine WE.take 2 [] rfl Z.K (by repeat (first | exact List.Sublist.refl _ | exact List.nil_sublist _ | apply List.Sublist.cons_cons | apply List.Sublist.cons)) (HeldL.mk2 [rowC b10 79 (inoCs 0 i.n v)] Z.K Z.S Z.O (by repeat (first | exact Mems.nil | refine Mems.cons Z.M ?_))) rfl rfl rfl (Rd.move rfl rfl) ?_
  refine WE.take 4 [] rfl Z.K (by repeat (first | exact List.Sublist.refl _ | exact List.nil_sublist _ | apply List.Sublist.cons_cons | apply List.Sublist.cons)) (HeldL.mk2 [rowC b10 79 (inoCs 0 i.n v)] Z.K Z.S Z.O (by repeat (first | exact Mems.nil | refine Mems.cons Z.M ?_))) rfl rfl rfl (Rd.move rfl rfl) ?_
  refine WE.one 3 rfl Z.K rfl ?_
  refine OpW.call rfl rfl Z.E Z.K rfl rfl rfl ?_
  refine number_spec Z.W (by simp only [List.length_append]; omega) ?_
  refine ⟨(HeldL.mk2 [rowC b10 79 (inoCs 0 i.n v)] Z.K Z.S Z.O (by repeat (first | exact Mems.nil | refine Mems.cons Z.M ?_))), ?_⟩
  refine WE.one 5 rfl Z.K rfl ?_
  refine OpW.call rfl rfl Z.E Z.K rfl rfl rfl ?_
  refine number_spec Z.W (by simp only [List.length_append]; omega) ?_
  refine ⟨(HeldL.mk2 [rowC b10 79 (inoCs 0 i.n v)] Z.K Z.S Z.O (by repeat (first | exact Mems.nil | refine Mems.cons Z.M ?_))), ?_⟩
  refine WE.take 6 [] rfl Z.K (by repeat (first | exact List.Sublist.refl _ | exact List.nil_sublist _ | apply List.Sublist.cons_cons | apply List.Sublist.cons)) (HeldL.mk2 [rowC b10 79 (inoCs 0 i.n v)] Z.K Z.S Z.O (by repeat (first | exact Mems.nil | refine Mems.cons Z.M ?_))) rfl rfl rfl (Rd.buildN (ps := [(0, _), (1, _)]) rfl Bs120 I120 rfl Z.E Z.C (by apply NFo.mk; repeat (first | exact NF.nil | apply NF.cons))) ?_
  refine WE.one 7 rfl Z.K rfl ?_
  refine OpW.buildSl (ps := [(0, _)]) rfl S77 Z.E rfl rfl Z.C Z.K rfl rfl rfl ?_; intro b36
  refine ⟨(HeldL.mk2 [rowC b10 79 (inoCs 0 i.n v)] Z.K Z.S Z.O (by repeat (first | exact Mems.nil | refine Mems.cons Z.M ?_))), ?_⟩
  refine WE.one 8 rfl Z.K rfl ?_
  refine OpW.appendRow (enc := encX) rfl S77 rfl rfl Z.T Z.T [(a, k)] rfl (by rfl) rfl (by intro x; rfl) (by intro x; rfl) (by exact ⟨by simp only [maxLen, List.length_append, List.length_nil, List.length_cons, List.length_drop, List.length_take, List.length_map]; omega, by (simp only [List.length_append, List.length_nil, List.length_cons, List.length_drop, List.length_take, List.length_map]; omega)⟩) rfl rfl ?_; intro v37 hv37
  refine ⟨(HeldL.mk2 [rowC b10 79 (inoCs 0 i.n v)] Z.K Z.S Z.O (by repeat (first | exact Mems.nil | refine Mems.cons Z.M ?_))), ?_⟩
  refine WE.take 9 [] rfl Z.K (by repeat (first | exact List.Sublist.refl _ | exact List.nil_sublist _ | apply List.Sublist.cons_cons | apply List.Sublist.cons)) (HeldL.mk2 [rowC b10 79 (inoCs 0 i.n v)] Z.K Z.S Z.O (by repeat (first | exact Mems.nil | refine Mems.cons Z.M ?_))) rfl rfl rfl ((by exact Rd.field rfl F79_2 rfl rfl)) ?_
  refine WE.one 10 rfl Z.K rfl ?_
  refine OpW.store1 rfl Z77 rfl rfl (by assumption) Z.T (by (simp; done)) rfl ?_
  refine ⟨(HeldL.mk2 [] Z.K Z.S Z.O (by repeat (first | exact Mems.nil | refine Mems.cons Z.M ?_))), ?_⟩
  refine WE.done Z.K ?_
  refine blockQ.normal ?_
  refine thenQ.normal ?_
  refine WC.region ?_
  refine WL.rd rfl rfl rfl (Rd.add rfl rfl rfl Z.W) ?_
  refine WL.rd rfl rfl rfl (Rd.move rfl rfl) ?_
  refine WL.nil ?_
  exact loopQ2.mk (j + 1) v37 ⟨by omega, hv37⟩ Z.W (by repeat (first | exact Sub.nil | refine Sub.cons rfl (by rfl) ?_)) (fun w h => by rw [hnx]; exact Z.Fw h)
 ·
  obtain rfl : j = i.x.length := by omega
  rw [List.drop_length, List.take_length, List.flatMap_nil, List.nil_append]
  refine WC.heap (fun w h => Sat.shareA (e := 120) (size := 2) (enc := encX) (xs := i.x) (v := v) Z.T h) ?_
  refine WC.exit ?_
  refine thenQ.exit ?_
  refine loopQ2.exit ?_
  refine blockQ.exit ?_
  refine thenQ.normal ?_
  refine WC.seq ?_
  refine WC.seq ?_
  refine WC.drawnA 27 rfl mixed ?_
  refine WD.take 0 rfl Z.K Held.all rfl rfl rfl ((by exact Rd.row1 rfl C26 rfl Z.M (by rfl))) ?_
  refine WD.take 1 rfl Z.K Held.all rfl rfl rfl (Rd.neq rfl rfl rfl) ?_
  refine WD.take 2 rfl Z.K Held.all rfl rfl rfl (Rd.move rfl rfl) ?_
  refine WD.case 42 rfl (fun hg42 => ?_) (fun hg42 => ?_)
  ·
   (exact absurd hg42 (by decide))
  ·
   refine WD.take_yes 3 rfl Z.K Held.all rfl rfl rfl rfl rfl rfl (Rd.move rfl rfl) ?_
   refine WD.one_yes 4 rfl Z.K rfl rfl rfl rfl ?_
   refine OpW.call rfl rfl Z.E Z.K rfl rfl rfl ?_
   refine good_spec hio.good ?_
   refine ⟨Z.H, ?_⟩
   refine WD.take_yes 5 rfl Z.K Z.H rfl rfl rfl rfl rfl rfl ((by exact Rd.not rfl rfl)) ?_
   refine WD.say 45 (u := .bool (decide False)) rfl rfl ?_
   refine WD.take 6 rfl Z.K Z.H rfl rfl rfl (Rd.pick_f rfl rfl rfl) ?_
   refine WD.take 7 rfl Z.K Z.H rfl rfl rfl (Rd.move rfl rfl) ?_
   refine WD.case 47 rfl (fun hg47 => ?_) (fun hg47 => ?_)
   ·
    exact hg47.elim
   ·
    refine WD.take_yes 8 rfl Z.K Z.H rfl rfl rfl rfl rfl rfl ((by exact Rd.field rfl F79_1 rfl rfl)) ?_
    refine WD.take_yes 9 rfl Z.K Z.H rfl rfl rfl rfl rfl rfl ((by exact Rd.row1 rfl C3 rfl Z.M (by rfl))) ?_
    refine WD.take_yes 10 rfl Z.K Z.H rfl rfl rfl rfl rfl rfl (Rd.gtr rfl rfl rfl) ?_
    refine WD.take 11 rfl Z.K Z.H rfl rfl rfl (Rd.pick_f rfl rfl rfl) ?_
    refine WD.take 12 rfl Z.K Z.H rfl rfl rfl (Rd.move rfl rfl) ?_
    refine WD.case 52 rfl (fun hg52 => ?_) (fun hg52 => ?_)
    ·
     omega
    ·
     refine WD.take_yes 13 rfl Z.K Z.H rfl rfl rfl rfl rfl rfl ((by exact Rd.field rfl F79_2 rfl rfl)) ?_
     refine WD.take_yes 14 rfl Z.K Z.H rfl rfl rfl rfl rfl rfl ((by exact Rd.row1 rfl C77 rfl Z.M (by rfl))) ?_
     refine WD.take_yes 15 rfl Z.K Z.H rfl rfl rfl rfl rfl rfl (Rd.lenE (enc := encX) (xs := i.x) rfl rfl Tryz.underlying77 Z.M) ?_
     refine WD.take_yes 16 rfl Z.K Z.H rfl rfl rfl rfl rfl rfl (Rd.gtr rfl rfl rfl) ?_
     refine WD.take 17 rfl Z.K Z.H rfl rfl rfl (Rd.pick_f rfl rfl rfl) ?_
     refine WD.take 18 rfl Z.K Z.H rfl rfl rfl (Rd.move rfl rfl) ?_
     refine WD.case 58 rfl (fun hg58 => ?_) (fun hg58 => ?_)
     ·
      omega
     ·
      refine WD.take_yes 19 rfl Z.K Z.H rfl rfl rfl rfl rfl rfl ((by exact Rd.field rfl F79_2 rfl rfl)) ?_
      refine WD.take_yes 20 rfl Z.K Z.H rfl rfl rfl rfl rfl rfl ((by exact Rd.row1 rfl C77 rfl Z.M (by rfl))) ?_
      refine WD.take_yes 22 rfl Z.K Z.H rfl rfl rfl rfl rfl rfl ((by exact Rd.field rfl F79_1 rfl rfl)) ?_
      refine WD.take_yes 23 rfl Z.K Z.H rfl rfl rfl rfl rfl rfl ((by exact Rd.row1 rfl C3 rfl Z.M (by rfl))) ?_
      refine WD.one_yes 21 rfl Z.K rfl rfl rfl rfl ?_
      refine OpW.call rfl rfl Z.E Z.K rfl rfl rfl ?_
      refine count_spec (xs := i.x) Z.M Z.W Z.W ?_
      refine ⟨Z.H, ?_⟩
      refine WD.one_yes 24 rfl Z.K rfl rfl rfl rfl ?_
      refine OpW.call rfl rfl Z.E Z.K rfl rfl rfl ?_
      refine needs_spec Z.W ?_
      refine ⟨Z.H, ?_⟩
      refine WD.take_yes 25 rfl Z.K Z.H rfl rfl rfl rfl rfl rfl (Rd.neq rfl rfl rfl) ?_
      refine WD.take 26 rfl Z.K Z.H rfl rfl rfl (Rd.pick_f rfl rfl rfl) ?_
      refine WD.done Z.K ?_
      refine thenQ.normal ?_
      refine WC.ite rfl (fun hc2 => ?_) (fun hc2 => ?_)
      ·
       ((have := hio.sum; omega))
      ·
       refine WC.skip ?_
       refine thenQ.normal ?_
       refine WC.seq ?_
       refine WC.drawn (rowC b10 79 (inoCs 0 i.n v) :: rowC b8 9 [vs (tailB name i)] :: O) 15 rfl mixed ?_
       refine WD.take 0 rfl Z.K Z.H rfl rfl rfl (Rd.move rfl rfl) ?_
       refine WD.take 1 rfl Z.K Z.H rfl rfl rfl ((by exact Rd.rowS rfl G79 rfl Z.M Z.N rfl)) ?_
       refine WD.take 2 rfl Z.K Z.H rfl rfl rfl ((by exact Rd.row1 rfl C9 rfl Z.M (by rfl))) ?_
       refine WD.take 3 rfl Z.K Z.H rfl rfl rfl (Rd.slen (ts := #[]) (ty := 0) rfl rfl Tryz.underlying9) ?_
       refine WD.take 4 rfl Z.K Z.H rfl rfl rfl (Rd.geq rfl rfl rfl) ?_
       refine WD.take 5 rfl Z.K Z.H rfl rfl rfl (Rd.move rfl rfl) ?_
       refine WD.case 73 rfl (fun hg73 => ?_) (fun hg73 => ?_)
       ·
        refine WD.take_yes 6 rfl Z.K Z.H rfl rfl rfl rfl rfl rfl (Rd.move rfl rfl) ?_
        refine WD.take_yes 7 rfl Z.K Z.H rfl rfl rfl rfl rfl rfl (Rd.move rfl rfl) ?_
        refine WD.take_yes 8 rfl Z.K Z.H rfl rfl rfl rfl rfl rfl ((by exact Rd.rowS rfl G79 rfl Z.M Z.N rfl)) ?_
        refine WD.one_yes 9 rfl Z.K rfl rfl rfl rfl ?_
        refine OpW.call rfl rfl Z.E Z.K rfl rfl rfl ?_
        refine entry_spec (files := files) (e := 0) Z.M Z.M hio ?_
        refine ⟨Z.H, ?_⟩
        refine WD.take_yes 10 rfl Z.K Z.H rfl rfl rfl rfl rfl rfl (Rd.seql rfl rfl rfl) ?_
        refine WD.say 78 (u := .bool true) rfl (by simp) ?_
        refine WD.take 11 rfl Z.K Z.H rfl rfl rfl (Rd.pick_t rfl rfl rfl) ?_
        refine WD.take 12 rfl Z.K Z.H rfl rfl rfl (Rd.assign rfl rfl) ?_
        refine WD.one 13 rfl Z.K rfl ?_
        refine OpW.storeS (h1 := by simp only [List.all_cons, List.all_nil, j2.one]; rfl) rfl G79 rfl rfl Z.N Z.T rfl rfl Z.N rfl ?_
        refine ⟨Z.H, ?_⟩
        refine WD.take 14 rfl Z.K Z.H rfl rfl rfl (Rd.assign rfl rfl) ?_
        refine WD.done Z.K ?_
        refine thenQ.normal ?_
        refine WC.ret (Ret.tmpCellTmp Tryz.results52 rfl rfl rfl Z.M G79 rfl ?_)
        exact ⟨_, _, hk v j2, Z.F⟩
       ·
        omega
end
end Go.Proofs.YtckokhdjeifomaaGreatDoor
namespace Go.Proofs.YtckokhdjeifomaaGreatDoor
open Go Go.SL
def updS (F : FS) (name : Tx) (x : Option Ino) : FS := fun b => if b = name then x else F b
theorem updS_self (F : FS) (name : Tx) (x : Option Ino) : updS F name x name = x := if_pos rfl
theorem updS_ne {F : FS} {name b : Tx} {x : Option Ino} (h : b ≠ name) : updS F name x b = F b := if_neg h
/-- A file is put. -/
theorem FOk.upd {un files : Nat} {F : FS} {sp sp' : Nat → Bool} {name : Tx} {x : Ino} (h : FOk un files F sp) (hx : InoOk files name x) (he : ∀ b y, F b = some y → y.e = x.e → b = name) (ht : TurnOk un false sp' x.x)
 (hi : ∀ i, sp' i = true ↔ InX x.x i ∨ ∃ b y, b ≠ name ∧ F b = some y ∧ InX y.x i) (hd : ∀ b y i, b ≠ name → F b = some y → InX y.x i → ¬ InX x.x i) : FOk un files (updS F name (some x)) sp' where
 ok b y hy := by
  by_cases e : b = name
  · subst e; rw [updS_self] at hy; cases hy; exact hx
  · rw [updS_ne e] at hy; exact h.ok b y hy
 inj a b y z hy hz hyz := by
  by_cases e : a = name
  · subst e
    rw [updS_self] at hy; cases hy
    by_cases e2 : b = a
    · exact e2.symm
    · rw [updS_ne e2] at hz; exact (he b z hz hyz.symm).symm
  · rw [updS_ne e] at hy
    by_cases e2 : b = name
    · subst e2; rw [updS_self] at hz; cases hz; exact he a y hy hyz
    · rw [updS_ne e2] at hz; exact h.inj a b y z hy hz hyz
 tk b y hy := by
  by_cases e : b = name
  · subst e; rw [updS_self] at hy; cases hy; exact ht
  · rw [updS_ne e] at hy
    exact (h.tk b y hy).congr fun i hin => (hi i).2 (.inr ⟨b, y, e, hy, hin⟩)
 dis a b y z i hy hz h1 h2 := by
  by_cases e : a = name
  · subst e
    rw [updS_self] at hy; cases hy
    by_cases e2 : b = a
    · exact e2.symm
    · rw [updS_ne e2] at hz; exact absurd h1 (hd b z i e2 hz h2)
  · rw [updS_ne e] at hy
    by_cases e2 : b = name
    · subst e2; rw [updS_self] at hz; cases hz; exact absurd h2 (hd a y i e hy h1)
    · rw [updS_ne e2] at hz; exact h.dis a b y z i hy hz h1 h2
 all i hs := by
  rcases (hi i).1 hs with hin | ⟨b, y, hb, hy, hin⟩
  · exact ⟨name, x, updS_self _ _ _, hin⟩
  · exact ⟨b, y, by rw [updS_ne hb]; exact hy, hin⟩
/-- A file goes. -/
theorem FOk.del {un files : Nat} {F : FS} {sp sp' : Nat → Bool} {name : Tx} (h : FOk un files F sp) (hi : ∀ i, sp' i = true ↔ ∃ b y, b ≠ name ∧ F b = some y ∧ InX y.x i) : FOk un files (updS F name none) sp' where
 ok b y hy := by
  by_cases e : b = name
  · subst e; rw [updS_self] at hy; cases hy
  · rw [updS_ne e] at hy; exact h.ok b y hy
 inj a b y z hy hz hyz := by
  by_cases e : a = name
  · subst e; rw [updS_self] at hy; cases hy
  · rw [updS_ne e] at hy
    by_cases e2 : b = name
    · subst e2; rw [updS_self] at hz; cases hz
    · rw [updS_ne e2] at hz; exact h.inj a b y z hy hz hyz
 tk b y hy := by
  by_cases e : b = name
  · subst e; rw [updS_self] at hy; cases hy
  · rw [updS_ne e] at hy
    exact (h.tk b y hy).congr fun i hin => (hi i).2 ⟨b, y, e, hy, hin⟩
 dis a b y z i hy hz h1 h2 := by
  by_cases e : a = name
  · subst e; rw [updS_self] at hy; cases hy
  · rw [updS_ne e] at hy
    by_cases e2 : b = name
    · subst e2; rw [updS_self] at hz; cases hz
    · rw [updS_ne e2] at hz; exact h.dis a b y z i hy hz h1 h2
 all i hs := by
  obtain ⟨b, y, hb, hy, hin⟩ := (hi i).1 hs
  exact ⟨b, y, by rw [updS_ne hb]; exact hy, hin⟩
/-- What is taken when a file's units are given back. -/
theorem FOk.give_iff {un files : Nat} {F : FS} {sp : Nat → Bool} {name : Tx} {x : Ino} (h : FOk un files F sp) (hx : F name = some x) (i : Nat) : turnF false sp x.x i = true ↔ ∃ b y, b ≠ name ∧ F b = some y ∧ InX y.x i := by
 rw [turnF_at]
 constructor
 · intro hi
   split at hi
   · cases hi
   · rename_i hn
     obtain ⟨b, y, hy, hin⟩ := h.all i hi
     refine ⟨b, y, ?_, hy, hin⟩
     rintro rfl
     rw [hx] at hy; cases hy
     exact hn (inX_iff.2 hin)
 · rintro ⟨b, y, hb, hy, hin⟩
   have hn : inX x.x i = false := inX_false.2 fun hc => hb (h.dis b name y x i hy hx hin hc)
   rw [hn, if_neg (by simp)]
   exact (h.on hy hin).1
def freeO (sp : Nat → Bool) : Option Ino → (Nat → Bool)
 | none => sp
 | some x => turnF false sp x.x
theorem FOk.give {un files : Nat} {F : FS} {sp : Nat → Bool} {name : Tx} (h : FOk un files F sp) : FOk un files (updS F name none) (freeO sp (F name)) := by
 cases e : F name with
 | some x => exact h.del (h.give_iff e)
 | none =>
   refine h.del fun i => ⟨fun hi => ?_, fun ⟨b, y, _, hy, hin⟩ => (h.on hy hin).1⟩
   obtain ⟨b, y, hy, hin⟩ := h.all i hi
   exact ⟨b, y, (by rintro rfl; rw [e] at hy; cases hy), hy, hin⟩
/-- A file is renamed. -/
theorem FOk.move {un files : Nat} {F : FS} {sp : Nat → Bool} {name tn : Tx} {x : Ino} (h : FOk un files F sp) (hx : F name = some x) (htn : F tn = none) (hg : GoodN tn) : FOk un files (updS (updS F name none) tn (some x)) sp := by
 have hk := h.ok name x hx
 have hne : tn ≠ name := by rintro rfl; rw [htn] at hx; cases hx
 refine (h.give (name := name)).upd ⟨hg, hk.e, hk.n, hk.len, hk.sum, hk.ext⟩ (fun b y hy he => ?_) (h.tk name x hx) (fun i => ⟨fun hi => ?_, fun hi => ?_⟩) (fun b y i hb hy h1 h2 => ?_)
 · by_cases e : b = name
   · subst e; rw [updS_self] at hy; cases hy
   · rw [updS_ne e] at hy; exact absurd (h.inj b name y x hy hx he) e
 · obtain ⟨b, y, hy, hin⟩ := h.all i hi
   by_cases e : b = name
   · subst e; rw [hx] at hy; cases hy; exact .inl hin
   · exact .inr ⟨b, y, (by rintro rfl; rw [htn] at hy; cases hy), (by rw [updS_ne e]; exact hy), hin⟩
 · rcases hi with hi | ⟨b, y, hb, hy, hin⟩
   · exact (h.on hx hi).1
   · by_cases e : b = name
     · subst e; rw [updS_self] at hy; cases hy
     · rw [updS_ne e] at hy; exact (h.on hy hin).1
 · by_cases e : b = name
   · subst e; rw [updS_self] at hy; cases hy
   · rw [updS_ne e] at hy; exact e (h.dis b name y x i hy hx h1 h2)
def entC (c : Nat × Tx) : Chg := ((2 + c.1 : Nat), c.2)
def setlC (bs : Tx) (ch : List (Nat × Tx)) : List Chg := (1, bs) :: ch.map entC
theorem setC_at {L : List Tx} {c : Chg} {i : Nat} (h : c.1.toNat ≠ i) : (setC L c)[i]? = L[i]? := by unfold setC; rw [List.getElem?_set_ne h]
theorem setC_self {L : List Tx} {c : Chg} {i : Nat} (h : c.1.toNat = i) (hi : i < L.length) : (setC L c)[i]? = some (fullE c.2) := by
 unfold setC; rw [← h, List.getElem?_set_self Z.W]
theorem setC_len (L : List Tx) (c : Chg) : (setC L c).length = L.length := by unfold setC; rw [List.length_set]
theorem ents_at : ∀ (ch : List (Nat × Tx)) (L : List Tx), (ch.map (·.1)).Nodup → (∀ c ∈ ch, 2 + c.1 < L.length) → ∀ c ∈ ch, (applyA (ch.map entC) L)[2 + c.1]? = some (fullE c.2)
 | d :: r, L, hn, hl, c, hc => by
   show (applyA (r.map entC) (setC L (entC d)))[2 + c.1]? = _
   rw [List.map_cons, List.nodup_cons] at hn
   rcases List.mem_cons.1 hc with rfl | hc
   · rw [apply_off]
     · exact setC_self (c := entC c) (by show ((2 + c.1 : Nat) : Int).toNat = _; omega) (hl c List.mem_cons_self)
     · intro y hy
       obtain ⟨z, hz, rfl⟩ := List.mem_map.1 hy
       show ((2 + z.1 : Nat) : Int).toNat ≠ _
       intro e
       exact hn.1 (by rw [show c.1 = z.1 from by omega]; exact List.mem_map_of_mem hz)
   · exact ents_at r _ hn.2 (fun y hy => by rw [setC_len]; exact hl y (List.mem_cons_of_mem _ hy)) c hc
theorem ents_off {ch : List (Nat × Tx)} {bs : Tx} {i : Nat} (h0 : i ≠ 1) (h : ∀ c ∈ ch, 2 + c.1 ≠ i) : OffC (setlC bs ch) i := by
 intro c hc
 rcases List.mem_cons.1 hc with rfl | hc
 · show (1 : Int).toNat ≠ i; omega
 · obtain ⟨z, hz, rfl⟩ := List.mem_map.1 hc
   show ((2 + z.1 : Nat) : Int).toNat ≠ i
   have := h z hz; omega
/-- The entries and the bitmap are written; what lies in other sectors ahead of the log stays. -/
theorem FInv.settle {n files : Nat} {F F' : FS} {sp sp' : Nat → Bool} {L : List Tx} {ch : List (Nat × Tx)} (h : FInv n files F sp L) (hn : 7 + files < n) (hf : FOk (n - (7 + files)) files F' sp') (hun : n ≤ 4096) (hch : (ch.map (·.1)).Nodup) (hci : ∀ c ∈ ch, c.1 < files ∧ c.2.length ≤ 512)
 (hin : ∀ c ∈ ch, EntIs F' c.1 (some (fullE c.2))) (hout : ∀ i, i < files → (∀ c ∈ ch, c.1 ≠ i) → ∀ l, EntIs F i l → EntIs F' i l) :
 FInv n files F' sp' (applyA (setlC (spB (n - (7 + files)) sp') ch) L) := by
 have hlen := h.len
 have hbl : (spB (n - (7 + files)) sp').length ≤ 512 := by rw [spB_len]; omega
 have e0 : ∀ c ∈ ch, (applyA (setlC (spB (n - (7 + files)) sp') ch) L)[2 + c.1]? = some (fullE c.2) := fun c hc => ents_at ch _ hch (fun c hc => by rw [setC_len]; have := (hci c hc).1; omega) c hc
 have e1 : (applyA (setlC (spB (n - (7 + files)) sp') ch) L)[1]? = some (fullE (spB (n - (7 + files)) sp')) := by
  show (applyA (ch.map entC) (setC L (1, spB (n - (7 + files)) sp')))[1]? = _
  rw [apply_off]
  · exact setC_self (by rfl) Z.W
  · intro y hy
    obtain ⟨z, hz, rfl⟩ := List.mem_map.1 hy
    show ((2 + z.1 : Nat) : Int).toNat ≠ _
    omega
 refine ⟨hf, by rw [apply_len]; exact hlen, ?_, by rw [apply_off _ _ 0 (ents_off Z.W (fun c _ => by omega))]; exact h.head, e1, fun i hi => ?_⟩
 · have key : ∀ (x : List Chg) (M : List Tx), (∀ l ∈ M, l.length = 512) → (∀ c ∈ x, c.2.length ≤ 512) → ∀ l ∈ applyA x M, l.length = 512 := by
    intro x
    induction x with
    | nil => intro M hM _; exact hM
    | cons c r ih =>
      intro M hM hx
      refine ih _ (fun l hl => ?_) (fun d hd => hx d (List.mem_cons_of_mem _ hd))
      rcases List.mem_or_eq_of_mem_set hl with h1 | h1
      · exact hM l h1
      · rw [h1]; exact full_len (hx c List.mem_cons_self)
   refine key _ _ h.w fun c hc => ?_
   rcases List.mem_cons.1 hc with rfl | hc
   · exact hbl
   · obtain ⟨z, hz, rfl⟩ := List.mem_map.1 hc; exact (hci z hz).2
 · by_cases hc : ∃ c ∈ ch, c.1 = i
   · obtain ⟨c, hc, rfl⟩ := hc
     rw [e0 c hc]; exact hin c hc
   · have hc' : ∀ c ∈ ch, c.1 ≠ i := fun c h1 h2 => hc ⟨c, h1, h2⟩
     rw [apply_off _ _ (2 + i) (ents_off Z.W (fun c h1 => by have := hc' c h1; omega))]
     exact hout i hi hc' _ (h.ent i hi)
theorem apply_w {x : List Chg} : ∀ {M : List Tx}, (∀ l ∈ M, l.length = 512) → (∀ c ∈ x, c.2.length ≤ 512) → ∀ l ∈ applyA x M, l.length = 512 := by
 induction x with
 | nil => intro M hM _; exact hM
 | cons c r ih =>
   intro M hM hx
   refine ih (fun l hl => ?_) (fun d hd => hx d (List.mem_cons_of_mem _ hd))
   rcases List.mem_or_eq_of_mem_set hl with h1 | h1
   · exact hM l h1
   · rw [h1]; exact full_len (hx c List.mem_cons_self)
end Go.Proofs.YtckokhdjeifomaaGreatDoor
namespace Go.Proofs.YtckokhdjeifomaaGreatDoor
open Go Go.SL
/-- The writes of data into sectors. -/
def chunksE : List Nat → Tx → List Chg
 | [], _ => []
 | i :: r, d => ((i : Int), d.take 512) :: chunksE r (d.drop 512)
def secE (da : Nat) (xs : List Ext) : List Nat := (unitsE xs).map (da + ·)
theorem chunks_len : ∀ (l : List Nat) (d : Tx), (chunksE l d).length = l.length
 | [], _ => rfl
 | _ :: r, d => by rw [chunksE, List.length_cons, chunks_len r, List.length_cons]
theorem chunks_mem : ∀ {l : List Nat} {d : Tx} {c : Chg}, c ∈ chunksE l d → (∃ i ∈ l, c.1 = (i : Int)) ∧ c.2.length ≤ 512
 | i :: r, d, c, h => by
   rcases List.mem_cons.1 h with rfl | h
   · exact ⟨⟨i, List.mem_cons_self, rfl⟩, by show (d.take 512).length ≤ _; rw [List.length_take]; omega⟩
   · obtain ⟨⟨j, hj, e⟩, h2⟩ := chunks_mem h
     exact ⟨⟨j, List.mem_cons_of_mem _ hj, e⟩, h2⟩
theorem chunks_ok {l : List Nat} {d : Tx} {n : Nat} (h : ∀ i ∈ l, i < n) : OkC n (chunksE l d) := fun c hc => by
 obtain ⟨⟨i, hi, e⟩, h2⟩ := chunks_mem hc
 have := h i hi
 exact ⟨by omega, by omega, h2⟩
theorem chunks_off {l : List Nat} {d : Tx} {i : Nat} (h : i ∉ l) : OffC (chunksE l d) i := fun c hc e => by
 obtain ⟨⟨j, hj, e2⟩, _⟩ := chunks_mem hc
 exact h (by rw [show i = j by omega]; exact hj)
theorem chunks_read : ∀ (l : List Nat) (d : Tx) (L : List Tx), l.Nodup → (∀ i ∈ l, i < L.length) → d.length ≤ 512 * l.length → (l.flatMap fun i => (applyA (chunksE l d) L)[i]!).take d.length = d
 | [], d, L, _, _, h => by
   obtain rfl : d = [] := List.length_eq_zero_iff.1 (by simpa using h)
   rfl
 | i :: r, d, L, hn, hi, h => by
   rw [List.nodup_cons] at hn
   have e0 : applyA (chunksE (i :: r) d) L = applyA (chunksE r (d.drop 512)) (setC L ((i : Int), d.take 512)) := rfl
   have hl := hi i List.mem_cons_self
   have e1 : (applyA (chunksE (i :: r) d) L)[i]! = fullE (d.take 512) := by
    refine get_bang ?_
    rw [e0, apply_off _ _ i (chunks_off hn.1)]
    exact setC_self (c := ((i : Int), d.take 512)) (by show (i : Int).toNat = i; omega) hl
   have h12 : (d.take 512).length ≤ 512 := by rw [List.length_take]; omega
   have hfl := full_len h12
   rw [List.flatMap_cons, e1]
   rcases Nat.lt_or_ge 512 d.length with hg | hg
   · have hf : fullE (d.take 512) = d.take 512 := by
      unfold fullE; rw [List.length_take, Nat.min_eq_left Z.W]; simp
     have ih := chunks_read r (d.drop 512) (setC L ((i : Int), d.take 512)) hn.2 (fun j hj => by rw [setC_len]; exact hi j (List.mem_cons_of_mem _ hj)) (by rw [List.length_drop]; rw [List.length_cons] at h; omega)
     rw [← e0] at ih
     rw [List.take_append, hf, List.take_of_length_le (by rw [List.length_take]; omega), List.length_take, Nat.min_eq_left Z.W, ← List.length_drop, ih, List.take_append_drop]
   · rw [List.take_append_of_le_length Z.W, List.take_of_length_le hg]
     unfold fullE
     rw [List.take_append_of_le_length (Nat.le_refl _), List.take_length]
theorem sec_mem {da : Nat} {xs : List Ext} {i : Nat} : i ∈ secE da xs ↔ ∃ u, InX xs u ∧ i = da + u := by
 unfold secE
 rw [List.mem_map]
 constructor
 · rintro ⟨u, hu, rfl⟩; exact ⟨u, mem_units.1 hu, rfl⟩
 · rintro ⟨u, hu, rfl⟩; exact ⟨u, mem_units.2 hu, rfl⟩
theorem sec_nodup {n da : Nat} {v : Bool} {xs : List Ext} {f : Nat → Bool} (h : TurnOk n v f xs) : (secE da xs).Nodup :=
 List.Pairwise.map _ (fun a b (hab : a ≠ b) => by simpa using hab) (units_nodup h)
theorem sec_len (da : Nat) (xs : List Ext) : (secE da xs).length = sumX xs := by unfold secE; rw [List.length_map, units_len]
theorem sec_app (da : Nat) (xs ys : List Ext) : secE da (xs ++ ys) = secE da xs ++ secE da ys := by unfold secE; rw [units_app, List.map_append]
theorem TurnOk.unit {n : Nat} {v : Bool} {xs : List Ext} {f : Nat → Bool} (h : TurnOk n v f xs) {i : Nat} (hi : InX xs i) : i < n ∧ f i = !v := by
 obtain ⟨x, hx, h1, h2⟩ := hi
 obtain ⟨_, g2, g3⟩ := h.mem x hx
 exact ⟨by omega, g3 i h1 h2⟩
def readS (L : List Tx) (l : List Nat) : Tx := l.flatMap fun i => L[i]!
theorem contE_eq (L : List Tx) (da : Nat) (i : Ino) : contE L da i = (readS L (secE da i.x)).take i.n := by
 unfold contE readS secE
 rw [List.flatMap_map]
theorem readS_app (L : List Tx) (a b : List Nat) : readS L (a ++ b) = readS L a ++ readS L b := by unfold readS; rw [List.flatMap_append]
theorem readS_same {L M : List Tx} {l : List Nat} (h : ∀ i ∈ l, M[i]? = L[i]?) : readS M l = readS L l := by
 unfold readS
 rw [List.flatMap_def, List.flatMap_def]
 congr 1
 refine List.map_congr_left fun u hu => ?_
 rw [List.getElem!_eq_getElem?_getD, List.getElem!_eq_getElem?_getD, h u hu]
theorem readS_len {L : List Tx} (hw : ∀ t ∈ L, t.length = 512) : ∀ {l : List Nat}, (∀ i ∈ l, i < L.length) → (readS L l).length = 512 * l.length
 | [], _ => rfl
 | i :: r, h => by
   have ih := readS_len hw (l := r) (fun j hj => h j (List.mem_cons_of_mem _ hj))
   have hi := h i List.mem_cons_self
   have e : L[i]!.length = 512 := by rw [getElem!_pos L i hi]; exact hw _ (List.getElem_mem _)
   unfold readS at ih ⊢
   rw [List.flatMap_cons, List.length_append, ih, e, List.length_cons]; omega
theorem full_entry {files : Nat} {name : Tx} {i : Ino} (h : InoOk files name i) : fullE (entryE name i) = entryE name i := full_full (by have := h.ent4; omega)
structure WriteP (n files : Nat) (F : FS) (sp : Nat → Bool) (name d : Tx) (e : Nat) (xs : List Ext) : Prop where
 good : GoodN name
 dl : d.length ≤ 1048576
 lt : e < files
 old : ∀ b y, F b = some y → (y.e = e ↔ b = name)
 take : TurnOk (n - (7 + files)) true sp xs
 sum : sumX xs = needsE d.length
 len : xs.length ≤ 64
section
variable {n files : Nat} {F : FS} {sp : Nat → Bool} {L : List Tx} {name d : Tx} {e : Nat} {xs : List Ext}
theorem WriteP.ino (h : WriteP n files F sp name d e xs) (hn : n ≤ 4096) : InoOk files name ⟨e, d.length, xs⟩ :=
 ⟨h.good, h.lt, h.dl, h.len, h.sum, fun x hx => by obtain ⟨g1, g2, _⟩ := h.take.mem x hx; exact ⟨g1, by omega⟩⟩
theorem WriteP.free (h : WriteP n files F sp name d e xs) (hf : FOk (n - (7 + files)) files F sp) {b : Tx} {y : Ino} (hy : F b = some y) {i : Nat} (hi : InX y.x i) : ¬ InX xs i := fun hc => by
 have h1 := (h.take.unit hc).2
 have h2 := (hf.on hy hi).1
 rw [h2] at h1; cases h1
theorem WriteP.iff (h : WriteP n files F sp name d e xs) (hf : FOk (n - (7 + files)) files F sp) (i : Nat) : freeO (turnF true sp xs) (F name) i = true ↔ InX xs i ∨ ∃ b y, b ≠ name ∧ F b = some y ∧ InX y.x i := by
 have e1 : turnF true sp xs i = true ↔ InX xs i ∨ sp i = true := by
  rw [turnF_at]
  constructor
  · intro hh
    split at hh
    · rename_i hc; exact .inl (inX_iff.1 hc)
    · exact .inr hh
  · rintro (hh | hh)
    · rw [inX_iff.2 hh, if_pos rfl]
    · split
      · rfl
      · exact hh
 cases hF : F name with
 | none =>
   show turnF true sp xs i = true ↔ _
   rw [e1, hf.iff]
   refine or_congr Iff.rfl ⟨fun ⟨b, y, hy, hi⟩ => ⟨b, y, (by rintro rfl; rw [hF] at hy; cases hy), hy, hi⟩, fun ⟨b, y, _, hy, hi⟩ => ⟨b, y, hy, hi⟩⟩
 | some x =>
   show turnF false (turnF true sp xs) x.x i = true ↔ _
   rw [turnF_at]
   constructor
   · intro hh
     split at hh
     · cases hh
     · rename_i hc
       rcases e1.1 hh with h1 | h1
       · exact .inl h1
       · obtain ⟨b, y, hy, hi⟩ := hf.all i h1
         refine .inr ⟨b, y, ?_, hy, hi⟩
         rintro rfl
         rw [hF] at hy; cases hy
         exact hc (inX_iff.2 hi)
   · rintro (hh | ⟨b, y, hb, hy, hi⟩)
     · have hn : inX x.x i = false := inX_false.2 fun hc => h.free hf hF hc hh
       rw [hn, if_neg (by simp), e1]; exact .inl hh
     · have hn : inX x.x i = false := inX_false.2 fun hc => hb (hf.dis b name y x i hy hF hi hc)
       rw [hn, if_neg (by simp), e1]; exact .inr (hf.on hy hi).1
theorem WriteP.fok (h : WriteP n files F sp name d e xs) (hf : FOk (n - (7 + files)) files F sp) (hn : n ≤ 4096) : FOk (n - (7 + files)) files (updS F name (some ⟨e, d.length, xs⟩)) (freeO (turnF true sp xs) (F name)) :=
 hf.upd (h.ino hn) (fun b y hy he => (h.old b y hy).1 he) (h.take.back.congr fun i hi => (h.iff hf i).2 (.inl hi)) (h.iff hf) (fun _ _ _ _ hy hi => h.free hf hy hi)
/-- The sectors that a file's bytes stand in. -/
theorem sec_lt (hf : FInv n files F sp L) {b : Tx} {y : Ino} (hy : F b = some y) : ∀ i ∈ secE (7 + files) y.x, 7 + files ≤ i ∧ i < L.length := fun i hi => by
 obtain ⟨u, hu, rfl⟩ := sec_mem.1 hi
 have := (hf.fok.on hy hu).2
 have := hf.len
 omega
theorem new_lt (hf : FInv n files F sp L) (ht : TurnOk (n - (7 + files)) true sp xs) : ∀ i ∈ secE (7 + files) xs, 7 + files ≤ i ∧ i < L.length := fun i hi => by
 obtain ⟨u, hu, rfl⟩ := sec_mem.1 hi
 have := (ht.unit hu).1
 have := hf.len
 omega
theorem new_off (hf : FInv n files F sp L) (ht : TurnOk (n - (7 + files)) true sp xs) {b : Tx} {y : Ino} (hy : F b = some y) {i : Nat} (hi : i ∈ secE (7 + files) y.x) : i ∉ secE (7 + files) xs := fun hc => by
 obtain ⟨u, hu, rfl⟩ := sec_mem.1 hi
 obtain ⟨v, hv, e⟩ := sec_mem.1 hc
 obtain rfl : u = v := by omega
 have h1 := (ht.unit hv).2
 rw [(hf.fok.on hy hu).1] at h1; cases h1
/-- What was written in other files' sectors, or in none. -/
theorem contF_same {M : List Tx} {da : Nat} {b : Tx} (h : ∀ y, F b = some y → ∀ i ∈ secE da y.x, M[i]? = L[i]?) : contF M da F b = contF L da F b := by
 unfold contF
 cases hy : F b with
 | none => rfl
 | some y => show some _ = some _; rw [contE_eq, contE_eq, readS_same (h y hy)]
/-- Where the power fails on the way to new sectors, all is as before. -/
theorem lay_sub (hf : FInv n files F sp L) (ht : TurnOk (n - (7 + files)) true sp xs) {sub : List Chg} (hs : List.Sublist sub (chunksE (secE (7 + files) xs) d)) : FInv n files F sp (applyA sub L) ∧ ∀ b, contF (applyA sub L) (7 + files) F b = contF L (7 + files) F b := by
 have hlt := new_lt hf ht
 refine ⟨hf.same (by rw [apply_len]; exact hf.len) (apply_w hf.w fun c hc => (chunks_mem (hs.subset hc)).2) (fun i hi => apply_off _ _ _ (off_sub (chunks_off fun hc => by have := (hlt i hc).1; omega) hs)), fun b => contF_same fun y hy i hi => apply_off _ _ _ (off_sub (chunks_off (new_off hf ht hy hi)) hs)⟩
theorem setl_off {bs : Tx} {ch : List (Nat × Tx)} {i : Nat} (hc : ∀ c ∈ ch, c.1 < files) (hi : 7 + files ≤ i) : OffC (setlC bs ch) i := ents_off Z.W (fun c h => by have := hc c h; omega)
theorem write_fin (hf : FInv n files F sp L) (h : WriteP n files F sp name d e xs) (hn : 7 + files < n) (hn2 : n ≤ 4096) :
 FInv n files (updS F name (some ⟨e, d.length, xs⟩)) (freeO (turnF true sp xs) (F name)) (applyA (setlC (spB (n - (7 + files)) (freeO (turnF true sp xs) (F name))) [(e, entryE name ⟨e, d.length, xs⟩)]) (applyA (chunksE (secE (7 + files) xs) d) L)) ∧
 ∀ b, contF (applyA (setlC (spB (n - (7 + files)) (freeO (turnF true sp xs) (F name))) [(e, entryE name ⟨e, d.length, xs⟩)]) (applyA (chunksE (secE (7 + files) xs) d) L)) (7 + files) (updS F name (some ⟨e, d.length, xs⟩)) b = if b = name then some d else contF L (7 + files) F b := by
 have hio := h.ino hn2
 obtain ⟨h1, h2⟩ := lay_sub (d := d) hf h.take (List.Sublist.refl _)
 have hci : ∀ c ∈ [(e, entryE name ⟨e, d.length, xs⟩)], c.1 < files := fun c hc => by rw [List.mem_singleton.1 hc]; exact h.lt
 refine ⟨h1.settle hn (h.fok hf.fok hn2) hn2 (by simp) (fun c hc => ?_) (fun c hc => ?_) (fun i hi hne l hl => ?_), fun b => ?_⟩
 · rw [List.mem_singleton.1 hc]; exact ⟨h.lt, by show (entryE _ _).length ≤ _; rw [hio.entry]; exact Nat.le_refl _⟩
 · rw [List.mem_singleton.1 hc]
   exact .inl ⟨name, _, updS_self _ _ _, rfl, by rw [full_entry hio]⟩
 · have hie : e ≠ i := hne _ List.mem_cons_self
   rcases hl with ⟨b, y, hy, he, hl⟩ | ⟨hl1, hl2⟩
   · refine .inl ⟨b, y, ?_, he, hl⟩
     rw [updS_ne]; exact hy
     rintro rfl
     exact hie ((((h.old b y hy).2 rfl).symm).trans he)
   · refine .inr ⟨fun b y hy => ?_, hl2⟩
     by_cases eb : b = name
     · subst eb; rw [updS_self] at hy; cases hy; exact hie
     · rw [updS_ne eb] at hy; exact hl1 b y hy
 · by_cases eb : b = name
   · subst eb
     rw [if_pos rfl]
     unfold contF
     rw [updS_self]
     show some _ = some _
     rw [contE_eq, readS_same (fun i hi => apply_off _ _ i (setl_off hci (new_lt hf h.take i hi).1))]
     congr 1
     refine chunks_read _ _ _ (sec_nodup h.take) (fun i hi => (new_lt hf h.take i hi).2) ?_
     rw [sec_len, h.sum]; unfold needsE; omega
   · rw [if_neg eb, ← h2 b]
     unfold contF
     rw [updS_ne eb]
     exact contF_same fun y hy i hi => apply_off _ _ i (setl_off hci (sec_lt hf hy i hi).1)
end
end Go.Proofs.YtckokhdjeifomaaGreatDoor
namespace Go.Proofs.YtckokhdjeifomaaGreatDoor
open Go Go.SL
section
variable {n files : Nat} {F : FS} {sp : Nat → Bool} {L : List Tx} {name d : Tx} {x : Ino} {xs : List Ext}
/-- Something is appended to a file. -/
structure AppP (n files : Nat) (F : FS) (sp : Nat → Bool) (name d : Tx) (x : Ino) (xs : List Ext) : Prop where
 is : F name = some x
 dl : x.n + d.length ≤ 1048576
 ne : d ≠ []
 take : TurnOk (n - (7 + files)) true sp xs
 sum : sumX xs = needsE (x.n + d.length) - needsE x.n
 len : x.x.length + xs.length ≤ 64
def tailE (x : Ino) : Nat := x.n % 512
def lastE (da : Nat) (x : Ino) : Nat := (secE da x.x)[(secE da x.x).length - 1]!
/-- The sectors that are written; what is written into them. -/
def appL (da : Nat) (x : Ino) (xs : List Ext) : List Nat := if 0 < tailE x then lastE da x :: secE da xs else secE da xs
def appD (L : List Tx) (da : Nat) (x : Ino) (d : Tx) : Tx := if 0 < tailE x then (L[lastE da x]!).take (tailE x) ++ d else d
abbrev appI (x : Ino) (d : Tx) (xs : List Ext) : Ino := ⟨x.e, x.n + d.length, x.x ++ xs⟩
theorem AppP.ino (h : AppP n files F sp name d x xs) (hf : FOk (n - (7 + files)) files F sp) (hn : n ≤ 4096) : InoOk files name (appI x d xs) := by
 have hk := hf.ok name x h.is
 refine ⟨hk.good, hk.e, h.dl, by show (x.x ++ xs).length ≤ 64; rw [List.length_append]; exact h.len, ?_, fun y hy => ?_⟩
 · show sumX (x.x ++ xs) = _
   rw [sumX_app, hk.sum, h.sum]
   have : needsE x.n ≤ needsE (x.n + d.length) := by unfold needsE; omega
   show _ = needsE (x.n + d.length)
   omega
 · rcases List.mem_append.1 hy with hy | hy
   · exact hk.ext y hy
   · obtain ⟨g1, g2, _⟩ := h.take.mem y hy; exact ⟨g1, by omega⟩
theorem AppP.free (h : AppP n files F sp name d x xs) (hf : FOk (n - (7 + files)) files F sp) {b : Tx} {y : Ino} (hy : F b = some y) {i : Nat} (hi : InX y.x i) : ¬ InX xs i := fun hc => by
 have h1 := (h.take.unit hc).2
 rw [(hf.on hy hi).1] at h1; cases h1
theorem turn_iff {i : Nat} : turnF true sp xs i = true ↔ InX xs i ∨ sp i = true := by
 rw [turnF_at]
 constructor
 · intro hh
   split at hh
   · rename_i hc; exact .inl (inX_iff.1 hc)
   · exact .inr hh
 · rintro (hh | hh)
   · rw [inX_iff.2 hh, if_pos rfl]
   · split
     · rfl
     · exact hh
theorem inX_app {a b : List Ext} {i : Nat} : InX (a ++ b) i ↔ InX a i ∨ InX b i := by
 unfold InX
 constructor
 · rintro ⟨y, hy, h⟩
   rcases List.mem_append.1 hy with hy | hy
   · exact .inl ⟨y, hy, h⟩
   · exact .inr ⟨y, hy, h⟩
 · rintro (⟨y, hy, h⟩ | ⟨y, hy, h⟩)
   · exact ⟨y, List.mem_append_left _ hy, h⟩
   · exact ⟨y, List.mem_append_right _ hy, h⟩
theorem AppP.fok (h : AppP n files F sp name d x xs) (hf : FOk (n - (7 + files)) files F sp) (hn : n ≤ 4096) : FOk (n - (7 + files)) files (updS F name (some (appI x d xs))) (turnF true sp xs) := by
 refine hf.upd (h.ino hf hn) (fun b y hy he => hf.inj b name y x hy h.is he) ?_ (fun i => ?_) (fun b y i hb hy h1 h2 => ?_)
 · show TurnOk _ false _ (x.x ++ xs)
   refine TurnOk.app.2 ⟨(hf.tk name x h.is).congr fun i hi => turn_iff.2 (.inr (hf.on h.is hi).1), h.take.back.congr fun i hi => ?_⟩
   rw [turnF_at, inX_false.2 (fun hc => h.free hf h.is hc hi), if_neg (by simp)]
   exact turn_iff.2 (.inl hi)
 · show _ ↔ InX (x.x ++ xs) i ∨ _
   rw [turn_iff, inX_app]
   constructor
   · rintro (hi | hi)
     · exact .inl (.inr hi)
     · obtain ⟨b, y, hy, hin⟩ := hf.all i hi
       by_cases e : b = name
       · subst e; rw [h.is] at hy; cases hy; exact .inl (.inl hin)
       · exact .inr ⟨b, y, e, hy, hin⟩
   · rintro ((hi | hi) | ⟨b, y, hb, hy, hi⟩)
     · exact .inr (hf.on h.is hi).1
     · exact .inl hi
     · exact .inr (hf.on hy hi).1
 · rcases inX_app.1 h2 with h2 | h2
   · exact hb (hf.dis b name y x i hy h.is h1 h2)
   · exact h.free hf hy h1 h2
theorem last_mem {da : Nat} (hk : sumX x.x = needsE x.n) (ht : 0 < tailE x) : lastE da x ∈ secE da x.x := by
 have : 0 < (secE da x.x).length := by rw [sec_len, hk]; unfold needsE; unfold tailE at ht; omega
 unfold lastE
 rw [getElem!_pos _ _ Z.W]
 exact List.getElem_mem _
def initE (da : Nat) (x : Ino) : List Nat := (secE da x.x).take ((secE da x.x).length - 1)
theorem init_mem {da i : Nat} (h : i ∈ initE da x) : i ∈ secE da x.x := List.mem_of_mem_take h
/-- A file's sectors but the last one; the last one. -/
theorem last_split {da : Nat} (hk : sumX x.x = needsE x.n) (ht : 0 < tailE x) : secE da x.x = initE da x ++ [lastE da x] := by
 have : 0 < (secE da x.x).length := by rw [sec_len, hk]; unfold needsE; unfold tailE at ht; omega
 have e := List.take_append_drop ((secE da x.x).length - 1) (secE da x.x)
 have e2 : (secE da x.x).drop ((secE da x.x).length - 1) = [lastE da x] := by
  rw [List.drop_eq_getElem_cons Z.W, List.drop_eq_nil_of_le Z.W]
  unfold lastE
  rw [getElem!_pos _ _ Z.W]
 rw [e2] at e
 exact e.symm
theorem take_two {A B : Tx} {t m : Nat} (h : m = A.length + t) : (A ++ B).take m = A ++ B.take t := by
 subst h
 rw [List.take_append, List.take_of_length_le Z.W, Nat.add_sub_cancel_left]
theorem readS_one (L : List Tx) (i : Nat) : readS L [i] = L[i]! := by unfold readS; simp
theorem app_lt (hf : FInv n files F sp L) (h : AppP n files F sp name d x xs) : ∀ i ∈ appL (7 + files) x xs, 7 + files ≤ i ∧ i < L.length := fun i hi => by
 unfold appL at hi
 split at hi
 · rename_i ht
   rcases List.mem_cons.1 hi with rfl | hi
   · exact sec_lt hf h.is _ (last_mem (hf.fok.ok name x h.is).sum ht)
   · exact new_lt hf h.take i hi
 · exact new_lt hf h.take i hi
theorem app_nodup (hf : FInv n files F sp L) (h : AppP n files F sp name d x xs) : (appL (7 + files) x xs).Nodup := by
 unfold appL
 split
 · rename_i ht
   exact List.nodup_cons.2 ⟨new_off hf h.take h.is (last_mem (hf.fok.ok name x h.is).sum ht), sec_nodup h.take⟩
 · exact sec_nodup h.take
/-- Other files' sectors aren't written. -/
theorem app_off (hf : FInv n files F sp L) (h : AppP n files F sp name d x xs) {b : Tx} {y : Ino} (hb : b ≠ name) (hy : F b = some y) {i : Nat} (hi : i ∈ secE (7 + files) y.x) : i ∉ appL (7 + files) x xs := fun hc => by
 unfold appL at hc
 split at hc
 · rename_i ht
   rcases List.mem_cons.1 hc with rfl | hc
   · obtain ⟨u, hu, e1⟩ := sec_mem.1 hi
     obtain ⟨v, hv, e2⟩ := sec_mem.1 (last_mem (da := 7 + files) (hf.fok.ok name x h.is).sum ht)
     obtain rfl : u = v := by omega
     exact hb (hf.fok.dis b name y x u hy h.is hu hv)
   · exact new_off hf h.take hy hi hc
 · exact new_off hf h.take hy hi hc
theorem tail_len (hf : FInv n files F sp L) (h : AppP n files F sp name d x xs) (ht : 0 < tailE x) : ((L[lastE (7 + files) x]!).take (tailE x)).length = tailE x := by
 have hl := (sec_lt hf h.is _ (last_mem (hf.fok.ok name x h.is).sum ht)).2
 have e : (L[lastE (7 + files) x]!).length = 512 := by rw [getElem!_pos L _ hl]; exact hf.w _ (List.getElem_mem _)
 rw [List.length_take, e]; unfold tailE; omega
/-- The file's bytes up to the last sector; the rest of them. -/
theorem cont_tail (hf : FInv n files F sp L) (h : AppP n files F sp name d x xs) (ht : 0 < tailE x) : contE L (7 + files) x = readS L (initE (7 + files) x) ++ (L[lastE (7 + files) x]!).take (tailE x) ∧
 x.n = (readS L (initE (7 + files) x)).length + tailE x := by
 have hk := (hf.fok.ok name x h.is).sum
 have hsp := last_split (da := 7 + files) hk ht
 have hl : x.n = (readS L (initE (7 + files) x)).length + tailE x := by
  rw [readS_len hf.w (fun i hi => (sec_lt hf h.is i (init_mem hi)).2)]
  unfold initE
  rw [List.length_take, sec_len, hk]
  unfold needsE tailE at *
  omega
 exact ⟨by rw [contE_eq, hsp, readS_app, readS_one, take_two hl], hl⟩
theorem sub_cons {c : Chg} {r y : List Chg} (h : List.Sublist y (c :: r)) : List.Sublist y r ∨ ∃ y', y = c :: y' ∧ List.Sublist y' r := by
 cases h with
 | cons _ h => exact .inl h
 | cons_cons _ h => exact .inr ⟨_, rfl, h⟩
/-- Where the power fails on the way, all is as before. -/
theorem app_sub (hf : FInv n files F sp L) (h : AppP n files F sp name d x xs) {sub : List Chg} (hs : List.Sublist sub (chunksE (appL (7 + files) x xs) (appD L (7 + files) x d))) : FInv n files F sp (applyA sub L) ∧ ∀ b, contF (applyA sub L) (7 + files) F b = contF L (7 + files) F b := by
 have hlt := app_lt hf h
 refine ⟨hf.same (by rw [apply_len]; exact hf.len) (apply_w hf.w fun c hc => (chunks_mem (hs.subset hc)).2) (fun i hi => apply_off _ _ _ (off_sub (chunks_off fun hc => by have := (hlt i hc).1; omega) hs)), fun b => ?_⟩
 by_cases hb : b = name
 · subst hb
   unfold contF
   rw [h.is]
   show some _ = some _
   by_cases ht : 0 < tailE x
   · have hk := (hf.fok.ok b x h.is).sum
     have hsp := last_split (da := 7 + files) hk ht
     have hlm := last_mem (da := 7 + files) hk ht
     obtain ⟨e1, e2⟩ := cont_tail hf h ht
     have hnd := sec_nodup (da := 7 + files) (hf.fok.tk b x h.is)
     rw [hsp, List.nodup_append] at hnd
     have hU : readS (applyA sub L) (initE (7 + files) x) = readS L (initE (7 + files) x) := by
      refine readS_same fun i hi => apply_off _ _ _ (off_sub (chunks_off fun hc => ?_) hs)
      unfold appL at hc
      rw [if_pos ht] at hc
      rcases List.mem_cons.1 hc with hc | hc
      · exact hnd.2.2 i hi _ (List.mem_singleton.2 rfl) hc
      · exact new_off hf h.take h.is (init_mem hi) hc
     have hT : ((applyA sub L)[lastE (7 + files) x]!).take (tailE x) = (L[lastE (7 + files) x]!).take (tailE x) := by
      have hno : lastE (7 + files) x ∉ secE (7 + files) xs := new_off hf h.take h.is hlm
      unfold appL appD at hs
      rw [if_pos ht, if_pos ht] at hs
      rcases sub_cons hs with hs2 | ⟨sub', rfl, hs2⟩
      · rw [List.getElem!_eq_getElem?_getD, apply_off _ _ _ (off_sub (chunks_off hno) hs2), ← List.getElem!_eq_getElem?_getD]
      · have e3 : (applyA ((((lastE (7 + files) x : Nat) : Int), ((L[lastE (7 + files) x]!).take (tailE x) ++ d).take 512) :: sub') L)[lastE (7 + files) x]! = fullE (((L[lastE (7 + files) x]!).take (tailE x) ++ d).take 512) := by
         refine get_bang ?_
         show (applyA sub' (setC L _))[_]? = _
         rw [apply_off _ _ _ (off_sub (chunks_off hno) hs2)]
         exact setC_self (by show ((lastE (7 + files) x : Nat) : Int).toNat = _; omega) (sec_lt hf h.is _ hlm).2
        rw [e3]
        have htl := tail_len hf h ht
        have ht5 : tailE x ≤ 512 := by unfold tailE; omega
        unfold fullE
        rw [List.take_append_of_le_length (by rw [List.length_take, List.length_append]; omega), List.take_take, Nat.min_eq_left ht5, List.take_append_of_le_length Z.W, List.take_of_length_le Z.W]
     have key : contE (applyA sub L) (7 + files) x = readS (applyA sub L) (initE (7 + files) x) ++ ((applyA sub L)[lastE (7 + files) x]!).take (tailE x) := by
      rw [contE_eq, hsp, readS_app, readS_one, take_two (by rw [hU]; exact e2)]
     rw [key, e1, hU, hT]
   · rw [contE_eq, contE_eq]
     congr 2
     refine readS_same fun i hi => apply_off _ _ _ (off_sub (chunks_off fun hc => ?_) hs)
     unfold appL at hc
     rw [if_neg ht] at hc
     exact new_off hf h.take h.is hi hc
 · exact contF_same fun y hy i hi => apply_off _ _ _ (off_sub (chunks_off (app_off hf h hb hy hi)) hs)
theorem app_fin (hf : FInv n files F sp L) (h : AppP n files F sp name d x xs) (hn : 7 + files < n) (hn2 : n ≤ 4096) :
 FInv n files (updS F name (some (appI x d xs))) (turnF true sp xs) (applyA (setlC (spB (n - (7 + files)) (turnF true sp xs)) [(x.e, entryE name (appI x d xs))]) (applyA (chunksE (appL (7 + files) x xs) (appD L (7 + files) x d)) L)) ∧
 ∀ b, contF (applyA (setlC (spB (n - (7 + files)) (turnF true sp xs)) [(x.e, entryE name (appI x d xs))]) (applyA (chunksE (appL (7 + files) x xs) (appD L (7 + files) x d)) L)) (7 + files) (updS F name (some (appI x d xs))) b = if b = name then some (contE L (7 + files) x ++ d) else contF L (7 + files) F b := by
 have hio := h.ino hf.fok hn2
 have hk := hf.fok.ok name x h.is
 obtain ⟨h1, h2⟩ := app_sub hf h (List.Sublist.refl _)
 have hci : ∀ c ∈ [(x.e, entryE name (appI x d xs))], c.1 < files := fun c hc => by rw [List.mem_singleton.1 hc]; exact hk.e
 refine ⟨h1.settle hn (h.fok hf.fok hn2) hn2 (by simp) (fun c hc => ?_) (fun c hc => ?_) (fun i hi hne l hl => ?_), fun b => ?_⟩
 · rw [List.mem_singleton.1 hc]; exact ⟨hk.e, by show (entryE _ _).length ≤ _; rw [hio.entry]; exact Nat.le_refl _⟩
 · rw [List.mem_singleton.1 hc]
   exact .inl ⟨name, _, updS_self _ _ _, rfl, by rw [full_entry hio]⟩
 · have hie : x.e ≠ i := hne _ List.mem_cons_self
   rcases hl with ⟨b, y, hy, he, hl⟩ | ⟨hl1, hl2⟩
   · refine .inl ⟨b, y, ?_, he, hl⟩
     rw [updS_ne]; exact hy
     rintro rfl
     rw [h.is] at hy; cases hy
     exact hie he
   · refine .inr ⟨fun b y hy => ?_, hl2⟩
     by_cases eb : b = name
     · subst eb; rw [updS_self] at hy; cases hy; exact hie
     · rw [updS_ne eb] at hy; exact hl1 b y hy
 · by_cases eb : b = name
   · subst eb
     rw [if_pos rfl]
     unfold contF
     rw [updS_self]
     show some _ = some _
     have hsame : ∀ i ∈ secE (7 + files) (appI x d xs).x, (applyA (setlC (spB (n - (7 + files)) (turnF true sp xs)) [(x.e, entryE b (appI x d xs))]) (applyA (chunksE (appL (7 + files) x xs) (appD L (7 + files) x d)) L))[i]? = (applyA (chunksE (appL (7 + files) x xs) (appD L (7 + files) x d)) L)[i]? := fun i hi => by
      refine apply_off _ _ i (setl_off hci ?_)
      have hi' : i ∈ secE (7 + files) x.x ++ secE (7 + files) xs := by rw [← sec_app]; exact hi
      rcases List.mem_append.1 hi' with hi | hi
      · exact (sec_lt hf h.is i hi).1
      · exact (new_lt hf h.take i hi).1
     rw [contE_eq, readS_same hsame]
     congr 1
     show (readS _ (secE (7 + files) (x.x ++ xs))).take (x.n + d.length) = _
     rw [sec_app, readS_app]
     have hcr := chunks_read (appL (7 + files) x xs) (appD L (7 + files) x d) L (app_nodup hf h) (fun i hi => (app_lt hf h i hi).2)
     obtain ⟨M, hM⟩ : ∃ M, M = applyA (chunksE (appL (7 + files) x xs) (appD L (7 + files) x d)) L := ⟨_, rfl⟩
     rw [← hM] at hcr ⊢
     have hsn := h.sum
     by_cases ht : 0 < tailE x
     · obtain ⟨e1, e2⟩ := cont_tail hf h ht
       have htl := tail_len hf h ht
       have hsp := last_split (da := 7 + files) hk.sum ht
       have hnd := sec_nodup (da := 7 + files) (hf.fok.tk b x h.is)
       rw [hsp, List.nodup_append] at hnd
       have hU : readS M (initE (7 + files) x) = readS L (initE (7 + files) x) := by
        rw [hM]
        refine readS_same fun i hi => apply_off _ _ _ (chunks_off fun hc => ?_)
        unfold appL at hc
        rw [if_pos ht] at hc
        rcases List.mem_cons.1 hc with hc | hc
        · exact hnd.2.2 i hi _ (List.mem_singleton.2 rfl) hc
        · exact new_off hf h.take h.is (init_mem hi) hc
       have hl1 : (appD L (7 + files) x d).length = tailE x + d.length := by
        unfold appD; rw [if_pos ht, List.length_append, htl]
       have hl2 : (appL (7 + files) x xs).length = 1 + sumX xs := by unfold appL; rw [if_pos ht, List.length_cons, sec_len]; omega
       have hcr' := hcr (by rw [hl1, hl2, hsn]; unfold needsE tailE at *; omega)
       rw [hsp, readS_app, hU, List.append_assoc]
       have e4 : readS M [lastE (7 + files) x] ++ readS M (secE (7 + files) xs) = readS M (appL (7 + files) x xs) := by
        rw [← readS_app]; unfold appL; rw [if_pos ht]; rfl
       rw [e4, e1, List.append_assoc, take_two (t := (appD L (7 + files) x d).length) (by rw [hl1]; omega)]
       congr 1
       refine Eq.trans hcr' ?_
       unfold appD; rw [if_pos ht]
     · have ht0 : x.n % 512 = 0 := by unfold tailE at ht; omega
       have hU : readS M (secE (7 + files) x.x) = readS L (secE (7 + files) x.x) := by
        rw [hM]
        refine readS_same fun i hi => apply_off _ _ _ (chunks_off fun hc => ?_)
        unfold appL at hc
        rw [if_neg ht] at hc
        exact new_off hf h.take h.is hi hc
       have hUl : (readS L (secE (7 + files) x.x)).length = x.n := by
        rw [readS_len hf.w (fun i hi => (sec_lt hf h.is i hi).2), sec_len, hk.sum]; unfold needsE; omega
       unfold appL appD at hcr
       rw [if_neg ht, if_neg ht] at hcr
       have hcr' := hcr (by rw [sec_len, hsn]; unfold needsE; omega)
       rw [hU, take_two (t := d.length) Z.W, contE_eq, List.take_of_length_le (Nat.le_of_eq hUl)]
       congr 1
   · rw [if_neg eb, ← h2 b]
     unfold contF
     rw [updS_ne eb]
     exact contF_same fun y hy i hi => apply_off _ _ i (setl_off hci (sec_lt hf hy i hi).1)
end
end Go.Proofs.YtckokhdjeifomaaGreatDoor
namespace Go.Proofs.YtckokhdjeifomaaGreatDoor
open Go Go.SL
section
variable {n files : Nat} {F : FS} {sp : Nat → Bool} {L : List Tx} {name tn : Tx} {x : Ino}
theorem contF_meta {M : List Tx} (hf : FInv n files F sp L) (hs : ∀ i, 7 + files ≤ i → M[i]? = L[i]?) (b : Tx) : contF M (7 + files) F b = contF L (7 + files) F b := contF_same fun _ hy i hi => hs i (sec_lt hf hy i hi).1
theorem rem_fin (hf : FInv n files F sp L) (hx : F name = some x) (hn : 7 + files < n) (hn2 : n ≤ 4096) :
 FInv n files (updS F name none) (turnF false sp x.x) (applyA (setlC (spB (n - (7 + files)) (turnF false sp x.x)) [(x.e, [])]) L) ∧
 ∀ b, contF (applyA (setlC (spB (n - (7 + files)) (turnF false sp x.x)) [(x.e, [])]) L) (7 + files) (updS F name none) b = if b = name then none else contF L (7 + files) F b := by
 have hk := hf.fok.ok name x hx
 have hci : ∀ c ∈ [(x.e, ([] : Tx))], c.1 < files := fun c hc => by rw [List.mem_singleton.1 hc]; exact hk.e
 have hg := hf.fok.give (name := name)
 rw [hx] at hg
 have hg' : FOk (n - (7 + files)) files (updS F name none) (turnF false sp x.x) := hg
 refine ⟨hf.settle hn hg' hn2 (by simp) (fun c hc => ?_) (fun c hc => ?_) (fun i hi hne l hl => ?_), fun b => ?_⟩
 · rw [List.mem_singleton.1 hc]; exact ⟨hk.e, Nat.zero_le _⟩
 · rw [List.mem_singleton.1 hc]
   refine .inr ⟨fun b y hy he => ?_, rfl⟩
   by_cases eb : b = name
   · subst eb; rw [updS_self] at hy; cases hy
   · rw [updS_ne eb] at hy; exact eb (hf.fok.inj b name y x hy hx he)
 · have hie : x.e ≠ i := hne _ List.mem_cons_self
   rcases hl with ⟨b, y, hy, he, hl⟩ | ⟨hl1, hl2⟩
   · refine .inl ⟨b, y, ?_, he, hl⟩
     rw [updS_ne]; exact hy
     rintro rfl
     rw [hx] at hy; cases hy
     exact hie he
   · refine .inr ⟨fun b y hy => ?_, hl2⟩
     by_cases eb : b = name
     · subst eb; rw [updS_self] at hy; cases hy
     · rw [updS_ne eb] at hy; exact hl1 b y hy
 · by_cases eb : b = name
   · subst eb
     rw [if_pos rfl]; unfold contF; rw [updS_self]; rfl
   · rw [if_neg eb, ← contF_meta hf (fun i hi => apply_off (setlC (spB (n - (7 + files)) (turnF false sp x.x)) [(x.e, [])]) L i (setl_off hci hi)) b]
     unfold contF
     rw [updS_ne eb]
abbrev renF (F : FS) (name tn : Tx) (x : Ino) : FS := updS (updS F name none) tn (some x)
theorem ren_fok (hf : FOk (n - (7 + files)) files F sp) (hx : F name = some x) (hne : name ≠ tn) (hg : GoodN tn) : FOk (n - (7 + files)) files (renF F name tn x) (freeO sp (F tn)) := by
 have h1 := (hf.give (name := tn)).move (name := name) (tn := tn) (x := x) (by rw [updS_ne hne]; exact hx) (updS_self _ _ _) hg
 have e : updS (updS (updS F tn none) name none) tn (some x) = renF F name tn x := by
  funext b
  unfold renF
  by_cases e1 : b = tn
  · subst e1; rw [updS_self, updS_self]
  · rw [updS_ne e1, updS_ne e1]
    by_cases e2 : b = name
    · subst e2; rw [updS_self, updS_self]
    · rw [updS_ne e2, updS_ne e2, updS_ne e1]
 rw [e] at h1
 exact h1
theorem ren_fin {ch : List (Nat × Tx)} (hf : FInv n files F sp L) (hx : F name = some x) (hne : name ≠ tn) (hg : GoodN tn) (hn : 7 + files < n) (hn2 : n ≤ 4096) (hch : (ch.map (·.1)).Nodup) (hcm : ∀ c, c ∈ ch ↔ c = (x.e, entryE tn x) ∨ ∃ y, F tn = some y ∧ c = (y.e, [])) :
 FInv n files (renF F name tn x) (freeO sp (F tn)) (applyA (setlC (spB (n - (7 + files)) (freeO sp (F tn))) ch) L) ∧
 ∀ b, contF (applyA (setlC (spB (n - (7 + files)) (freeO sp (F tn))) ch) L) (7 + files) (renF F name tn x) b = if b = tn then contF L (7 + files) F name else if b = name then none else contF L (7 + files) F b := by
 have hk := hf.fok.ok name x hx
 have hio : InoOk files tn x := ⟨hg, hk.e, hk.n, hk.len, hk.sum, hk.ext⟩
 have hci : ∀ c ∈ ch, c.1 < files := fun c hc => by
  rcases (hcm c).1 hc with rfl | ⟨y, hy, rfl⟩
  · exact hk.e
  · exact (hf.fok.ok tn y hy).e
 have hfo := ren_fok hf.fok hx hne hg
 have hxe : ∀ b y, renF F name tn x b = some y → b = tn ∧ y = x ∨ b ≠ tn ∧ b ≠ name ∧ F b = some y := fun b y hy => by
  unfold renF at hy
  by_cases e1 : b = tn
  · subst e1; rw [updS_self] at hy; cases hy; exact .inl ⟨rfl, rfl⟩
  · rw [updS_ne e1] at hy
    by_cases e2 : b = name
    · subst e2; rw [updS_self] at hy; cases hy
    · rw [updS_ne e2] at hy; exact .inr ⟨e1, e2, hy⟩
 refine ⟨hf.settle hn hfo hn2 hch (fun c hc => ?_) (fun c hc => ?_) (fun i hi hne' l hl => ?_), fun b => ?_⟩
 · refine ⟨hci c hc, ?_⟩
   rcases (hcm c).1 hc with rfl | ⟨y, hy, rfl⟩
   · show (entryE _ _).length ≤ _; rw [hio.entry]; exact Nat.le_refl _
   · exact Nat.zero_le _
 · rcases (hcm c).1 hc with rfl | ⟨y, hy, rfl⟩
   · exact .inl ⟨tn, x, updS_self _ _ _, rfl, by rw [full_entry hio]⟩
   · refine .inr ⟨fun b u hu he => ?_, rfl⟩
     rcases hxe b u hu with ⟨rfl, rfl⟩ | ⟨e1, e2, hb⟩
     · exact hne (hf.fok.inj _ _ _ _ hx hy he)
     · exact e1 (hf.fok.inj _ _ _ _ hb hy he)
 · have hix : x.e ≠ i := hne' _ ((hcm _).2 (.inl rfl))
   rcases hl with ⟨b, y, hy, he, hl⟩ | ⟨hl1, hl2⟩
   · have hbt : b ≠ tn := by
      rintro rfl
      exact hne' _ ((hcm _).2 (.inr ⟨y, hy, rfl⟩)) he
     have hbn : b ≠ name := by
      rintro rfl
      rw [hx] at hy; cases hy
      exact hix he
     exact .inl ⟨b, y, by unfold renF; rw [updS_ne hbt, updS_ne hbn]; exact hy, he, hl⟩
   · refine .inr ⟨fun b y hy => ?_, hl2⟩
     rcases hxe b y hy with ⟨rfl, rfl⟩ | ⟨e1, e2, hb⟩
     · exact hix
     · exact hl1 b y hb
 · have hM : ∀ b, contF (applyA (setlC (spB (n - (7 + files)) (freeO sp (F tn))) ch) L) (7 + files) F b = contF L (7 + files) F b := contF_meta hf (fun i hi => apply_off _ L i (setl_off hci hi))
   by_cases e1 : b = tn
   · subst e1
     rw [if_pos rfl, ← hM name]
     unfold contF renF
     rw [updS_self, hx]
   · rw [if_neg e1]
     by_cases e2 : b = name
     · subst e2
       rw [if_pos rfl]; unfold contF renF; rw [updS_ne e1, updS_self]; rfl
     · rw [if_neg e2, ← hM b]
       unfold contF renF
       rw [updS_ne e1, updS_ne e2]
end
def layS (s : DSt) (l : List Nat) (d : Tx) : DSt × Nat := if l = [] then (s, 0) else makeS s (chunksE l d)
def opS (s : DSt) (f z : Int) (l : List Nat) (d bs : Tx) (ch : List (Nat × Tx)) : DSt × Nat := thenE (layS s l d) fun t => commitE t f z (setlC bs ch)
section
variable {f z n : Nat}
def BadL (f z n : Nat) (L : List Tx) (x ch : List Chg) (M : List Tx) : Prop := (∃ sub, List.Sublist sub x ∧ StA f z n (applyA sub L) M) ∨ GA f z n (applyA x L) ch M
theorem StA.refl {L : List Tx} (hl : L.length = n) (hz : Zero f L) : StA f z n L L := ⟨hl, hz, fun _ _ => rfl⟩
theorem op_law {s : DSt} {l : List Nat} {d bs : Tx} {ch : List (Nat × Tx)} (hs : Clean f z n s) (hl : ∀ i ∈ l, f + z ≤ i ∧ i < n) (hx : Tame f z n (setlC bs ch)) :
 (opS s f z l d bs ch).1.since = [] ∧ ((opS s f z l d bs ch).2 = 0 ∧ (opS s f z l d bs ch).1.off = false ∧ StA f z n (applyA (setlC bs ch) (applyA (chunksE l d) s.lasts)) (opS s f z l d bs ch).1.lasts ∧ (s.left = 0 → (opS s f z l d bs ch).1.left = 0) ∨
   s.left ≠ 0 ∧ (opS s f z l d bs ch).2 = 7 ∧ (opS s f z l d bs ch).1.off = true ∧ BadL f z n s.lasts (chunksE l d) (setlC bs ch) (opS s f z l d bs ch).1.lasts) := by
 have hne : setlC bs ch ≠ [] := by unfold setlC; exact List.cons_ne_nil _ _
 obtain ⟨ga, gb, gc, gd⟩ := hx.1.1
 unfold opS layS
 by_cases h0 : l = []
 · subst h0
   rw [if_pos rfl]
   unfold thenE
   rw [if_neg (fun h => h rfl)]
   obtain ⟨c1, c2⟩ := commit_law hs hx hne
   refine ⟨c1, ?_⟩
   rcases c2 with c2 | ⟨d0, d1, d2, d3⟩
   · exact .inl c2
   · exact .inr ⟨d0, d1, d2, .inr d3⟩
 · rw [if_neg h0]
   obtain ⟨a1, a2⟩ := make_law (x := chunksE l d) hs.off hs.since (by rw [hs.len]; exact chunks_ok fun i hi => (hl i hi).2)
   obtain ⟨p, hp⟩ : ∃ p, p = makeS s (chunksE l d) := ⟨_, rfl⟩
   rw [← hp] at a1 a2 ⊢
   rcases a2 with ⟨b1, b2, b3, b4⟩ | ⟨b0, b1, b2, sub, b3, b4⟩
   · unfold thenE
     rw [if_neg (by rw [b1]; exact fun h => h rfl)]
     have hz : Zero f p.1.lasts := by unfold Zero; rw [b3, apply_off _ _ f (chunks_off fun hc => by have := (hl f hc).1; omega)]; exact hs.zero
     have hcl : Clean f z n p.1 := ⟨b2, a1, by rw [b3, apply_len]; exact hs.len, hz⟩
     obtain ⟨c1, c2⟩ := commit_law hcl hx hne
     refine ⟨c1, ?_⟩
     rcases c2 with ⟨d1, d2, d3, d4⟩ | ⟨d0, d1, d2, d3⟩
     · exact .inl ⟨d1, d2, by rw [← b3]; exact d3, fun h => d4 (b4 h)⟩
     · exact .inr ⟨fun h => d0 (b4 h), d1, d2, .inr (by rw [← b3]; exact d3)⟩
   · unfold thenE
     rw [if_pos (by rw [b1]; decide)]
     refine ⟨a1, .inr ⟨b0, b1, b2, .inl ⟨sub, b3, ?_⟩⟩⟩
     rw [b4]
     refine StA.refl (by rw [apply_len]; exact hs.len) ?_
     unfold Zero
     rw [apply_off _ _ f (off_sub (chunks_off fun hc => by have := (hl f hc).1; omega) b3)]; exact hs.zero
theorem remount_law {t : DSt} {L : List Tx} {x ch : List Chg} (ho : t.off = false) (hs : t.since = []) (h0 : t.left = 0) (hx : Tame f z n ch) (hne : ch ≠ []) (hL : L.length = n) (h : BadL f z n L x ch t.lasts) :
 (openE t f z).2.2 = 0 ∧ (openE t f z).1.off = false ∧ (openE t f z).1.since = [] ∧ (openE t f z).1.left = 0 ∧ ((∃ sub, List.Sublist sub x ∧ StA f z n (applyA sub L) (openE t f z).1.lasts) ∨ StA f z n (applyA ch (applyA x L)) (openE t f z).1.lasts) := by
 rcases h with ⟨sub, h1, h2⟩ | h
 · rw [open_zero hx.1.1 ⟨ho, hs, h2.len, h2.zero⟩]
   exact ⟨rfl, ho, hs, h0, .inl ⟨sub, h1, h2⟩⟩
 · obtain ⟨k1, k2⟩ := open_law ho hs (by rw [apply_len]; exact hL) h hx hne
   rcases k2 with ⟨l1, l2, l3, l4, _⟩ | ⟨l0, _⟩
   · refine ⟨l1, l2, k1, l4 h0, ?_⟩
     rcases l3 with l3 | l3
     · exact .inl ⟨x, List.Sublist.refl _, l3⟩
     · exact .inr l3
   · exact absurd h0 l0
end
section
variable {n files : Nat} {F F' : FS} {sp sp' : Nat → Bool}
/-- A store's disk, as it is between deeds. -/
structure Mnt (n files : Nat) (F : FS) (sp : Nat → Bool) (s : DSt) : Prop where
 inv : FInv n files F sp s.lasts
 cl : Clean (2 + files) 5 n s
theorem FInv.sta {T M : List Tx} (h : FInv n files F sp T) (hs : StA (2 + files) 5 n T M) (hw : ∀ l ∈ M, l.length = 512) : FInv n files F sp M ∧ ∀ b, contF M (7 + files) F b = contF T (7 + files) F b :=
 ⟨h.same hs.len hw (fun i hi => hs.out i (.inl Z.W)), contF_meta h (fun i hi => hs.out i (.inr Z.W))⟩
/-- What a deed on a disk leaves: it is done; or the power has failed, and behind a new opening it is done or isn't. -/
structure DeedP (n files : Nat) (F F' : FS) (sp sp' : Nat → Bool) (C C' : Tx → Option Tx) (s : DSt) (p : DSt × Nat) : Prop where
 since : p.1.since = []
 res : (p.2 = 0 ∧ Mnt n files F' sp' p.1 ∧ (∀ b, contF p.1.lasts (7 + files) F' b = C' b) ∧ (s.left = 0 → p.1.left = 0)) ∨
  (s.left ≠ 0 ∧ p.2 = 7 ∧ p.1.off = true ∧ ∀ t : DSt, t = onS p.1 → (openE t ((2 + files : Nat) : Int) 5).2.2 = 0 ∧ (openE t ((2 + files : Nat) : Int) 5).1.left = 0 ∧
    (Mnt n files F sp (openE t ((2 + files : Nat) : Int) 5).1 ∧ (∀ b, contF (openE t ((2 + files : Nat) : Int) 5).1.lasts (7 + files) F b = C b) ∨
      Mnt n files F' sp' (openE t ((2 + files : Nat) : Int) 5).1 ∧ (∀ b, contF (openE t ((2 + files : Nat) : Int) 5).1.lasts (7 + files) F' b = C' b)))
theorem deed_law {s : DSt} {m : Nat} {l : List Nat} {d : Tx} {ch : List (Nat × Tx)} {C C' : Tx → Option Tx} (hm : Mnt n files F sp s) (dk : Dk s m) (hn : 7 + files < n) (hn2 : n ≤ 4096) (hl : ∀ i ∈ l, 7 + files ≤ i ∧ i < n) (hchl : ch.length ≤ 3) (hci : ∀ c ∈ ch, c.1 < files ∧ c.2.length ≤ 512)
 (h0 : ∀ sub, List.Sublist sub (chunksE l d) → FInv n files F sp (applyA sub s.lasts) ∧ ∀ b, contF (applyA sub s.lasts) (7 + files) F b = C b)
 (h1 : FInv n files F' sp' (applyA (setlC (spB (n - (7 + files)) sp') ch) (applyA (chunksE l d) s.lasts)) ∧ ∀ b, contF (applyA (setlC (spB (n - (7 + files)) sp') ch) (applyA (chunksE l d) s.lasts)) (7 + files) F' b = C' b) :
 DeedP n files F F' sp sp' C C' s (opS s ((2 + files : Nat) : Int) 5 l d (spB (n - (7 + files)) sp') ch) := by
 have hbl : (spB (n - (7 + files)) sp').length ≤ 512 := by rw [spB_len]; omega
 have htame : Tame (2 + files) 5 n (setlC (spB (n - (7 + files)) sp') ch) := by
  refine ⟨⟨⟨by omega, by omega, by omega, hn2⟩, by unfold setlC; rw [List.length_cons, List.length_map]; omega⟩, fun c hc => ?_⟩
  rcases List.mem_cons.1 hc with rfl | hc
  · exact ⟨.inl ⟨by show (0 : Int) ≤ 1; omega, by show (1 : Int) < _; omega⟩, hbl⟩
  · obtain ⟨y, hy, rfl⟩ := List.mem_map.1 hc
    obtain ⟨g1, g2⟩ := hci y hy
    exact ⟨.inl ⟨by show (0 : Int) ≤ ((2 + y.1 : Nat) : Int); omega, by show ((2 + y.1 : Nat) : Int) < _; omega⟩, g2⟩
 have hdk : Dk (opS s ((2 + files : Nat) : Int) 5 l d (spB (n - (7 + files)) sp') ch).1 (m + l.length + 1 + 300) := by
  have hlay : Dk (layS s l d).1 (m + l.length + 1) := by
   unfold layS
   split
   · exact dk.mono Z.W
   · have := (make_dk (x := chunksE l d) dk).1; rw [chunks_len] at this; exact this
  unfold opS thenE
  split
  · exact hlay.mono Z.W
  · exact (commit_dk hlay Z.W _).1
 obtain ⟨p, hp⟩ : ∃ p, p = opS s ((2 + files : Nat) : Int) 5 l d (spB (n - (7 + files)) sp') ch := ⟨_, rfl⟩
 obtain ⟨a1, a2⟩ := op_law (d := d) hm.cl (fun i hi => by have := hl i hi; omega) htame
 have e5 : ((5 : Nat) : Int) = 5 := rfl
 rw [e5] at a1 a2
 rw [← hp] at a1 a2 hdk ⊢
 refine ⟨a1, ?_⟩
 rcases a2 with ⟨b1, b2, b3, b4⟩ | ⟨b0, b1, b2, b3⟩
 · obtain ⟨c1, c2⟩ := h1.1.sta b3 hdk.w.lasts
   exact .inl ⟨b1, ⟨c1, b2, a1, b3.len, b3.zero⟩, fun b => (c2 b).trans (h1.2 b), b4⟩
 · refine .inr ⟨b0, b1, b2, fun t ht => ?_⟩
   have hlast : t.lasts = p.1.lasts := by rw [ht]; rfl
   have hdt : Dk t (m + l.length + 1 + 300) := by rw [ht]; exact ⟨hdk.ok.on, hdk.w.on⟩
   obtain ⟨k1, k2, k3, k4, k5⟩ := remount_law (t := t) (by rw [ht]; rfl) (by rw [ht]; exact a1) (by rw [ht]; rfl) htame (by unfold setlC; exact List.cons_ne_nil _ _) hm.cl.len (by rw [hlast]; exact b3)
   rw [e5] at k1 k2 k3 k4 k5
   have hw : ∀ y ∈ (openE t ((2 + files : Nat) : Int) 5).1.lasts, y.length = 512 := (open_dk hdt _ _).1.w.lasts
   refine ⟨k1, k4, ?_⟩
   rcases k5 with ⟨sub, q1, q2⟩ | q2
   · obtain ⟨r1, r2⟩ := h0 sub q1
     obtain ⟨c1, c2⟩ := r1.sta q2 hw
     exact .inl ⟨⟨c1, k2, k3, q2.len, q2.zero⟩, fun b => (c2 b).trans (r2 b)⟩
   · obtain ⟨c1, c2⟩ := h1.1.sta q2 hw
     exact .inr ⟨⟨c1, k2, k3, q2.len, q2.zero⟩, fun b => (c2 b).trans (h1.2 b)⟩
end
end Go.Proofs.YtckokhdjeifomaaGreatDoor
namespace Go.Proofs.YtckokhdjeifomaaGreatDoor
open Go Go.SL
/-- What a store's map says of a file: its entry, its size, the slice of its extents, these. -/
abbrev MI := Nat × Nat × Value × List Ext
abbrev miV (q : MI) : Value := inoV q.1 q.2.1 q.2.2.1
def miI (q : MI) : Ino := ⟨q.1, q.2.1, q.2.2.2⟩
def fsOf (m : GoMap Tx MI) : FS := fun b => (m.get b).map miI
def allM (m : GoMap Tx MI) : RO := fun w => ∀ b q, m.get b = some q → SlE encX q.2.2.1 q.2.2.2 w
abbrev stCs (d l mb un files : Nat) (sp : Nat → Bool) (off : Bool) : List Value := [dp d, dp l, .int .i64 (un : Int), vs (spB un sp), .map (some mb), .int .i64 (files : Int), .bool off]
abbrev stRow (s d l mb un files : Nat) (sp : Nat → Bool) (off : Bool) : Own := rowC s 65 (stCs d l mb un files sp off)
abbrev stO (s d l mb un files : Nat) (sp : Nat → Bool) (off : Bool) (m : GoMap Tx MI) (V : DV) (D : DSt) (O : List Own) : List Own := dO d V D (stRow s d l mb un files sp off :: mapC vs miV mb m :: O)
def secI (l : List Nat) : List Int := l.map fun (i : Nat) => (i : Int)
theorem secI_len (l : List Nat) : (secI l).length = l.length := by unfold secI; rw [List.length_map]
theorem secI_get {l : List Nat} {j : Nat} (h : j < l.length) : (secI l)[j]? = some ((l[j]! : Nat) : Int) := by
 unfold secI; rw [List.getElem?_map, get!_of_lt h]; rfl
theorem sec_take {da j : Nat} {xs : List Ext} (h : j < xs.length) : secI (secE da (xs.take (j + 1))) = secI (secE da (xs.take j)) ++ (List.range xs[j]!.2).map (fun i => ((da + xs[j]!.1 + i : Nat) : Int)) := by
 rw [List.take_add_one, get!_of_lt h, sec_app]
 unfold secI
 rw [List.map_append]
 congr 1
 show (secE da [xs[j]!]).map _ = _
 unfold secE unitsE
 simp [Nat.add_assoc]
section
variable {R : List RO} {O : List Own} {POST : Value → List RO → List Own → Prop}
set_option maxRecDepth 20000 in
set_option maxHeartbeats 2000000 in
theorem sectors_spec {s files : Nat} {cs : List Value} {xs : List Ext} {xv : Value} (hx : SlE encX xv xs ∈ R) (hO : rowC s 65 cs ∈ O) (hcs : cs[5]? = some (.int .i64 (files : Int))) (hf : files ≤ 5000) (hxl : xs.length ≤ 1000) (hxs : ∀ x ∈ xs, x.1 + x.2 ≤ 4096)
 (hk : ∀ v, POST v (SlE (SL.one vi) v (secI (secE (7 + files) xs)) :: R) O) : Fun Tryz.prog 40 #[dp s, xv] R O POST := by
 refine Fun.turn ?_
 have hsl : ∀ j, sumX (xs.take j) ≤ 4096 * j := fun j => by
  induction j with
  | zero => exact Nat.zero_le _
  | succ j ih =>
    rcases Nat.lt_or_ge j xs.length with h | h
    · have := hxs _ (get!_mem h)
      rw [sum_take h]; omega
    · rw [List.take_of_length_le Z.W] at ih ⊢; omega
 refine Fun.enter (l := [_, _]) Tryz.func40 rfl Tryz.ntmps40 rfl (L0 := [(0, _), (1, _)]) rfl ?_
 refine WC.seq ?_
 refine WC.region ?_
 refine WL.rd rfl rfl rfl (Rd.assign rfl rfl) ?_
 refine WL.nil ?_
 refine thenQ.normal ?_
 refine WC.seq ?_
 refine WC.region ?_
 refine WL.rd rfl rfl rfl (Rd.assign rfl rfl) ?_
 refine WL.heap (fun w h => h.accNil (α := Int) (e := 3) (size := 1) (enc := SL.one vi)) ?_
 refine WL.nil ?_
 refine thenQ.normal ?_
 refine WC.seq ?_
 refine WC.seq ?_
 refine WC.region ?_
 refine WL.rd rfl rfl rfl (Rd.move rfl rfl) ?_
 refine WL.rd rfl rfl rfl (Rd.lenE (enc := encX) (xs := xs) rfl rfl Tryz.underlying77 Z.M) ?_
 refine WL.rd rfl rfl rfl (Rd.move rfl rfl) ?_
 refine WL.nil ?_
 refine thenQ.normal ?_
 refine WC.block ?_
 refine WC.pick [11, 5, 0, 9, 10] Z.P ?_
 refine WC.loop2 2 (fun (j : Nat) (v : Value) => [(11, .int .i64 (j : Int)), (5, v)]) (fun (j : Nat) (v : Value) => accC 3 1 (SL.one vi) v (secI (secE (7 + files) (xs.take j))) :: O) (fun (j : Nat) (v : Value) => j ≤ xs.length ∧ OneV v) (fun (j : Nat) (v : Value) => xs.length - j) (0) (.slice none 0 0) Z.L ?hinv1 (by repeat (first | exact Sub.nil | refine Sub.cons rfl (by rfl) ?_)) (fun w h => by rw [show secI (secE (7 + files) (xs.take 0)) = [] from rfl]; exact h) ?_
 case hinv1 =>
  exact ⟨Nat.zero_le _, OneV.sl⟩
 intro j v
 rintro ⟨j1, j2⟩
 refine WC.seq ?_
 refine WC.region ?_
 refine WL.rd rfl rfl rfl (Rd.lss rfl rfl rfl) ?_
 refine WL.nil ?_
 refine thenQ.normal ?_
 refine WC.seq ?_
 refine WC.ite rfl (fun hc1 => ?_) (fun hc1 => ?_)
 ·
  have hnx := sec_take (da := 7 + files) (xs := xs) (j := j) Z.W
  have hok := hxs _ (get!_mem (l := xs) (i := j) Z.W)
  have hlj : (secI (secE (7 + files) (xs.take j))).length ≤ 4096 * 1000 := by rw [secI_len, sec_len]; have := hsl j; omega
  obtain ⟨⟨a, k⟩, hak⟩ : ∃ q, q = xs[j]! := ⟨_, rfl⟩
  rw [← hak] at hnx hok
  have hok2 : a + k ≤ 4096 := hok
  refine WC.skip ?_
  refine thenQ.normal ?_
  refine WC.seq ?_
  refine WC.block ?_
  refine WC.seq ?_
  refine WC.region ?_
  refine WL.rd rfl rfl rfl (Rd.idx (enc := encX) (xs := xs) (k := j) rfl S77 rfl rfl rfl hx Z.W) ?_
  refine WL.rd rfl rfl rfl (Rd.getS (enc := encX) (xs := xs) (k := j) (a := (a, k)) (cs := [.int .i64 (a : Int), .int .i64 (k : Int)]) rfl G120 rfl hx (fun _ => rfl) (by rw [hak]; exact get!_of_lt Z.W) Z.N) ?_
  refine WL.op rfl ?_
  refine OpW.alloc rfl I120 rfl Z.N rfl rfl ?_; intro b7
  refine WL.op rfl ?_
  refine OpW.storeS rfl G120 rfl rfl Z.N Z.T rfl rfl Z.N rfl ?_
  refine WL.nil ?_
  refine thenQ.normal ?_
  refine WC.seq ?_
  refine WC.region ?_
  refine WL.rd rfl rfl rfl ((by exact Rd.field rfl F120_1 rfl rfl)) ?_
  refine WL.rd rfl rfl rfl ((by exact Rd.row1 rfl C3 rfl Z.M (by rfl))) ?_
  refine WL.rd rfl rfl rfl (Rd.move rfl rfl) ?_
  refine WL.nil ?_
  refine thenQ.normal ?_
  refine WC.block ?_
  refine WC.pick [17, 5, 0, 7, 9, 10, 11, 16] Z.P ?_
  refine WC.loop2 2 (fun (i : Nat) (u : Value) => [(17, .int .i64 (i : Int)), (5, u)]) (fun (i : Nat) (u : Value) => accC 3 1 (SL.one vi) u (secI (secE (7 + files) (xs.take j)) ++ (List.range i).map (fun i => ((7 + files + a + i : Nat) : Int))) :: rowC b7 120 [.int .i64 (a : Int), .int .i64 (k : Int)] :: O) (fun (i : Nat) (u : Value) => i ≤ k ∧ OneV u) (fun (i : Nat) (u : Value) => k - i) (0) (v) Z.L ?hinv2 (by repeat (first | exact Sub.nil | refine Sub.cons rfl (by rfl) ?_)) (fun w h => by rw [List.range_zero, List.map_nil, List.append_nil]; exact Z.Fw h) ?_
  case hinv2 =>
   exact ⟨Nat.zero_le _, j2⟩
  intro i u
  rintro ⟨i1, i2⟩
  refine WC.seq ?_
  refine WC.region ?_
  refine WL.rd rfl rfl rfl (Rd.lss rfl rfl rfl) ?_
  refine WL.nil ?_
  refine thenQ.normal ?_
  refine WC.seq ?_
  refine WC.ite rfl (fun hc2 => ?_) (fun hc2 => ?_)
  ·
   have hri : (List.range i).length = i := List.length_range
   refine WC.skip ?_
   refine thenQ.normal ?_
   refine WC.seq ?_
   refine WC.block ?_
   refine WC.seq ?_
   refine WC.region ?_
   refine WL.rd rfl rfl rfl (Rd.move rfl rfl) ?_
   refine WL.rd rfl rfl rfl (Rd.assign rfl rfl) ?_
   refine WL.nil ?_
   refine thenQ.normal ?_
   refine WC.drawn (rowC b7 120 [.int .i64 (a : Int), .int .i64 (k : Int)] :: O) 14 rfl mixed ?_
   refine WD.take 0 rfl Z.K Z.H rfl rfl rfl (Rd.move rfl rfl) ?_
   refine WD.take 1 rfl Z.K Z.H rfl rfl rfl (Rd.move rfl rfl) ?_
   refine WD.take 2 rfl Z.K Z.H rfl rfl rfl (Rd.nilc rfl rfl) ?_
   refine WD.take 3 rfl Z.K Z.H rfl rfl rfl ((by exact Rd.field rfl F65_4 rfl rfl)) ?_
   refine WD.take 4 rfl Z.K Z.H rfl rfl rfl (Rd.row1 (off := 5) (u := .int .i64 (files : Int)) rfl C3 rfl (by repeat (first | exact hO | refine List.mem_cons_of_mem _ ?_)) hcs) ?_
   refine WD.take 6 rfl Z.K Z.H rfl rfl rfl ((by exact Rd.field rfl F120_0 rfl rfl)) ?_
   refine WD.take 7 rfl Z.K Z.H rfl rfl rfl ((by exact Rd.row1 rfl C3 rfl Z.M (by rfl))) ?_
   refine WD.take 9 rfl Z.K Z.H rfl rfl rfl (Rd.move rfl rfl) ?_
   refine WD.one 5 rfl Z.K rfl ?_
   refine OpW.call rfl rfl Z.E Z.K rfl rfl rfl ?_
   refine dataAt_spec hf ?_
   refine ⟨Z.H, ?_⟩
   refine WD.take 8 rfl Z.K Z.H rfl rfl rfl (Rd.add rfl rfl rfl Z.W) ?_
   refine WD.take 10 rfl Z.K Z.H rfl rfl rfl (Rd.add rfl rfl rfl Z.W) ?_
   refine WD.say 30 (u := .int .i64 ((7 + files + a + i : Nat) : Int)) rfl (by rfl) ?_
   refine WD.one 11 rfl Z.K rfl ?_
   refine OpW.buildSl (ps := [(0, _)]) rfl S23 Z.E rfl rfl Z.C Z.K rfl rfl rfl ?_; intro b31
   refine ⟨Z.H, ?_⟩
   refine WD.one 12 rfl Z.K rfl ?_
   refine OpW.appendRow (enc := SL.one vi) rfl S23 rfl rfl Z.T Z.T [((7 + files + a + i : Nat) : Int)] rfl (by rfl) rfl (by intro x; rfl) (by intro x; rfl) (by exact ⟨by simp only [maxLen, List.length_append, List.length_nil, List.length_cons, List.length_drop, List.length_take, List.length_map]; omega, by (simp only [List.length_append, List.length_nil, List.length_cons, List.length_drop, List.length_take, List.length_map]; omega)⟩) rfl rfl ?_; intro v32 hv32
   refine ⟨Z.H, ?_⟩
   refine WD.take 13 rfl Z.K Z.H rfl rfl rfl (Rd.assign rfl rfl) ?_
   refine WD.heap (fun w h => h.accNil (α := Int) (e := 3) (size := 1) (enc := SL.one vi)) ?_
   refine WD.done Z.K ?_
   refine blockQ.normal ?_
   refine thenQ.normal ?_
   refine WC.region ?_
   refine WL.rd rfl rfl rfl (Rd.add rfl rfl rfl Z.W) ?_
   refine WL.rd rfl rfl rfl (Rd.move rfl rfl) ?_
   refine WL.nil ?_
   exact loopQ2.mk (i + 1) v32 ⟨by omega, hv32⟩ Z.W (by repeat (first | exact Sub.nil | refine Sub.cons rfl (by rfl) ?_)) (fun w h => by rw [List.range_succ, List.map_append, ← List.append_assoc]; exact Z.Fw h)
  ·
   obtain rfl : i = k := by omega
   refine WC.exit ?_
   refine thenQ.exit ?_
   refine loopQ2.exit ?_
   refine blockQ.exit ?_
   refine blockQ.normal ?_
   refine thenQ.normal ?_
   refine WC.region ?_
   refine WL.rd rfl rfl rfl (Rd.add rfl rfl rfl Z.W) ?_
   refine WL.rd rfl rfl rfl (Rd.move rfl rfl) ?_
   refine WL.nil ?_
   exact loopQ2.mk (j + 1) u ⟨by omega, i2⟩ Z.W (by repeat (first | exact Sub.nil | refine Sub.cons rfl (by rfl) ?_)) (fun w h => by rw [hnx]; exact Z.Fw h)
 ·
  obtain rfl : j = xs.length := by omega
  rw [List.take_length]
  refine WC.heap (fun w h => Sat.shareA (e := 3) (size := 1) (enc := SL.one vi) (xs := secI (secE (7 + files) xs)) (v := v) Z.T h) ?_
  refine WC.exit ?_
  refine thenQ.exit ?_
  refine loopQ2.exit ?_
  refine blockQ.exit ?_
  refine thenQ.normal ?_
  refine WC.seq ?_
  refine WC.region ?_
  refine WL.rd rfl rfl rfl (Rd.move rfl rfl) ?_
  refine WL.rd rfl rfl rfl (Rd.assign rfl rfl) ?_
  refine WL.nil ?_
  refine thenQ.normal ?_
  refine WC.ret (Ret.one Tryz.results40 rfl ?_)
  exact ⟨_, _, hk v, Z.F⟩
end
end Go.Proofs.YtckokhdjeifomaaGreatDoor
