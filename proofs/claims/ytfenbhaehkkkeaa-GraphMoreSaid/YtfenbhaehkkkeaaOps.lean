/-
  The rules of the single operations, of regions that draw their order, and of calls and returns, over the judgements of the Sl text. No program is in sight.
-/
import Derived.Test.YtfenbhaehkkkeaaSl
import Derived.RangeFuncRecord
import Derived.StillTail
import Derived.Laws.Strings
import Derived.Laws.Slices
import Derived.Laws.Entries
import Derived.Laws.Small
import Derived.Laws.StructEq
import Derived.KernelRfl
namespace Go.SL
open Go

/-! ### regions that draw their order -/
section draw
variable {P : Program} {n : Sz} {ops : Array Oper} {Q : Post} {rest : List Oper} {o : Oper} {L : Env} {R : List RO} {O : List Own}

/-- The first k operations only read (in whatever order they come up); what stands behind them comes in the text's order. -/
def WS (P : Program) (n : Sz) (ops : Array Oper) (Q : Post) (k : Nat) (rest : List Oper) (L : Env) (R : List RO) (O : List Own) : Prop :=
  ∀ a w, Fr n L a → Sat R O w → wpStill P ops w (fun a' => wpList P ops (lift n Q) (rest.drop k) a' w) (rest.take k) a
theorem WC.tail {id : Nat} {l : List Oper} (k : Nat) (hm : P.follows .mixedOrders = true) (hB : Region.lexTailB .any l.toArray k = true) (h : WS P n l.toArray Q k l L R O) : WC P n (.region id l.toArray true) Q L R O :=
  fun a w hf hs => wp_region_still_tail k hm hB (h a _ hf (hs.drew _))
theorem WS.switch (h : WL P n ops Q rest L R O) : WS P n ops Q 0 rest L R O := fun a w hf hs => h a w hf hs
theorem still_of {a : Act} {w : World} {v : Value} {next : Act → Prop} (hr : (execOp a.eval o).run P w = .ok (.value v) w) (h : next (a.put o.dst v)) : o.still P a w next := by
  unfold Oper.still; rw [hr]; exact ⟨rfl, h⟩
theorem WS.rd {k d : Nat} {v : Value} (hg : o.guard = none) (hd : o.dst = some d) (hn : Nat.blt d n.n = true) (h : Rd P o L R O v) (c : WS P n ops Q k rest ((d, v) :: L) R O) : WS P n ops Q (k + 1) (o :: rest) L R O := by
  intro a w hf hs
  show wpStill P ops w _ (o :: rest.take k) a
  unfold wpStill
  rw [if_pos (by simp [Region.wanted, hg])]
  refine still_of (h a.eval w (fun x u hx => hf.ev hx) (fun p hp => hs.read hp) (fun c hc => hs.see hc)) ?_
  rw [hd]; exact c _ _ (hf.put hn v) hs
theorem WS.rd_yes {k j d e : Nat} {b : Bool} {v : Value} (hg : o.guard = some (j, b)) (hj : (ops[j]?).bind (·.dst) = some e) (hne : Nat.blt e n.n = true) (hb : Env.find L e = some (.bool b))
    (hd : o.dst = some d) (hn : Nat.blt d n.n = true) (h : Rd P o L R O v) (c : WS P n ops Q k rest ((d, v) :: L) R O) : WS P n ops Q (k + 1) (o :: rest) L R O := by
  intro a w hf hs
  show wpStill P ops w _ (o :: rest.take k) a
  unfold wpStill
  rw [if_pos (by rw [wanted_of hf hg hj hne hb]; simp)]
  refine still_of (h a.eval w (fun x u hx => hf.ev hx) (fun p hp => hs.read hp) (fun c hc => hs.see hc)) ?_
  rw [hd]; exact c _ _ (hf.put hn v) hs
theorem WS.no {k j d e : Nat} {b : Bool} (hg : o.guard = some (j, b)) (hj : (ops[j]?).bind (·.dst) = some e) (hne : Nat.blt e n.n = true) (hb : Env.find L e = some (.bool (!b)))
    (hd : o.dst = some d) (hn : Nat.blt d n.n = true) (c : WS P n ops Q k rest ((d, undef) :: L) R O) : WS P n ops Q (k + 1) (o :: rest) L R O := by
  intro a w hf hs
  show wpStill P ops w _ (o :: rest.take k) a
  unfold wpStill
  rw [if_neg (by rw [wanted_of hf hg hj hne hb]; cases b <;> simp), hd]
  exact c _ _ (hf.put hn _) hs
theorem WS.noU {k j d e : Nat} {b : Bool} (hg : o.guard = some (j, b)) (hj : (ops[j]?).bind (·.dst) = some e) (hne : Nat.blt e n.n = true) (hb : Env.find L e = some undef)
    (hd : o.dst = some d) (hn : Nat.blt d n.n = true) (c : WS P n ops Q k rest ((d, undef) :: L) R O) : WS P n ops Q (k + 1) (o :: rest) L R O := by
  intro a w hf hs
  show wpStill P ops w _ (o :: rest.take k) a
  unfold wpStill
  rw [if_neg (by rw [wantedU hf hg hj hne hb]; simp), hd]
  exact c _ _ (hf.put hn _) hs
theorem WS.case {k : Nat} (t : Nat) {p : Prop} [Decidable p] (ht : Env.find L t = some (.bool (decide p))) (hy : p → WS P n ops Q k rest ((t, .bool true) :: L) R O) (hno : ¬ p → WS P n ops Q k rest ((t, .bool false) :: L) R O) : WS P n ops Q k rest L R O := by
  intro a w hf hs
  by_cases h : p
  · exact hy h a w (hf.known ht (by simp [h])) hs
  · exact hno h a w (hf.known ht (by simp [h])) hs
theorem WS.say {k : Nat} (t : Nat) {v u : Value} (ht : Env.find L t = some v) (e : v = u) (c : WS P n ops Q k rest ((t, u) :: L) R O) : WS P n ops Q k rest L R O :=
  fun a w hf hs => c a w (hf.known ht e) hs

theorem WS.heap {k : Nat} {R' : List RO} {O' : List Own} (hs : ∀ w, Sat R O w → Sat R' O' w) (c : WS P n ops Q k rest L R' O') : WS P n ops Q k rest L R O := fun a w hf h => c a w hf (hs w h)

/-- A region of readers alone. -/
def WA (P : Program) (n : Sz) (ops : Array Oper) (Q : Post) (rest : List Oper) (L : Env) (R : List RO) (O : List Own) : Prop :=
  ∀ a w, Fr n L a → Sat R O w → wpStill P ops w (fun a' => lift n Q .normal a' w) rest a
theorem WC.still {id : Nat} {l : List Oper} (hm : P.follows .mixedOrders = true) (hB : Region.lexB .any l.toArray = true) (h : WA P n l.toArray Q l L R O) : WC P n (.region id l.toArray true) Q L R O :=
  fun a w hf hs => wp_region_still_lit hm hB (h a _ hf (hs.drew _))
theorem WA.nil (h : Q .normal L R O) : WA P n ops Q [] L R O := fun _ _ hf hs => wpStill_nil (lift_normal h hf hs)
theorem WA.rd {d : Nat} {v : Value} (hg : o.guard = none) (hd : o.dst = some d) (hn : Nat.blt d n.n = true) (h : Rd P o L R O v) (c : WA P n ops Q rest ((d, v) :: L) R O) : WA P n ops Q (o :: rest) L R O := by
  intro a w hf hs
  unfold wpStill
  rw [if_pos (by simp [Region.wanted, hg])]
  refine still_of (h a.eval w (fun x u hx => hf.ev hx) (fun p hp => hs.read hp) (fun c hc => hs.see hc)) ?_
  rw [hd]; exact c _ _ (hf.put hn v) hs
theorem WA.rd_yes {j d e : Nat} {b : Bool} {v : Value} (hg : o.guard = some (j, b)) (hj : (ops[j]?).bind (·.dst) = some e) (hne : Nat.blt e n.n = true) (hb : Env.find L e = some (.bool b))
    (hd : o.dst = some d) (hn : Nat.blt d n.n = true) (h : Rd P o L R O v) (c : WA P n ops Q rest ((d, v) :: L) R O) : WA P n ops Q (o :: rest) L R O := by
  intro a w hf hs
  unfold wpStill
  rw [if_pos (by rw [wanted_of hf hg hj hne hb]; simp)]
  refine still_of (h a.eval w (fun x u hx => hf.ev hx) (fun p hp => hs.read hp) (fun c hc => hs.see hc)) ?_
  rw [hd]; exact c _ _ (hf.put hn v) hs
theorem WA.no {j d e : Nat} {b : Bool} (hg : o.guard = some (j, b)) (hj : (ops[j]?).bind (·.dst) = some e) (hne : Nat.blt e n.n = true) (hb : Env.find L e = some (.bool (!b)))
    (hd : o.dst = some d) (hn : Nat.blt d n.n = true) (c : WA P n ops Q rest ((d, undef) :: L) R O) : WA P n ops Q (o :: rest) L R O := by
  intro a w hf hs
  unfold wpStill
  rw [if_neg (by rw [wanted_of hf hg hj hne hb]; cases b <;> simp), hd]
  exact c _ _ (hf.put hn _) hs
theorem WA.noU {j d e : Nat} {b : Bool} (hg : o.guard = some (j, b)) (hj : (ops[j]?).bind (·.dst) = some e) (hne : Nat.blt e n.n = true) (hb : Env.find L e = some undef)
    (hd : o.dst = some d) (hn : Nat.blt d n.n = true) (c : WA P n ops Q rest ((d, undef) :: L) R O) : WA P n ops Q (o :: rest) L R O := by
  intro a w hf hs
  unfold wpStill
  rw [if_neg (by rw [wantedU hf hg hj hne hb]; simp), hd]
  exact c _ _ (hf.put hn _) hs
theorem WA.case (t : Nat) {p : Prop} [Decidable p] (ht : Env.find L t = some (.bool (decide p))) (hy : p → WA P n ops Q rest ((t, .bool true) :: L) R O) (hno : ¬ p → WA P n ops Q rest ((t, .bool false) :: L) R O) : WA P n ops Q rest L R O := by
  intro a w hf hs
  by_cases h : p
  · exact hy h a w (hf.known ht (by simp [h])) hs
  · exact hno h a w (hf.known ht (by simp [h])) hs
theorem WA.say (t : Nat) {v u : Value} (ht : Env.find L t = some v) (e : v = u) (c : WA P n ops Q rest ((t, u) :: L) R O) : WA P n ops Q rest L R O :=
  fun a w hf hs => c a w (hf.known ht e) hs

theorem WA.heap {R' : List RO} {O' : List Own} (hs : ∀ w, Sat R O w → Sat R' O' w) (c : WA P n ops Q rest L R' O') : WA P n ops Q rest L R O := fun a w hf h => c a w hf (hs w h)

/-- Whatever the region: an operation that only reads (what nobody in the region writes) may be taken first. -/
def takeOk (ops : Array Oper) (listed : Array Bool) (i : Nat) : Bool := Region.noSelect ops && Region.free .any ops listed i && (Region.ready .any ops listed).contains i
variable {S : List RO} {T : List Own} {fuel : Nat} {listed : Array Bool}
/-- What the readers of the region lean on is still there. -/
def Held (S : List RO) (T : List Own) (R : List RO) (O : List Own) : Prop := ∀ w, Sat R O w → (∀ p ∈ S, p w) ∧ ∀ c ∈ T, c.pred w
theorem Held.mk' (hS : SubL S R) (hT : OwnL O T) : Held S T R O := fun _ h => ⟨fun p hp => h.read (hS.mem p hp), fun c hc => h.see (hT.mem.1 c hc)⟩
theorem Held.all : Held R O R O := fun _ h => ⟨fun _ hp => h.read hp, fun _ hc => h.see hc⟩
/-- What is read is said otherwise than it is owned. -/
theorem Held.see {c d : Own} {O' T' : List Own} (hS : SubL S R) (hT : Take c O O') (hd : ∀ w, c.pred w → d.pred w) (hO : OwnL O' T') : Held S (d :: T') R O := fun w h => by
  have h' := h.perm hT.perm
  refine ⟨fun p hp => h.read (hS.mem p hp), fun x hx => ?_⟩
  rcases List.mem_cons.1 hx with rfl | hx
  · exact hd w (h'.see List.mem_cons_self)
  · exact h'.see (List.mem_cons_of_mem _ (hO.mem.1 x hx))
theorem take_aux {i : Nat} {v : Value} {dst : Option Nat} {L' : Env} (hi : ops[i]? = some o) (hok : takeOk ops listed i = true) (hS : Held S T R O) (hd : o.dst = dst) (hL : ∀ a, Fr n L a → Fr n L' (a.put dst v))
    (hy : ∀ a, Fr n L a → YieldsIf P ops (fun w => (∀ p ∈ S, p w) ∧ ∀ c ∈ T, c.pred w) o v a) (k : WD P n ops Q S T fuel (listed.setIfInBounds i true) L' R O) : WD P n ops Q S T (fuel + 1) listed L R O := by
  intro a w hf hs
  simp only [takeOk, Bool.and_eq_true] at hok
  refine wpAnyH_take hi hok.1.1 hok.1.2 hok.2 (fun c a w h => h) (hy a hf) (hS w hs) ?_
  rw [hd]
  exact k _ _ (hL a hf) hs
theorem WD.take (i : Nat) {d : Nat} {v : Value} (hi : ops[i]? = some o) (hok : takeOk ops listed i = true) (hS : Held S T R O) (hg : o.guard = none) (hd : o.dst = some d) (hn : Nat.blt d n.n = true) (h : Rd P o L S T v)
    (k : WD P n ops Q S T fuel (listed.setIfInBounds i true) ((d, v) :: L) R O) : WD P n ops Q S T (fuel + 1) listed L R O :=
  take_aux hi hok hS hd (fun _ hf => hf.put hn v) (fun a hf => .inl ⟨by simp [Region.wanted, hg], fun w hw => h a.eval w (fun x u hx => hf.ev hx) hw.1 hw.2⟩) k
theorem WD.take_yes (i : Nat) {d j e : Nat} {b : Bool} {v : Value} (hi : ops[i]? = some o) (hok : takeOk ops listed i = true) (hS : Held S T R O) (hg : o.guard = some (j, b)) (hj : (ops[j]?).bind (·.dst) = some e) (hne : Nat.blt e n.n = true) (hb : Env.find L e = some (.bool b)) (hd : o.dst = some d) (hn : Nat.blt d n.n = true) (h : Rd P o L S T v)
    (k : WD P n ops Q S T fuel (listed.setIfInBounds i true) ((d, v) :: L) R O) : WD P n ops Q S T (fuel + 1) listed L R O :=
  take_aux hi hok hS hd (fun _ hf => hf.put hn v) (fun a hf => .inl ⟨by rw [wanted_of hf hg hj hne hb]; simp, fun w hw => h a.eval w (fun x u hx => hf.ev hx) hw.1 hw.2⟩) k
theorem WD.take_no (i : Nat) {d j e : Nat} {b : Bool} (hi : ops[i]? = some o) (hok : takeOk ops listed i = true) (hS : Held S T R O) (hg : o.guard = some (j, b)) (hj : (ops[j]?).bind (·.dst) = some e) (hne : Nat.blt e n.n = true) (hb : Env.find L e = some (.bool (!b))) (hd : o.dst = some d) (hn : Nat.blt d n.n = true)
    (k : WD P n ops Q S T fuel (listed.setIfInBounds i true) ((d, undef) :: L) R O) : WD P n ops Q S T (fuel + 1) listed L R O :=
  take_aux hi hok hS hd (fun _ hf => hf.put hn undef) (fun a hf => .inr ⟨by rw [wanted_of hf hg hj hne hb]; cases b <;> simp, rfl⟩) k
theorem WD.take_noU (i : Nat) {d j e : Nat} {b : Bool} (hi : ops[i]? = some o) (hok : takeOk ops listed i = true) (hS : Held S T R O) (hg : o.guard = some (j, b)) (hj : (ops[j]?).bind (·.dst) = some e) (hne : Nat.blt e n.n = true) (hb : Env.find L e = some undef) (hd : o.dst = some d) (hn : Nat.blt d n.n = true)
    (k : WD P n ops Q S T fuel (listed.setIfInBounds i true) ((d, undef) :: L) R O) : WD P n ops Q S T (fuel + 1) listed L R O :=
  take_aux hi hok hS hd (fun _ hf => hf.put hn undef) (fun a hf => .inr ⟨wantedU hf hg hj hne hb, rfl⟩) k
/-- The only operation that may come up now. -/
theorem WD.one (i : Nat) (hi : ops[i]? = some o) (hr : Region.ready .any ops listed = [i]) (hg : o.guard = none)
    (h : OpW P n o L R O (fun L' R' O' => Held S T R' O' ∧ WD P n ops Q S T fuel (listed.setIfInBounds i true) L' R' O')) : WD P n ops Q S T (fuel + 1) listed L R O := by
  intro a w hf hs
  refine wpAnyH_all hr (by simp) fun j hj => ?_
  simp only [List.mem_singleton] at hj
  subst hj
  unfold wpOp
  rw [hi]
  simp only [Region.wanted, hg, if_true]
  exact .inl (Oper.wp_mono (fun a' w' ⟨L', R', O', hk, hf', hs'⟩ => ⟨hk.1 w' hs', hk.2 a' w' hf' hs'⟩) (h a w hf hs _))
/-- Two operations may come up now. -/
theorem WD.two {o2 : Oper} (i j : Nat) (hi : ops[i]? = some o) (hj : ops[j]? = some o2) (hr : Region.ready .any ops listed = [i, j]) (hg : o.guard = none) (hg2 : o2.guard = none)
    (h : OpW P n o L R O (fun L' R' O' => Held S T R' O' ∧ WD P n ops Q S T fuel (listed.setIfInBounds i true) L' R' O'))
    (h2 : OpW P n o2 L R O (fun L' R' O' => Held S T R' O' ∧ WD P n ops Q S T fuel (listed.setIfInBounds j true) L' R' O')) : WD P n ops Q S T (fuel + 1) listed L R O := by
  intro a w hf hs
  refine wpAnyH_all hr (by simp) fun x hx => ?_
  simp only [List.mem_cons, List.not_mem_nil, or_false] at hx
  rcases hx with rfl | rfl
  · unfold wpOp
    rw [hi]
    simp only [Region.wanted, hg, if_true]
    exact .inl (Oper.wp_mono (fun a' w' ⟨L', R', O', hk, hf', hs'⟩ => ⟨hk.1 w' hs', hk.2 a' w' hf' hs'⟩) (h a w hf hs _))
  · unfold wpOp
    rw [hj]
    simp only [Region.wanted, hg2, if_true]
    exact .inl (Oper.wp_mono (fun a' w' ⟨L', R', O', hk, hf', hs'⟩ => ⟨hk.1 w' hs', hk.2 a' w' hf' hs'⟩) (h2 a w hf hs _))
/-- The only operation that may come up now, under a test that was said. -/
theorem WD.one_yes (i : Nat) {j e : Nat} {b : Bool} (hi : ops[i]? = some o) (hr : Region.ready .any ops listed = [i]) (hg : o.guard = some (j, b)) (hj : (ops[j]?).bind (·.dst) = some e) (hne : Nat.blt e n.n = true) (hb : Env.find L e = some (.bool b))
    (h : OpW P n o L R O (fun L' R' O' => Held S T R' O' ∧ WD P n ops Q S T fuel (listed.setIfInBounds i true) L' R' O')) : WD P n ops Q S T (fuel + 1) listed L R O := by
  intro a w hf hs
  refine wpAnyH_all hr (by simp) fun x hx => ?_
  simp only [List.mem_singleton] at hx
  subst hx
  unfold wpOp
  rw [hi]
  simp only [wanted_of hf hg hj hne hb, beq_self_eq_true, if_true]
  exact .inl (Oper.wp_mono (fun a' w' ⟨L', R', O', hk, hf', hs'⟩ => ⟨hk.1 w' hs', hk.2 a' w' hf' hs'⟩) (h a w hf hs _))
theorem WD.say (t : Nat) {v u : Value} (ht : Env.find L t = some v) (e : v = u) (k : WD P n ops Q S T fuel listed ((t, u) :: L) R O) : WD P n ops Q S T fuel listed L R O :=
  fun a w hf hs => k a w (hf.known ht e) hs
theorem WD.done (hr : (Region.ready .any ops listed).isEmpty = true) (h : Q .normal L R O) : WD P n ops Q S T fuel listed L R O :=
  fun _ _ hf hs => wpAnyH_done (List.isEmpty_iff.1 hr) (lift_normal h hf hs) fuel
theorem WD.case (t : Nat) {p : Prop} [Decidable p] (ht : Env.find L t = some (.bool (decide p))) (hy : p → WD P n ops Q S T fuel listed ((t, .bool true) :: L) R O) (hno : ¬ p → WD P n ops Q S T fuel listed ((t, .bool false) :: L) R O) : WD P n ops Q S T fuel listed L R O := by
  intro a w hf hs
  by_cases h : p
  · exact hy h a w (hf.known ht (by simp [h])) hs
  · exact hno h a w (hf.known ht (by simp [h])) hs
theorem WD.heap {R' : List RO} {O' : List Own} (hs : ∀ w, Sat R O w → Sat R' O' w) (c : WD P n ops Q S T fuel listed L R' O') : WD P n ops Q S T fuel listed L R O := fun a w hf h => c a w hf (hs w h)
theorem WC.drawn {id : Nat} {l : List Oper} (T : List Own) (m : Nat) (hlen : l.length = m) (hm : P.follows .mixedOrders = true) (h : WD P n l.toArray Q R T m (Array.replicate m false) L R O) : WC P n (.region id l.toArray true) Q L R O := by
  subst hlen
  exact WC.draw R T hm (by simpa using h)
theorem WC.drawnA {id : Nat} {l : List Oper} (m : Nat) (hlen : l.length = m) (hm : P.follows .mixedOrders = true) (h : WD P n l.toArray Q R O m (Array.replicate m false) L R O) : WC P n (.region id l.toArray true) Q L R O := WC.drawn O m hlen hm h
end draw

/-! ### calls and returns -/
section calls
variable {P : Program} {n : Sz} {o : Oper} {L : Env} {R : List RO} {O : List Own} {K : Env → List RO → List Own → Prop}

def Fun (P : Program) (f : FuncId) (args : Array Value) (R : List RO) (O : List Own) (post : Value → List RO → List Own → Prop) : Prop :=
  ∀ w, Sat R O w → Calls P f args w (fun e w' => ∃ v R' O', e = .returned v ∧ post v R' O' ∧ Sat R' O' w')
theorem vb {p q : Prop} [Decidable p] [Decidable q] (h : p ↔ q) : Value.bool (decide p) = Value.bool (decide q) := by rw [decide_eq_decide.2 h]
theorem vb_t {q : Prop} [Decidable q] (h : q) : Value.bool true = Value.bool (decide q) := by rw [decide_eq_true h]
theorem vb_f {q : Prop} [Decidable q] (h : ¬ q) : Value.bool false = Value.bool (decide q) := by rw [decide_eq_false h]
theorem Fun.mono {f : FuncId} {args : Array Value} {post post' : Value → List RO → List Own → Prop} (h : Fun P f args R O post) (hp : ∀ v R O, post v R O → post' v R O) : Fun P f args R O post' :=
  fun w hs => (h w hs).mono fun e w' ⟨v, R', O', he, hk, hs'⟩ => ⟨v, R', O', he, hp _ _ _ hk, hs'⟩
theorem Fun.heap {f : FuncId} {args : Array Value} {post : Value → List RO → List Own → Prop} {R' : List RO} {O' : List Own} (hs : ∀ w, Sat R O w → Sat R' O' w) (h : Fun P f args R' O' post) : Fun P f args R O post :=
  fun w h0 => h w (hs w h0)

def retQ (P : Program) (fn : Func) (n : Sz) (post : Value → List RO → List Own → Prop) : Post
  | .ret, L, R, O => ∃ v, (∀ a w ds, Fr ⟨n.n, ds⟩ L a → (∃ O1, Sat R (O1 ++ O) w) → (results fn a.tmps).run P w = .ok v w) ∧ post v R O
  | .normal, L, R, O => ∃ v, (∀ a w ds, Fr ⟨n.n, ds⟩ L a → (∃ O1, Sat R (O1 ++ O) w) → (results fn a.tmps).run P w = .ok v w) ∧ post v R O
  | _, _, _, _ => False

def argsEnv : List Value → Nat → Env
  | [], _ => []
  | v :: r, k => (k, v) :: argsEnv r (k + 1)
theorem argsEnv_find {l : List Value} : ∀ {k t : Nat} {v : Value}, Env.find (argsEnv l k) t = some v → k ≤ t ∧ l[t - k]? = some v := by
  induction l with
  | nil => intro k t v h; simp [argsEnv, Env.find] at h
  | cons x r ih =>
    intro k t v h
    simp only [argsEnv, Env.find] at h
    by_cases e : k = t
    · subst e
      simp only [Nat.beq_refl, Option.some.injEq] at h
      simp [h]
    · rw [show Nat.beq k t = false from by rw [← Bool.not_eq_true, Nat.beq_eq]; exact e] at h
      obtain ⟨h1, h2⟩ := ih h
      refine ⟨by omega, ?_⟩
      rw [show t - k = (t - (k + 1)) + 1 from by omega]
      simpa using h2
theorem Fin.leaves {f : FuncId} {fn : Func} {n : Nat} {L : Env} {v : Value} {a : Act} {w : World} {R' : List RO} {O' : List Own} {post : Value → List RO → List Own → Prop} (hr : ∀ a w ds, Fr ⟨n, ds⟩ L a → (∃ O1, Sat R' (O1 ++ O') w) → (results fn a.tmps).run P w = .ok v w) (hp : post v R' O')
    (hf : Fr ⟨n, a.defers⟩ L a) (h : Fin a.defers R' O' w) : LeavesInM Fence.wide 0 P fn a.tmps (fun e w' => ∃ v R' O', e = .returned v ∧ post v R' O' ∧ Sat R' O' w') a.defers .returning w := by
  rcases h with ⟨hd, hs⟩ | ⟨D, hd, hs⟩
  · rw [hd]; exact ⟨v, hr a w _ hf ⟨[], hs⟩, v, R', O', rfl, hp, hs⟩
  · rw [hd]
    have hD : w.heap[D]? = some (.deferred (some [])) := hs.own _ List.mem_cons_self w (Agree.refl _ _)
    have hlt : D < w.heap.size := (Array.getElem?_eq_some_iff.1 hD).1
    have hs2 : Sat R' O' (w.putObj D (.deferred none)) := by
      refine (hs.update (w' := w.putObj D (.deferred none)) ⟨[], fun _ => True⟩ ⟨rfl, rfl, rfl, by simp [World.putObj], fun k _ hn => ?_⟩ (fun k hk => by cases hk) (fun k hk => by cases hk) List.nodup_nil (fun _ _ _ => trivial)).drop
      exact World.putObj_heap_other (fun e => hn (by rw [e]; exact List.mem_singleton.2 rfl))
    exact ⟨by simp, .inl ⟨D, _, rfl, run_takeDeferred hD, v, hr a _ _ hf ⟨[], hs2⟩, v, R', O', rfl, hp, hs2⟩⟩
theorem Fun.enter {f : FuncId} {fn : Func} {n : Nat} {c : Code} {l : List Value} {post : Value → List RO → List Own → Prop} (hf : P.funcs[f]? = some fn) (hb : fn.body = some c) (hn : fn.ntmps = n) (hl : Nat.ble l.length n = true) {L0 : Env} (hL : argsEnv l 0 = L0)
    (h : WC P ⟨n, []⟩ c (retQ P fn ⟨n, []⟩ post) L0 R O) : Fun P f l.toArray R O post := by
  intro w hs
  refine (callsIn_wide (n := 0)).1 (callsIn_of_wp_marks hf hb trivial (wpIn_wide.2 ?_))
  have hl' : l.length ≤ n := Nat.le_of_ble_eq_true hl
  refine wp_mono (h _ w ⟨?_, rfl, ?_⟩ hs) fun e a' w' hq => ?_
  · simp [hn]; omega
  · intro t v ht
    rw [← hL] at ht
    obtain ⟨_, h2⟩ := argsEnv_find ht
    simp only [Nat.sub_zero] at h2
    have hlt : t < l.length := (List.getElem?_eq_some_iff.1 h2).1
    simp only [Array.getD_eq_getD_getElem?]
    rw [Array.getElem?_append_left (by simpa using hlt)]
    simp [h2]
  · cases e with
    | normal => obtain ⟨L', R', O', ⟨v, hr, hp⟩, hf', hs'⟩ := hq; exact Fin.leaves (f := f) hr hp hf'.own (.inl ⟨hf'.defers, hs'⟩)
    | ret => obtain ⟨L', R', O', ⟨v, hr, hp⟩, hf', hs'⟩ := hq; exact Fin.leaves (f := f) hr hp hf' hs'
    | exit id => obtain ⟨L', R', O', hk, _⟩ := hq; exact hk.elim
    | goto l => obtain ⟨L', R', O', hk, _⟩ := hq; exact hk.elim
    | panic c => exact hq.elim
    | outgrown => exact hq.elim

section ret
variable {fn : Func} {post : Value → List RO → List Own → Prop} {v v1 v2 v3 v4 : Value} {t t1 t2 t3 t4 : Nat}
theorem getD_of {a : Act} (hf : Fr n L a) {t : Nat} {v : Value} (h : Env.find L t = some v) : a.tmps.getD t undef = v := hf.get t v h
theorem Ret.zero (hr : fn.results = #[]) (h : post (.tuple #[]) R O) : retQ P fn n post .ret L R O := ⟨_, fun a w _ _ _ => results_none hr a.tmps P w, h⟩
theorem Ret.one (hr : fn.results = #[.tmp t]) (ht : Env.find L t = some v) (h : post v R O) : retQ P fn n post .ret L R O :=
  ⟨_, fun a w _ hf _ => by rw [results_tmp hr, getD_of hf ht], h⟩
theorem Ret.two (hr : fn.results = #[.tmp t1, .tmp t2]) (h1 : Env.find L t1 = some v1) (h2 : Env.find L t2 = some v2) (h : post (.tuple #[v1, v2]) R O) : retQ P fn n post .ret L R O :=
  ⟨_, fun a w _ hf _ => by rw [results_tmp2 hr, getD_of hf h1, getD_of hf h2], h⟩
theorem Ret.three (hr : fn.results = #[.tmp t1, .tmp t2, .tmp t3]) (h1 : Env.find L t1 = some v1) (h2 : Env.find L t2 = some v2) (h3 : Env.find L t3 = some v3) (h : post (.tuple #[v1, v2, v3]) R O) : retQ P fn n post .ret L R O :=
  ⟨_, fun a w _ hf _ => by
    have e1 := getD_of hf h1; have e2 := getD_of hf h2; have e3 := getD_of hf h3
    simp only [Array.getD_eq_getD_getElem?] at e1 e2 e3
    simp [results, hr, e1, e2, e3], h⟩
theorem Ret.four (hr : fn.results = #[.tmp t1, .tmp t2, .tmp t3, .tmp t4]) (h1 : Env.find L t1 = some v1) (h2 : Env.find L t2 = some v2) (h3 : Env.find L t3 = some v3) (h4 : Env.find L t4 = some v4) (h : post (.tuple #[v1, v2, v3, v4]) R O) : retQ P fn n post .ret L R O :=
  ⟨_, fun a w _ hf _ => by
    have e1 := getD_of hf h1; have e2 := getD_of hf h2; have e3 := getD_of hf h3; have e4 := getD_of hf h4
    simp only [Array.getD_eq_getD_getElem?] at e1 e2 e3 e4
    simp [results, hr, e1, e2, e3, e4], h⟩
theorem Ret.normal (h : retQ P fn n post .ret L R O) : retQ P fn n post .normal L R O := h
end ret

inductive Evs (L : Env) : List Operand → List Value → Prop
  | nil : Evs L [] []
  | cons {x : Operand} {v : Value} {xs : List Operand} {vs : List Value} (h : ev L x = some v) (r : Evs L xs vs) : Evs L (x :: xs) (v :: vs)
theorem Evs.eval {xs : List Operand} {vs : List Value} (h : Evs L xs vs) {ρ : Operand → Value} (hρ : ∀ x u, ev L x = some u → ρ x = u) : xs.map ρ = vs := by
  induction h with
  | nil => rfl
  | cons hx _ ih => simp [hρ _ _ hx, ih]

def hasBody (P : Program) (f : FuncId) : Bool := match P.funcs[f]? with
  | some fn => fn.body.isSome && !(fn.name == "runtime.NumGoroutine")
  | none => false
theorem run_callFunc {f : FuncId} (h : hasBody P f = true) (args : Array Value) (w : World) : (callFunc f args).run P w = .ok (.enter f args) w := by
  unfold hasBody at h
  split at h
  · rename_i fn hf
    simp only [Bool.and_eq_true, Bool.not_eq_true'] at h
    have h1 : ¬ fn.body = none := by cases hb : fn.body <;> simp_all
    have h2 : ¬ fn.name = "runtime.NumGoroutine" := by simpa using h.2
    simp [callFunc, hf, h2, h1]
  · cases h

/-- A call of a function value that is known: the captured values come last. -/
theorem OpW.call {f : FuncId} {first captured : Array Value} {x : Operand} {xs : List Operand} {as : List Value} {ts : Array TypeId} {args : List Value} {d : Nat} (ho : o.op = .call { callee := .value x, args := xs.toArray, argTypes := ts })
    (hx : ev L x = some (.func (.func f) first captured)) (has : Evs L xs as) (hb : hasBody P f = true) (hd : o.dst = some d) (hn : Nat.blt d n.n = true) (ha : first.toList ++ as ++ captured.toList = args)
    (h : Fun P f args.toArray R O (fun v R' O' => K ((d, v) :: L) R' O')) : OpW P n o L R O K := by
  intro a w hf hs Q
  have e1 : a.eval x = _ := hf.ev hx
  have e2 := has.eval (ρ := a.eval) (fun x u hx => hf.ev hx)
  have e3 : first ++ as.toArray ++ captured = args.toArray := by rw [← ha]; simp
  unfold Oper.wp
  have hr : (execOp a.eval o).run P w = .ok (.enter f args.toArray) w := by
    simp only [execOp, ho, resolve, e1, Deferred.ofValue, List.map_toArray, e2, Sem.run_bind, Sem.run_pure, Result.andThen_ok, invoke, run_callFunc hb, e3]
  rw [hr, Oper.upon_enter]
  exact (h w hs).mono fun e w' ⟨v, R', O', he, hk, hs'⟩ => by
    subst he
    rw [hd]
    exact ⟨_, _, _, hk, hf.put hn v, hs'⟩
theorem OpW.call0 {f : FuncId} {first captured : Array Value} {x : Operand} {xs : List Operand} {as : List Value} {ts : Array TypeId} {args : List Value} (ho : o.op = .call { callee := .value x, args := xs.toArray, argTypes := ts })
    (hx : ev L x = some (.func (.func f) first captured)) (has : Evs L xs as) (hb : hasBody P f = true) (hd : o.dst = none) (ha : first.toList ++ as ++ captured.toList = args)
    (h : Fun P f args.toArray R O (fun _ R' O' => K L R' O')) : OpW P n o L R O K := by
  intro a w hf hs Q
  have e1 : a.eval x = _ := hf.ev hx
  have e2 := has.eval (ρ := a.eval) (fun x u hx => hf.ev hx)
  have e3 : first ++ as.toArray ++ captured = args.toArray := by rw [← ha]; simp
  unfold Oper.wp
  have hr : (execOp a.eval o).run P w = .ok (.enter f args.toArray) w := by
    simp only [execOp, ho, resolve, e1, Deferred.ofValue, List.map_toArray, e2, Sem.run_bind, Sem.run_pure, Result.andThen_ok, invoke, run_callFunc hb, e3]
  rw [hr, Oper.upon_enter]
  exact (h w hs).mono fun e w' ⟨v, R', O', he, hk, hs'⟩ => by
    subst he
    rw [hd]
    exact ⟨_, _, _, hk, hf, hs'⟩
end calls

/-! ### values -/
abbrev vs (l : List UInt8) : Value := .string ⟨l.toArray⟩
abbrev vi (x : Int) : Value := .int .i64 x
theorem vs_data (s : ByteArray) : (.string s : Value) = vs s.data.toList := rfl

section rd
variable {P : Program} {o : Oper} {L : Env} {R : List RO} {O : List Own} {x y c : Operand} {v u : Value} {t t' : TypeId}

theorem Rd.move (ho : o.op = .move x) (hx : ev L x = some v) : Rd P o L R O v := fun ρ w hρ _ _ => by simp [execOp, ho, hρ _ _ hx]
theorem Rd.assign (ho : o.op = .assign x) (hx : ev L x = some v) : Rd P o L R O v := fun ρ w hρ _ _ => by simp [execOp, ho, hρ _ _ hx]
theorem Rd.pick_t (ho : o.op = .pick c x y) (hc : ev L c = some (.bool true)) (hx : ev L x = some v) : Rd P o L R O v := fun ρ w hρ _ _ => by simp [execOp, ho, hρ _ _ hx, hρ _ _ hc, asBool]
theorem Rd.pick_f (ho : o.op = .pick c x y) (hc : ev L c = some (.bool false)) (hx : ev L y = some v) : Rd P o L R O v := fun ρ w hρ _ _ => by simp [execOp, ho, hρ _ _ hx, hρ _ _ hc, asBool]
theorem Rd.func {fn : Fn} {fs cs : List Operand} {fv cv : List Value} (ho : o.op = .makeFunc fn fs.toArray cs.toArray) (hf : Evs L fs fv) (hc : Evs L cs cv) (hy : (∃ f, fn = .func f)) : Rd P o L R O (.func fn fv.toArray cv.toArray) := fun ρ w hρ _ _ => by
  obtain ⟨f, rfl⟩ := hy
  simp [execOp, ho, hf.eval hρ, hc.eval hρ, Instr.makeFunc]

theorem wrap_i64 {q : Int} (h : -9223372036854775808 ≤ q ∧ q ≤ 9223372036854775807) : IntKind.i64.wrap q = q := IntWalk.i64_in q ⟨h.1, h.2⟩

section ints
variable {k : IntKind} {p q : Int}
theorem run_bin {op : BinOp} (ho : o.op = .binOp op t x y t') (hx : ev L x = some (.int k p)) (hy : ev L y = some (.int k q)) {r : Value} (h : ∀ w, (binOp op t (.int k p) (.int k q)).run P w = .ok r w) : Rd P o L R O r := fun ρ w hρ _ _ => by
  have e : (eqGuard op t x y (.int k p) (.int k q)).run P w = .ok () w := by
    unfold eqGuard
    split <;> rfl
  simp only [execOp, ho, hρ _ _ hx, hρ _ _ hy, Sem.run_bind, e, Result.andThen_ok, h, Sem.run_pure]
theorem run_bin2 {k2 : IntKind} {op : BinOp} (ho : o.op = .binOp op t x y t') (hx : ev L x = some (.int k p)) (hy : ev L y = some (.int k2 q)) {r : Value} (h : ∀ w, (binOp op t (.int k p) (.int k2 q)).run P w = .ok r w) : Rd P o L R O r := fun ρ w hρ _ _ => by
  have e : (eqGuard op t x y (.int k p) (.int k2 q)).run P w = .ok () w := by
    unfold eqGuard
    split <;> rfl
  simp only [execOp, ho, hρ _ _ hx, hρ _ _ hy, Sem.run_bind, e, Result.andThen_ok, h, Sem.run_pure]
theorem Rd.add (ho : o.op = .binOp .add t x y t') (hx : ev L x = some (.int .i64 p)) (hy : ev L y = some (.int .i64 q)) (h : -9223372036854775808 ≤ p + q ∧ p + q ≤ 9223372036854775807) : Rd P o L R O (.int .i64 (p + q)) :=
  run_bin ho hx hy fun w => by simp [binOp, Op.intArith, wrap_i64 h]
theorem Rd.sub (ho : o.op = .binOp .sub t x y t') (hx : ev L x = some (.int .i64 p)) (hy : ev L y = some (.int .i64 q)) (h : -9223372036854775808 ≤ p - q ∧ p - q ≤ 9223372036854775807) : Rd P o L R O (.int .i64 (p - q)) :=
  run_bin ho hx hy fun w => by simp [binOp, Op.intArith, wrap_i64 h]
theorem Rd.mul (ho : o.op = .binOp .mul t x y t') (hx : ev L x = some (.int .i64 p)) (hy : ev L y = some (.int .i64 q)) (h : -9223372036854775808 ≤ p * q ∧ p * q ≤ 9223372036854775807) : Rd P o L R O (.int .i64 (p * q)) :=
  run_bin ho hx hy fun w => by simp [binOp, Op.intArith, wrap_i64 h]
theorem Rd.addw (ho : o.op = .binOp .add t x y t') (hx : ev L x = some (.int k p)) (hy : ev L y = some (.int k q)) : Rd P o L R O (.int k (k.wrap (p + q))) :=
  run_bin ho hx hy fun w => by simp [binOp, Op.intArith]
theorem Rd.subw (ho : o.op = .binOp .sub t x y t') (hx : ev L x = some (.int k p)) (hy : ev L y = some (.int k q)) : Rd P o L R O (.int k (k.wrap (p - q))) :=
  run_bin ho hx hy fun w => by simp [binOp, Op.intArith]
theorem Rd.mulw (ho : o.op = .binOp .mul t x y t') (hx : ev L x = some (.int k p)) (hy : ev L y = some (.int k q)) : Rd P o L R O (.int k (k.wrap (p * q))) :=
  run_bin ho hx hy fun w => by simp [binOp, Op.intArith]
theorem Rd.addk {r : Int} (ho : o.op = .binOp .add t x y t') (hx : ev L x = some (.int k p)) (hy : ev L y = some (.int k q)) (h : k.wrap (p + q) = r) : Rd P o L R O (.int k r) := h ▸ Rd.addw ho hx hy
theorem Rd.subk {r : Int} (ho : o.op = .binOp .sub t x y t') (hx : ev L x = some (.int k p)) (hy : ev L y = some (.int k q)) (h : k.wrap (p - q) = r) : Rd P o L R O (.int k r) := h ▸ Rd.subw ho hx hy
theorem Rd.and (ho : o.op = .binOp .and t x y t') (hx : ev L x = some (.int k p)) (hy : ev L y = some (.int k q)) : Rd P o L R O (.int k (k.wrap ((BitVec.ofInt k.bits p &&& BitVec.ofInt k.bits q).toNat))) :=
  run_bin ho hx hy fun w => by simp only [binOp, Op.intBits, ne_eq, not_true_eq_false, if_false]; rfl
theorem Rd.or (ho : o.op = .binOp .or t x y t') (hx : ev L x = some (.int k p)) (hy : ev L y = some (.int k q)) : Rd P o L R O (.int k (k.wrap ((BitVec.ofInt k.bits p ||| BitVec.ofInt k.bits q).toNat))) :=
  run_bin ho hx hy fun w => by simp only [binOp, Op.intBits, ne_eq, not_true_eq_false, if_false]; rfl
theorem Rd.xor (ho : o.op = .binOp .xor t x y t') (hx : ev L x = some (.int k p)) (hy : ev L y = some (.int k q)) : Rd P o L R O (.int k (k.wrap ((BitVec.ofInt k.bits p ^^^ BitVec.ofInt k.bits q).toNat))) :=
  run_bin ho hx hy fun w => by simp only [binOp, Op.intBits, ne_eq, not_true_eq_false, if_false]; rfl
theorem Rd.andNot (ho : o.op = .binOp .andNot t x y t') (hx : ev L x = some (.int k p)) (hy : ev L y = some (.int k q)) : Rd P o L R O (.int k (k.wrap ((BitVec.ofInt k.bits p &&& ~~~(BitVec.ofInt k.bits q)).toNat))) :=
  run_bin ho hx hy fun w => by simp only [binOp, Op.intBits, ne_eq, not_true_eq_false, if_false]; rfl
theorem ofInt_toNat {n a : Nat} (h : a < 2 ^ n) : (BitVec.ofInt n (a : Int)).toNat = a := by
  rw [BitVec.ofInt_natCast, BitVec.toNat_ofNat, Nat.mod_eq_of_lt h]
theorem wrap_mod {k : IntKind} {a : Nat} (h : a < 2 ^ k.bits) : (a : Int) % 2 ^ k.bits = a := by
  have h2 : ((2 : Int) ^ k.bits) = ((2 ^ k.bits : Nat) : Int) := by simp
  rw [h2]; exact Int.emod_eq_of_lt (by omega) (by omega)
theorem wrap_natU {k : IntKind} {a : Nat} (hs : k.signed = false) (h : a < 2 ^ k.bits) : k.wrap (a : Int) = a := by
  simp only [IntKind.wrap, hs, Bool.false_and, Bool.false_eq_true, if_false, wrap_mod h]
theorem wrap_natS {k : IntKind} {a : Nat} (h : a < 2 ^ (k.bits - 1)) : k.wrap (a : Int) = a := by
  have h1 : (2 : Nat) ^ (k.bits - 1) ≤ 2 ^ k.bits := Nat.pow_le_pow_right (by omega) (by omega)
  have h3 : ((2 : Int) ^ (k.bits - 1)) = ((2 ^ (k.bits - 1) : Nat) : Int) := by simp
  simp only [IntKind.wrap, wrap_mod (Nat.lt_of_lt_of_le h h1)]
  rw [if_neg]
  simp only [Bool.and_eq_true, decide_eq_true_eq, h3, not_and]
  intro _; omega
/-- The common bits of any number and a small one. -/
abbrev land (k : IntKind) (p : Int) (m : Nat) : Nat := (BitVec.ofInt k.bits p).toNat &&& m
theorem land_le (k : IntKind) (p : Int) (m : Nat) : land k p m ≤ m := Nat.and_le_right
theorem Rd.andm {m : Nat} (ho : o.op = .binOp .and t x y t') (hx : ev L x = some (.int k p)) (hy : ev L y = some (.int k q)) (hq : q = (m : Int)) (hm : m < 2 ^ (k.bits - 1)) : Rd P o L R O (.int k (land k p m)) := by
  have h := Rd.and (R := R) (O := O) (P := P) ho hx hy
  have h1 : (2 : Nat) ^ (k.bits - 1) ≤ 2 ^ k.bits := Nat.pow_le_pow_right (by omega) (by omega)
  rw [hq, BitVec.toNat_and, ofInt_toNat (Nat.lt_of_lt_of_le hm h1), wrap_natS (Nat.lt_of_le_of_lt Nat.and_le_right hm)] at h
  exact h
theorem Rd.andU {a b : Nat} (ho : o.op = .binOp .and t x y t') (hx : ev L x = some (.int k p)) (hy : ev L y = some (.int k q)) (hs : k.signed = false) (hp : p = (a : Int)) (hq : q = (b : Int)) (ha : a < 2 ^ k.bits) (hb : b < 2 ^ k.bits) : Rd P o L R O (.int k ((a &&& b : Nat) : Int)) := by
  have h := Rd.and (R := R) (O := O) (P := P) ho hx hy
  rw [hp, hq, BitVec.toNat_and, ofInt_toNat ha, ofInt_toNat hb, wrap_natU hs (Nat.lt_of_le_of_lt Nat.and_le_left ha)] at h
  exact h
theorem Rd.orU {a b : Nat} (ho : o.op = .binOp .or t x y t') (hx : ev L x = some (.int k p)) (hy : ev L y = some (.int k q)) (hs : k.signed = false) (hp : p = (a : Int)) (hq : q = (b : Int)) (ha : a < 2 ^ k.bits) (hb : b < 2 ^ k.bits) : Rd P o L R O (.int k ((a ||| b : Nat) : Int)) := by
  have h := Rd.or (R := R) (O := O) (P := P) ho hx hy
  rw [hp, hq, BitVec.toNat_or, ofInt_toNat ha, ofInt_toNat hb, wrap_natU hs (Nat.or_lt_two_pow ha hb)] at h
  exact h
theorem Rd.orS {a b : Nat} (ho : o.op = .binOp .or t x y t') (hx : ev L x = some (.int k p)) (hy : ev L y = some (.int k q)) (hp : p = (a : Int)) (hq : q = (b : Int)) (ha : a < 2 ^ (k.bits - 1)) (hb : b < 2 ^ (k.bits - 1)) : Rd P o L R O (.int k ((a ||| b : Nat) : Int)) := by
  have h := Rd.or (R := R) (O := O) (P := P) ho hx hy
  have h1 : (2 : Nat) ^ (k.bits - 1) ≤ 2 ^ k.bits := Nat.pow_le_pow_right (by omega) (by omega)
  rw [hp, hq, BitVec.toNat_or, ofInt_toNat (Nat.lt_of_lt_of_le ha h1), ofInt_toNat (Nat.lt_of_lt_of_le hb h1), wrap_natS (Nat.or_lt_two_pow ha hb)] at h
  exact h
theorem Rd.xorU {a b : Nat} (ho : o.op = .binOp .xor t x y t') (hx : ev L x = some (.int k p)) (hy : ev L y = some (.int k q)) (hs : k.signed = false) (hp : p = (a : Int)) (hq : q = (b : Int)) (ha : a < 2 ^ k.bits) (hb : b < 2 ^ k.bits) : Rd P o L R O (.int k ((a ^^^ b : Nat) : Int)) := by
  have h := Rd.xor (R := R) (O := O) (P := P) ho hx hy
  rw [hp, hq, BitVec.toNat_xor, ofInt_toNat ha, ofInt_toNat hb, wrap_natU hs (Nat.xor_lt_two_pow ha hb)] at h
  exact h
theorem Rd.shlw {k' : IntKind} {n : Nat} (ho : o.op = .binOp .shl t x y t') (hx : ev L x = some (.int k p)) (hy : ev L y = some (.int k' q)) (hq : q = (n : Int)) (hn : n ≤ k.bits) : Rd P o L R O (.int k (k.wrap (p * 2 ^ n))) :=
  run_bin2 ho hx hy fun w => by
    subst hq
    have h1 : ¬ ((n : Int) < 0) := by omega
    simp only [binOp, Op.shift, h1, if_false, Int.toNat_natCast, Nat.min_eq_left hn]; rfl
theorem Rd.shrw {k' : IntKind} {n : Nat} (ho : o.op = .binOp .shr t x y t') (hx : ev L x = some (.int k p)) (hy : ev L y = some (.int k' q)) (hq : q = (n : Int)) (hn : n ≤ k.bits) : Rd P o L R O (.int k (p.fdiv (2 ^ n))) :=
  run_bin2 ho hx hy fun w => by
    subst hq
    have h1 : ¬ ((n : Int) < 0) := by omega
    simp only [binOp, Op.shift, h1, if_false, Int.toNat_natCast, Nat.min_eq_left hn]; rfl
/-- A number shifted right. -/
theorem Rd.shrN {k' : IntKind} {a n : Nat} (ho : o.op = .binOp .shr t x y t') (hx : ev L x = some (.int k p)) (hy : ev L y = some (.int k' q)) (hp : p = (a : Int)) (hq : q = (n : Int)) (hn : n ≤ k.bits) : Rd P o L R O (.int k ((a / 2 ^ n : Nat) : Int)) := by
  have h := Rd.shrw (R := R) (O := O) (P := P) ho hx hy hq hn
  have e : p.fdiv (2 ^ n) = ((a / 2 ^ n : Nat) : Int) := by
    rw [hp, Int.fdiv_eq_ediv_of_nonneg _ (Int.pow_nonneg (by omega))]; simp
  rw [e] at h; exact h
/-- A number shifted left, where nothing falls off. -/
theorem Rd.shlN {k' : IntKind} {a n : Nat} (ho : o.op = .binOp .shl t x y t') (hx : ev L x = some (.int k p)) (hy : ev L y = some (.int k' q)) (hp : p = (a : Int)) (hq : q = (n : Int)) (hn : n ≤ k.bits) (hs : k.signed = false) : Rd P o L R O (.int k ((a * 2 ^ n % 2 ^ k.bits : Nat) : Int)) := by
  have h := Rd.shlw (R := R) (O := O) (P := P) ho hx hy hq hn
  have e : k.wrap (p * 2 ^ n) = ((a * 2 ^ n % 2 ^ k.bits : Nat) : Int) := by
    rw [hp]; simp only [IntKind.wrap, hs, Bool.false_and, Bool.false_eq_true, if_false]; simp
  rw [e] at h; exact h
theorem Rd.shlS {k' : IntKind} {a n : Nat} (ho : o.op = .binOp .shl t x y t') (hx : ev L x = some (.int .i64 p)) (hy : ev L y = some (.int k' q)) (hp : p = (a : Int)) (hq : q = (n : Int)) (hn : n ≤ 64) (ha : a * 2 ^ n ≤ 9223372036854775807) : Rd P o L R O (.int .i64 ((a * 2 ^ n : Nat) : Int)) := by
  have h := Rd.shlw (R := R) (O := O) (P := P) ho hx hy hq hn
  have e : p * 2 ^ n = ((a * 2 ^ n : Nat) : Int) := by rw [hp]; simp
  rw [e, wrap_i64 (by omega)] at h; exact h
theorem Rd.bnot {a : Nat} (ho : o.op = .unOp .xor t x) (hx : ev L x = some (.int .u8 p)) (hp : p = (a : Int)) (ha : a < 256 := by omega) : Rd P o L R O (.int .u8 ((255 - a : Nat) : Int)) := fun ρ w hρ _ _ => by
  have h : (255 ^^^ a) = 255 - a := by
    have : ∀ a < 256, (255 ^^^ a) = 255 - a := by decide +kernel
    exact this a ha
  have e : (Op.unary .xor (.int .u8 p)).run P w = .ok (.int .u8 ((255 - a : Nat) : Int)) w := by
    have h1 := ofInt_toNat (n := 8) (a := 255) (by omega)
    have h2 := ofInt_toNat (n := 8) (a := a) ha
    have h3 := wrap_natU (k := .u8) (a := 255 - a) rfl (by show 255 - a < 256; omega)
    have e1 : (BitVec.ofInt 8 (255 : Int) ^^^ BitVec.ofInt 8 (a : Int)).toNat = 255 - a := by
      rw [BitVec.toNat_xor, show (255 : Int) = ((255 : Nat) : Int) from rfl, h1, h2, h]
    subst hp
    show (Op.intBits .xor .u8 255 (a : Int)).run P w = _
    show Result.ok (Value.int .u8 (IntKind.u8.wrap ((BitVec.ofInt 8 (255 : Int) ^^^ BitVec.ofInt 8 (a : Int)).toNat : Nat))) w = _
    rw [e1, h3]
  simp only [execOp, ho, hρ _ _ hx, Sem.run_bind, e, Result.andThen_ok, Sem.run_pure]
theorem Rd.quoN {a b : Nat} (ho : o.op = .binOp .quo t x y t') (hx : ev L x = some (.int k p)) (hy : ev L y = some (.int k q)) (hp : p = (a : Int)) (hq : q = (b : Int)) (hb : 0 < b) (ha : k.wrap (a / b : Nat) = ((a / b : Nat) : Int)) : Rd P o L R O (.int k ((a / b : Nat) : Int)) :=
  run_bin ho hx hy fun w => by
    subst hp; subst hq
    have h1 : ¬ ((b : Int) = 0) := by omega
    simp only [binOp, Op.intDiv, ne_eq, not_true_eq_false, if_false, h1]
    rw [show (a : Int).tdiv b = ((a / b : Nat) : Int) from rfl, ha]; rfl
theorem Rd.quoI {a b : Nat} (ho : o.op = .binOp .quo t x y t') (hx : ev L x = some (.int .i64 p)) (hy : ev L y = some (.int .i64 q)) (hp : p = (a : Int)) (hq : q = (b : Int)) (hb : 0 < b) (ha : a ≤ 9223372036854775807) : Rd P o L R O (.int .i64 ((a / b : Nat) : Int)) :=
  Rd.quoN ho hx hy hp hq hb (wrap_i64 (by have h1 := Nat.div_le_self a b; generalize a / b = c at h1; omega))
theorem Rd.remN {a b : Nat} (ho : o.op = .binOp .rem t x y t') (hx : ev L x = some (.int k p)) (hy : ev L y = some (.int k q)) (hp : p = (a : Int)) (hq : q = (b : Int)) (hb : 0 < b) : Rd P o L R O (.int k ((a % b : Nat) : Int)) :=
  run_bin ho hx hy fun w => by
    subst hp; subst hq
    have h1 : ¬ ((b : Int) = 0) := by omega
    simp only [binOp, Op.intDiv, ne_eq, not_true_eq_false, if_false, h1]; rfl
theorem Rd.remI {b : Nat} (ho : o.op = .binOp .rem t x y t') (hx : ev L x = some (.int k p)) (hy : ev L y = some (.int k q)) (hq : q = (b : Int)) (hb : 0 < b) : Rd P o L R O (.int k (p.tmod b)) :=
  run_bin ho hx hy fun w => by
    subst hq
    have h1 : ¬ ((b : Int) = 0) := by omega
    simp only [binOp, Op.intDiv, ne_eq, not_true_eq_false, if_false, h1]; rfl
theorem wrap_u8 {r : Int} (h : 0 ≤ r ∧ r ≤ 255) : IntKind.u8.wrap r = r := by simp only [IntKind.wrap, IntKind.signed, IntKind.bits, Bool.false_and, Bool.false_eq_true, if_false]; omega
theorem wrap_u16 {r : Int} (h : 0 ≤ r ∧ r ≤ 65535) : IntKind.u16.wrap r = r := by simp only [IntKind.wrap, IntKind.signed, IntKind.bits, Bool.false_and, Bool.false_eq_true, if_false]; omega
theorem wrap_u32 {r : Int} (h : 0 ≤ r ∧ r ≤ 4294967295) : IntKind.u32.wrap r = r := by simp only [IntKind.wrap, IntKind.signed, IntKind.bits, Bool.false_and, Bool.false_eq_true, if_false]; omega
theorem wrap_u64 {r : Int} (h : 0 ≤ r ∧ r ≤ 18446744073709551615) : IntKind.u64.wrap r = r := by simp only [IntKind.wrap, IntKind.signed, IntKind.bits, Bool.false_and, Bool.false_eq_true, if_false]; omega
theorem Rd.lss (ho : o.op = .binOp .lss t x y t') (hx : ev L x = some (.int k p)) (hy : ev L y = some (.int k q)) : Rd P o L R O (.bool (decide (p < q))) :=
  run_bin ho hx hy fun w => by simp [binOp, Op.intCmp]
theorem Rd.leq (ho : o.op = .binOp .leq t x y t') (hx : ev L x = some (.int k p)) (hy : ev L y = some (.int k q)) : Rd P o L R O (.bool (decide (p ≤ q))) :=
  run_bin ho hx hy fun w => by simp [binOp, Op.intCmp]
theorem Rd.gtr (ho : o.op = .binOp .gtr t x y t') (hx : ev L x = some (.int k p)) (hy : ev L y = some (.int k q)) : Rd P o L R O (.bool (decide (q < p))) :=
  run_bin ho hx hy fun w => by simp [binOp, Op.intCmp]
theorem Rd.geq (ho : o.op = .binOp .geq t x y t') (hx : ev L x = some (.int k p)) (hy : ev L y = some (.int k q)) : Rd P o L R O (.bool (decide (q ≤ p))) :=
  run_bin ho hx hy fun w => by simp [binOp, Op.intCmp]
theorem Rd.eql (ho : o.op = .binOp .eql t x y t') (hx : ev L x = some (.int k p)) (hy : ev L y = some (.int k q)) : Rd P o L R O (.bool (decide (p = q))) :=
  run_bin ho hx hy fun w => by simp [binOp, Op.intCmp]; rfl
theorem Rd.neq (ho : o.op = .binOp .neq t x y t') (hx : ev L x = some (.int k p)) (hy : ev L y = some (.int k q)) : Rd P o L R O (.bool (decide (p ≠ q))) :=
  run_bin ho hx hy fun w => by simp [binOp, Op.intCmp, bne]; rfl
end ints

section strings
variable {s r : List UInt8} {p q : Int}
theorem size_mk (l : List UInt8) : (ByteArray.mk l.toArray).size = l.length := by simp [ByteArray.size]
theorem run_sbin {op : BinOp} (ho : o.op = .binOp op t x y t') (hx : ev L x = some (vs s)) (hy : ev L y = some (vs r)) {r' : Value} (h : ∀ w, (binOp op t (vs s) (vs r)).run P w = .ok r' w) : Rd P o L R O r' := fun ρ w hρ _ _ => by
  have e : (eqGuard op t x y (vs s) (vs r)).run P w = .ok () w := by
    unfold eqGuard
    split <;> rfl
  simp only [execOp, ho, hρ _ _ hx, hρ _ _ hy, Sem.run_bind, e, Result.andThen_ok, h, Sem.run_pure]
theorem Rd.seql (ho : o.op = .binOp .eql t x y t') (hx : ev L x = some (vs s)) (hy : ev L y = some (vs r)) : Rd P o L R O (.bool (decide (s = r))) :=
  run_sbin ho hx hy fun w => by simp [binOp, Op.stringOp]; rw [Bool.eq_iff_iff]; simp
theorem Rd.sneq (ho : o.op = .binOp .neq t x y t') (hx : ev L x = some (vs s)) (hy : ev L y = some (vs r)) : Rd P o L R O (.bool (decide (s ≠ r))) :=
  run_sbin ho hx hy fun w => by simp [binOp, Op.stringOp]; rw [Bool.eq_iff_iff]; simp
theorem Rd.slss (ho : o.op = .binOp .lss t x y t') (hx : ev L x = some (vs s)) (hy : ev L y = some (vs r)) : Rd P o L R O (.bool (Op.bytesLess s r)) :=
  run_sbin ho hx hy fun w => by simp [binOp, Op.stringOp]
theorem Rd.sleq (ho : o.op = .binOp .leq t x y t') (hx : ev L x = some (vs s)) (hy : ev L y = some (vs r)) : Rd P o L R O (.bool (Op.bytesLess s r || s == r)) :=
  run_sbin ho hx hy fun w => by simp [binOp, Op.stringOp]
theorem Rd.scat (ho : o.op = .binOp .add t x y t') (hx : ev L x = some (vs s)) (hy : ev L y = some (vs r)) (h : s.length + r.length ≤ 9223372036854775807) : Rd P o L R O (vs (s ++ r)) :=
  run_sbin ho hx hy fun w => by
    have h1 : ¬ (((ByteArray.mk s.toArray).size + (ByteArray.mk r.toArray).size : Nat) : Int) > IntKind.i64.max := by
      rw [size_mk, size_mk, show IntKind.i64.max = 9223372036854775807 from rfl]; omega
    have h2 : ByteArray.mk s.toArray ++ ByteArray.mk r.toArray = ByteArray.mk (s ++ r).toArray := by
      apply ByteArray.ext; simp
    simp only [binOp, Op.stringOp, if_neg h1, h2, Sem.run_pure]
theorem Rd.slen {ty : TypeId} {ts : Array TypeId} (ho : o.op = .call { callee := .builtin .len, args := #[x], argTypes := #[t] }) (hx : ev L x = some (vs s)) (hT : P.underlying t = some .string) : Rd P o L R O (.int .i64 s.length) := fun ρ w hρ _ _ => by
  simp [execOp, ho, resolve, invoke, builtin, hρ _ _ hx, Builtin.len_, run_underlying hT, goInt, size_mk]
theorem Rd.len {ad : Option Addr} {m cp : Nat} {e : TypeId} (ho : o.op = .call { callee := .builtin .len, args := #[x], argTypes := #[t] }) (hx : ev L x = some (.slice ad m cp)) (hT : P.underlying t = some (.slice e)) : Rd P o L R O (.int .i64 m) := fun ρ w hρ _ _ => by
  simp [execOp, ho, resolve, invoke, builtin, hρ _ _ hx, Builtin.len_, run_underlying hT, goInt]
end strings

section more
variable {s : List UInt8} {kd kd' : IntKind} {p q : Int}
theorem Rd.min2 (ho : o.op = .call { callee := .builtin .min, args := #[x, y], argTypes := #[t, t'] }) (hx : ev L x = some (.int kd p)) (hy : ev L y = some (.int kd' q)) : Rd P o L R O (.int kd (if q < p then q else p)) := fun ρ w hρ _ _ => by
  simp [execOp, ho, resolve, invoke, builtin, hρ _ _ hx, hρ _ _ hy, run_min_int2]
theorem Rd.max2 (ho : o.op = .call { callee := .builtin .max, args := #[x, y], argTypes := #[t, t'] }) (hx : ev L x = some (.int kd p)) (hy : ev L y = some (.int kd' q)) : Rd P o L R O (.int kd (if q > p then q else p)) := fun ρ w hρ _ _ => by
  simp [execOp, ho, resolve, invoke, builtin, hρ _ _ hx, hρ _ _ hy, run_max_int2]
theorem Rd.not {b : Bool} (ho : o.op = .unOp .not t x) (hx : ev L x = some (.bool b)) : Rd P o L R O (.bool (!b)) := fun ρ w hρ _ _ => by simp [execOp, ho, hρ _ _ hx, Op.unary]
theorem Rd.notd {p : Prop} [Decidable p] (ho : o.op = .unOp .not t x) (hx : ev L x = some (.bool (decide p))) : Rd P o L R O (.bool (decide (¬ p))) := fun ρ w hρ _ _ => by simp [execOp, ho, hρ _ _ hx, Op.unary]
theorem Rd.neg (ho : o.op = .unOp .neg t x) (hx : ev L x = some (.int .i64 p)) (h : -9223372036854775808 ≤ -p ∧ -p ≤ 9223372036854775807) : Rd P o L R O (.int .i64 (-p)) := fun ρ w hρ _ _ => by
  have h' : IntKind.i64.wrap (-p) = -p := wrap_i64 h
  simp [execOp, ho, hρ _ _ hx, Op.unary, Op.intArith, h']
theorem run_bbin {op : BinOp} {b c' : Bool} (ho : o.op = .binOp op t x y t') (hx : ev L x = some (.bool b)) (hy : ev L y = some (.bool c')) {r' : Value} (h : ∀ w, (binOp op t (.bool b) (.bool c')).run P w = .ok r' w) : Rd P o L R O r' := fun ρ w hρ _ _ => by
  have e : (eqGuard op t x y (.bool b) (.bool c')).run P w = .ok () w := by
    unfold eqGuard
    split <;> rfl
  simp only [execOp, ho, hρ _ _ hx, hρ _ _ hy, Sem.run_bind, e, Result.andThen_ok, h, Sem.run_pure]
theorem Rd.beql {b c' : Bool} (ho : o.op = .binOp .eql t x y t') (hx : ev L x = some (.bool b)) (hy : ev L y = some (.bool c')) (hT : P.underlying t = some .bool) : Rd P o L R O (.bool (b == c')) := run_bbin ho hx hy fun w => run_eql_bool w t b c' hT
theorem Rd.bneq {b c' : Bool} (ho : o.op = .binOp .neq t x y t') (hx : ev L x = some (.bool b)) (hy : ev L y = some (.bool c')) (hT : P.underlying t = some .bool) : Rd P o L R O (.bool (!(b == c'))) := run_bbin ho hx hy fun w => run_neq_bool w t b c' hT
/-- s[i] of a string. -/
theorem Rd.sidx {k : Nat} {b : UInt8} (ho : o.op = .index t x y) (hT : P.underlying t = some .string) (hx : ev L x = some (vs s)) (hy : ev L y = some (.int kd p)) (hp : p = (k : Int)) (hk : s[k]? = some b) : Rd P o L R O (.int .u8 b.toNat) := fun ρ w hρ _ _ => by
  subst hp
  have hlt := (List.getElem?_eq_some_iff.1 hk).1
  have h2 : (ByteArray.mk s.toArray)[k]? = some b := by
    rw [ByteArray.getElem?_lt' _ _ (by simpa [ByteArray.size] using hlt)]
    have := (List.getElem?_eq_some_iff.1 hk).2
    simp only [Option.some.injEq]
    rw [← this]
    rfl
  have h3 : (0 : Int) ≤ (k : Int) := by omega
  simp [execOp, ho, hρ _ _ hx, hρ _ _ hy, Instr.index, asIntOf, run_underlying hT, h3, h2]
/-- A piece of a string. -/
theorem cut_str (s : List UInt8) (lo hi : Nat) : (ByteArray.mk s.toArray).extract lo hi = ByteArray.mk ((s.take hi).drop lo).toArray := by
  apply ByteArray.ext
  rw [ByteArray.data_extract]
  apply Array.ext'
  simp [List.extract_eq_take_drop]
  rw [List.drop_take]
variable {lo hi : Nat} {kl kh : IntKind} {a b : Operand}
theorem sbound_ok {k : IntKind} {x : Int} {y r : Nat} {code : BoundsCode} (hx : x = (r : Int)) (hr : r ≤ y) (w : World) : (Instr.sliceBound (.int k x) y code).run P w = .ok r w := by
  subst hx
  have : (0 : Int) ≤ (r : Int) ∧ (r : Int) ≤ (y : Int) := ⟨by omega, by omega⟩
  simp [Instr.sliceBound, asIntOf, this, hr]
theorem Rd.scut_lh (ho : o.op = .slice t x (some a) (some b) none) (hT : P.underlying t = some .string) (hx : ev L x = some (vs s)) (ha : ev L a = some (.int kl p)) (hb : ev L b = some (.int kh q)) (hp : p = (lo : Int)) (hq : q = (hi : Int)) (h1 : lo ≤ hi) (h2 : hi ≤ s.length) : Rd P o L R O (vs ((s.take hi).drop lo)) := fun ρ w hρ _ _ => by
  have e1 := fun c w => sbound_ok (P := P) (k := kh) (code := c) hq h2 w
  have e2 := fun c w => sbound_ok (P := P) (k := kl) (code := c) hp h1 w
  simp [execOp, ho, hρ _ _ hx, hρ _ _ ha, hρ _ _ hb, Instr.sliceAt, run_underlying hT, Instr.slice, Instr.sliceBounds, size_mk, e1, e2, cut_str]
theorem Rd.scut_l (ho : o.op = .slice t x (some a) none none) (hT : P.underlying t = some .string) (hx : ev L x = some (vs s)) (ha : ev L a = some (.int kl p)) (hp : p = (lo : Int)) (h1 : lo ≤ s.length) : Rd P o L R O (vs (s.drop lo)) := fun ρ w hρ _ _ => by
  have e2 := fun c w => sbound_ok (P := P) (k := kl) (code := c) hp h1 w
  have e3 := cut_str s lo s.length
  rw [List.take_length] at e3
  simp [execOp, ho, hρ _ _ hx, hρ _ _ ha, Instr.sliceAt, run_underlying hT, Instr.slice, Instr.sliceBounds, size_mk, e2, e3]
theorem Rd.scut_h (ho : o.op = .slice t x none (some b) none) (hT : P.underlying t = some .string) (hx : ev L x = some (vs s)) (hb : ev L b = some (.int kh q)) (hq : q = (hi : Int)) (h2 : hi ≤ s.length) : Rd P o L R O (vs (s.take hi)) := fun ρ w hρ _ _ => by
  have e1 := fun c w => sbound_ok (P := P) (k := kh) (code := c) hq h2 w
  have e3 := cut_str s 0 hi
  rw [List.drop_zero] at e3
  simp [execOp, ho, hρ _ _ hx, hρ _ _ hb, Instr.sliceAt, run_underlying hT, Instr.slice, Instr.sliceBounds, size_mk, e1, e3]
theorem Rd.convw {sT dT : TypeId} (ho : o.op = .convert sT dT x) (hx : ev L x = some (.int kd p)) (hT : P.underlying dT = some (.int kd')) {sd : TypeDesc} (hS : P.underlying sT = some sd := by rfl) : Rd P o L R O (.int kd' (kd'.wrap p)) := fun ρ w hρ _ _ => by
  cases sd <;> simp [execOp, ho, hρ _ _ hx, convert, run_underlying hT, run_underlying hS, Conv.intToInt]
theorem Rd.conv {sT dT : TypeId} (ho : o.op = .convert sT dT x) (hx : ev L x = some (.int kd p)) (hT : P.underlying dT = some (.int kd')) (hw : kd'.wrap p = p) {sd : TypeDesc} (hS : P.underlying sT = some sd := by rfl) : Rd P o L R O (.int kd' p) := by
  have h := Rd.convw (O := O) (R := R) ho hx hT hS
  rwa [hw] at h
theorem Rd.convs {sT dT : TypeId} (ho : o.op = .convert sT dT x) (hx : ev L x = some (vs s)) (hS : P.underlying sT = some .string) (hT : P.underlying dT = some .string) : Rd P o L R O (vs s) := fun ρ w hρ _ _ => by
  simp [execOp, ho, hρ _ _ hx, convert, run_underlying hT, run_underlying hS]
theorem Rd.extract {vals : Array Value} {i : Nat} (ho : o.op = .extract x i) (hx : ev L x = some (.tuple vals)) (hi : vals[i]? = some v) : Rd P o L R O v := fun ρ w hρ _ _ => by
  simp [execOp, ho, hρ _ _ hx, Instr.extract, hi]

/-- '==' on values of a struct's type. -/
def EqS (P : Program) (t : TypeId) (xs ys : Array Value) (p : Prop) [Decidable p] : Prop := (∀ w, (Op.equalIn 10000 t (.agg xs) (.agg ys)).run P w = .ok (decide p) w) ∧ P.eqGuardType P.depth t = false
theorem Rd.aeql {xs ys : Array Value} {p : Prop} [Decidable p] (ho : o.op = .binOp .eql t x y t') (hx : ev L x = some (.agg xs)) (hy : ev L y = some (.agg ys)) (h : EqS P t xs ys p) : Rd P o L R O (.bool (decide p)) := fun ρ w hρ _ _ => by
  simp only [execOp, ho, hρ _ _ hx, hρ _ _ hy, Sem.run_bind, run_eqGuard_agg _ _ _ _ _ _ _ h.2, Result.andThen_ok, run_eql_struct, h.1, Sem.run_pure]
theorem Rd.aneq {xs ys : Array Value} {p : Prop} [Decidable p] (ho : o.op = .binOp .neq t x y t') (hx : ev L x = some (.agg xs)) (hy : ev L y = some (.agg ys)) (h : EqS P t xs ys p) : Rd P o L R O (.bool (decide (¬ p))) := fun ρ w hρ _ _ => by
  simp only [execOp, ho, hρ _ _ hx, hρ _ _ hy, Sem.run_bind, run_eqGuard_agg _ _ _ _ _ _ _ h.2, Result.andThen_ok, run_neq_struct, h.1, Sem.run_pure, decide_not]
end more
end rd
end Go.SL
