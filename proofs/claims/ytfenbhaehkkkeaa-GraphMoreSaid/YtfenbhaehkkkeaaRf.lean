/-
  A range over a function: the statement, its rounds, the call of yield. No program is in sight.
-/
import Derived.Test.YtfenbhaehkkkeaaMem
import Derived.Test.YtfenbhaehkkkeaaAcc
import Derived.RangeFuncIn
import Derived.RangeFuncRecord
import Derived.RangeFuncSeq
import Derived.TacticsIn
import Derived.OrdersIn
namespace Go.SL
open Go Go.RowKit
/-! ### code in a frame of a round ('ro': the loop whose round it is) -/
def fw (ro : Option Nat) : Fence := { Fence.wide with round := ro }
theorem room_fw (ro : Option Nat) (k : Nat) : (fw ro).room k := fun _ h => by simp [fw, Fence.wide] at h
theorem stepsIn_fw {P : Program} {ro : Option Nat} {m m' : Machine} : StepsIn (Machine.fenced P (fw ro)) P m m' ↔ Steps P m m' := stepsIn_wide
theorem callsIn_fw {P : Program} {ro : Option Nat} {k : Nat} {f : FuncId} {args : Array Value} {w : World} {R : Ending → World → Prop} : CallsIn (fw ro) k P f args w R ↔ Calls P f args w R := callsIn_wide (n := k)
def noDef (l : List Oper) : Bool := l.all fun o => match o.op with
  | .defer _ => false
  | _ => true
theorem noDef_spec {l : List Oper} (h : noDef l = true) {o : Oper} (ho : o ∈ l) : ∀ c, o.op ≠ .defer c := fun c e => by
  have := List.all_eq_true.1 h o ho
  rw [e] at this
  cases this
section
variable {P : Program} {ro : Option Nat} {o : Oper} {a : Act} {w : World} {K : Act → World → Prop} {Q : Exit → Act → World → Prop} {ops : Array Oper} {md : Region.Mode}
theorem wp_in (hd : ∀ c, o.op ≠ .defer c) (h : o.wp P a w K Q) : o.wpIn (fw ro) 0 P a w K Q := by
  refine ⟨fun _ _ => trivial, ?_⟩
  show o.uponIn _ _ _ _ _ _ ((o.semAt ro a.eval).run P w)
  rw [Oper.semAt_eq ro a.eval o hd]
  unfold Oper.wp at h
  generalize (execOp a.eval o).run P w = r at h ⊢
  have dep : (fw ro).depth.isSome = true → 1 ≤ 0 := fun hx => by cases hx
  cases r with
  | ok x w' =>
    cases x with
    | value v => exact h
    | skip => exact h
    | defer d => exact h
    | enter f args => exact ⟨dep, callsIn_fw.2 h⟩
    | row row args => exact ⟨dep, fun c cs _ => let ⟨v, w', r, s⟩ := h c cs; ⟨v, w', r, stepsIn_fw.2 s⟩⟩
    | round l f tmps assign body => exact h.elim
    | _ => exact h.elim
  | halt x w' => cases x <;> exact h
theorem wpOp_in {i : Nat} (hd : ∀ o ∈ ops.toList, ∀ c, o.op ≠ .defer c) (hQ : ¬ LetsOut Q) (h : wpOp P ops Q i K a w) : wpOpIn (fw ro) 0 P ops Q i K a w := by
  unfold wpOp at h
  unfold wpOpIn
  cases e : ops[i]? with
  | none => rw [e] at h; exact h
  | some o =>
    rw [e] at h
    simp only at h ⊢
    have hm : o ∈ ops.toList := Array.mem_toList_iff.2 (Array.mem_of_getElem? e)
    split
    · rename_i hw
      rw [if_pos hw] at h
      rcases h with h | h
      · exact wp_in (hd o hm) h
      · exact absurd h.2 hQ
    · rename_i hw
      rw [if_neg hw] at h
      exact ⟨fun _ _ => trivial, h⟩
theorem wpAny_in (hd : ∀ o ∈ ops.toList, ∀ c, o.op ≠ .defer c) (hQ : ¬ LetsOut Q) : ∀ (fuel : Nat) (listed : Array Bool) (a : Act) (w : World), wpAny P md ops Q fuel listed a w → wpAnyIn (fw ro) 0 P md ops Q fuel listed a w
  | 0, _, _, _, h => h
  | fuel + 1, listed, a, w, h => ⟨h.1, fun i hi => wpOpIn_mono (fun a w => wpAny_in hd hQ fuel _ a w) (wpOp_in hd hQ (h.2 i hi))⟩
theorem wpList_in (hQ : ¬ LetsOut Q) : ∀ (l : List Oper) (a : Act) (w : World), (∀ o ∈ l, ∀ c, o.op ≠ .defer c) → wpList P ops Q l a w → wpListIn (fw ro) 0 P ops Q l a w
  | [], _, _, _, h => h
  | o :: l, a, w, hd, h => by
    unfold wpList at h
    unfold wpListIn
    split
    · rename_i hw
      rw [if_pos hw] at h
      rcases h with h | h
      · exact Oper.wpIn_mono (fun a w => wpList_in hQ l a w (fun o ho => hd o (List.mem_cons_of_mem _ ho))) (wp_in (hd o List.mem_cons_self) h)
      · exact absurd h.2 hQ
    · rename_i hw
      rw [if_neg hw] at h
      exact ⟨fun _ _ => trivial, wpList_in hQ l _ w (fun o ho => hd o (List.mem_cons_of_mem _ ho)) h⟩
end
def WR (ro : Option Nat) (P : Program) (n : Sz) (c : Code) (Q : Post) (L : Env) (R : List RO) (O : List Own) : Prop :=
  ∀ a w, Fr n L a → Sat R O w → c.wpIn (fw ro) 0 P (lift n Q) a w
/-- The operations of a region of a function (not of a round), of which some may call yield. -/
def WY (P : Program) (n : Sz) (ops : Array Oper) (Q : Post) (rest : List Oper) (L : Env) (R : List RO) (O : List Own) : Prop :=
  ∀ a w, Fr n L a → Sat R O w → wpListIn (fw none) 0 P ops (lift n Q) rest a w
theorem lift_out {n : Sz} {Q : Post} : ¬ LetsOut (lift n Q) := fun ⟨_, _, h⟩ => h
section
variable {P : Program} {ro : Option Nat} {n : Sz} {ops : Array Oper} {Q : Post} {rest : List Oper} {o : Oper} {L : Env} {R : List RO} {O O' : List Own}
theorem WR.region {id : Nat} {l : List Oper} (h : WL P n l.toArray Q l L R O) (hd : noDef l = true := by kernel_rfl) : WR ro P n (.region id l.toArray false) Q L R O :=
  fun a w hf hs => wpIn_region_lit (wpList_in lift_out l a w (fun o ho => noDef_spec hd ho) (h a w hf hs))
theorem WR.regionY {id : Nat} {l : List Oper} (h : WY P n l.toArray Q l L R O) : WR none P n (.region id l.toArray false) Q L R O :=
  fun a w hf hs => wpIn_region_lit (h a w hf hs)
theorem WR.drawn {id : Nat} {l : List Oper} (T : List Own) (m : Nat) (hlen : l.length = m) (hm : P.follows .mixedOrders = true) (h : WD P n l.toArray Q R T m (Array.replicate m false) L R O) (hd : noDef l = true := by kernel_rfl) : WR ro P n (.region id l.toArray true) Q L R O := by
  subst hlen
  intro a w hf hs
  exact wpIn_region_any hm (wpAny_in (fun o ho => noDef_spec hd (by simpa using ho)) lift_out _ _ _ _ (wpAny_of_held _ _ _ _ (h a _ hf (hs.drew _))))
theorem WR.drawnA {id : Nat} {l : List Oper} (m : Nat) (hlen : l.length = m) (hm : P.follows .mixedOrders = true) (h : WD P n l.toArray Q R O m (Array.replicate m false) L R O) (hd : noDef l = true := by kernel_rfl) : WR ro P n (.region id l.toArray true) Q L R O := WR.drawn O m hlen hm h hd
theorem WY.nil (h : Q .normal L R O) : WY P n ops Q [] L R O := fun _ _ hf hs => wpListIn_nil (lift_normal h hf hs)
theorem WY.op (hg : o.guard = none) (h : OpW P n o L R O (fun L' R' O' => WY P n ops Q rest L' R' O')) (hd : noDef [o] = true := by kernel_rfl) : WY P n ops Q (o :: rest) L R O := by
  intro a w hf hs
  refine wpListIn_plain hg fun K hK => wp_in (noDef_spec hd List.mem_cons_self) ?_
  exact Oper.wp_mono (fun a' w' ⟨L', R', O', hk, hf', hs'⟩ => hK _ _ (hk a' w' hf' hs')) (h a w hf hs _)
theorem WY.rd {v : Value} {d : Nat} (hg : o.guard = none) (hd : o.dst = some d) (hn : Nat.blt d n.n = true) (h : Rd P o L R O v) (k : WY P n ops Q rest ((d, v) :: L) R O) (hdf : noDef [o] = true := by kernel_rfl) : WY P n ops Q (o :: rest) L R O :=
  WY.op hg (OpW.rd hd hn h k) hdf
theorem WY.say (t : Nat) {v u : Value} (ht : Env.find L t = some v) (e : v = u) (k : WY P n ops Q rest ((t, u) :: L) R O) : WY P n ops Q rest L R O :=
  fun a w hf hs => k a w (hf.known ht e) hs
theorem WY.heap {R' : List RO} {O' : List Own} (hs : ∀ w, Sat R O w → Sat R' O' w) (k : WY P n ops Q rest L R' O') : WY P n ops Q rest L R O := fun a w hf h => k a w hf (hs w h)
def thenR (ro : Option Nat) (P : Program) (n : Sz) (y : Code) (Q : Post) : Post
  | .normal, L, R, O => WR ro P n y Q L R O
  | e, L, R, O => Q e L R O
theorem thenR.normal {y : Code} (h : WR ro P n y Q L R O) : thenR ro P n y Q .normal L R O := h
theorem thenR.exit {y : Code} {id : Nat} (h : Q (.exit id) L R O) : thenR ro P n y Q (.exit id) L R O := h
theorem WR.seq {x y : Code} (h : WR ro P n x (thenR ro P n y Q) L R O) : WR ro P n (.seq x y) Q L R O := by
  intro a w hf hs
  refine wpIn_seq (wpIn_mono (h a w hf hs) fun e a' w' hq => ?_)
  cases e with
  | normal => obtain ⟨L', R', O', hk, hf', hs'⟩ := hq; exact hk a' w' hf' hs'
  | exit id => exact hq
  | goto l => exact hq
  | ret => exact hq
  | panic c => exact hq
  | outgrown => exact hq
theorem WR.skip (h : Q .normal L R O) : WR ro P n .skip Q L R O := fun _ _ hf hs => wpIn_skip (lift_normal h hf hs)
theorem WR.exit {id : Nat} (h : Q (.exit id) L R O) : WR ro P n (.exit id) Q L R O := fun _ _ hf hs => wpIn_exit ⟨_, _, _, h, hf, hs⟩
theorem WR.retO {O' : List Own} (hF : FinO n.ds O O') (h : Q .ret L R O') : WR ro P n .ret Q L R O := fun _ _ hf hs => wpIn_ret ⟨_, _, _, h, hf.own, by rw [hf.defers]; exact hF.fin hs⟩
theorem WR.ret (h : Q .ret L R O) (hF : FinO n.ds O O := by exact FinO.nil) : WR ro P n .ret Q L R O := WR.retO hF h
theorem WR.block {id : Nat} {c : Code} (h : WR ro P n c (blockQ id Q) L R O) : WR ro P n (.block id c) Q L R O := by
  intro a w hf hs
  refine wpIn_block (wpIn_mono (h a w hf hs) fun e a' w' hq => ?_)
  cases e with
  | normal => exact hq
  | exit id' =>
    obtain ⟨L', R', O', hk, hf', hs'⟩ := hq
    by_cases e : id' = id
    · subst e
      simp only [blockQ, Nat.beq_refl] at hk
      simp only [Exit.inBlock, if_true]
      exact ⟨_, _, _, hk, hf', hs'⟩
    · simp only [blockQ, show Nat.beq id' id = false from by rw [← Bool.not_eq_true, Nat.beq_eq]; exact e] at hk
      simp only [Exit.inBlock, e, if_false]
      exact ⟨_, _, _, hk, hf', hs'⟩
  | goto l => exact hq
  | ret => exact hq
  | panic c => exact hq
  | outgrown => exact hq
theorem WR.cond {c : Operand} {x y : Code} {b : Bool} (hc : ev L c = some (.bool b)) (ht : b = true → WR ro P n x Q L R O) (hf : b = false → WR ro P n y Q L R O) : WR ro P n (.cond c x y) Q L R O := by
  intro a w hfr hs
  exact wpIn_cond_split (hfr.ev hc) (fun h => ht h a w hfr hs) (fun h => hf h a w hfr hs)
theorem WR.ite {c : Operand} {x y : Code} {p : Prop} [Decidable p] (hc : ev L c = some (.bool (decide p))) (ht : p → WR ro P n x Q L R O) (hf : ¬ p → WR ro P n y Q L R O) : WR ro P n (.cond c x y) Q L R O :=
  WR.cond hc (fun h => ht (of_decide_eq_true h)) (fun h => hf (of_decide_eq_false h))
theorem WR.yes {c : Operand} {x y : Code} (hc : ev L c = some (.bool true)) (ht : WR ro P n x Q L R O) : WR ro P n (.cond c x y) Q L R O :=
  WR.cond hc (fun _ => ht) (fun h => by cases h)
theorem WR.no {c : Operand} {x y : Code} (hc : ev L c = some (.bool false)) (hf : WR ro P n y Q L R O) : WR ro P n (.cond c x y) Q L R O :=
  WR.cond hc (fun h => by cases h) (fun _ => hf)
theorem WR.frame {c : Code} {L' : Env} (hs : Sub L' L) (k : WR ro P n c Q L' R O) : WR ro P n c Q L R O := fun a w hf h => k a w (hf.sub hs) h
theorem WR.pick {c : Code} (ks : List Nat) {L' : Env} (hp : Pick L ks L') (k : WR ro P n c Q L' R O) : WR ro P n c Q L R O := WR.frame hp.sub k
theorem WR.heap {c : Code} {R' : List RO} {O' : List Own} (hs : ∀ w, Sat R O w → Sat R' O' w) (k : WR ro P n c Q L R' O') : WR ro P n c Q L R O := fun a w hf h => k a w hf (hs w h)
theorem WR.say {c : Code} (t : Nat) {v u : Value} (ht : Env.find L t = some v) (e : v = u) (k : WR ro P n c Q ((t, u) :: L) R O) : WR ro P n c Q L R O :=
  fun a w hf hs => k a w (hf.known ht e) hs
theorem WR.loop {c : Code} {α : Type} (LF : α → Env) (RF : α → List RO) (OF : α → List Own) (I : α → Prop) (μ : α → Nat) (x0 : α) (h0 : I x0) (hL : Sub (LF x0) L) (hS : ∀ w, Sat R O w → Sat (RF x0) (OF x0) w)
    (round : ∀ x, I x → WR ro P n c (loopQ LF RF OF I μ (μ x) Q) (LF x) (RF x) (OF x)) : WR ro P n (.loop c) Q L R O := by
  intro a0 w0 hf0 hs0
  have hst : ∀ a w, (∃ x, I x ∧ Fr n (LF x) a ∧ Sat (RF x) (OF x) w) → ∃ x, (I x ∧ Fr n (LF x) a ∧ Sat (RF x) (OF x) w) ∧ ∀ y, I y → Fr n (LF y) a → Sat (RF y) (OF y) w → μ x ≤ μ y := fun a w ⟨x, hx⟩ => by
    have : ∀ m x, μ x ≤ m → (I x ∧ Fr n (LF x) a ∧ Sat (RF x) (OF x) w) → ∃ x, (I x ∧ Fr n (LF x) a ∧ Sat (RF x) (OF x) w) ∧ ∀ y, I y → Fr n (LF y) a → Sat (RF y) (OF y) w → μ x ≤ μ y := by
      intro m
      induction m with
      | zero => exact fun x hm hx => ⟨x, hx, fun y _ _ _ => by omega⟩
      | succ m ih =>
        intro x hm hx
        by_cases h : ∃ y, (I y ∧ Fr n (LF y) a ∧ Sat (RF y) (OF y) w) ∧ μ y ≤ m
        · obtain ⟨y, hy, hl⟩ := h; exact ih y hl hy
        · exact ⟨x, hx, fun y h1 h2 h3 => Nat.le_of_not_lt fun hlt => h ⟨y, ⟨h1, h2, h3⟩, by omega⟩⟩
    exact this _ x (Nat.le_refl _) hx
  haveI : ∀ (a : Act) (w : World), Decidable (∃ x, I x ∧ Fr n (LF x) a ∧ Sat (RF x) (OF x) w) := fun _ _ => Classical.propDecidable _
  let M : Act → World → Nat := fun a w => if h : ∃ x, I x ∧ Fr n (LF x) a ∧ Sat (RF x) (OF x) w then μ (hst a w h).choose else 0
  refine wpIn_loop (fun a w => ∃ x, I x ∧ Fr n (LF x) a ∧ Sat (RF x) (OF x) w) M ⟨x0, h0, hf0.sub hL, hS _ hs0⟩ fun a w hI => ?_
  have hM : M a w = μ (hst a w hI).choose := dif_pos hI
  obtain ⟨⟨h1, h2, h3⟩, h4⟩ := (hst a w hI).choose_spec
  refine wpIn_mono (round _ h1 a w h2 h3) fun e a' w' hq => ?_
  cases e with
  | normal =>
    obtain ⟨L', R', O', ⟨y, hy, hlt, hL', hS'⟩, hf', hs'⟩ := hq
    have hJ : ∃ x, I x ∧ Fr n (LF x) a' ∧ Sat (RF x) (OF x) w' := ⟨y, hy, hf'.sub hL', hS' _ hs'⟩
    refine ⟨hJ, ?_⟩
    have hM' : M a' w' = μ (hst a' w' hJ).choose := dif_pos hJ
    rw [hM, hM']
    exact Nat.lt_of_le_of_lt ((hst a' w' hJ).choose_spec.2 y hy (hf'.sub hL') (hS' _ hs')) hlt
  | exit id => exact hq
  | goto l => exact hq
  | ret => exact hq
  | panic c => exact hq
  | outgrown => exact hq
section
variable {c : Code} {α β γ : Type}
theorem WR.loop1o (m : Nat) (ch : α → Env) (I : α → Prop) (μ : α → Nat) (x0 : α) {pre Lc : Env} (_hs : Split m L pre Lc) (h0 : I x0) (hL : Sub (ch x0 ++ Lc) L) (hS : ∀ w, Sat R O w → Sat R O w)
    (round : ∀ x, I x → WR ro P n c (loopQ1 ch Lc (fun _ => R) (fun _ => O) I μ (μ x) Q) (ch x ++ Lc) R O) : WR ro P n (.loop c) Q L R O :=
  WR.loop (α := α) (fun q => ch q ++ Lc) (fun _ => R) (fun _ => O) I μ x0 h0 hL hS (fun q hq => round q hq)
theorem WR.loop1 (m : Nat) (ch : α → Env) (OF : α → List Own) (I : α → Prop) (μ : α → Nat) (x0 : α) {pre Lc : Env} (_hs : Split m L pre Lc) (h0 : I x0) (hL : Sub (ch x0 ++ Lc) L) (hS : ∀ w, Sat R O w → Sat R (OF x0) w)
    (round : ∀ x, I x → WR ro P n c (loopQ1 ch Lc (fun _ => R) OF I μ (μ x) Q) (ch x ++ Lc) R (OF x)) : WR ro P n (.loop c) Q L R O :=
  WR.loop (α := α) (fun q => ch q ++ Lc) (fun _ => R) OF I μ x0 h0 hL hS (fun q hq => round q hq)
theorem WR.loop2 (m : Nat) (ch : α → β → Env) (OF : α → β → List Own) (I : α → β → Prop) (μ : α → β → Nat) (x0 : α) (y0 : β) {pre Lc : Env} (_hs : Split m L pre Lc) (h0 : I x0 y0) (hL : Sub (ch x0 y0 ++ Lc) L) (hS : ∀ w, Sat R O w → Sat R (OF x0 y0) w)
    (round : ∀ x y, I x y → WR ro P n c (loopQ2 ch Lc (fun _ _ => R) OF I μ (μ x y) Q) (ch x y ++ Lc) R (OF x y)) : WR ro P n (.loop c) Q L R O :=
  WR.loop (α := α × β) (fun q => ch q.1 q.2 ++ Lc) (fun _ => R) (fun q => OF q.1 q.2) (fun q => I q.1 q.2) (fun q => μ q.1 q.2) (x0, y0) h0 hL hS (fun q hq => round q.1 q.2 hq)
end
/-! ### functions that call yield; what a call of yield does -/
theorem Fun.enterR {f : FuncId} {fn : Func} {n : Nat} {c : Code} {l : List Value} {post : Value → List RO → List Own → Prop} (hf : P.funcs[f]? = some fn) (hb : fn.body = some c) (hn : fn.ntmps = n) (hl : Nat.ble l.length n = true) {L0 : Env} (hL : argsEnv l 0 = L0)
    (h : WR none P ⟨n, []⟩ c (retQ P fn ⟨n, []⟩ post) L0 R O) : Fun P f l.toArray R O post := by
  intro w hs
  refine callsIn_fw.1 (callsIn_of_wp_marks (F := fw none) (n := 0) hf hb trivial ?_)
  have hl' : l.length ≤ n := Nat.le_of_ble_eq_true hl
  refine wpIn_mono (h _ w ⟨?_, rfl, ?_⟩ hs) fun e a' w' hq => ?_
  · simp [hn]; omega
  · intro t v ht
    rw [← hL] at ht
    obtain ⟨_, h2⟩ := argsEnv_find ht
    simp only [Nat.sub_zero] at h2
    have hlt : t < l.length := (List.getElem?_eq_some_iff.1 h2).1
    simp only [Array.getD_eq_getD_getElem?]
    rw [Array.getElem?_append_left (by simpa using hlt)]
    simp [h2]
  · cases e with
    | normal => obtain ⟨L', R', O', ⟨v, hr, hp⟩, hf', hs'⟩ := hq; exact Fin.leaves (f := f) hr hp hf'.own (.inl ⟨hf'.defers, hs'⟩)
    | ret => obtain ⟨L', R', O', ⟨v, hr, hp⟩, hf', hs'⟩ := hq; exact Fin.leaves (f := f) hr hp hf' hs'
    | exit id => obtain ⟨L', R', O', hk, _⟩ := hq; exact hk.elim
    | goto l => obtain ⟨L', R', O', hk, _⟩ := hq; exact hk.elim
    | panic c => exact hq.elim
    | outgrown => exact hq.elim
/-- What one call of yield does. -/
def Yld (P : Program) (l : Nat) (args : List Value) (R : List RO) (O : List Own) (K : Bool → List RO → List Own → Prop) : Prop :=
  ∀ w, Sat R O w → YieldAt (fw none) 0 P l args.toArray w fun e w' => ∃ b R' O', e = .returned (.bool b) ∧ K b R' O' ∧ Sat R' O' w'
theorem WY.yield {l : Nat} {x : Operand} {xs : List Operand} {as : List Value} {ts : Array TypeId} {d : Nat} (hg : o.guard = none) (ho : o.op = .call { callee := .value x, args := xs.toArray, argTypes := ts })
    (hx : ev L x = some (.func (.yield l) #[] #[])) (has : Evs L xs as) (hd : o.dst = some d) (hn : Nat.blt d n.n = true)
    (h : Yld P l as R O (fun b R' O' => WY P n ops Q rest ((d, .bool b) :: L) R' O')) : WY P n ops Q (o :: rest) L R O := by
  intro a w hf hs
  refine wpListIn_plain hg fun K hK => ⟨fun _ _ => trivial, ?_⟩
  have e1 : a.eval x = _ := hf.ev hx
  have e2 := has.eval (ρ := a.eval) (fun x u hx => hf.ev hx)
  obtain ⟨fn, tmps, assign, body, hy, hR⟩ := h w hs
  have hr : (execOp a.eval o).run P w = .ok (.round l fn tmps assign body) w := by
    simp only [execOp, ho, resolve, e1, Deferred.ofValue, List.map_toArray, e2, Sem.run_bind, Sem.run_pure, Result.andThen_ok, invoke]
    simpa using hy
  show o.uponIn _ _ _ _ _ _ ((o.semAt none a.eval).run P w)
  rw [Oper.semAt_none, hr, Oper.uponIn_round]
  refine ⟨fun hx => Bool.noConfusion hx, hR.mono fun e w' hq => ?_⟩
  obtain ⟨b, R', O', he, hk, hs'⟩ := hq
  subst he
  rw [hd]
  exact hK _ _ (hk _ _ (hf.put hn _) hs')
/-! ### the loop's record -/
def recC (l : Nat) (n : Sz) (L : Env) (D : Nat) (st : LoopState) (pe : Option Code) (ps : Array Tmp) (assign body : Code) : Own :=
  ⟨[l], fun w => ∃ f tmps, w.heap[l]? = some (.loop { state := st, pending := pe, fn := f, tmps, params := ps, assign, body, defers := D }) ∧ Fr ⟨n.n, []⟩ L { tmps := tmps, defers := [] }⟩
def paramsEnv : List Nat → List Value → Env → Env
  | p :: ps, v :: vs, L => paramsEnv ps vs ((p, v) :: L)
  | _, _, L => L
theorem Fr.params : ∀ (ps : List Nat) (vs : List Value) {L : Env} {m : Nat} {tmps : Array Value}, ps.all (fun p => Nat.blt p m) = true → Fr ⟨m, []⟩ L { tmps := tmps, defers := [] } →
    Fr ⟨m, []⟩ (paramsEnv ps vs L) { tmps := (ps.zip vs).foldl (fun t (p, v) => t.setIfInBounds p v) tmps, defers := [] }
  | [], _, _, _, _, _, h => by simpa [paramsEnv] using h
  | _ :: _, [], _, _, _, _, h => by simpa [paramsEnv] using h
  | p :: ps, v :: vs, L, m, tmps, hp, h => by
    simp only [List.all_cons, Bool.and_eq_true] at hp
    simp only [List.zip_cons_cons, List.foldl_cons, paramsEnv]
    exact Fr.params ps vs hp.2 (h.put hp.1 v)
theorem Sat.loopPut {l : Nat} {n : Sz} {L : Env} {D : Nat} {st st' : LoopState} {pe pe' : Option Code} {ps : Array Tmp} {assign body : Code} {w : World} {f : FuncId} {tmps : Array Value}
    (h : Sat R (recC l n L D st pe ps assign body :: O) w) (hf : Fr ⟨n.n, []⟩ L { tmps := tmps, defers := [] }) :
    Sat R (recC l n L D st' pe' ps assign body :: O) (w.putObj l (.loop { state := st', pending := pe', fn := f, tmps, params := ps, assign, body, defers := D })) := by
  have hlt : l < w.heap.size := h.lt l (by simp [owned, recC])
  refine h.update _ ⟨rfl, rfl, rfl, by simp [World.putObj], fun k _ hn => World.putObj_heap_other (fun e => hn (by rw [e]; exact List.mem_singleton.2 rfl))⟩
    (fun k hk => .inl hk) (fun k hk => by rw [List.mem_singleton.1 hk]; simpa [World.putObj] using hlt) (by simp [recC]) (fun w2 ha _ => ⟨f, tmps, ?_, hf⟩)
  rw [ha.2.2.2.2 l (by simpa [World.putObj] using hlt) (fun hn => hn (by simp [recC]))]
  exact World.putObj_heap_same hlt
/-- How a round may end: off its body's end, or by 'return'. -/
def roundQ (l : Nat) (n : Sz) (L : Env) (D : Nat) (ps : Array Tmp) (assign body : Code) (K : Bool → List RO → List Own → Prop) : Post
  | .normal, _, R, O => ∃ O2, Take (recC l n L D .busy none ps assign body) O O2 ∧ K true R (recC l n L D .ready none ps assign body :: O2)
  | .ret, _, R, O => ∃ O2, Take (recC l n L D .busy none ps assign body) O O2 ∧ K false R (recC l n L D .done (some .ret) ps assign body :: O2)
  | _, _, _, _ => False
def assignQ (l : Nat) (P : Program) (n : Sz) (L : Env) (D : Nat) (ps : Array Tmp) (assign body : Code) (K : Bool → List RO → List Own → Prop) : Post
  | .normal, L', R, O => ∃ O2, Take (recC l n L D .ready none ps assign body) O O2 ∧ WR (some l) P ⟨n.n, []⟩ body (roundQ l n L D ps assign body K) L' R (recC l n L D .busy none ps assign body :: O2)
  | _, _, _, _ => False
theorem assignQ.mk {l : Nat} {Lr L' : Env} {D : Nat} {ps : Array Tmp} {assign body : Code} {K : Bool → List RO → List Own → Prop} {O2 : List Own} (hT : Take (recC l n Lr D .ready none ps assign body) O O2)
    (h : WR (some l) P ⟨n.n, []⟩ body (roundQ l n Lr D ps assign body K) L' R (recC l n Lr D .busy none ps assign body :: O2)) : assignQ l P n Lr D ps assign body K .normal L' R O := ⟨O2, hT, h⟩
theorem roundQ.on {l : Nat} {Lr L' : Env} {D : Nat} {ps : Array Tmp} {assign body : Code} {K : Bool → List RO → List Own → Prop} {O2 : List Own} (hT : Take (recC l n Lr D .busy none ps assign body) O O2)
    (h : K true R (recC l n Lr D .ready none ps assign body :: O2)) : roundQ l n Lr D ps assign body K .normal L' R O := ⟨O2, hT, h⟩
theorem Yld.round {l : Nat} {Lr : Env} {D : Nat} {ps : List Nat} {assign body : Code} {args : List Value} {K : Bool → List RO → List Own → Prop} {L0 : Env}
    (hT : Take (recC l n Lr D .ready none ps.toArray assign body) O O') (hsz : args.length = ps.length) (hps : ps.all (fun p => Nat.blt p n.n) = true) (hL0 : paramsEnv ps args Lr = L0)
    (h : WR (some l) P ⟨n.n, []⟩ assign (assignQ l P n Lr D ps.toArray assign body K) L0 R (recC l n Lr D .ready none ps.toArray assign body :: O')) : Yld P l args R O K := by
  intro w hs
  have hs1 := hs.perm hT.perm
  obtain ⟨f, tmps, hl, hf⟩ := hs1.see List.mem_cons_self
  have hy := run_yield (P := P) (args := args.toArray) hl (by simpa using hsz)
  refine ⟨f, _, assign, body, hy, ?_⟩
  refine roundIn_of_wpIn trivial ?_
  have hzip : (ps.toArray.zip args.toArray).foldl (fun t (p, v) => t.setIfInBounds p v) tmps = (ps.zip args).foldl (fun t (p, v) => t.setIfInBounds p v) tmps := by
    rw [← Array.foldl_toList]; simp
  have hf0 : Fr ⟨n.n, []⟩ L0 { tmps := (ps.toArray.zip args.toArray).foldl (fun t (p, v) => t.setIfInBounds p v) tmps, defers := [] } := by
    rw [hzip, ← hL0]; exact Fr.params ps args hps hf
  refine wpIn_mono (h _ w hf0 hs1) fun e a1 w1 hq => ?_
  cases e with
  | normal =>
    obtain ⟨L1, R1, O1, ⟨O2, hT1, hb⟩, hf1, hs1⟩ := hq
    have hs2 := hs1.perm hT1.perm
    obtain ⟨f1, tmps1, hl1, hfr1⟩ := hs2.see List.mem_cons_self
    refine ⟨_, run_beginRound hl1 rfl, ?_⟩
    refine wpIn_mono (hb a1 _ hf1 (hs2.loopPut hfr1)) fun e a2 w2 hq => ?_
    cases e with
    | normal =>
      obtain ⟨L2, R2, O3, ⟨O4, hT2, hk⟩, _, hs3⟩ := hq
      have hs4 := hs3.perm hT2.perm
      obtain ⟨f2, tmps2, hl2, hfr2⟩ := hs4.see List.mem_cons_self
      exact ⟨_, _, run_endRound none hl2, true, _, _, rfl, hk, hs4.loopPut hfr2⟩
    | ret =>
      obtain ⟨L2, R2, O3, ⟨O4, hT2, hk⟩, hfr, hfin⟩ := hq
      rcases hfin with ⟨_, hs3⟩ | ⟨D', _, hs3⟩
      · have hs4 := hs3.perm hT2.perm
        obtain ⟨f2, tmps2, hl2, hfr2⟩ := hs4.see List.mem_cons_self
        exact ⟨_, _, run_endRound (some .ret) hl2, false, _, _, rfl, hk, hs4.loopPut hfr2⟩
      · have hs4 := hs3.drop.perm hT2.perm
        obtain ⟨f2, tmps2, hl2, hfr2⟩ := hs4.see List.mem_cons_self
        exact ⟨_, _, run_endRound (some .ret) hl2, false, _, _, rfl, hk, hs4.loopPut hfr2⟩
    | exit id => obtain ⟨_, _, _, hk, _⟩ := hq; exact hk.elim
    | goto t => obtain ⟨_, _, _, hk, _⟩ := hq; exact hk.elim
    | panic c => exact hq.elim
    | outgrown => exact hq.elim
  | ret => obtain ⟨_, _, _, hk, _⟩ := hq; exact hk.elim
  | exit id => obtain ⟨_, _, _, hk, _⟩ := hq; exact hk.elim
  | goto t => obtain ⟨_, _, _, hk, _⟩ := hq; exact hk.elim
  | panic c => exact hq.elim
  | outgrown => exact hq.elim
theorem Yld.mono {l : Nat} {args : List Value} {K K' : Bool → List RO → List Own → Prop} (h : Yld P l args R O K) (hk : ∀ b R O, K b R O → K' b R O) : Yld P l args R O K' := fun w hs => by
  obtain ⟨fn, tmps, assign, body, hy, hR⟩ := h w hs
  exact ⟨fn, tmps, assign, body, hy, hR.mono fun e w' ⟨b, R', O', he, hK, hs'⟩ => ⟨b, R', O', he, hk _ _ _ hK, hs'⟩⟩
theorem Yld.heap {l : Nat} {args : List Value} {K : Bool → List RO → List Own → Prop} {R' : List RO} (hs : ∀ w, Sat R O w → Sat R' O' w) (h : Yld P l args R' O' K) : Yld P l args R O K := fun w h0 => h w (hs w h0)
/-- Only a return is taken. -/
def onlyRet (Q : Post) : Post
  | .ret, L, R, O => Q .ret L R O
  | _, _, _, _ => False
theorem onlyRet.mk {Q : Post} (h : Q .ret L R O) : onlyRet Q .ret L R O := h
abbrev markOf (D : Nat) : List Deferred := [{ target := .collected D, args := #[] }]
/-- What the statement asks, with what stands behind it in the function. -/
def RangeOk (P : Program) (n : Sz) (g : Operand) (ps : List Nat) (assign body y : Code) (Q : Post) (L : Env) (R : List RO) (O : List Own) : Prop :=
  ∃ gf lb, ev L g = some (.func (.func gf) #[] (List.toArray lb)) ∧ hasBody P gf = true ∧
    ∀ l D, Fun P gf (.func (.yield l) #[] #[] :: lb).toArray R (recC l n L D .ready none ps.toArray assign body :: dfC D :: O) (fun _ R' O' => ∃ O2, Take (recC l n L D .ready none ps.toArray assign body) O' O2 ∧ WC P ⟨n.n, markOf D⟩ y (onlyRet Q) L R' O2)
theorem RangeOk.mk {g : Operand} {ps : List Nat} {assign body y : Code} {gf : Nat} {lb : List Value} (hg : ev L g = some (.func (.func gf) #[] lb.toArray)) (hb : hasBody P gf = true)
    (h : ∀ l D, Fun P gf (.func (.yield l) #[] #[] :: lb).toArray R (recC l n L D .ready none ps.toArray assign body :: dfC D :: O) (fun _ R' O' => ∃ O2, Take (recC l n L D .ready none ps.toArray assign body) O' O2 ∧ WC P ⟨n.n, markOf D⟩ y (onlyRet Q) L R' O2)) :
    RangeOk P n g ps assign body y Q L R O := ⟨gf, lb, hg, hb, h⟩
theorem RangeOk.core {g : Operand} {ps : List Nat} {assign body y : Code} {id : Nat} {a : Act} {w : World} (hds : n.ds = []) (hr : RangeOk P n g ps assign body y Q L R O) (hf : Fr n L a) (hs : Sat R O w) :
    (Code.block id (.rangeFunc g ps.toArray assign body)).wpIn Fence.wide 0 P (Exit.then (y.wpIn Fence.wide 0 P (lift n Q)) (lift n Q)) a w := by
  obtain ⟨gf, lb, hg, hb, h⟩ := hr
  refine wpIn_block ?_
  refine wpIn_rangeFunc fun fn _ => ?_
  have hsD : Sat R (dfC w.heap.size :: O) (w.alloc (.deferred (some []))) := hs.alloc _ _ rfl (fun w' h _ => h)
  have hsz : (w.alloc (.deferred (some []))).heap.size = w.heap.size + 1 := by simp
  have hfr : Fr ⟨n.n, []⟩ L { tmps := a.tmps, defers := [] } := ⟨hf.size, rfl, fun t v ht => hf.get t v ht⟩
  have hsL : Sat R (recC (w.heap.size + 1) n L w.heap.size .ready none ps.toArray assign body :: dfC w.heap.size :: O) ((w.alloc (.deferred (some []))).alloc (.loop { state := .ready, pending := none, fn, tmps := a.tmps, params := ps.toArray, assign, body, defers := w.heap.size })) :=
    hsD.alloc _ _ (by rw [hsz]; rfl) (fun w' h _ => ⟨fn, a.tmps, by rw [hsz] at h; exact h, hfr⟩)
  have e1 : a.eval g = _ := hf.ev hg
  have hc := h (w.heap.size + 1) w.heap.size _ hsL
  obtain ⟨W1, hW1⟩ : ∃ W1, (w.alloc (.deferred (some []))).alloc (.loop { state := .ready, pending := none, fn, tmps := a.tmps, params := ps.toArray, assign, body, defers := w.heap.size }) = W1 := ⟨_, rfl⟩
  rw [hW1] at hc
  refine ⟨w.heap.size + 1, markOf w.heap.size, W1, { target := .fn (.func gf) lb.toArray, args := #[.func (.yield (w.heap.size + 1)) #[] #[]] }, W1, gf, (.func (.yield (w.heap.size + 1)) #[] #[] :: lb).toArray, W1,
    hW1 ▸ run_enterLoop_outer fn a.tmps ps.toArray assign body, ?_, fun _ _ => trivial, ?_, fun hx => Bool.noConfusion hx, (callsIn_wide (n := 0)).2 (hc.mono ?_)⟩
  · simp only [resolve, e1]
    simp [go_sem, Deferred.ofValue]
  · simp [invoke, go_sem, run_callFunc hb]
  · rintro e w2 ⟨v, R', O', rfl, ⟨O2, hT, hy⟩, hs2⟩
    have hs3 := hs2.perm hT.perm
    obtain ⟨f2, tmps2, hl2, hfr2⟩ := hs3.see List.mem_cons_self
    refine ⟨none, _, run_endLoop hl2 (by simp), ?_⟩
    have hs4 := (hs3.loopPut (st' := .exhausted) (pe' := none) (f := f2) hfr2).drop
    have hf2 : Fr ⟨n.n, markOf w.heap.size⟩ L { a with defers := markOf w.heap.size ++ a.defers } := ⟨hf.size, by show _ ++ a.defers = _; rw [hf.defers, hds]; rfl, fun t v ht => hf.get t v ht⟩
    have hy' := hy _ _ hf2 hs4
    show Code.wpIn Fence.wide 0 P y (lift n Q) _ _
    refine wpIn_wide.2 (wp_mono hy' fun e a' w' hq => ?_)
    cases e with
    | ret => obtain ⟨L', R', O', h1, h2, h3⟩ := hq; exact ⟨L', R', O', h1, h2, h3⟩
    | normal => obtain ⟨_, _, _, hk, _⟩ := hq; exact hk.elim
    | exit id => obtain ⟨_, _, _, hk, _⟩ := hq; exact hk.elim
    | goto t => obtain ⟨_, _, _, hk, _⟩ := hq; exact hk.elim
    | panic c => exact hq.elim
    | outgrown => exact hq.elim
/-- The statement, with what stands behind it in the function. -/
theorem WC.rangeThen {g : Operand} {ps : List Nat} {assign body y : Code} {id : Nat} (hds : n.ds = []) (h : RangeOk P n g ps assign body y Q L R O) :
    WC P n (.seq (.block id (.rangeFunc g ps.toArray assign body)) y) Q L R O :=
  fun _ _ hf hs => wpIn_wide.1 (wpIn_seq (F := Fence.wide) (n := 0) (h.core hds hf hs))
def rangeQ (P : Program) (n : Sz) (g : Operand) (ps : List Nat) (assign body y : Code) (Q : Post) : Post
  | .normal, L, R, O => RangeOk P n g ps assign body y Q L R O
  | e, L, R, O => Q e L R O
theorem rangeQ.normal {g : Operand} {ps : List Nat} {assign body y : Code} (h : RangeOk P n g ps assign body y Q L R O) : rangeQ P n g ps assign body y Q .normal L R O := h
theorem WC.rangeSeq {g : Operand} {ps : List Nat} {assign body x y : Code} {id : Nat} (hds : n.ds = []) (h : WC P n x (rangeQ P n g ps assign body y Q) L R O) :
    WC P n (.seq (.seq x (.block id (.rangeFunc g ps.toArray assign body))) y) Q L R O := by
  intro a w hf hs
  refine wpIn_wide.1 (wpIn_seq (F := Fence.wide) (n := 0) (wpIn_seq (wpIn_wide.2 (wp_mono (h a w hf hs) fun e a' w' hq => ?_))))
  cases e with
  | normal => obtain ⟨L', R', O', hk, hf', hs'⟩ := hq; exact RangeOk.core hds hk hf' hs'
  | exit id => exact hq
  | goto l => exact hq
  | ret => exact hq
  | panic c => exact hq
  | outgrown => exact hq
end
end Go.SL
