/-
  A small separation logic over the model: the judgements 'WL' (a list of operations in text order), 'WD' (a region that draws its order), 'WC' (code), and their rules. No program is in sight. Every text of this seat builds on it.
-/
import Derived.WalkKit
import Derived.OrdersHeld
import Derived.LoopN
namespace Go.SL
open Go
theorem mS {α : Type} {a : α} {l : List α} : a ∈ a :: l := List.mem_cons_self
theorem mT {α : Type} {a b : α} {l : List α} (h : a ∈ l) : a ∈ b :: l := List.mem_cons_of_mem b h

/-! ### frames as lists of known slots -/
abbrev Env := List (Nat × Value)

def Env.find : List (Nat × Value) → Nat → Option Value
  | [], _ => none
  | (k, v) :: r, t => match Nat.beq k t with
    | true => some v
    | false => Env.find r t

/-- How many slots a frame has; what is deferred in it. -/
structure Sz where
  n : Nat
  ds : List Deferred
structure Fr (n : Sz) (L : Env) (a : Act) : Prop where
  size : a.tmps.size = n.n
  defers : a.defers = n.ds
  get : ∀ t v, Env.find L t = some v → a.tmps.getD t undef = v

def ev (L : Env) : Operand → Option Value
  | .tmp t => Env.find L t
  | .const v => some v
  | .global g => some (.pointer (some ⟨g, 0, none⟩))
  | .func f => some (.func (.func f) #[] #[])

theorem Fr.ev {n : Sz} {L : Env} {a : Act} (h : Fr n L a) {x : Operand} {v : Value} (hx : ev L x = some v) : a.eval x = v := by
  cases x with
  | tmp t => exact h.get t v hx
  | const c => simp only [SL.ev, Option.some.injEq] at hx; exact hx
  | global g => simp only [SL.ev, Option.some.injEq] at hx; exact hx
  | func f => simp only [SL.ev, Option.some.injEq] at hx; exact hx

theorem Fr.put {n : Sz} {L : Env} {a : Act} (h : Fr n L a) {d : Nat} (hd : Nat.blt d n.n = true) (v : Value) : Fr n ((d, v) :: L) (a.put (some d) v) := by
  have hdn : d < a.tmps.size := by rw [h.size]; exact Nat.blt_eq ▸ hd
  refine ⟨by simp [Act.put, h.size], h.defers, fun t u ht => ?_⟩
  simp only [Env.find] at ht
  by_cases e : d = t
  · subst e
    simp only [Nat.beq_refl, Option.some.injEq] at ht
    subst ht
    simp [Act.put, hdn]
  · rw [show Nat.beq d t = false from by rw [← Bool.not_eq_true, Nat.beq_eq]; exact e] at ht
    have := h.get t u ht
    simp only [Act.put, Array.getD_eq_getD_getElem?] at this ⊢
    rw [Array.getElem?_setIfInBounds_ne e]
    exact this

theorem Fr.none {n : Sz} {L : Env} {a : Act} (h : Fr n L a) (v : Value) : Fr n L (a.put Option.none v) := h

def Sub (L L' : Env) : Prop := ∀ t v, Env.find L t = some v → Env.find L' t = some v
theorem Sub.nil {L' : Env} : Sub [] L' := fun _ _ h => by simp [Env.find] at h
theorem Sub.cons {t : Nat} {v v' : Value} {r L' : Env} (h : Env.find L' t = some v') (e : v' = v) (hr : Sub r L') : Sub ((t, v) :: r) L' := by
  intro s u hs
  simp only [Env.find] at hs
  by_cases e' : t = s
  · subst e'
    simp only [Nat.beq_refl, Option.some.injEq] at hs
    rw [h, e, hs]
  · rw [show Nat.beq t s = false from by rw [← Bool.not_eq_true, Nat.beq_eq]; exact e'] at hs
    exact hr s u hs
theorem Sub.refl {L : Env} : Sub L L := fun _ _ h => h
theorem Fr.sub {n : Sz} {L L' : Env} {a : Act} (h : Fr n L' a) (hs : Sub L L') : Fr n L a := ⟨h.size, h.defers, fun t v ht => h.get t v (hs t v ht)⟩

/-- 'Pick ks L L'': L' holds what L says of the slots ks. -/
inductive Pick (L : Env) : List Nat → Env → Prop
  | nil : Pick L [] []
  | cons {k : Nat} {v : Value} {ks : List Nat} {L' : Env} (h : Env.find L k = some v) (r : Pick L ks L') : Pick L (k :: ks) ((k, v) :: L')
theorem Pick.sub {L L' : Env} {ks : List Nat} (h : Pick L ks L') : Sub L' L := by
  induction h with
  | nil => exact Sub.nil
  | cons h _ ih => exact Sub.cons h rfl ih

/-! ### the heap: what is only read ('R'), what is owned ('O') -/
def Agree (O : Nat → Prop) (w w' : World) : Prop :=
  w'.os = w.os ∧ w'.tape = w.tape ∧ w'.output = w.output ∧ w.heap.size ≤ w'.heap.size ∧ ∀ k, k < w.heap.size → ¬ O k → w'.heap[k]? = w.heap[k]?

theorem Agree.refl (O : Nat → Prop) (w : World) : Agree O w w := ⟨rfl, rfl, rfl, Nat.le_refl _, fun _ _ _ => rfl⟩
theorem Agree.mono {O O' : Nat → Prop} {w w' : World} (h : Agree O w w') (ho : ∀ k, k < w.heap.size → O k → O' k) : Agree O' w w' :=
  ⟨h.1, h.2.1, h.2.2.1, h.2.2.2.1, fun k hk hn => h.2.2.2.2 k hk (fun hx => hn (ho k hk hx))⟩
theorem Agree.trans {O : Nat → Prop} {w w' w'' : World} (h : Agree O w w') (h' : Agree O w' w'') : Agree O w w'' :=
  ⟨h'.1.trans h.1, h'.2.1.trans h.2.1, h'.2.2.1.trans h.2.2.1, Nat.le_trans h.2.2.2.1 h'.2.2.2.1,
    fun k hk hn => (h'.2.2.2.2 k (Nat.lt_of_lt_of_le hk h.2.2.2.1) hn).trans (h.2.2.2.2 k hk hn)⟩
theorem Agree.drew {O : Nat → Prop} {w w' : World} (h : Agree O w w') (d : Nat) : Agree O w { w' with drawn := d } := h
theorem alloc_old (w : World) (o : Obj) {k : Nat} (h : k < w.heap.size) : (w.alloc o).heap[k]? = w.heap[k]? := by
  show (w.heap.push o)[k]? = _
  rw [Array.getElem?_push, if_neg (by omega)]
theorem alloc_new (w : World) (o : Obj) : (w.alloc o).heap[w.heap.size]? = some o := by
  show (w.heap.push o)[w.heap.size]? = _
  rw [Array.getElem?_push, if_pos rfl]
theorem Agree.alloc {O : Nat → Prop} {w w' : World} (h : Agree O w w') (o : Obj) : Agree O w (w'.alloc o) :=
  ⟨h.1, h.2.1, h.2.2.1, Nat.le_trans h.2.2.2.1 (by simp), fun k hk hn => by
    rw [alloc_old w' o (Nat.lt_of_lt_of_le hk h.2.2.2.1)]; exact h.2.2.2.2 k hk hn⟩

structure Own where
  blks : List Nat
  pred : World → Prop

def owned : List Own → List Nat
  | [] => []
  | c :: r => c.blks ++ owned r

theorem mem_owned {O : List Own} {k : Nat} : k ∈ owned O ↔ ∃ c ∈ O, k ∈ c.blks := by
  induction O with
  | nil => simp [owned]
  | cons c r ih => simp [owned, ih]

abbrev RO := World → Prop

structure Sat (R : List RO) (O : List Own) (w : World) : Prop where
  nodup : (owned O).Nodup
  lt : ∀ k ∈ owned O, k < w.heap.size
  ro : ∀ p ∈ R, ∀ w', Agree (· ∈ owned O) w w' → p w'
  own : ∀ c ∈ O, ∀ w', Agree (fun k => k ∈ owned O ∧ k ∉ c.blks) w w' → c.pred w'

section sat
variable {R : List RO} {O : List Own} {w : World}

theorem Sat.read (h : Sat R O w) {p : RO} (hp : p ∈ R) : p w := h.ro p hp w (Agree.refl _ _)
theorem Sat.see (h : Sat R O w) {c : Own} (hc : c ∈ O) : c.pred w := h.own c hc w (Agree.refl _ _)
theorem Sat.drew (h : Sat R O w) (d : Nat) : Sat R O { w with drawn := d } := ⟨h.nodup, h.lt, fun p hp w' ha => h.ro p hp w' ha, fun c hc w' ha => h.own c hc w' ha⟩

/-- R may be thinned out and be used in any order. -/
theorem Sat.thin (h : Sat R O w) {R' : List RO} (hs : ∀ p ∈ R', p ∈ R) : Sat R' O w := ⟨h.nodup, h.lt, fun p hp => h.ro p (hs p hp), h.own⟩
theorem Sat.weaken (h : Sat R O w) {p q : RO} (hp : p ∈ R) (hpq : ∀ w, p w → q w) : Sat (q :: R) O w :=
  ⟨h.nodup, h.lt, fun x hx w' ha => by
    rcases List.mem_cons.1 hx with rfl | hx
    · exact hpq _ (h.ro p hp w' ha)
    · exact h.ro x hx w' ha, h.own⟩

theorem Sat.derive (h : Sat R O w) {q : RO} (hq : ∀ w, (∀ p ∈ R, p w) → q w) : Sat (q :: R) O w :=
  ⟨h.nodup, h.lt, fun x hx w' ha => by
    rcases List.mem_cons.1 hx with rfl | hx
    · exact hq _ fun p hp => h.ro p hp w' ha
    · exact h.ro x hx w' ha, h.own⟩
inductive SubL : List RO → List RO → Prop
  | refl {R : List RO} : SubL R R
  | skip {p : RO} {R' R : List RO} (h : SubL R' R) : SubL R' (p :: R)
  | cons {p : RO} {R' R : List RO} (hp : p ∈ R) (h : SubL R' R) : SubL (p :: R') R
theorem SubL.mem {R' R : List RO} (h : SubL R' R) : ∀ p ∈ R', p ∈ R := by
  induction h with
  | refl => exact fun _ h => h
  | skip _ ih => exact fun p hp => List.mem_cons_of_mem _ (ih p hp)
  | cons hp _ ih => intro p h; rcases List.mem_cons.1 h with rfl | h; exact hp; exact ih p h
inductive Take (c : Own) : List Own → List Own → Prop
  | head (r : List Own) : Take c (c :: r) r
  | tail {d : Own} {r r' : List Own} (h : Take c r r') : Take c (d :: r) (d :: r')

theorem Take.perm {c : Own} {O O' : List Own} (h : Take c O O') : O.Perm (c :: O') := by
  induction h with
  | head r => exact List.Perm.refl _
  | tail _ ih => exact (List.Perm.cons _ ih).trans (List.Perm.swap _ _ _)
theorem Take.mem {c : Own} {O O' : List Own} (h : Take c O O') : c ∈ O := h.perm.symm.mem_iff.1 (List.mem_cons_self)

theorem owned_perm {O O' : List Own} (h : O.Perm O') : (owned O).Perm (owned O') := by
  induction h with
  | nil => exact List.Perm.refl _
  | cons x _ ih => exact List.Perm.append_left _ ih
  | swap x y l => simp only [owned]; rw [← List.append_assoc, ← List.append_assoc]; exact List.Perm.append_right _ List.perm_append_comm
  | trans _ _ h1 h2 => exact h1.trans h2

theorem Sat.perm (h : Sat R O w) {O' : List Own} (hp : O.Perm O') : Sat R O' w := by
  have ho := owned_perm hp
  have hm : ∀ k, k ∈ owned O ↔ k ∈ owned O' := fun k => ho.mem_iff
  exact ⟨ho.nodup_iff.1 h.nodup, fun k hk => h.lt k ((hm k).2 hk), fun p hpR w' ha => h.ro p hpR w' (ha.mono fun k _ hk => (hm k).2 hk),
    fun c hc w' ha => h.own c (hp.mem_iff.2 hc) w' (ha.mono fun k _ hk => ⟨(hm k).2 hk.1, hk.2⟩)⟩

/-- A new block, owned by a new chunk. -/
theorem Sat.alloc (h : Sat R O w) (o : Obj) (c : Own) (hb : c.blks = [w.heap.size]) (hc : ∀ w', w'.heap[w.heap.size]? = some o → (∀ p ∈ R, p w') → c.pred w') : Sat R (c :: O) (w.alloc o) := by
  have hsz : (w.alloc o).heap.size = w.heap.size + 1 := by simp
  have hne : ∀ k ∈ owned O, k ≠ w.heap.size := fun k hk => Nat.ne_of_lt (h.lt k hk)
  have old : ∀ (S : Nat → Prop) w', Agree S (w.alloc o) w' → Agree S w w' := fun S w' ha =>
    ⟨ha.1, ha.2.1, ha.2.2.1, Nat.le_trans (by rw [hsz]; exact Nat.le_succ _) ha.2.2.2.1, fun k hk hn => by
      rw [ha.2.2.2.2 k (by rw [hsz]; omega) hn]; exact alloc_old w o hk⟩
  have ros : ∀ p ∈ R, ∀ w', Agree (· ∈ owned (c :: O)) (w.alloc o) w' → p w' := fun p hp w' ha =>
    h.ro p hp w' ((old _ w' ha).mono fun k hk hx => by
      simp only [owned, hb, List.singleton_append, List.mem_cons] at hx
      rcases hx with rfl | hx
      · omega
      · exact hx)
  refine ⟨?_, ?_, ros, ?_⟩
  · simp only [owned, hb, List.singleton_append, List.nodup_cons]
    exact ⟨fun hm => hne _ hm rfl, h.nodup⟩
  · intro k hk
    simp only [owned, hb, List.singleton_append, List.mem_cons] at hk
    rcases hk with rfl | hk
    · simp
    · have := h.lt k hk; rw [hsz]; omega
  · intro d hd w' ha
    rcases List.mem_cons.1 hd with rfl | hd
    · refine hc w' ?_ fun p hp => h.ro p hp w' ((old _ w' ha).mono fun k hk hx => ?_)
      · rw [ha.2.2.2.2 _ (by rw [hsz]; omega) (fun hx => by simp [hb] at hx)]
        exact alloc_new w o
      · obtain ⟨hx, _⟩ := hx
        simp only [owned, hb, List.singleton_append, List.mem_cons] at hx
        rcases hx with rfl | hx
        · omega
        · exact hx
    · refine h.own d hd w' ((old _ w' ha).mono fun k hk hx => ?_)
      obtain ⟨hx, hx'⟩ := hx
      simp only [owned, hb, List.singleton_append, List.mem_cons] at hx
      rcases hx with rfl | hx
      · omega
      · exact ⟨hx, hx'⟩

/-- One chunk is changed: no other block that was there is touched; the new chunk owns what the old one did, or new blocks. -/
theorem Sat.update {c : Own} (h : Sat R (c :: O) w) {w' : World} (c' : Own) (ha : Agree (· ∈ c.blks) w w')
    (hb : ∀ k ∈ c'.blks, k ∈ c.blks ∨ w.heap.size ≤ k) (hlt : ∀ k ∈ c'.blks, k < w'.heap.size) (hn : c'.blks.Nodup)
    (hc : ∀ w'', Agree (fun k => k ∉ c'.blks) w' w'' → (∀ p ∈ R, p w'') → c'.pred w'') : Sat R (c' :: O) w' := by
  have hnd := h.nodup
  simp only [owned, List.nodup_append] at hnd
  have hlt0 : ∀ k ∈ owned O, k < w.heap.size := fun k hk => h.lt k (by simp [owned, hk])
  have hdis : ∀ k ∈ owned O, k ∉ c'.blks := fun k hk hk' => by
    rcases hb k hk' with h1 | h1
    · exact hnd.2.2 k h1 k hk rfl
    · have := hlt0 k hk; omega
  have old : ∀ (S : Nat → Prop) w'', Agree S w' w'' → (∀ k, k < w.heap.size → S k → k ∉ c'.blks → S k) → Agree (fun k => S k ∨ k ∈ c.blks) w w'' := fun S w'' h2 _ =>
    (ha.mono fun k _ hk => .inr hk).trans ⟨h2.1, h2.2.1, h2.2.2.1, h2.2.2.2.1, fun k hk hn => h2.2.2.2.2 k hk (fun hx => hn (.inl hx))⟩
  have ros : ∀ p ∈ R, ∀ w'', Agree (fun k => k ∈ owned (c' :: O)) w' w'' → p w'' := fun p hp w'' h2 =>
    h.ro p hp w'' ((old _ w'' h2 (fun _ _ x _ => x)).mono fun k hk hx => by
      simp only [owned, List.mem_append] at hx ⊢
      rcases hx with (hx | hx) | hx
      · rcases hb k hx with h1 | h1
        · exact .inl h1
        · omega
      · exact .inr hx
      · exact .inl hx)
  refine ⟨?_, ?_, ros, ?_⟩
  · simp only [owned, List.nodup_append]
    exact ⟨hn, hnd.2.1, fun a ha b hb hab => hdis b hb (hab ▸ ha)⟩
  · intro k hk
    simp only [owned, List.mem_append] at hk
    rcases hk with hk | hk
    · exact hlt k hk
    · exact Nat.lt_of_lt_of_le (hlt0 k hk) ha.2.2.2.1
  · intro d hd w'' h2
    rcases List.mem_cons.1 hd with rfl | hd
    · exact hc w'' (h2.mono fun k _ hk => hk.2) fun p hp => ros p hp w'' (h2.mono fun k _ hk => hk.1)
    · refine h.own d (List.mem_cons_of_mem _ hd) w'' ((old _ w'' h2 (fun _ _ x _ => x)).mono fun k hk hx => ?_)
      simp only [owned, List.mem_append] at hx ⊢
      have hdd : k ∈ d.blks → k ∈ owned O := fun hkd => mem_owned.2 ⟨d, hd, hkd⟩
      rcases hx with ⟨hx | hx, hnd'⟩ | hx
      · rcases hb k hx with h1 | h1
        · exact ⟨.inl h1, hnd'⟩
        · omega
      · exact ⟨.inr hx, hnd'⟩
      · exact ⟨.inl hx, fun hkd => hnd.2.2 k hx k (hdd hkd) rfl⟩

/-- An owned chunk is given up: from now on it is only read. -/
theorem Sat.share {c : Own} (h : Sat R (c :: O) w) (q : RO) (hq : ∀ w, c.pred w → (∀ p ∈ R, p w) → q w) : Sat (q :: R) O w := by
  have hnd := h.nodup
  simp only [owned, List.nodup_append] at hnd
  refine ⟨hnd.2.1, fun k hk => h.lt k (by simp [owned, hk]), ?_, ?_⟩
  · intro p hp w' ha
    rcases List.mem_cons.1 hp with rfl | hp
    · refine hq w' (h.own c List.mem_cons_self w' (ha.mono fun k _ hk => ?_)) fun p hp => h.ro p hp w' (ha.mono fun k _ hk => by simp [owned, hk])
      exact ⟨by simp [owned, hk], fun hc => hnd.2.2 k hc k hk rfl⟩
    · exact h.ro p hp w' (ha.mono fun k _ hk => by simp [owned, hk])
  · intro d hd w' ha
    exact h.own d (List.mem_cons_of_mem _ hd) w' (ha.mono fun k _ hk => ⟨by simp [owned, hk.1], hk.2⟩)

theorem Sat.drop {c : Own} (h : Sat R (c :: O) w) : Sat R O w :=
  (h.share (fun _ => True) (fun _ _ _ => trivial)).thin (fun p hp => List.mem_cons_of_mem _ hp)

/-- Two chunks are said as one. -/
theorem Sat.merge {c1 c2 : Own} (h : Sat R (c1 :: c2 :: O) w) (c : Own) (hb : c.blks = c1.blks ++ c2.blks) (hp : ∀ w, c1.pred w → c2.pred w → c.pred w) : Sat R (c :: O) w := by
  have ho : owned (c :: O) = owned (c1 :: c2 :: O) := by simp [owned, hb]
  refine ⟨ho ▸ h.nodup, fun k hk => h.lt k (ho ▸ hk), fun p hp w' ha => h.ro p hp w' (ho ▸ ha), fun d hd w' ha => ?_⟩
  rcases List.mem_cons.1 hd with rfl | hd
  · refine hp w' (h.own c1 (by simp) w' (ha.mono fun k _ hk => ⟨ho ▸ hk.1, fun hx => hk.2 (by simp [hb, hx])⟩)) (h.own c2 (by simp) w' (ha.mono fun k _ hk => ⟨ho ▸ hk.1, fun hx => hk.2 (by simp [hb, hx])⟩))
  · exact h.own d (by simp [hd]) w' (ha.mono fun k _ hk => ⟨ho ▸ hk.1, hk.2⟩)
/-- A chunk that owns nothing. -/
theorem Sat.emp (h : Sat R O w) (c : Own) (hb : c.blks = []) (hp : ∀ w, c.pred w) : Sat R (c :: O) w := by
  have ho : owned (c :: O) = owned O := by simp [owned, hb]
  refine ⟨ho ▸ h.nodup, fun k hk => h.lt k (ho ▸ hk), fun p hp w' ha => h.ro p hp w' (ho ▸ ha), fun d hd w' ha => ?_⟩
  rcases List.mem_cons.1 hd with rfl | hd
  · exact hp w'
  · exact h.own d hd w' (ha.mono fun k _ hk => ⟨ho ▸ hk.1, hk.2⟩)
inductive OwnL : List Own → List Own → Prop
  | refl {O : List Own} : OwnL O O
  | drop {c : Own} {O O' : List Own} (h : OwnL O O') : OwnL (c :: O) O'
  | take {c : Own} {O O1 O' : List Own} (ht : Take c O O1) (h : OwnL O1 O') : OwnL O (c :: O')
theorem Sat.keep {c : Own} {O1 O2 : List Own} (h : Sat R (c :: O1) w) (hk : ∀ w, Sat R O1 w → Sat R O2 w) (hs : ∀ k ∈ owned O2, k ∈ owned O1) (hp : ∀ d ∈ O2, d ∈ O1) : Sat R (c :: O2) w := by
  have hnd := h.nodup
  simp only [owned, List.nodup_append] at hnd
  have h2 := hk w h.drop
  have hsub : ∀ k, k ∈ owned (c :: O2) → k ∈ owned (c :: O1) := fun k hk => by
    simp only [owned, List.mem_append] at hk ⊢
    rcases hk with hk | hk
    · exact .inl hk
    · exact .inr (hs k hk)
  refine ⟨?_, ?_, fun p hp w' ha => h.ro p hp w' (ha.mono fun k _ hk => hsub k hk), fun d hd w' ha => ?_⟩
  · simp only [owned, List.nodup_append]
    exact ⟨hnd.1, h2.nodup, fun a ha b hb => hnd.2.2 a ha b (hs b hb)⟩
  · exact fun k hk => h.lt k (hsub k hk)
  · rcases List.mem_cons.1 hd with rfl | hd
    · exact h.own _ List.mem_cons_self w' (ha.mono fun k _ hk => ⟨hsub k hk.1, hk.2⟩)
    · exact h.own d (List.mem_cons_of_mem _ (hp d hd)) w' (ha.mono fun k _ hk => ⟨hsub k hk.1, hk.2⟩)
theorem OwnL.mem {O O' : List Own} (h : OwnL O O') : (∀ d ∈ O', d ∈ O) ∧ (∀ k ∈ owned O', k ∈ owned O) := by
  have h1 : ∀ d ∈ O', d ∈ O := by
    induction h with
    | refl => exact fun _ h => h
    | drop _ ih => exact fun d hd => List.mem_cons_of_mem _ (ih d hd)
    | take ht _ ih => intro d hd; rcases List.mem_cons.1 hd with rfl | hd; exact ht.mem; exact ht.perm.symm.mem_iff.1 (List.mem_cons_of_mem _ (ih d hd))
  exact ⟨h1, fun k hk => by obtain ⟨c, hc, hkc⟩ := mem_owned.1 hk; exact mem_owned.2 ⟨c, h1 c hc, hkc⟩⟩
theorem OwnL.sat {O O' : List Own} (h : OwnL O O') : ∀ w, Sat R O w → Sat R O' w := by
  induction h with
  | refl => exact fun _ h => h
  | drop _ ih => exact fun w h => ih w h.drop
  | take ht hr ih => exact fun w h => (h.perm ht.perm).keep ih hr.mem.2 hr.mem.1
/-- What is owned is said otherwise. -/
theorem Sat.recast {c : Own} (h : Sat R (c :: O) w) (c' : Own) (hb : c'.blks = c.blks) (hc : ∀ w, c.pred w → (∀ p ∈ R, p w) → c'.pred w) : Sat R (c' :: O) w := by
  refine ⟨by simpa [owned, hb] using h.nodup, by simpa [owned, hb] using h.lt, fun p hp w' ha => h.ro p hp w' (by simpa [owned, hb] using ha), fun d hd w' ha => ?_⟩
  rcases List.mem_cons.1 hd with rfl | hd
  · refine hc w' (h.own c List.mem_cons_self w' (by simpa [owned, hb] using ha)) fun p hp => h.ro p hp w' (ha.mono fun k _ hk => ?_)
    simpa [owned, hb] using hk.1
  · exact h.own d (List.mem_cons_of_mem _ hd) w' (by simpa [owned, hb] using ha)
end sat

/-! ### the judgements -/
abbrev Post := Exit → Env → List RO → List Own → Prop

/-- The record of a range over a function: the calls that its rounds deferred (none). -/
def dfC (D : Nat) : Own := ⟨[D], fun w => w.heap[D]? = some (.deferred (some []))⟩
/-- What a call leaves with: nothing is deferred, or the mark of one range over a function. -/
def Fin (ds : List Deferred) (R : List RO) (O : List Own) (w : World) : Prop := (ds = [] ∧ Sat R O w) ∨ ∃ D, ds = [{ target := .collected D, args := #[] }] ∧ Sat R (dfC D :: O) w
/-- 'Fin' out of what is owned. -/
inductive FinO : List Deferred → List Own → List Own → Prop
  | nil {O : List Own} : FinO [] O O
  | mark {D : Nat} {O O' : List Own} (h : Take (dfC D) O O') : FinO [{ target := .collected D, args := #[] }] O O'
theorem FinO.fin {ds : List Deferred} {R : List RO} {O O' : List Own} {w : World} (h : FinO ds O O') (hs : Sat R O w) : Fin ds R O' w := by
  cases h with
  | nil => exact .inl ⟨rfl, hs⟩
  | mark hT => exact .inr ⟨_, rfl, hs.perm hT.perm⟩
theorem Fin.mono {ds : List Deferred} {R R' : List RO} {O O' : List Own} {w : World} (h : Fin ds R O w) (hs : ∀ O1 w, Sat R (O1 ++ O) w → Sat R' (O1 ++ O') w) : Fin ds R' O' w := by
  rcases h with ⟨rfl, h⟩ | ⟨D, rfl, h⟩
  · exact .inl ⟨rfl, hs [] w h⟩
  · exact .inr ⟨D, rfl, hs [_] w h⟩
def lift (n : Sz) (Q : Post) : Exit → Act → World → Prop
  | .panic _, _, _ => False
  | .outgrown, _, _ => False
  | .ret, a, w => ∃ L R O, Q .ret L R O ∧ Fr ⟨n.n, a.defers⟩ L a ∧ Fin a.defers R O w
  | e, a, w => ∃ L R O, Q e L R O ∧ Fr n L a ∧ Sat R O w

def WC (P : Program) (n : Sz) (c : Code) (Q : Post) (L : Env) (R : List RO) (O : List Own) : Prop :=
  ∀ a w, Fr n L a → Sat R O w → c.wp P (lift n Q) a w
def WL (P : Program) (n : Sz) (ops : Array Oper) (Q : Post) (rest : List Oper) (L : Env) (R : List RO) (O : List Own) : Prop :=
  ∀ a w, Fr n L a → Sat R O w → wpList P ops (lift n Q) rest a w
def WD (P : Program) (n : Sz) (ops : Array Oper) (Q : Post) (S : List RO) (T : List Own) (fuel : Nat) (listed : Array Bool) (L : Env) (R : List RO) (O : List Own) : Prop :=
  ∀ a w, Fr n L a → Sat R O w → wpAnyH P .any ops (lift n Q) (fun w => (∀ p ∈ S, p w) ∧ ∀ c ∈ T, c.pred w) fuel listed a w

/-- One operation that only reads: in whatever frame and heap that fit it gives v. -/
def Rd (P : Program) (o : Oper) (L : Env) (R : List RO) (O : List Own) (v : Value) : Prop :=
  ∀ ρ w, (∀ x u, ev L x = some u → ρ x = u) → (∀ p ∈ R, p w) → (∀ c ∈ O, c.pred w) → (execOp ρ o).run P w = .ok (.value v) w
/-- One operation, whatever it does. -/
def OpW (P : Program) (n : Sz) (o : Oper) (L : Env) (R : List RO) (O : List Own) (K : Env → List RO → List Own → Prop) : Prop :=
  ∀ a w, Fr n L a → Sat R O w → ∀ Q, o.wp P a w (fun a' w' => ∃ L' R' O', K L' R' O' ∧ Fr n L' a' ∧ Sat R' O' w') Q

section rules
variable {P : Program} {n : Sz} {ops : Array Oper} {Q : Post} {rest : List Oper} {o : Oper} {L : Env} {R : List RO} {O : List Own}

theorem lift_normal {a : Act} {w : World} (h : Q .normal L R O) (hf : Fr n L a) (hs : Sat R O w) : lift n Q .normal a w := ⟨L, R, O, h, hf, hs⟩

theorem WL.nil (h : Q .normal L R O) : WL P n ops Q [] L R O := fun _ _ hf hs => wpList_nil (lift_normal h hf hs)

theorem OpW.rd {v : Value} {d : Nat} {K : Env → List RO → List Own → Prop} (hd : o.dst = some d) (hn : Nat.blt d n.n = true) (h : Rd P o L R O v) (k : K ((d, v) :: L) R O) : OpW P n o L R O K := by
  intro a w hf hs Q
  unfold Oper.wp
  rw [h a.eval w (fun x u hx => hf.ev hx) (fun p hp => hs.read hp) (fun c hc => hs.see hc), Oper.upon_value, hd]
  exact ⟨_, _, _, k, hf.put hn v, hs⟩

theorem WL.op (hg : o.guard = none) (h : OpW P n o L R O (fun L' R' O' => WL P n ops Q rest L' R' O')) : WL P n ops Q (o :: rest) L R O := by
  intro a w hf hs
  refine wpList_plain hg fun K hK => ?_
  exact Oper.wp_mono (fun a' w' ⟨L', R', O', hk, hf', hs'⟩ => hK _ _ (hk a' w' hf' hs')) (h a w hf hs _)
theorem WL.rd {v : Value} {d : Nat} (hg : o.guard = none) (hd : o.dst = some d) (hn : Nat.blt d n.n = true) (h : Rd P o L R O v) (k : WL P n ops Q rest ((d, v) :: L) R O) : WL P n ops Q (o :: rest) L R O :=
  WL.op hg (OpW.rd hd hn h k)

theorem yielded_of {a : Act} (hf : Fr n L a) {j d : Nat} {b : Bool} (hj : (ops[j]?).bind (·.dst) = some d) (hn : Nat.blt d n.n = true) (hb : Env.find L d = some (.bool b)) : yielded ops a.tmps j = some b := by
  have hdn : d < a.tmps.size := by rw [hf.size]; exact Nat.blt_eq ▸ hn
  have h := hf.get d _ hb
  simp only [Array.getD_eq_getD_getElem?, hdn, getElem?_pos, Option.getD_some] at h
  simp [yielded, hj, hdn, h]
theorem wanted_of {a : Act} (hf : Fr n L a) {j d : Nat} {b want : Bool} (hg : o.guard = some (j, want)) (hj : (ops[j]?).bind (·.dst) = some d) (hn : Nat.blt d n.n = true) (hb : Env.find L d = some (.bool b)) : Region.wanted o (yielded ops a.tmps) = (b == want) := by
  simp [Region.wanted, hg, yielded_of hf hj hn hb]

theorem WL.op_yes {j d : Nat} {b : Bool} (hg : o.guard = some (j, b)) (hj : (ops[j]?).bind (·.dst) = some d) (hn : Nat.blt d n.n = true) (hb : Env.find L d = some (.bool b))
    (h : OpW P n o L R O (fun L' R' O' => WL P n ops Q rest L' R' O')) : WL P n ops Q (o :: rest) L R O := by
  intro a w hf hs
  unfold wpList
  rw [if_pos (by rw [wanted_of hf hg hj hn hb]; simp)]
  exact .inl (Oper.wp_mono (fun a' w' ⟨L', R', O', hk, hf', hs'⟩ => hk a' w' hf' hs') (h a w hf hs _))
theorem WL.rd_yes {j d e : Nat} {b : Bool} {v : Value} (hg : o.guard = some (j, b)) (hj : (ops[j]?).bind (·.dst) = some e) (hne : Nat.blt e n.n = true) (hb : Env.find L e = some (.bool b))
    (hd : o.dst = some d) (hn : Nat.blt d n.n = true) (h : Rd P o L R O v) (k : WL P n ops Q rest ((d, v) :: L) R O) : WL P n ops Q (o :: rest) L R O :=
  WL.op_yes hg hj hne hb (OpW.rd hd hn h k)
theorem WL.no {j d e : Nat} {b : Bool} (hg : o.guard = some (j, b)) (hj : (ops[j]?).bind (·.dst) = some e) (hne : Nat.blt e n.n = true) (hb : Env.find L e = some (.bool (!b)))
    (hd : o.dst = some d) (hn : Nat.blt d n.n = true) (k : WL P n ops Q rest ((d, undef) :: L) R O) : WL P n ops Q (o :: rest) L R O := by
  intro a w hf hs
  unfold wpList
  rw [if_neg (by rw [wanted_of hf hg hj hne hb]; cases b <;> simp), hd]
  exact k _ _ (hf.put hn _) hs
theorem WL.no0 {j e : Nat} {b : Bool} (hg : o.guard = some (j, b)) (hj : (ops[j]?).bind (·.dst) = some e) (hne : Nat.blt e n.n = true) (hb : Env.find L e = some (.bool (!b)))
    (hd : o.dst = none) (k : WL P n ops Q rest L R O) : WL P n ops Q (o :: rest) L R O := by
  intro a w hf hs
  unfold wpList
  rw [if_neg (by rw [wanted_of hf hg hj hne hb]; cases b <;> simp), hd]
  exact k _ _ hf hs

theorem wantedU {a : Act} (hf : Fr n L a) {j d : Nat} {want : Bool} (hg : o.guard = some (j, want)) (hj : (ops[j]?).bind (·.dst) = some d) (hn : Nat.blt d n.n = true) (hb : Env.find L d = some undef) : Region.wanted o (yielded ops a.tmps) = false := by
  have hdn : d < a.tmps.size := by rw [hf.size]; exact Nat.blt_eq ▸ hn
  have h := hf.get d _ hb
  simp only [Array.getD_eq_getD_getElem?, hdn, getElem?_pos, Option.getD_some] at h
  simp [Region.wanted, hg, yielded, hj, hdn, h, undef]
theorem WL.noU {j d e : Nat} {b : Bool} (hg : o.guard = some (j, b)) (hj : (ops[j]?).bind (·.dst) = some e) (hne : Nat.blt e n.n = true) (hb : Env.find L e = some undef)
    (hd : o.dst = some d) (hn : Nat.blt d n.n = true) (k : WL P n ops Q rest ((d, undef) :: L) R O) : WL P n ops Q (o :: rest) L R O := by
  intro a w hf hs
  unfold wpList
  rw [if_neg (by rw [wantedU hf hg hj hne hb]; simp), hd]
  exact k _ _ (hf.put hn _) hs
theorem Fr.known {L : Env} {a : Act} (hf : Fr n L a) {t : Nat} {v u : Value} (ht : Env.find L t = some v) (e : v = u) : Fr n ((t, u) :: L) a := by
  subst e
  refine ⟨hf.size, hf.defers, fun s x hs => ?_⟩
  simp only [Env.find] at hs
  by_cases e' : t = s
  · subst e'
    simp only [Nat.beq_refl, Option.some.injEq] at hs
    subst hs
    exact hf.get t _ ht
  · rw [show Nat.beq t s = false from by rw [← Bool.not_eq_true, Nat.beq_eq]; exact e'] at hs
    exact hf.get s x hs

/-- Cases of a test that stands in slot t. -/
theorem WL.case (t : Nat) {p : Prop} [Decidable p] (ht : Env.find L t = some (.bool (decide p))) (hy : p → WL P n ops Q rest ((t, .bool true) :: L) R O) (hno : ¬ p → WL P n ops Q rest ((t, .bool false) :: L) R O) : WL P n ops Q rest L R O := by
  intro a w hf hs
  by_cases h : p
  · exact hy h a w (hf.known ht (by simp [h])) hs
  · exact hno h a w (hf.known ht (by simp [h])) hs
/-- A slot's value said otherwise. -/
theorem WL.say (t : Nat) {v u : Value} (ht : Env.find L t = some v) (e : v = u) (k : WL P n ops Q rest ((t, u) :: L) R O) : WL P n ops Q rest L R O :=
  fun a w hf hs => k a w (hf.known ht e) hs
theorem WL.frame {L' : Env} (hs : Sub L' L) (k : WL P n ops Q rest L' R O) : WL P n ops Q rest L R O := fun a w hf h => k a w (hf.sub hs) h
theorem WL.heap {R' : List RO} {O' : List Own} (hs : ∀ w, Sat R O w → Sat R' O' w) (k : WL P n ops Q rest L R' O') : WL P n ops Q rest L R O := fun a w hf h => k a w hf (hs w h)

/-! ### code -/
theorem WC.region {id : Nat} {l : List Oper} (h : WL P n l.toArray Q l L R O) : WC P n (.region id l.toArray false) Q L R O :=
  fun a w hf hs => wp_region_lit (h a w hf hs)
theorem WC.draw {id : Nat} {l : List Oper} (S : List RO) (T : List Own) (hm : P.follows .mixedOrders = true) (h : WD P n l.toArray Q S T l.toArray.size (Array.replicate l.toArray.size false) L R O) : WC P n (.region id l.toArray true) Q L R O :=
  fun a w hf hs => wp_region_held (S := fun w => (∀ p ∈ S, p w) ∧ ∀ c ∈ T, c.pred w) hm (h a _ hf (hs.drew _))

def thenQ (P : Program) (n : Sz) (y : Code) (Q : Post) : Post
  | .normal, L, R, O => WC P n y Q L R O
  | e, L, R, O => Q e L R O
theorem thenQ.normal {y : Code} (h : WC P n y Q L R O) : thenQ P n y Q .normal L R O := h
theorem WC.seq {x y : Code} (h : WC P n x (thenQ P n y Q) L R O) : WC P n (.seq x y) Q L R O := by
  intro a w hf hs
  refine wp_seq (wp_mono (h a w hf hs) fun e a' w' hq => ?_)
  cases e with
  | normal => obtain ⟨L', R', O', hk, hf', hs'⟩ := hq; exact hk a' w' hf' hs'
  | exit id => exact hq
  | goto l => exact hq
  | ret => exact hq
  | panic c => exact hq
  | outgrown => exact hq
theorem WC.skip (h : Q .normal L R O) : WC P n .skip Q L R O := fun _ _ hf hs => wp_skip (lift_normal h hf hs)
theorem WC.exit {id : Nat} (h : Q (.exit id) L R O) : WC P n (.exit id) Q L R O := fun _ _ hf hs => wp_exit ⟨_, _, _, h, hf, hs⟩
theorem Fr.own {a : Act} (h : Fr n L a) : Fr ⟨n.n, a.defers⟩ L a := ⟨h.size, rfl, h.get⟩
theorem WC.retO {O' : List Own} (hF : FinO n.ds O O') (h : Q .ret L R O') : WC P n .ret Q L R O := fun _ _ hf hs => wp_ret ⟨_, _, _, h, hf.own, by rw [hf.defers]; exact hF.fin hs⟩
theorem WC.ret (h : Q .ret L R O) (hF : FinO n.ds O O := by exact FinO.nil) : WC P n .ret Q L R O := WC.retO hF h

def blockQ (id : Nat) (Q : Post) : Post
  | .exit id', L, R, O => match Nat.beq id' id with
    | true => Q .normal L R O
    | false => Q (.exit id') L R O
  | e, L, R, O => Q e L R O
theorem WC.block {id : Nat} {c : Code} (h : WC P n c (blockQ id Q) L R O) : WC P n (.block id c) Q L R O := by
  intro a w hf hs
  refine wp_block (wp_mono (h a w hf hs) fun e a' w' hq => ?_)
  cases e with
  | normal => exact hq
  | exit id' =>
    obtain ⟨L', R', O', hk, hf', hs'⟩ := hq
    by_cases e : id' = id
    · subst e
      simp only [blockQ, Nat.beq_refl] at hk
      simp only [Exit.inBlock, if_true]
      exact ⟨_, _, _, hk, hf', hs'⟩
    · simp only [blockQ, show Nat.beq id' id = false from by rw [← Bool.not_eq_true, Nat.beq_eq]; exact e] at hk
      simp only [Exit.inBlock, e, if_false]
      exact ⟨_, _, _, hk, hf', hs'⟩
  | goto l => exact hq
  | ret => exact hq
  | panic c => exact hq
  | outgrown => exact hq

theorem WC.cond {c : Operand} {x y : Code} {b : Bool} (hc : ev L c = some (.bool b)) (ht : b = true → WC P n x Q L R O) (hf : b = false → WC P n y Q L R O) : WC P n (.cond c x y) Q L R O := by
  intro a w hfr hs
  exact wp_cond_split (hfr.ev hc) (fun h => ht h a w hfr hs) (fun h => hf h a w hfr hs)
theorem WC.ite {c : Operand} {x y : Code} {p : Prop} [Decidable p] (hc : ev L c = some (.bool (decide p))) (ht : p → WC P n x Q L R O) (hf : ¬ p → WC P n y Q L R O) : WC P n (.cond c x y) Q L R O :=
  WC.cond hc (fun h => ht (of_decide_eq_true h)) (fun h => hf (of_decide_eq_false h))
theorem WC.yes {c : Operand} {x y : Code} (hc : ev L c = some (.bool true)) (ht : WC P n x Q L R O) : WC P n (.cond c x y) Q L R O :=
  WC.cond hc (fun _ => ht) (fun h => by cases h)
theorem WC.no {c : Operand} {x y : Code} (hc : ev L c = some (.bool false)) (hf : WC P n y Q L R O) : WC P n (.cond c x y) Q L R O :=
  WC.cond hc (fun h => by cases h) (fun _ => hf)

theorem WC.frame {c : Code} {L' : Env} (hs : Sub L' L) (k : WC P n c Q L' R O) : WC P n c Q L R O := fun a w hf h => k a w (hf.sub hs) h
theorem WC.pick {c : Code} (ks : List Nat) {L' : Env} (hp : Pick L ks L') (k : WC P n c Q L' R O) : WC P n c Q L R O := WC.frame hp.sub k
theorem WC.heap {c : Code} {R' : List RO} {O' : List Own} (hs : ∀ w, Sat R O w → Sat R' O' w) (k : WC P n c Q L R' O') : WC P n c Q L R O := fun a w hf h => k a w hf (hs w h)
theorem WC.say {c : Code} (t : Nat) {v u : Value} (ht : Env.find L t = some v) (e : v = u) (k : WC P n c Q ((t, u) :: L) R O) : WC P n c Q L R O :=
  fun a w hf hs => k a w (hf.known ht e) hs
/-- The post is weakened. -/
theorem WC.mono {c : Code} {Q' : Post} (h : WC P n c Q' L R O) (hq : ∀ e L R O, Q' e L R O → Q e L R O) : WC P n c Q L R O := by
  intro a w hf hs
  refine wp_mono (h a w hf hs) fun e a' w' hk => ?_
  cases e with
  | panic c => exact hk
  | outgrown => exact hk
  | normal => obtain ⟨L', R', O', h1, h2, h3⟩ := hk; exact ⟨L', R', O', hq _ _ _ _ h1, h2, h3⟩
  | exit id => obtain ⟨L', R', O', h1, h2, h3⟩ := hk; exact ⟨L', R', O', hq _ _ _ _ h1, h2, h3⟩
  | goto l => obtain ⟨L', R', O', h1, h2, h3⟩ := hk; exact ⟨L', R', O', hq _ _ _ _ h1, h2, h3⟩
  | ret => obtain ⟨L', R', O', h1, h2, h3⟩ := hk; exact ⟨L', R', O', hq _ _ _ _ h1, h2, h3⟩

/-- What a piece of code leaves, when it ends normally, is one of some states: from there on the rest is walked once. -/
def midQ {α : Type} (LF : α → Env) (RF : α → List RO) (OF : α → List Own) (I : α → Prop) (Q : Post) : Post
  | .normal, L, R, O => ∃ x, I x ∧ Sub (LF x) L ∧ (∀ w, Sat R O w → Sat (RF x) (OF x) w)
  | e, L, R, O => Q e L R O
theorem WC.cut {x y : Code} {α : Type} (LF : α → Env) (RF : α → List RO) (OF : α → List Own) (I : α → Prop)
    (h1 : WC P n x (midQ LF RF OF I Q) L R O) (h2 : ∀ z, I z → WC P n y Q (LF z) (RF z) (OF z)) : WC P n (.seq x y) Q L R O := by
  refine WC.seq (h1.mono fun e L' R' O' hk => ?_)
  cases e with
  | normal => obtain ⟨z, hI, hL, hS⟩ := hk; exact WC.frame hL (WC.heap hS (h2 z hI))
  | exit id => exact hk
  | goto l => exact hk
  | ret => exact hk
  | panic c => exact hk
  | outgrown => exact hk

def loopQ {α : Type} (LF : α → Env) (RF : α → List RO) (OF : α → List Own) (I : α → Prop) (μ : α → Nat) (m : Nat) (Q : Post) : Post
  | .normal, L, R, O => ∃ x, I x ∧ μ x < m ∧ Sub (LF x) L ∧ (∀ w, Sat R O w → Sat (RF x) (OF x) w)
  | e, L, R, O => Q e L R O
theorem WC.loop {c : Code} {α : Type} (LF : α → Env) (RF : α → List RO) (OF : α → List Own) (I : α → Prop) (μ : α → Nat) (x0 : α) (h0 : I x0) (hL : Sub (LF x0) L) (hS : ∀ w, Sat R O w → Sat (RF x0) (OF x0) w)
    (round : ∀ x, I x → WC P n c (loopQ LF RF OF I μ (μ x) Q) (LF x) (RF x) (OF x)) : WC P n (.loop c) Q L R O := by
  have up : ∀ (Q : Exit → Act → World → Prop) m a w, Code.rounds P c Q m a w → Code.rounds P c Q (m + 1) a w := by
    intro Q m
    induction m with
    | zero => intro a w h; exact h.elim
    | succ m ih =>
      intro a w h
      refine wp_mono h fun e a' w' hq => ?_
      cases e with
      | normal => exact ih _ _ hq
      | exit id => exact hq
      | goto l => exact hq
      | ret => exact hq
      | panic c => exact hq
      | outgrown => exact hq
  have ups : ∀ (Q : Exit → Act → World → Prop) m k a w, Code.rounds P c Q m a w → Code.rounds P c Q (m + k) a w := by
    intro Q m k
    induction k with
    | zero => intro a w h; exact h
    | succ k ih => intro a w h; exact up Q _ _ _ (ih _ _ h)
  have key : ∀ m x, μ x = m → I x → ∀ a w, Fr n (LF x) a → Sat (RF x) (OF x) w → Code.rounds P c (lift n Q) (m + 1) a w := by
    intro m
    induction m using Nat.strongRecOn with
    | _ m ih =>
      intro x hm hI a w hf hs
      rw [rounds_succ]
      refine wp_mono (round x hI a w hf hs) fun e a' w' hq => ?_
      cases e with
      | normal =>
        obtain ⟨L', R', O', ⟨y, hy, hlt, hL', hS'⟩, hf', hs'⟩ := hq
        rw [hm] at hlt
        have h := ih (μ y) hlt y rfl hy a' w' (hf'.sub hL') (hS' _ hs')
        have h2 := ups (lift n Q) (μ y + 1) (m - (μ y + 1)) a' w' h
        rw [show μ y + 1 + (m - (μ y + 1)) = m from by omega] at h2
        exact h2
      | exit id => exact hq
      | goto l => exact hq
      | ret => exact hq
      | panic c => exact hq
      | outgrown => exact hq
  exact fun a w hf hs => wp_loop_rounds _ (key _ x0 rfl h0 a w (hf.sub hL) (hS w hs))

/-! ### what the printed walks call -/
theorem thenQ.exit {y : Code} {id : Nat} (h : Q (.exit id) L R O) : thenQ P n y Q (.exit id) L R O := h
theorem blockQ.normal {id : Nat} (h : Q .normal L R O) : blockQ id Q .normal L R O := h
theorem blockQ.exit {id : Nat} (h : Q .normal L R O) : blockQ id Q (.exit id) L R O := by simp only [blockQ, Nat.beq_refl]; exact h
theorem blockQ.pass {id id' : Nat} (hne : Nat.beq id' id = false) (h : Q (.exit id') L R O) : blockQ id Q (.exit id') L R O := by simp only [blockQ, hne]; exact h
theorem midQ.exit {α : Type} {LF : α → Env} {RF : α → List RO} {OF : α → List Own} {I : α → Prop} {id : Nat} (h : Q (.exit id) L R O) : midQ LF RF OF I Q (.exit id) L R O := h
def valQ (d : Nat) (v : Value) (L0 : Env) (R0 : List RO) (O0 : List Own) (Q : Post) : Post
  | .normal, L, R, O => Sub ((d, v) :: L0) L ∧ ∀ w, Sat R O w → Sat R0 O0 w
  | e, L, R, O => Q e L R O
theorem valQ.exit {d : Nat} {v : Value} {L0 : Env} {R0 : List RO} {O0 : List Own} {id : Nat} (h : Q (.exit id) L R O) : valQ d v L0 R0 O0 Q (.exit id) L R O := h
/-- A piece that does no more than to put v into slot d, whatever its ways. -/
theorem WC.val {x y : Code} (d : Nat) (v : Value) (h1 : WC P n x (valQ d v L R O Q) L R O) (h2 : WC P n y Q ((d, v) :: L) R O) : WC P n (.seq x y) Q L R O := by
  refine WC.seq (h1.mono fun e L' R' O' hk => ?_)
  cases e with
  | normal => obtain ⟨hL, hS⟩ := hk; exact WC.frame hL (WC.heap hS h2)
  | exit id => exact hk
  | goto l => exact hk
  | ret => exact hk
  | panic c => exact hk
  | outgrown => exact hk

inductive Split : Nat → Env → Env → Env → Prop
  | zero {L : Env} : Split 0 L [] L
  | succ {m : Nat} {x : Nat × Value} {L p r : Env} (h : Split m L p r) : Split (m + 1) (x :: L) (x :: p) r

section loops
variable {c : Code} {α β γ δ ε ζ η : Type}
def loopQ1 (ch : α → Env) (Lc : Env) (RF : α → List RO) (OF : α → List Own) (I : α → Prop) (μ : α → Nat) (m : Nat) (Q : Post) : Post :=
  loopQ (α := α) (fun q => ch q ++ Lc) (fun q => RF q) (fun q => OF q) (fun q => I q) (fun q => μ q) m Q
theorem loopQ1.mk {ch : α → Env} {Lc : Env} {RF : α → List RO} {OF : α → List Own} {I : α → Prop} {μ : α → Nat} {m : Nat} (x : α) (hI : I x) (hm : μ x < m) (hL : Sub (ch x ++ Lc) L) (hS : ∀ w, Sat R O w → Sat (RF x) (OF x) w) : loopQ1 ch Lc RF OF I μ m Q .normal L R O := ⟨x, hI, hm, hL, hS⟩
theorem loopQ1.exit {ch : α → Env} {Lc : Env} {RF : α → List RO} {OF : α → List Own} {I : α → Prop} {μ : α → Nat} {m id : Nat} (h : Q (.exit id) L R O) : loopQ1 ch Lc RF OF I μ m Q (.exit id) L R O := h
theorem WC.loop1r (m : Nat) (ch : α → Env) (RF : α → List RO) (OF : α → List Own) (I : α → Prop) (μ : α → Nat) (x0 : α) {pre Lc : Env} (_hs : Split m L pre Lc) (h0 : I x0) (hL : Sub (ch x0 ++ Lc) L) (hS : ∀ w, Sat R O w → Sat (RF x0) (OF x0) w)
    (round : ∀ x, I x → WC P n c (loopQ1 ch Lc RF OF I μ (μ x) Q) (ch x ++ Lc) (RF x) (OF x)) : WC P n (.loop c) Q L R O :=
  WC.loop (α := α) (fun q => ch q ++ Lc) (fun q => RF q) (fun q => OF q) (fun q => I q) (fun q => μ q) x0 h0 hL hS (fun q hq => round q hq)
theorem WC.loop1 (m : Nat) (ch : α → Env) (OF : α → List Own) (I : α → Prop) (μ : α → Nat) (x0 : α) {pre Lc : Env} (hs : Split m L pre Lc) (h0 : I x0) (hL : Sub (ch x0 ++ Lc) L) (hS : ∀ w, Sat R O w → Sat R (OF x0) w)
    (round : ∀ x, I x → WC P n c (loopQ1 ch Lc (fun _ => R) OF I μ (μ x) Q) (ch x ++ Lc) R (OF x)) : WC P n (.loop c) Q L R O := WC.loop1r m ch (fun _ => R) OF I μ x0 hs h0 hL hS round
theorem WC.loop1o (m : Nat) (ch : α → Env) (I : α → Prop) (μ : α → Nat) (x0 : α) {pre Lc : Env} (hs : Split m L pre Lc) (h0 : I x0) (hL : Sub (ch x0 ++ Lc) L) (hS : ∀ w, Sat R O w → Sat R O w)
    (round : ∀ x, I x → WC P n c (loopQ1 ch Lc (fun _ => R) (fun _ => O) I μ (μ x) Q) (ch x ++ Lc) R O) : WC P n (.loop c) Q L R O := WC.loop1r m ch (fun _ => R) (fun _ => O) I μ x0 hs h0 hL hS round
theorem WC.loop1ro (m : Nat) (ch : α → Env) (RF : α → List RO) (I : α → Prop) (μ : α → Nat) (x0 : α) {pre Lc : Env} (hs : Split m L pre Lc) (h0 : I x0) (hL : Sub (ch x0 ++ Lc) L) (hS : ∀ w, Sat R O w → Sat (RF x0) O w)
    (round : ∀ x, I x → WC P n c (loopQ1 ch Lc RF (fun _ => O) I μ (μ x) Q) (ch x ++ Lc) (RF x) O) : WC P n (.loop c) Q L R O := WC.loop1r m ch RF (fun _ => O) I μ x0 hs h0 hL hS round

def loopQ2 (ch : α → β → Env) (Lc : Env) (RF : α → β → List RO) (OF : α → β → List Own) (I : α → β → Prop) (μ : α → β → Nat) (m : Nat) (Q : Post) : Post :=
  loopQ (α := α × β) (fun q => ch q.1 q.2 ++ Lc) (fun q => RF q.1 q.2) (fun q => OF q.1 q.2) (fun q => I q.1 q.2) (fun q => μ q.1 q.2) m Q
theorem loopQ2.mk {ch : α → β → Env} {Lc : Env} {RF : α → β → List RO} {OF : α → β → List Own} {I : α → β → Prop} {μ : α → β → Nat} {m : Nat} (x : α) (y : β) (hI : I x y) (hm : μ x y < m) (hL : Sub (ch x y ++ Lc) L) (hS : ∀ w, Sat R O w → Sat (RF x y) (OF x y) w) : loopQ2 ch Lc RF OF I μ m Q .normal L R O := ⟨(x, y), hI, hm, hL, hS⟩
theorem loopQ2.exit {ch : α → β → Env} {Lc : Env} {RF : α → β → List RO} {OF : α → β → List Own} {I : α → β → Prop} {μ : α → β → Nat} {m id : Nat} (h : Q (.exit id) L R O) : loopQ2 ch Lc RF OF I μ m Q (.exit id) L R O := h
theorem WC.loop2r (m : Nat) (ch : α → β → Env) (RF : α → β → List RO) (OF : α → β → List Own) (I : α → β → Prop) (μ : α → β → Nat) (x0 : α) (y0 : β) {pre Lc : Env} (_hs : Split m L pre Lc) (h0 : I x0 y0) (hL : Sub (ch x0 y0 ++ Lc) L) (hS : ∀ w, Sat R O w → Sat (RF x0 y0) (OF x0 y0) w)
    (round : ∀ x y, I x y → WC P n c (loopQ2 ch Lc RF OF I μ (μ x y) Q) (ch x y ++ Lc) (RF x y) (OF x y)) : WC P n (.loop c) Q L R O :=
  WC.loop (α := α × β) (fun q => ch q.1 q.2 ++ Lc) (fun q => RF q.1 q.2) (fun q => OF q.1 q.2) (fun q => I q.1 q.2) (fun q => μ q.1 q.2) (x0, y0) h0 hL hS (fun q hq => round q.1 q.2 hq)
theorem WC.loop2 (m : Nat) (ch : α → β → Env) (OF : α → β → List Own) (I : α → β → Prop) (μ : α → β → Nat) (x0 : α) (y0 : β) {pre Lc : Env} (hs : Split m L pre Lc) (h0 : I x0 y0) (hL : Sub (ch x0 y0 ++ Lc) L) (hS : ∀ w, Sat R O w → Sat R (OF x0 y0) w)
    (round : ∀ x y, I x y → WC P n c (loopQ2 ch Lc (fun _ _ => R) OF I μ (μ x y) Q) (ch x y ++ Lc) R (OF x y)) : WC P n (.loop c) Q L R O := WC.loop2r m ch (fun _ _ => R) OF I μ x0 y0 hs h0 hL hS round
theorem WC.loop2o (m : Nat) (ch : α → β → Env) (I : α → β → Prop) (μ : α → β → Nat) (x0 : α) (y0 : β) {pre Lc : Env} (hs : Split m L pre Lc) (h0 : I x0 y0) (hL : Sub (ch x0 y0 ++ Lc) L) (hS : ∀ w, Sat R O w → Sat R O w)
    (round : ∀ x y, I x y → WC P n c (loopQ2 ch Lc (fun _ _ => R) (fun _ _ => O) I μ (μ x y) Q) (ch x y ++ Lc) R O) : WC P n (.loop c) Q L R O := WC.loop2r m ch (fun _ _ => R) (fun _ _ => O) I μ x0 y0 hs h0 hL hS round
theorem WC.loop2ro (m : Nat) (ch : α → β → Env) (RF : α → β → List RO) (I : α → β → Prop) (μ : α → β → Nat) (x0 : α) (y0 : β) {pre Lc : Env} (hs : Split m L pre Lc) (h0 : I x0 y0) (hL : Sub (ch x0 y0 ++ Lc) L) (hS : ∀ w, Sat R O w → Sat (RF x0 y0) O w)
    (round : ∀ x y, I x y → WC P n c (loopQ2 ch Lc RF (fun _ _ => O) I μ (μ x y) Q) (ch x y ++ Lc) (RF x y) O) : WC P n (.loop c) Q L R O := WC.loop2r m ch RF (fun _ _ => O) I μ x0 y0 hs h0 hL hS round

def loopQ3 (ch : α → β → γ → Env) (Lc : Env) (RF : α → β → γ → List RO) (OF : α → β → γ → List Own) (I : α → β → γ → Prop) (μ : α → β → γ → Nat) (m : Nat) (Q : Post) : Post :=
  loopQ (α := α × β × γ) (fun q => ch q.1 q.2.1 q.2.2 ++ Lc) (fun q => RF q.1 q.2.1 q.2.2) (fun q => OF q.1 q.2.1 q.2.2) (fun q => I q.1 q.2.1 q.2.2) (fun q => μ q.1 q.2.1 q.2.2) m Q
theorem loopQ3.mk {ch : α → β → γ → Env} {Lc : Env} {RF : α → β → γ → List RO} {OF : α → β → γ → List Own} {I : α → β → γ → Prop} {μ : α → β → γ → Nat} {m : Nat} (x : α) (y : β) (z : γ) (hI : I x y z) (hm : μ x y z < m) (hL : Sub (ch x y z ++ Lc) L) (hS : ∀ w, Sat R O w → Sat (RF x y z) (OF x y z) w) : loopQ3 ch Lc RF OF I μ m Q .normal L R O := ⟨(x, y, z), hI, hm, hL, hS⟩
theorem loopQ3.exit {ch : α → β → γ → Env} {Lc : Env} {RF : α → β → γ → List RO} {OF : α → β → γ → List Own} {I : α → β → γ → Prop} {μ : α → β → γ → Nat} {m id : Nat} (h : Q (.exit id) L R O) : loopQ3 ch Lc RF OF I μ m Q (.exit id) L R O := h
theorem WC.loop3r (m : Nat) (ch : α → β → γ → Env) (RF : α → β → γ → List RO) (OF : α → β → γ → List Own) (I : α → β → γ → Prop) (μ : α → β → γ → Nat) (x0 : α) (y0 : β) (z0 : γ) {pre Lc : Env} (_hs : Split m L pre Lc) (h0 : I x0 y0 z0) (hL : Sub (ch x0 y0 z0 ++ Lc) L) (hS : ∀ w, Sat R O w → Sat (RF x0 y0 z0) (OF x0 y0 z0) w)
    (round : ∀ x y z, I x y z → WC P n c (loopQ3 ch Lc RF OF I μ (μ x y z) Q) (ch x y z ++ Lc) (RF x y z) (OF x y z)) : WC P n (.loop c) Q L R O :=
  WC.loop (α := α × β × γ) (fun q => ch q.1 q.2.1 q.2.2 ++ Lc) (fun q => RF q.1 q.2.1 q.2.2) (fun q => OF q.1 q.2.1 q.2.2) (fun q => I q.1 q.2.1 q.2.2) (fun q => μ q.1 q.2.1 q.2.2) (x0, y0, z0) h0 hL hS (fun q hq => round q.1 q.2.1 q.2.2 hq)
theorem WC.loop3 (m : Nat) (ch : α → β → γ → Env) (OF : α → β → γ → List Own) (I : α → β → γ → Prop) (μ : α → β → γ → Nat) (x0 : α) (y0 : β) (z0 : γ) {pre Lc : Env} (hs : Split m L pre Lc) (h0 : I x0 y0 z0) (hL : Sub (ch x0 y0 z0 ++ Lc) L) (hS : ∀ w, Sat R O w → Sat R (OF x0 y0 z0) w)
    (round : ∀ x y z, I x y z → WC P n c (loopQ3 ch Lc (fun _ _ _ => R) OF I μ (μ x y z) Q) (ch x y z ++ Lc) R (OF x y z)) : WC P n (.loop c) Q L R O := WC.loop3r m ch (fun _ _ _ => R) OF I μ x0 y0 z0 hs h0 hL hS round
theorem WC.loop3o (m : Nat) (ch : α → β → γ → Env) (I : α → β → γ → Prop) (μ : α → β → γ → Nat) (x0 : α) (y0 : β) (z0 : γ) {pre Lc : Env} (hs : Split m L pre Lc) (h0 : I x0 y0 z0) (hL : Sub (ch x0 y0 z0 ++ Lc) L) (hS : ∀ w, Sat R O w → Sat R O w)
    (round : ∀ x y z, I x y z → WC P n c (loopQ3 ch Lc (fun _ _ _ => R) (fun _ _ _ => O) I μ (μ x y z) Q) (ch x y z ++ Lc) R O) : WC P n (.loop c) Q L R O := WC.loop3r m ch (fun _ _ _ => R) (fun _ _ _ => O) I μ x0 y0 z0 hs h0 hL hS round
theorem WC.loop3ro (m : Nat) (ch : α → β → γ → Env) (RF : α → β → γ → List RO) (I : α → β → γ → Prop) (μ : α → β → γ → Nat) (x0 : α) (y0 : β) (z0 : γ) {pre Lc : Env} (hs : Split m L pre Lc) (h0 : I x0 y0 z0) (hL : Sub (ch x0 y0 z0 ++ Lc) L) (hS : ∀ w, Sat R O w → Sat (RF x0 y0 z0) O w)
    (round : ∀ x y z, I x y z → WC P n c (loopQ3 ch Lc RF (fun _ _ _ => O) I μ (μ x y z) Q) (ch x y z ++ Lc) (RF x y z) O) : WC P n (.loop c) Q L R O := WC.loop3r m ch RF (fun _ _ _ => O) I μ x0 y0 z0 hs h0 hL hS round

def loopQ4 (ch : α → β → γ → δ → Env) (Lc : Env) (RF : α → β → γ → δ → List RO) (OF : α → β → γ → δ → List Own) (I : α → β → γ → δ → Prop) (μ : α → β → γ → δ → Nat) (m : Nat) (Q : Post) : Post :=
  loopQ (α := α × β × γ × δ) (fun q => ch q.1 q.2.1 q.2.2.1 q.2.2.2 ++ Lc) (fun q => RF q.1 q.2.1 q.2.2.1 q.2.2.2) (fun q => OF q.1 q.2.1 q.2.2.1 q.2.2.2) (fun q => I q.1 q.2.1 q.2.2.1 q.2.2.2) (fun q => μ q.1 q.2.1 q.2.2.1 q.2.2.2) m Q
theorem loopQ4.mk {ch : α → β → γ → δ → Env} {Lc : Env} {RF : α → β → γ → δ → List RO} {OF : α → β → γ → δ → List Own} {I : α → β → γ → δ → Prop} {μ : α → β → γ → δ → Nat} {m : Nat} (x : α) (y : β) (z : γ) (u : δ) (hI : I x y z u) (hm : μ x y z u < m) (hL : Sub (ch x y z u ++ Lc) L) (hS : ∀ w, Sat R O w → Sat (RF x y z u) (OF x y z u) w) : loopQ4 ch Lc RF OF I μ m Q .normal L R O := ⟨(x, y, z, u), hI, hm, hL, hS⟩
theorem loopQ4.exit {ch : α → β → γ → δ → Env} {Lc : Env} {RF : α → β → γ → δ → List RO} {OF : α → β → γ → δ → List Own} {I : α → β → γ → δ → Prop} {μ : α → β → γ → δ → Nat} {m id : Nat} (h : Q (.exit id) L R O) : loopQ4 ch Lc RF OF I μ m Q (.exit id) L R O := h
theorem WC.loop4r (m : Nat) (ch : α → β → γ → δ → Env) (RF : α → β → γ → δ → List RO) (OF : α → β → γ → δ → List Own) (I : α → β → γ → δ → Prop) (μ : α → β → γ → δ → Nat) (x0 : α) (y0 : β) (z0 : γ) (u0 : δ) {pre Lc : Env} (_hs : Split m L pre Lc) (h0 : I x0 y0 z0 u0) (hL : Sub (ch x0 y0 z0 u0 ++ Lc) L) (hS : ∀ w, Sat R O w → Sat (RF x0 y0 z0 u0) (OF x0 y0 z0 u0) w)
    (round : ∀ x y z u, I x y z u → WC P n c (loopQ4 ch Lc RF OF I μ (μ x y z u) Q) (ch x y z u ++ Lc) (RF x y z u) (OF x y z u)) : WC P n (.loop c) Q L R O :=
  WC.loop (α := α × β × γ × δ) (fun q => ch q.1 q.2.1 q.2.2.1 q.2.2.2 ++ Lc) (fun q => RF q.1 q.2.1 q.2.2.1 q.2.2.2) (fun q => OF q.1 q.2.1 q.2.2.1 q.2.2.2) (fun q => I q.1 q.2.1 q.2.2.1 q.2.2.2) (fun q => μ q.1 q.2.1 q.2.2.1 q.2.2.2) (x0, y0, z0, u0) h0 hL hS (fun q hq => round q.1 q.2.1 q.2.2.1 q.2.2.2 hq)
theorem WC.loop4 (m : Nat) (ch : α → β → γ → δ → Env) (OF : α → β → γ → δ → List Own) (I : α → β → γ → δ → Prop) (μ : α → β → γ → δ → Nat) (x0 : α) (y0 : β) (z0 : γ) (u0 : δ) {pre Lc : Env} (hs : Split m L pre Lc) (h0 : I x0 y0 z0 u0) (hL : Sub (ch x0 y0 z0 u0 ++ Lc) L) (hS : ∀ w, Sat R O w → Sat R (OF x0 y0 z0 u0) w)
    (round : ∀ x y z u, I x y z u → WC P n c (loopQ4 ch Lc (fun _ _ _ _ => R) OF I μ (μ x y z u) Q) (ch x y z u ++ Lc) R (OF x y z u)) : WC P n (.loop c) Q L R O := WC.loop4r m ch (fun _ _ _ _ => R) OF I μ x0 y0 z0 u0 hs h0 hL hS round
theorem WC.loop4o (m : Nat) (ch : α → β → γ → δ → Env) (I : α → β → γ → δ → Prop) (μ : α → β → γ → δ → Nat) (x0 : α) (y0 : β) (z0 : γ) (u0 : δ) {pre Lc : Env} (hs : Split m L pre Lc) (h0 : I x0 y0 z0 u0) (hL : Sub (ch x0 y0 z0 u0 ++ Lc) L) (hS : ∀ w, Sat R O w → Sat R O w)
    (round : ∀ x y z u, I x y z u → WC P n c (loopQ4 ch Lc (fun _ _ _ _ => R) (fun _ _ _ _ => O) I μ (μ x y z u) Q) (ch x y z u ++ Lc) R O) : WC P n (.loop c) Q L R O := WC.loop4r m ch (fun _ _ _ _ => R) (fun _ _ _ _ => O) I μ x0 y0 z0 u0 hs h0 hL hS round
theorem WC.loop4ro (m : Nat) (ch : α → β → γ → δ → Env) (RF : α → β → γ → δ → List RO) (I : α → β → γ → δ → Prop) (μ : α → β → γ → δ → Nat) (x0 : α) (y0 : β) (z0 : γ) (u0 : δ) {pre Lc : Env} (hs : Split m L pre Lc) (h0 : I x0 y0 z0 u0) (hL : Sub (ch x0 y0 z0 u0 ++ Lc) L) (hS : ∀ w, Sat R O w → Sat (RF x0 y0 z0 u0) O w)
    (round : ∀ x y z u, I x y z u → WC P n c (loopQ4 ch Lc RF (fun _ _ _ _ => O) I μ (μ x y z u) Q) (ch x y z u ++ Lc) (RF x y z u) O) : WC P n (.loop c) Q L R O := WC.loop4r m ch RF (fun _ _ _ _ => O) I μ x0 y0 z0 u0 hs h0 hL hS round

def loopQ5 (ch : α → β → γ → δ → ε → Env) (Lc : Env) (RF : α → β → γ → δ → ε → List RO) (OF : α → β → γ → δ → ε → List Own) (I : α → β → γ → δ → ε → Prop) (μ : α → β → γ → δ → ε → Nat) (m : Nat) (Q : Post) : Post :=
  loopQ (α := α × β × γ × δ × ε) (fun q => ch q.1 q.2.1 q.2.2.1 q.2.2.2.1 q.2.2.2.2 ++ Lc) (fun q => RF q.1 q.2.1 q.2.2.1 q.2.2.2.1 q.2.2.2.2) (fun q => OF q.1 q.2.1 q.2.2.1 q.2.2.2.1 q.2.2.2.2) (fun q => I q.1 q.2.1 q.2.2.1 q.2.2.2.1 q.2.2.2.2) (fun q => μ q.1 q.2.1 q.2.2.1 q.2.2.2.1 q.2.2.2.2) m Q
theorem loopQ5.mk {ch : α → β → γ → δ → ε → Env} {Lc : Env} {RF : α → β → γ → δ → ε → List RO} {OF : α → β → γ → δ → ε → List Own} {I : α → β → γ → δ → ε → Prop} {μ : α → β → γ → δ → ε → Nat} {m : Nat} (x : α) (y : β) (z : γ) (u : δ) (v : ε) (hI : I x y z u v) (hm : μ x y z u v < m) (hL : Sub (ch x y z u v ++ Lc) L) (hS : ∀ w, Sat R O w → Sat (RF x y z u v) (OF x y z u v) w) : loopQ5 ch Lc RF OF I μ m Q .normal L R O := ⟨(x, y, z, u, v), hI, hm, hL, hS⟩
theorem loopQ5.exit {ch : α → β → γ → δ → ε → Env} {Lc : Env} {RF : α → β → γ → δ → ε → List RO} {OF : α → β → γ → δ → ε → List Own} {I : α → β → γ → δ → ε → Prop} {μ : α → β → γ → δ → ε → Nat} {m id : Nat} (h : Q (.exit id) L R O) : loopQ5 ch Lc RF OF I μ m Q (.exit id) L R O := h
theorem WC.loop5r (m : Nat) (ch : α → β → γ → δ → ε → Env) (RF : α → β → γ → δ → ε → List RO) (OF : α → β → γ → δ → ε → List Own) (I : α → β → γ → δ → ε → Prop) (μ : α → β → γ → δ → ε → Nat) (x0 : α) (y0 : β) (z0 : γ) (u0 : δ) (v0 : ε) {pre Lc : Env} (_hs : Split m L pre Lc) (h0 : I x0 y0 z0 u0 v0) (hL : Sub (ch x0 y0 z0 u0 v0 ++ Lc) L) (hS : ∀ w, Sat R O w → Sat (RF x0 y0 z0 u0 v0) (OF x0 y0 z0 u0 v0) w)
    (round : ∀ x y z u v, I x y z u v → WC P n c (loopQ5 ch Lc RF OF I μ (μ x y z u v) Q) (ch x y z u v ++ Lc) (RF x y z u v) (OF x y z u v)) : WC P n (.loop c) Q L R O :=
  WC.loop (α := α × β × γ × δ × ε) (fun q => ch q.1 q.2.1 q.2.2.1 q.2.2.2.1 q.2.2.2.2 ++ Lc) (fun q => RF q.1 q.2.1 q.2.2.1 q.2.2.2.1 q.2.2.2.2) (fun q => OF q.1 q.2.1 q.2.2.1 q.2.2.2.1 q.2.2.2.2) (fun q => I q.1 q.2.1 q.2.2.1 q.2.2.2.1 q.2.2.2.2) (fun q => μ q.1 q.2.1 q.2.2.1 q.2.2.2.1 q.2.2.2.2) (x0, y0, z0, u0, v0) h0 hL hS (fun q hq => round q.1 q.2.1 q.2.2.1 q.2.2.2.1 q.2.2.2.2 hq)
theorem WC.loop5 (m : Nat) (ch : α → β → γ → δ → ε → Env) (OF : α → β → γ → δ → ε → List Own) (I : α → β → γ → δ → ε → Prop) (μ : α → β → γ → δ → ε → Nat) (x0 : α) (y0 : β) (z0 : γ) (u0 : δ) (v0 : ε) {pre Lc : Env} (hs : Split m L pre Lc) (h0 : I x0 y0 z0 u0 v0) (hL : Sub (ch x0 y0 z0 u0 v0 ++ Lc) L) (hS : ∀ w, Sat R O w → Sat R (OF x0 y0 z0 u0 v0) w)
    (round : ∀ x y z u v, I x y z u v → WC P n c (loopQ5 ch Lc (fun _ _ _ _ _ => R) OF I μ (μ x y z u v) Q) (ch x y z u v ++ Lc) R (OF x y z u v)) : WC P n (.loop c) Q L R O := WC.loop5r m ch (fun _ _ _ _ _ => R) OF I μ x0 y0 z0 u0 v0 hs h0 hL hS round
theorem WC.loop5o (m : Nat) (ch : α → β → γ → δ → ε → Env) (I : α → β → γ → δ → ε → Prop) (μ : α → β → γ → δ → ε → Nat) (x0 : α) (y0 : β) (z0 : γ) (u0 : δ) (v0 : ε) {pre Lc : Env} (hs : Split m L pre Lc) (h0 : I x0 y0 z0 u0 v0) (hL : Sub (ch x0 y0 z0 u0 v0 ++ Lc) L) (hS : ∀ w, Sat R O w → Sat R O w)
    (round : ∀ x y z u v, I x y z u v → WC P n c (loopQ5 ch Lc (fun _ _ _ _ _ => R) (fun _ _ _ _ _ => O) I μ (μ x y z u v) Q) (ch x y z u v ++ Lc) R O) : WC P n (.loop c) Q L R O := WC.loop5r m ch (fun _ _ _ _ _ => R) (fun _ _ _ _ _ => O) I μ x0 y0 z0 u0 v0 hs h0 hL hS round
theorem WC.loop5ro (m : Nat) (ch : α → β → γ → δ → ε → Env) (RF : α → β → γ → δ → ε → List RO) (I : α → β → γ → δ → ε → Prop) (μ : α → β → γ → δ → ε → Nat) (x0 : α) (y0 : β) (z0 : γ) (u0 : δ) (v0 : ε) {pre Lc : Env} (hs : Split m L pre Lc) (h0 : I x0 y0 z0 u0 v0) (hL : Sub (ch x0 y0 z0 u0 v0 ++ Lc) L) (hS : ∀ w, Sat R O w → Sat (RF x0 y0 z0 u0 v0) O w)
    (round : ∀ x y z u v, I x y z u v → WC P n c (loopQ5 ch Lc RF (fun _ _ _ _ _ => O) I μ (μ x y z u v) Q) (ch x y z u v ++ Lc) (RF x y z u v) O) : WC P n (.loop c) Q L R O := WC.loop5r m ch RF (fun _ _ _ _ _ => O) I μ x0 y0 z0 u0 v0 hs h0 hL hS round

def loopQ6 (ch : α → β → γ → δ → ε → ζ → Env) (Lc : Env) (RF : α → β → γ → δ → ε → ζ → List RO) (OF : α → β → γ → δ → ε → ζ → List Own) (I : α → β → γ → δ → ε → ζ → Prop) (μ : α → β → γ → δ → ε → ζ → Nat) (m : Nat) (Q : Post) : Post :=
  loopQ (α := α × β × γ × δ × ε × ζ) (fun q => ch q.1 q.2.1 q.2.2.1 q.2.2.2.1 q.2.2.2.2.1 q.2.2.2.2.2 ++ Lc) (fun q => RF q.1 q.2.1 q.2.2.1 q.2.2.2.1 q.2.2.2.2.1 q.2.2.2.2.2) (fun q => OF q.1 q.2.1 q.2.2.1 q.2.2.2.1 q.2.2.2.2.1 q.2.2.2.2.2) (fun q => I q.1 q.2.1 q.2.2.1 q.2.2.2.1 q.2.2.2.2.1 q.2.2.2.2.2) (fun q => μ q.1 q.2.1 q.2.2.1 q.2.2.2.1 q.2.2.2.2.1 q.2.2.2.2.2) m Q
theorem loopQ6.mk {ch : α → β → γ → δ → ε → ζ → Env} {Lc : Env} {RF : α → β → γ → δ → ε → ζ → List RO} {OF : α → β → γ → δ → ε → ζ → List Own} {I : α → β → γ → δ → ε → ζ → Prop} {μ : α → β → γ → δ → ε → ζ → Nat} {m : Nat} (x : α) (y : β) (z : γ) (u : δ) (v : ε) (t : ζ) (hI : I x y z u v t) (hm : μ x y z u v t < m) (hL : Sub (ch x y z u v t ++ Lc) L) (hS : ∀ w, Sat R O w → Sat (RF x y z u v t) (OF x y z u v t) w) : loopQ6 ch Lc RF OF I μ m Q .normal L R O := ⟨(x, y, z, u, v, t), hI, hm, hL, hS⟩
theorem loopQ6.exit {ch : α → β → γ → δ → ε → ζ → Env} {Lc : Env} {RF : α → β → γ → δ → ε → ζ → List RO} {OF : α → β → γ → δ → ε → ζ → List Own} {I : α → β → γ → δ → ε → ζ → Prop} {μ : α → β → γ → δ → ε → ζ → Nat} {m id : Nat} (h : Q (.exit id) L R O) : loopQ6 ch Lc RF OF I μ m Q (.exit id) L R O := h
theorem WC.loop6r (m : Nat) (ch : α → β → γ → δ → ε → ζ → Env) (RF : α → β → γ → δ → ε → ζ → List RO) (OF : α → β → γ → δ → ε → ζ → List Own) (I : α → β → γ → δ → ε → ζ → Prop) (μ : α → β → γ → δ → ε → ζ → Nat) (x0 : α) (y0 : β) (z0 : γ) (u0 : δ) (v0 : ε) (t0 : ζ) {pre Lc : Env} (_hs : Split m L pre Lc) (h0 : I x0 y0 z0 u0 v0 t0) (hL : Sub (ch x0 y0 z0 u0 v0 t0 ++ Lc) L) (hS : ∀ w, Sat R O w → Sat (RF x0 y0 z0 u0 v0 t0) (OF x0 y0 z0 u0 v0 t0) w)
    (round : ∀ x y z u v t, I x y z u v t → WC P n c (loopQ6 ch Lc RF OF I μ (μ x y z u v t) Q) (ch x y z u v t ++ Lc) (RF x y z u v t) (OF x y z u v t)) : WC P n (.loop c) Q L R O :=
  WC.loop (α := α × β × γ × δ × ε × ζ) (fun q => ch q.1 q.2.1 q.2.2.1 q.2.2.2.1 q.2.2.2.2.1 q.2.2.2.2.2 ++ Lc) (fun q => RF q.1 q.2.1 q.2.2.1 q.2.2.2.1 q.2.2.2.2.1 q.2.2.2.2.2) (fun q => OF q.1 q.2.1 q.2.2.1 q.2.2.2.1 q.2.2.2.2.1 q.2.2.2.2.2) (fun q => I q.1 q.2.1 q.2.2.1 q.2.2.2.1 q.2.2.2.2.1 q.2.2.2.2.2) (fun q => μ q.1 q.2.1 q.2.2.1 q.2.2.2.1 q.2.2.2.2.1 q.2.2.2.2.2) (x0, y0, z0, u0, v0, t0) h0 hL hS (fun q hq => round q.1 q.2.1 q.2.2.1 q.2.2.2.1 q.2.2.2.2.1 q.2.2.2.2.2 hq)
theorem WC.loop6 (m : Nat) (ch : α → β → γ → δ → ε → ζ → Env) (OF : α → β → γ → δ → ε → ζ → List Own) (I : α → β → γ → δ → ε → ζ → Prop) (μ : α → β → γ → δ → ε → ζ → Nat) (x0 : α) (y0 : β) (z0 : γ) (u0 : δ) (v0 : ε) (t0 : ζ) {pre Lc : Env} (hs : Split m L pre Lc) (h0 : I x0 y0 z0 u0 v0 t0) (hL : Sub (ch x0 y0 z0 u0 v0 t0 ++ Lc) L) (hS : ∀ w, Sat R O w → Sat R (OF x0 y0 z0 u0 v0 t0) w)
    (round : ∀ x y z u v t, I x y z u v t → WC P n c (loopQ6 ch Lc (fun _ _ _ _ _ _ => R) OF I μ (μ x y z u v t) Q) (ch x y z u v t ++ Lc) R (OF x y z u v t)) : WC P n (.loop c) Q L R O := WC.loop6r m ch (fun _ _ _ _ _ _ => R) OF I μ x0 y0 z0 u0 v0 t0 hs h0 hL hS round
theorem WC.loop6o (m : Nat) (ch : α → β → γ → δ → ε → ζ → Env) (I : α → β → γ → δ → ε → ζ → Prop) (μ : α → β → γ → δ → ε → ζ → Nat) (x0 : α) (y0 : β) (z0 : γ) (u0 : δ) (v0 : ε) (t0 : ζ) {pre Lc : Env} (hs : Split m L pre Lc) (h0 : I x0 y0 z0 u0 v0 t0) (hL : Sub (ch x0 y0 z0 u0 v0 t0 ++ Lc) L) (hS : ∀ w, Sat R O w → Sat R O w)
    (round : ∀ x y z u v t, I x y z u v t → WC P n c (loopQ6 ch Lc (fun _ _ _ _ _ _ => R) (fun _ _ _ _ _ _ => O) I μ (μ x y z u v t) Q) (ch x y z u v t ++ Lc) R O) : WC P n (.loop c) Q L R O := WC.loop6r m ch (fun _ _ _ _ _ _ => R) (fun _ _ _ _ _ _ => O) I μ x0 y0 z0 u0 v0 t0 hs h0 hL hS round
theorem WC.loop6ro (m : Nat) (ch : α → β → γ → δ → ε → ζ → Env) (RF : α → β → γ → δ → ε → ζ → List RO) (I : α → β → γ → δ → ε → ζ → Prop) (μ : α → β → γ → δ → ε → ζ → Nat) (x0 : α) (y0 : β) (z0 : γ) (u0 : δ) (v0 : ε) (t0 : ζ) {pre Lc : Env} (hs : Split m L pre Lc) (h0 : I x0 y0 z0 u0 v0 t0) (hL : Sub (ch x0 y0 z0 u0 v0 t0 ++ Lc) L) (hS : ∀ w, Sat R O w → Sat (RF x0 y0 z0 u0 v0 t0) O w)
    (round : ∀ x y z u v t, I x y z u v t → WC P n c (loopQ6 ch Lc RF (fun _ _ _ _ _ _ => O) I μ (μ x y z u v t) Q) (ch x y z u v t ++ Lc) (RF x y z u v t) O) : WC P n (.loop c) Q L R O := WC.loop6r m ch RF (fun _ _ _ _ _ _ => O) I μ x0 y0 z0 u0 v0 t0 hs h0 hL hS round

def loopQ7 (ch : α → β → γ → δ → ε → ζ → η → Env) (Lc : Env) (RF : α → β → γ → δ → ε → ζ → η → List RO) (OF : α → β → γ → δ → ε → ζ → η → List Own) (I : α → β → γ → δ → ε → ζ → η → Prop) (μ : α → β → γ → δ → ε → ζ → η → Nat) (m : Nat) (Q : Post) : Post :=
  loopQ (α := α × β × γ × δ × ε × ζ × η) (fun q => ch q.1 q.2.1 q.2.2.1 q.2.2.2.1 q.2.2.2.2.1 q.2.2.2.2.2.1 q.2.2.2.2.2.2 ++ Lc) (fun q => RF q.1 q.2.1 q.2.2.1 q.2.2.2.1 q.2.2.2.2.1 q.2.2.2.2.2.1 q.2.2.2.2.2.2) (fun q => OF q.1 q.2.1 q.2.2.1 q.2.2.2.1 q.2.2.2.2.1 q.2.2.2.2.2.1 q.2.2.2.2.2.2) (fun q => I q.1 q.2.1 q.2.2.1 q.2.2.2.1 q.2.2.2.2.1 q.2.2.2.2.2.1 q.2.2.2.2.2.2) (fun q => μ q.1 q.2.1 q.2.2.1 q.2.2.2.1 q.2.2.2.2.1 q.2.2.2.2.2.1 q.2.2.2.2.2.2) m Q
theorem loopQ7.mk {ch : α → β → γ → δ → ε → ζ → η → Env} {Lc : Env} {RF : α → β → γ → δ → ε → ζ → η → List RO} {OF : α → β → γ → δ → ε → ζ → η → List Own} {I : α → β → γ → δ → ε → ζ → η → Prop} {μ : α → β → γ → δ → ε → ζ → η → Nat} {m : Nat} (x : α) (y : β) (z : γ) (u : δ) (v : ε) (t : ζ) (s : η) (hI : I x y z u v t s) (hm : μ x y z u v t s < m) (hL : Sub (ch x y z u v t s ++ Lc) L) (hS : ∀ w, Sat R O w → Sat (RF x y z u v t s) (OF x y z u v t s) w) : loopQ7 ch Lc RF OF I μ m Q .normal L R O := ⟨(x, y, z, u, v, t, s), hI, hm, hL, hS⟩
theorem loopQ7.exit {ch : α → β → γ → δ → ε → ζ → η → Env} {Lc : Env} {RF : α → β → γ → δ → ε → ζ → η → List RO} {OF : α → β → γ → δ → ε → ζ → η → List Own} {I : α → β → γ → δ → ε → ζ → η → Prop} {μ : α → β → γ → δ → ε → ζ → η → Nat} {m id : Nat} (h : Q (.exit id) L R O) : loopQ7 ch Lc RF OF I μ m Q (.exit id) L R O := h
theorem WC.loop7r (m : Nat) (ch : α → β → γ → δ → ε → ζ → η → Env) (RF : α → β → γ → δ → ε → ζ → η → List RO) (OF : α → β → γ → δ → ε → ζ → η → List Own) (I : α → β → γ → δ → ε → ζ → η → Prop) (μ : α → β → γ → δ → ε → ζ → η → Nat) (x0 : α) (y0 : β) (z0 : γ) (u0 : δ) (v0 : ε) (t0 : ζ) (s0 : η) {pre Lc : Env} (_hs : Split m L pre Lc) (h0 : I x0 y0 z0 u0 v0 t0 s0) (hL : Sub (ch x0 y0 z0 u0 v0 t0 s0 ++ Lc) L) (hS : ∀ w, Sat R O w → Sat (RF x0 y0 z0 u0 v0 t0 s0) (OF x0 y0 z0 u0 v0 t0 s0) w)
    (round : ∀ x y z u v t s, I x y z u v t s → WC P n c (loopQ7 ch Lc RF OF I μ (μ x y z u v t s) Q) (ch x y z u v t s ++ Lc) (RF x y z u v t s) (OF x y z u v t s)) : WC P n (.loop c) Q L R O :=
  WC.loop (α := α × β × γ × δ × ε × ζ × η) (fun q => ch q.1 q.2.1 q.2.2.1 q.2.2.2.1 q.2.2.2.2.1 q.2.2.2.2.2.1 q.2.2.2.2.2.2 ++ Lc) (fun q => RF q.1 q.2.1 q.2.2.1 q.2.2.2.1 q.2.2.2.2.1 q.2.2.2.2.2.1 q.2.2.2.2.2.2) (fun q => OF q.1 q.2.1 q.2.2.1 q.2.2.2.1 q.2.2.2.2.1 q.2.2.2.2.2.1 q.2.2.2.2.2.2) (fun q => I q.1 q.2.1 q.2.2.1 q.2.2.2.1 q.2.2.2.2.1 q.2.2.2.2.2.1 q.2.2.2.2.2.2) (fun q => μ q.1 q.2.1 q.2.2.1 q.2.2.2.1 q.2.2.2.2.1 q.2.2.2.2.2.1 q.2.2.2.2.2.2) (x0, y0, z0, u0, v0, t0, s0) h0 hL hS (fun q hq => round q.1 q.2.1 q.2.2.1 q.2.2.2.1 q.2.2.2.2.1 q.2.2.2.2.2.1 q.2.2.2.2.2.2 hq)
theorem WC.loop7 (m : Nat) (ch : α → β → γ → δ → ε → ζ → η → Env) (OF : α → β → γ → δ → ε → ζ → η → List Own) (I : α → β → γ → δ → ε → ζ → η → Prop) (μ : α → β → γ → δ → ε → ζ → η → Nat) (x0 : α) (y0 : β) (z0 : γ) (u0 : δ) (v0 : ε) (t0 : ζ) (s0 : η) {pre Lc : Env} (hs : Split m L pre Lc) (h0 : I x0 y0 z0 u0 v0 t0 s0) (hL : Sub (ch x0 y0 z0 u0 v0 t0 s0 ++ Lc) L) (hS : ∀ w, Sat R O w → Sat R (OF x0 y0 z0 u0 v0 t0 s0) w)
    (round : ∀ x y z u v t s, I x y z u v t s → WC P n c (loopQ7 ch Lc (fun _ _ _ _ _ _ _ => R) OF I μ (μ x y z u v t s) Q) (ch x y z u v t s ++ Lc) R (OF x y z u v t s)) : WC P n (.loop c) Q L R O := WC.loop7r m ch (fun _ _ _ _ _ _ _ => R) OF I μ x0 y0 z0 u0 v0 t0 s0 hs h0 hL hS round
theorem WC.loop7o (m : Nat) (ch : α → β → γ → δ → ε → ζ → η → Env) (I : α → β → γ → δ → ε → ζ → η → Prop) (μ : α → β → γ → δ → ε → ζ → η → Nat) (x0 : α) (y0 : β) (z0 : γ) (u0 : δ) (v0 : ε) (t0 : ζ) (s0 : η) {pre Lc : Env} (hs : Split m L pre Lc) (h0 : I x0 y0 z0 u0 v0 t0 s0) (hL : Sub (ch x0 y0 z0 u0 v0 t0 s0 ++ Lc) L) (hS : ∀ w, Sat R O w → Sat R O w)
    (round : ∀ x y z u v t s, I x y z u v t s → WC P n c (loopQ7 ch Lc (fun _ _ _ _ _ _ _ => R) (fun _ _ _ _ _ _ _ => O) I μ (μ x y z u v t s) Q) (ch x y z u v t s ++ Lc) R O) : WC P n (.loop c) Q L R O := WC.loop7r m ch (fun _ _ _ _ _ _ _ => R) (fun _ _ _ _ _ _ _ => O) I μ x0 y0 z0 u0 v0 t0 s0 hs h0 hL hS round
theorem WC.loop7ro (m : Nat) (ch : α → β → γ → δ → ε → ζ → η → Env) (RF : α → β → γ → δ → ε → ζ → η → List RO) (I : α → β → γ → δ → ε → ζ → η → Prop) (μ : α → β → γ → δ → ε → ζ → η → Nat) (x0 : α) (y0 : β) (z0 : γ) (u0 : δ) (v0 : ε) (t0 : ζ) (s0 : η) {pre Lc : Env} (hs : Split m L pre Lc) (h0 : I x0 y0 z0 u0 v0 t0 s0) (hL : Sub (ch x0 y0 z0 u0 v0 t0 s0 ++ Lc) L) (hS : ∀ w, Sat R O w → Sat (RF x0 y0 z0 u0 v0 t0 s0) O w)
    (round : ∀ x y z u v t s, I x y z u v t s → WC P n c (loopQ7 ch Lc RF (fun _ _ _ _ _ _ _ => O) I μ (μ x y z u v t s) Q) (ch x y z u v t s ++ Lc) (RF x y z u v t s) O) : WC P n (.loop c) Q L R O := WC.loop7r m ch RF (fun _ _ _ _ _ _ _ => O) I μ x0 y0 z0 u0 v0 t0 s0 hs h0 hL hS round
end loops
end rules
end Go.SL
