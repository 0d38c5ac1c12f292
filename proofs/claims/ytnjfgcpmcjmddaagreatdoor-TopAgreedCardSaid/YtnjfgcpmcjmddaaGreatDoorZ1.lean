/-
  Part 1 of the texts that the law TopAgreed is proved with: Sl, Ops, Mem, Open, Opn, Opw, Map, Arr, Byt, Byc, Lib. No premise.
-/
import Derived.WalkKit
import Derived.OrdersHeld
import Derived.LoopN
import Derived.RangeFuncRecord
import Derived.StillTail
import Derived.Laws.Strings
import Derived.Laws.Slices
import Derived.Laws.Entries
import Derived.Laws.Small
import Derived.Laws.StructEq
import Derived.KernelRfl
import Derived.Deep.AppendSrc
import Derived.Laws.MakeOwn
import Derived.Laws.OwnMore
import Derived.Laws.CopyRow
import Derived.ProofKit
import Derived.OpenShut
import Derived.ShutString
import Derived.ChangeOld
import Derived.Below
import Derived.Deep.Slices
import Derived.SizedLaws
import Derived.MapKept
import Derived.Lib.LaidTab
import Derived.Lib.Builder
import Derived.Lib.UnsafeStr
import Derived.Laws.BytesString
import Derived.Laws.Externs
import Derived.Laws.IdiomStrings
namespace Go.SL
open Go
namespace Z
theorem M {P : Prop} (h : P := by repeat (first | assumption | exact mS | apply mT)) : P := h
theorem T {P : Prop} (h : P := by repeat (first | assumption | exact Take.head _ | apply Take.tail)) : P := h
theorem N {P : Prop} (h : P := by repeat (first | exact NF.nil | apply NF.cons)) : P := h
theorem E {P : Prop} (h : P := by repeat (first | exact Evs.nil | apply Evs.cons rfl)) : P := h
theorem P {P : Prop} (h : P := by repeat (first | exact Pick.nil | apply Pick.cons rfl)) : P := h
theorem C {P : Prop} (h : P := by repeat (first | exact CellsOf.nil | apply CellsOf.cons rfl)) : P := h
theorem L {P : Prop} (h : P := by repeat (first | exact Split.zero | apply Split.succ)) : P := h
theorem K {P : Prop} (h : P := by kernel_rfl) : P := h
theorem W {P : Prop} (h : P := by omega) : P := h
theorem S {P : Prop} (h : P := by repeat (first | exact SubL.refl | refine SubL.cons Z.M ?_ | refine SubL.skip ?_)) : P := h
theorem O {P : Prop} (h : P := by repeat (first | exact OwnL.refl | apply OwnL.take (by repeat (first | exact Take.head _ | apply Take.tail)) | apply OwnL.drop)) : P := h
end Z
theorem mS {α : Type} {a : α} {l : List α} : a ∈ a :: l := List.mem_cons_self
theorem mT {α : Type} {a b : α} {l : List α} (h : a ∈ l) : a ∈ b :: l := List.mem_cons_of_mem b h
abbrev Env := List (Nat × Value)
def Env.find : List (Nat × Value) → Nat → Option Value
 | [], _ => none
 | (k, v) :: r, t => match Nat.beq k t with
   | true => some v
   | false => Env.find r t
structure Sz where
 n : Nat
 ds : List Deferred
structure Fr (n : Sz) (L : Env) (a : Act) : Prop where
 size : a.tmps.size = n.n
 defers : a.defers = n.ds
 get : ∀ t v, Env.find L t = some v → a.tmps.getD t undef = v
def ev (L : Env) : Operand → Option Value
 | .tmp t => Env.find L t
 | .const v => some v
 | .global g => some (.pointer (some ⟨g, 0, none⟩))
 | .func f => some (.func (.func f) #[] #[])
theorem Fr.ev {n : Sz} {L : Env} {a : Act} (h : Fr n L a) {x : Operand} {v : Value} (hx : ev L x = some v) : a.eval x = v := by
 cases x with
 | tmp t => exact h.get t v hx
 | const c => simp only [SL.ev, Option.some.injEq] at hx; exact hx
 | global g => simp only [SL.ev, Option.some.injEq] at hx; exact hx
 | func f => simp only [SL.ev, Option.some.injEq] at hx; exact hx
theorem Fr.put {n : Sz} {L : Env} {a : Act} (h : Fr n L a) {d : Nat} (hd : Nat.blt d n.n = true) (v : Value) : Fr n ((d, v) :: L) (a.put (some d) v) := by
 have hdn : d < a.tmps.size := by rw [h.size]; exact Nat.blt_eq ▸ hd
 refine ⟨by simp [Act.put, h.size], h.defers, fun t u ht => ?_⟩
 simp only [Env.find] at ht
 by_cases e : d = t
 · subst e
   simp only [Nat.beq_refl, Option.some.injEq] at ht
   subst ht
   simp [Act.put, hdn]
 · rw [show Nat.beq d t = false from by rw [← Bool.not_eq_true, Nat.beq_eq]; exact e] at ht
   have := h.get t u ht
   simp only [Act.put, Array.getD_eq_getD_getElem?] at this ⊢
   rw [Array.getElem?_setIfInBounds_ne e]
   exact this
theorem Fr.none {n : Sz} {L : Env} {a : Act} (h : Fr n L a) (v : Value) : Fr n L (a.put Option.none v) := h
def Sub (L L' : Env) : Prop := ∀ t v, Env.find L t = some v → Env.find L' t = some v
theorem Sub.nil {L' : Env} : Sub [] L' := fun _ _ h => by simp [Env.find] at h
theorem Sub.cons {t : Nat} {v v' : Value} {r L' : Env} (h : Env.find L' t = some v') (e : v' = v) (hr : Sub r L') : Sub ((t, v) :: r) L' := by
 intro s u hs
 simp only [Env.find] at hs
 by_cases e' : t = s
 · subst e'
   simp only [Nat.beq_refl, Option.some.injEq] at hs
   rw [h, e, hs]
 · rw [show Nat.beq t s = false from by rw [← Bool.not_eq_true, Nat.beq_eq]; exact e'] at hs
   exact hr s u hs
theorem Sub.refl {L : Env} : Sub L L := fun _ _ h => h
theorem Fr.sub {n : Sz} {L L' : Env} {a : Act} (h : Fr n L' a) (hs : Sub L L') : Fr n L a := ⟨h.size, h.defers, fun t v ht => h.get t v (hs t v ht)⟩
inductive Pick (L : Env) : List Nat → Env → Prop
 | nil : Pick L [] []
 | cons {k : Nat} {v : Value} {ks : List Nat} {L' : Env} (h : Env.find L k = some v) (r : Pick L ks L') : Pick L (k :: ks) ((k, v) :: L')
theorem Pick.sub {L L' : Env} {ks : List Nat} (h : Pick L ks L') : Sub L' L := by
 induction h with
 | nil => exact Sub.nil
 | cons h _ ih => exact Sub.cons h rfl ih
def Agree (O : Nat → Prop) (w w' : World) : Prop :=
 w'.os = w.os ∧ w'.tape = w.tape ∧ w'.output = w.output ∧ w.heap.size ≤ w'.heap.size ∧ ∀ k, k < w.heap.size → ¬ O k → w'.heap[k]? = w.heap[k]?
theorem Agree.refl (O : Nat → Prop) (w : World) : Agree O w w := ⟨rfl, rfl, rfl, Nat.le_refl _, fun _ _ _ => rfl⟩
theorem Agree.mono {O O' : Nat → Prop} {w w' : World} (h : Agree O w w') (ho : ∀ k, k < w.heap.size → O k → O' k) : Agree O' w w' :=
 ⟨h.1, h.2.1, h.2.2.1, h.2.2.2.1, fun k hk hn => h.2.2.2.2 k hk (fun hx => hn (ho k hk hx))⟩
theorem Agree.trans {O : Nat → Prop} {w w' w'' : World} (h : Agree O w w') (h' : Agree O w' w'') : Agree O w w'' :=
 ⟨h'.1.trans h.1, h'.2.1.trans h.2.1, h'.2.2.1.trans h.2.2.1, Nat.le_trans h.2.2.2.1 h'.2.2.2.1,
   fun k hk hn => (h'.2.2.2.2 k (Nat.lt_of_lt_of_le hk h.2.2.2.1) hn).trans (h.2.2.2.2 k hk hn)⟩
theorem Agree.drew {O : Nat → Prop} {w w' : World} (h : Agree O w w') (d : Nat) : Agree O w { w' with drawn := d } := h
theorem alloc_old (w : World) (o : Obj) {k : Nat} (h : k < w.heap.size) : (w.alloc o).heap[k]? = w.heap[k]? := by
 show (w.heap.push o)[k]? = _
 rw [Array.getElem?_push, if_neg Z.W]
theorem alloc_new (w : World) (o : Obj) : (w.alloc o).heap[w.heap.size]? = some o := by
 show (w.heap.push o)[w.heap.size]? = _
 rw [Array.getElem?_push, if_pos rfl]
theorem Agree.alloc {O : Nat → Prop} {w w' : World} (h : Agree O w w') (o : Obj) : Agree O w (w'.alloc o) :=
 ⟨h.1, h.2.1, h.2.2.1, Nat.le_trans h.2.2.2.1 (by simp), fun k hk hn => by
   rw [alloc_old w' o (Nat.lt_of_lt_of_le hk h.2.2.2.1)]; exact h.2.2.2.2 k hk hn⟩
structure Own where
 blks : List Nat
 pred : World → Prop
def owned : List Own → List Nat
 | [] => []
 | c :: r => c.blks ++ owned r
theorem mem_owned {O : List Own} {k : Nat} : k ∈ owned O ↔ ∃ c ∈ O, k ∈ c.blks := by
 induction O with
 | nil => simp [owned]
 | cons c r ih => simp [owned, ih]
abbrev RO := World → Prop
structure Sat (R : List RO) (O : List Own) (w : World) : Prop where
 nodup : (owned O).Nodup
 lt : ∀ k ∈ owned O, k < w.heap.size
 ro : ∀ p ∈ R, ∀ w', Agree (· ∈ owned O) w w' → p w'
 own : ∀ c ∈ O, ∀ w', Agree (fun k => k ∈ owned O ∧ k ∉ c.blks) w w' → c.pred w'
section sat
variable {R : List RO} {O : List Own} {w : World}
theorem Sat.read (h : Sat R O w) {p : RO} (hp : p ∈ R) : p w := h.ro p hp w (Agree.refl _ _)
theorem Sat.see (h : Sat R O w) {c : Own} (hc : c ∈ O) : c.pred w := h.own c hc w (Agree.refl _ _)
theorem Sat.drew (h : Sat R O w) (d : Nat) : Sat R O { w with drawn := d } := ⟨h.nodup, h.lt, fun p hp w' ha => h.ro p hp w' ha, fun c hc w' ha => h.own c hc w' ha⟩
theorem Sat.thin (h : Sat R O w) {R' : List RO} (hs : ∀ p ∈ R', p ∈ R) : Sat R' O w := ⟨h.nodup, h.lt, fun p hp => h.ro p (hs p hp), h.own⟩
theorem Sat.weaken (h : Sat R O w) {p q : RO} (hp : p ∈ R) (hpq : ∀ w, p w → q w) : Sat (q :: R) O w :=
 ⟨h.nodup, h.lt, fun x hx w' ha => by
   rcases List.mem_cons.1 hx with rfl | hx
   · exact hpq _ (h.ro p hp w' ha)
   · exact h.ro x hx w' ha, h.own⟩
theorem Sat.derive (h : Sat R O w) {q : RO} (hq : ∀ w, (∀ p ∈ R, p w) → q w) : Sat (q :: R) O w :=
 ⟨h.nodup, h.lt, fun x hx w' ha => by
   rcases List.mem_cons.1 hx with rfl | hx
   · exact hq _ fun p hp => h.ro p hp w' ha
   · exact h.ro x hx w' ha, h.own⟩
inductive SubL : List RO → List RO → Prop
 | refl {R : List RO} : SubL R R
 | skip {p : RO} {R' R : List RO} (h : SubL R' R) : SubL R' (p :: R)
 | cons {p : RO} {R' R : List RO} (hp : p ∈ R) (h : SubL R' R) : SubL (p :: R') R
theorem SubL.mem {R' R : List RO} (h : SubL R' R) : ∀ p ∈ R', p ∈ R := by
 induction h with
 | refl => exact fun _ h => h
 | skip _ ih => exact fun p hp => List.mem_cons_of_mem _ (ih p hp)
 | cons hp _ ih => intro p h; rcases List.mem_cons.1 h with rfl | h; exact hp; exact ih p h
inductive Take (c : Own) : List Own → List Own → Prop
 | head (r : List Own) : Take c (c :: r) r
 | tail {d : Own} {r r' : List Own} (h : Take c r r') : Take c (d :: r) (d :: r')
theorem Take.perm {c : Own} {O O' : List Own} (h : Take c O O') : O.Perm (c :: O') := by
 induction h with
 | head r => exact List.Perm.refl _
 | tail _ ih => exact (List.Perm.cons _ ih).trans (List.Perm.swap _ _ _)
theorem Take.mem {c : Own} {O O' : List Own} (h : Take c O O') : c ∈ O := h.perm.symm.mem_iff.1 (List.mem_cons_self)
theorem owned_perm {O O' : List Own} (h : O.Perm O') : (owned O).Perm (owned O') := by
 induction h with
 | nil => exact List.Perm.refl _
 | cons x _ ih => exact List.Perm.append_left _ ih
 | swap x y l => simp only [owned]; rw [← List.append_assoc, ← List.append_assoc]; exact List.Perm.append_right _ List.perm_append_comm
 | trans _ _ h1 h2 => exact h1.trans h2
theorem Sat.perm (h : Sat R O w) {O' : List Own} (hp : O.Perm O') : Sat R O' w := by
 have ho := owned_perm hp
 have hm : ∀ k, k ∈ owned O ↔ k ∈ owned O' := fun k => ho.mem_iff
 exact ⟨ho.nodup_iff.1 h.nodup, fun k hk => h.lt k ((hm k).2 hk), fun p hpR w' ha => h.ro p hpR w' (ha.mono fun k _ hk => (hm k).2 hk),
  fun c hc w' ha => h.own c (hp.mem_iff.2 hc) w' (ha.mono fun k _ hk => ⟨(hm k).2 hk.1, hk.2⟩)⟩
theorem Sat.alloc (h : Sat R O w) (o : Obj) (c : Own) (hb : c.blks = [w.heap.size]) (hc : ∀ w', w'.heap[w.heap.size]? = some o → (∀ p ∈ R, p w') → c.pred w') : Sat R (c :: O) (w.alloc o) := by
 have hsz : (w.alloc o).heap.size = w.heap.size + 1 := by simp
 have hne : ∀ k ∈ owned O, k ≠ w.heap.size := fun k hk => Nat.ne_of_lt (h.lt k hk)
 have old : ∀ (S : Nat → Prop) w', Agree S (w.alloc o) w' → Agree S w w' := fun S w' ha =>
  ⟨ha.1, ha.2.1, ha.2.2.1, Nat.le_trans (by rw [hsz]; exact Nat.le_succ _) ha.2.2.2.1, fun k hk hn => by
    rw [ha.2.2.2.2 k (by rw [hsz]; omega) hn]; exact alloc_old w o hk⟩
 have ros : ∀ p ∈ R, ∀ w', Agree (· ∈ owned (c :: O)) (w.alloc o) w' → p w' := fun p hp w' ha =>
  h.ro p hp w' ((old _ w' ha).mono fun k hk hx => by
   simp only [owned, hb, List.singleton_append, List.mem_cons] at hx
   rcases hx with rfl | hx
   · omega
   · exact hx)
 refine ⟨?_, ?_, ros, ?_⟩
 · simp only [owned, hb, List.singleton_append, List.nodup_cons]
   exact ⟨fun hm => hne _ hm rfl, h.nodup⟩
 · intro k hk
   simp only [owned, hb, List.singleton_append, List.mem_cons] at hk
   rcases hk with rfl | hk
   · simp
   · have := h.lt k hk; rw [hsz]; omega
 · intro d hd w' ha
   rcases List.mem_cons.1 hd with rfl | hd
   · refine hc w' ?_ fun p hp => h.ro p hp w' ((old _ w' ha).mono fun k hk hx => ?_)
     · rw [ha.2.2.2.2 _ (by rw [hsz]; omega) (fun hx => by simp [hb] at hx)]
       exact alloc_new w o
     · obtain ⟨hx, _⟩ := hx
       simp only [owned, hb, List.singleton_append, List.mem_cons] at hx
       rcases hx with rfl | hx
       · omega
       · exact hx
   · refine h.own d hd w' ((old _ w' ha).mono fun k hk hx => ?_)
     obtain ⟨hx, hx'⟩ := hx
     simp only [owned, hb, List.singleton_append, List.mem_cons] at hx
     rcases hx with rfl | hx
     · omega
     · exact ⟨hx, hx'⟩
theorem Sat.update {c : Own} (h : Sat R (c :: O) w) {w' : World} (c' : Own) (ha : Agree (· ∈ c.blks) w w')
 (hb : ∀ k ∈ c'.blks, k ∈ c.blks ∨ w.heap.size ≤ k) (hlt : ∀ k ∈ c'.blks, k < w'.heap.size) (hn : c'.blks.Nodup)
 (hc : ∀ w'', Agree (fun k => k ∉ c'.blks) w' w'' → (∀ p ∈ R, p w'') → c'.pred w'') : Sat R (c' :: O) w' := by
 have hnd := h.nodup
 simp only [owned, List.nodup_append] at hnd
 have hlt0 : ∀ k ∈ owned O, k < w.heap.size := fun k hk => h.lt k (by simp [owned, hk])
 have hdis : ∀ k ∈ owned O, k ∉ c'.blks := fun k hk hk' => by
  rcases hb k hk' with h1 | h1
  · exact hnd.2.2 k h1 k hk rfl
  · have := hlt0 k hk; omega
 have old : ∀ (S : Nat → Prop) w'', Agree S w' w'' → (∀ k, k < w.heap.size → S k → k ∉ c'.blks → S k) → Agree (fun k => S k ∨ k ∈ c.blks) w w'' := fun S w'' h2 _ =>
  (ha.mono fun k _ hk => .inr hk).trans ⟨h2.1, h2.2.1, h2.2.2.1, h2.2.2.2.1, fun k hk hn => h2.2.2.2.2 k hk (fun hx => hn (.inl hx))⟩
 have ros : ∀ p ∈ R, ∀ w'', Agree (fun k => k ∈ owned (c' :: O)) w' w'' → p w'' := fun p hp w'' h2 =>
  h.ro p hp w'' ((old _ w'' h2 (fun _ _ x _ => x)).mono fun k hk hx => by
   simp only [owned, List.mem_append] at hx ⊢
   rcases hx with (hx | hx) | hx
   · rcases hb k hx with h1 | h1
     · exact .inl h1
     · omega
   · exact .inr hx
   · exact .inl hx)
 refine ⟨?_, ?_, ros, ?_⟩
 · simp only [owned, List.nodup_append]
   exact ⟨hn, hnd.2.1, fun a ha b hb hab => hdis b hb (hab ▸ ha)⟩
 · intro k hk
   simp only [owned, List.mem_append] at hk
   rcases hk with hk | hk
   · exact hlt k hk
   · exact Nat.lt_of_lt_of_le (hlt0 k hk) ha.2.2.2.1
 · intro d hd w'' h2
   rcases List.mem_cons.1 hd with rfl | hd
   · exact hc w'' (h2.mono fun k _ hk => hk.2) fun p hp => ros p hp w'' (h2.mono fun k _ hk => hk.1)
   · refine h.own d (List.mem_cons_of_mem _ hd) w'' ((old _ w'' h2 (fun _ _ x _ => x)).mono fun k hk hx => ?_)
     simp only [owned, List.mem_append] at hx ⊢
     have hdd : k ∈ d.blks → k ∈ owned O := fun hkd => mem_owned.2 ⟨d, hd, hkd⟩
     rcases hx with ⟨hx | hx, hnd'⟩ | hx
     · rcases hb k hx with h1 | h1
       · exact ⟨.inl h1, hnd'⟩
       · omega
     · exact ⟨.inr hx, hnd'⟩
     · exact ⟨.inl hx, fun hkd => hnd.2.2 k hx k (hdd hkd) rfl⟩
theorem Sat.share {c : Own} (h : Sat R (c :: O) w) (q : RO) (hq : ∀ w, c.pred w → (∀ p ∈ R, p w) → q w) : Sat (q :: R) O w := by
 have hnd := h.nodup
 simp only [owned, List.nodup_append] at hnd
 refine ⟨hnd.2.1, fun k hk => h.lt k (by simp [owned, hk]), ?_, ?_⟩
 · intro p hp w' ha
   rcases List.mem_cons.1 hp with rfl | hp
   · refine hq w' (h.own c List.mem_cons_self w' (ha.mono fun k _ hk => ?_)) fun p hp => h.ro p hp w' (ha.mono fun k _ hk => by simp [owned, hk])
     exact ⟨by simp [owned, hk], fun hc => hnd.2.2 k hc k hk rfl⟩
   · exact h.ro p hp w' (ha.mono fun k _ hk => by simp [owned, hk])
 · intro d hd w' ha
   exact h.own d (List.mem_cons_of_mem _ hd) w' (ha.mono fun k _ hk => ⟨by simp [owned, hk.1], hk.2⟩)
theorem Sat.drop {c : Own} (h : Sat R (c :: O) w) : Sat R O w :=
 (h.share (fun _ => True) (fun _ _ _ => trivial)).thin (fun p hp => List.mem_cons_of_mem _ hp)
theorem Sat.emp (h : Sat R O w) (c : Own) (hb : c.blks = []) (hp : ∀ w, c.pred w) : Sat R (c :: O) w := by
 have ho : owned (c :: O) = owned O := by simp [owned, hb]
 refine ⟨ho ▸ h.nodup, fun k hk => h.lt k (ho ▸ hk), fun p hp w' ha => h.ro p hp w' (ho ▸ ha), fun d hd w' ha => ?_⟩
 rcases List.mem_cons.1 hd with rfl | hd
 · exact hp w'
 · exact h.own d hd w' (ha.mono fun k _ hk => ⟨ho ▸ hk.1, hk.2⟩)
inductive OwnL : List Own → List Own → Prop
 | refl {O : List Own} : OwnL O O
 | drop {c : Own} {O O' : List Own} (h : OwnL O O') : OwnL (c :: O) O'
 | take {c : Own} {O O1 O' : List Own} (ht : Take c O O1) (h : OwnL O1 O') : OwnL O (c :: O')
theorem Sat.keep {c : Own} {O1 O2 : List Own} (h : Sat R (c :: O1) w) (hk : ∀ w, Sat R O1 w → Sat R O2 w) (hs : ∀ k ∈ owned O2, k ∈ owned O1) (hp : ∀ d ∈ O2, d ∈ O1) : Sat R (c :: O2) w := by
 have hnd := h.nodup
 simp only [owned, List.nodup_append] at hnd
 have h2 := hk w h.drop
 have hsub : ∀ k, k ∈ owned (c :: O2) → k ∈ owned (c :: O1) := fun k hk => by
  simp only [owned, List.mem_append] at hk ⊢
  rcases hk with hk | hk
  · exact .inl hk
  · exact .inr (hs k hk)
 refine ⟨?_, ?_, fun p hp w' ha => h.ro p hp w' (ha.mono fun k _ hk => hsub k hk), fun d hd w' ha => ?_⟩
 · simp only [owned, List.nodup_append]
   exact ⟨hnd.1, h2.nodup, fun a ha b hb => hnd.2.2 a ha b (hs b hb)⟩
 · exact fun k hk => h.lt k (hsub k hk)
 · rcases List.mem_cons.1 hd with rfl | hd
   · exact h.own _ List.mem_cons_self w' (ha.mono fun k _ hk => ⟨hsub k hk.1, hk.2⟩)
   · exact h.own d (List.mem_cons_of_mem _ (hp d hd)) w' (ha.mono fun k _ hk => ⟨hsub k hk.1, hk.2⟩)
theorem OwnL.mem {O O' : List Own} (h : OwnL O O') : (∀ d ∈ O', d ∈ O) ∧ (∀ k ∈ owned O', k ∈ owned O) := by
 have h1 : ∀ d ∈ O', d ∈ O := by
  induction h with
  | refl => exact fun _ h => h
  | drop _ ih => exact fun d hd => List.mem_cons_of_mem _ (ih d hd)
  | take ht _ ih => intro d hd; rcases List.mem_cons.1 hd with rfl | hd; exact ht.mem; exact ht.perm.symm.mem_iff.1 (List.mem_cons_of_mem _ (ih d hd))
 exact ⟨h1, fun k hk => by obtain ⟨c, hc, hkc⟩ := mem_owned.1 hk; exact mem_owned.2 ⟨c, h1 c hc, hkc⟩⟩
theorem OwnL.sat {O O' : List Own} (h : OwnL O O') : ∀ w, Sat R O w → Sat R O' w := by
 induction h with
 | refl => exact fun _ h => h
 | drop _ ih => exact fun w h => ih w h.drop
 | take ht hr ih => exact fun w h => (h.perm ht.perm).keep ih hr.mem.2 hr.mem.1
namespace Z
theorem F {R R' : List RO} {O O' : List Own} (h1 : OwnL O O' := by repeat (first | exact OwnL.refl | apply OwnL.take (by repeat (first | exact Take.head _ | apply Take.tail)) | apply OwnL.drop)) (h2 : SubL R' R := by repeat (first | exact SubL.refl | refine SubL.cons Z.M ?_ | refine SubL.skip ?_)) : ∀ w, Sat R O w → Sat R' O' w := fun w h => OwnL.sat h1 w (h.thin (SubL.mem h2))
theorem Fw {R R' : List RO} {O O' : List Own} {w : World} (h : Sat R O w) (h1 : OwnL O O' := by repeat (first | exact OwnL.refl | apply OwnL.take (by repeat (first | exact Take.head _ | apply Take.tail)) | apply OwnL.drop)) (h2 : SubL R' R := by repeat (first | exact SubL.refl | refine SubL.cons Z.M ?_ | refine SubL.skip ?_)) : Sat R' O' w := OwnL.sat h1 w (h.thin (SubL.mem h2))
end Z
theorem Sat.recast {c : Own} (h : Sat R (c :: O) w) (c' : Own) (hb : c'.blks = c.blks) (hc : ∀ w, c.pred w → (∀ p ∈ R, p w) → c'.pred w) : Sat R (c' :: O) w := by
 refine ⟨by simpa [owned, hb] using h.nodup, by simpa [owned, hb] using h.lt, fun p hp w' ha => h.ro p hp w' (by simpa [owned, hb] using ha), fun d hd w' ha => ?_⟩
 rcases List.mem_cons.1 hd with rfl | hd
 · refine hc w' (h.own c List.mem_cons_self w' (by simpa [owned, hb] using ha)) fun p hp => h.ro p hp w' (ha.mono fun k _ hk => ?_)
   simpa [owned, hb] using hk.1
 · exact h.own d (List.mem_cons_of_mem _ hd) w' (by simpa [owned, hb] using ha)
end sat
abbrev Post := Exit → Env → List RO → List Own → Prop
def dfC (D : Nat) : Own := ⟨[D], fun w => w.heap[D]? = some (.deferred (some []))⟩
def Fin (ds : List Deferred) (R : List RO) (O : List Own) (w : World) : Prop := (ds = [] ∧ Sat R O w) ∨ ∃ D, ds = [{ target := .collected D, args := #[] }] ∧ Sat R (dfC D :: O) w
inductive FinO : List Deferred → List Own → List Own → Prop
 | nil {O : List Own} : FinO [] O O
 | mark {D : Nat} {O O' : List Own} (h : Take (dfC D) O O') : FinO [{ target := .collected D, args := #[] }] O O'
theorem FinO.fin {ds : List Deferred} {R : List RO} {O O' : List Own} {w : World} (h : FinO ds O O') (hs : Sat R O w) : Fin ds R O' w := by
 cases h with
 | nil => exact .inl ⟨rfl, hs⟩
 | mark hT => exact .inr ⟨_, rfl, hs.perm hT.perm⟩
theorem Fin.mono {ds : List Deferred} {R R' : List RO} {O O' : List Own} {w : World} (h : Fin ds R O w) (hs : ∀ O1 w, Sat R (O1 ++ O) w → Sat R' (O1 ++ O') w) : Fin ds R' O' w := by
 rcases h with ⟨rfl, h⟩ | ⟨D, rfl, h⟩
 · exact .inl ⟨rfl, hs [] w h⟩
 · exact .inr ⟨D, rfl, hs [_] w h⟩
def lift (n : Sz) (Q : Post) : Exit → Act → World → Prop
 | .panic _, _, _ => False
 | .outgrown, _, _ => False
 | .ret, a, w => ∃ L R O, Q .ret L R O ∧ Fr ⟨n.n, a.defers⟩ L a ∧ Fin a.defers R O w
 | e, a, w => ∃ L R O, Q e L R O ∧ Fr n L a ∧ Sat R O w
def WC (P : Program) (n : Sz) (c : Code) (Q : Post) (L : Env) (R : List RO) (O : List Own) : Prop :=
 ∀ a w, Fr n L a → Sat R O w → c.wp P (lift n Q) a w
def WL (P : Program) (n : Sz) (ops : Array Oper) (Q : Post) (rest : List Oper) (L : Env) (R : List RO) (O : List Own) : Prop :=
 ∀ a w, Fr n L a → Sat R O w → wpList P ops (lift n Q) rest a w
def WD (P : Program) (n : Sz) (ops : Array Oper) (Q : Post) (S : List RO) (T : List Own) (fuel : Nat) (listed : Array Bool) (L : Env) (R : List RO) (O : List Own) : Prop :=
 ∀ a w, Fr n L a → Sat R O w → wpAnyH P .any ops (lift n Q) (fun w => (∀ p ∈ S, p w) ∧ ∀ c ∈ T, c.pred w) fuel listed a w
def Rd (P : Program) (o : Oper) (L : Env) (R : List RO) (O : List Own) (v : Value) : Prop :=
 ∀ ρ w, (∀ x u, ev L x = some u → ρ x = u) → (∀ p ∈ R, p w) → (∀ c ∈ O, c.pred w) → (execOp ρ o).run P w = .ok (.value v) w
def OpW (P : Program) (n : Sz) (o : Oper) (L : Env) (R : List RO) (O : List Own) (K : Env → List RO → List Own → Prop) : Prop :=
 ∀ a w, Fr n L a → Sat R O w → ∀ Q, o.wp P a w (fun a' w' => ∃ L' R' O', K L' R' O' ∧ Fr n L' a' ∧ Sat R' O' w') Q
section rules
variable {P : Program} {n : Sz} {ops : Array Oper} {Q : Post} {rest : List Oper} {o : Oper} {L : Env} {R : List RO} {O : List Own}
theorem lift_normal {a : Act} {w : World} (h : Q .normal L R O) (hf : Fr n L a) (hs : Sat R O w) : lift n Q .normal a w := ⟨L, R, O, h, hf, hs⟩
theorem WL.nil (h : Q .normal L R O) : WL P n ops Q [] L R O := fun _ _ hf hs => wpList_nil (lift_normal h hf hs)
theorem OpW.rd {v : Value} {d : Nat} {K : Env → List RO → List Own → Prop} (hd : o.dst = some d) (hn : Nat.blt d n.n = true) (h : Rd P o L R O v) (k : K ((d, v) :: L) R O) : OpW P n o L R O K := by
 intro a w hf hs Q
 unfold Oper.wp
 rw [h a.eval w (fun x u hx => hf.ev hx) (fun p hp => hs.read hp) (fun c hc => hs.see hc), Oper.upon_value, hd]
 exact ⟨_, _, _, k, hf.put hn v, hs⟩
theorem WL.op (hg : o.guard = none) (h : OpW P n o L R O (fun L' R' O' => WL P n ops Q rest L' R' O')) : WL P n ops Q (o :: rest) L R O := by
 intro a w hf hs
 refine wpList_plain hg fun K hK => ?_
 exact Oper.wp_mono (fun a' w' ⟨L', R', O', hk, hf', hs'⟩ => hK _ _ (hk a' w' hf' hs')) (h a w hf hs _)
theorem WL.rd {v : Value} {d : Nat} (hg : o.guard = none) (hd : o.dst = some d) (hn : Nat.blt d n.n = true) (h : Rd P o L R O v) (k : WL P n ops Q rest ((d, v) :: L) R O) : WL P n ops Q (o :: rest) L R O :=
 WL.op hg (OpW.rd hd hn h k)
theorem yielded_of {a : Act} (hf : Fr n L a) {j d : Nat} {b : Bool} (hj : (ops[j]?).bind (·.dst) = some d) (hn : Nat.blt d n.n = true) (hb : Env.find L d = some (.bool b)) : yielded ops a.tmps j = some b := by
 have hdn : d < a.tmps.size := by rw [hf.size]; exact Nat.blt_eq ▸ hn
 have h := hf.get d _ hb
 simp only [Array.getD_eq_getD_getElem?, hdn, getElem?_pos, Option.getD_some] at h
 simp [yielded, hj, hdn, h]
theorem wanted_of {a : Act} (hf : Fr n L a) {j d : Nat} {b want : Bool} (hg : o.guard = some (j, want)) (hj : (ops[j]?).bind (·.dst) = some d) (hn : Nat.blt d n.n = true) (hb : Env.find L d = some (.bool b)) : Region.wanted o (yielded ops a.tmps) = (b == want) := by
 simp [Region.wanted, hg, yielded_of hf hj hn hb]
theorem WL.op_yes {j d : Nat} {b : Bool} (hg : o.guard = some (j, b)) (hj : (ops[j]?).bind (·.dst) = some d) (hn : Nat.blt d n.n = true) (hb : Env.find L d = some (.bool b))
 (h : OpW P n o L R O (fun L' R' O' => WL P n ops Q rest L' R' O')) : WL P n ops Q (o :: rest) L R O := by
 intro a w hf hs
 unfold wpList
 rw [if_pos (by rw [wanted_of hf hg hj hn hb]; simp)]
 exact .inl (Oper.wp_mono (fun a' w' ⟨L', R', O', hk, hf', hs'⟩ => hk a' w' hf' hs') (h a w hf hs _))
theorem WL.rd_yes {j d e : Nat} {b : Bool} {v : Value} (hg : o.guard = some (j, b)) (hj : (ops[j]?).bind (·.dst) = some e) (hne : Nat.blt e n.n = true) (hb : Env.find L e = some (.bool b))
 (hd : o.dst = some d) (hn : Nat.blt d n.n = true) (h : Rd P o L R O v) (k : WL P n ops Q rest ((d, v) :: L) R O) : WL P n ops Q (o :: rest) L R O :=
 WL.op_yes hg hj hne hb (OpW.rd hd hn h k)
theorem WL.no {j d e : Nat} {b : Bool} (hg : o.guard = some (j, b)) (hj : (ops[j]?).bind (·.dst) = some e) (hne : Nat.blt e n.n = true) (hb : Env.find L e = some (.bool (!b)))
 (hd : o.dst = some d) (hn : Nat.blt d n.n = true) (k : WL P n ops Q rest ((d, undef) :: L) R O) : WL P n ops Q (o :: rest) L R O := by
 intro a w hf hs
 unfold wpList
 rw [if_neg (by rw [wanted_of hf hg hj hne hb]; cases b <;> simp), hd]
 exact k _ _ (hf.put hn _) hs
theorem wantedU {a : Act} (hf : Fr n L a) {j d : Nat} {want : Bool} (hg : o.guard = some (j, want)) (hj : (ops[j]?).bind (·.dst) = some d) (hn : Nat.blt d n.n = true) (hb : Env.find L d = some undef) : Region.wanted o (yielded ops a.tmps) = false := by
 have hdn : d < a.tmps.size := by rw [hf.size]; exact Nat.blt_eq ▸ hn
 have h := hf.get d _ hb
 simp only [Array.getD_eq_getD_getElem?, hdn, getElem?_pos, Option.getD_some] at h
 simp [Region.wanted, hg, yielded, hj, hdn, h, undef]
theorem Fr.known {L : Env} {a : Act} (hf : Fr n L a) {t : Nat} {v u : Value} (ht : Env.find L t = some v) (e : v = u) : Fr n ((t, u) :: L) a := by
 subst e
 refine ⟨hf.size, hf.defers, fun s x hs => ?_⟩
 simp only [Env.find] at hs
 by_cases e' : t = s
 · subst e'
   simp only [Nat.beq_refl, Option.some.injEq] at hs
   subst hs
   exact hf.get t _ ht
 · rw [show Nat.beq t s = false from by rw [← Bool.not_eq_true, Nat.beq_eq]; exact e'] at hs
   exact hf.get s x hs
theorem WL.case (t : Nat) {p : Prop} [Decidable p] (ht : Env.find L t = some (.bool (decide p))) (hy : p → WL P n ops Q rest ((t, .bool true) :: L) R O) (hno : ¬ p → WL P n ops Q rest ((t, .bool false) :: L) R O) : WL P n ops Q rest L R O := by
 intro a w hf hs
 by_cases h : p
 · exact hy h a w (hf.known ht (by simp [h])) hs
 · exact hno h a w (hf.known ht (by simp [h])) hs
theorem WL.say (t : Nat) {v u : Value} (ht : Env.find L t = some v) (e : v = u) (k : WL P n ops Q rest ((t, u) :: L) R O) : WL P n ops Q rest L R O :=
 fun a w hf hs => k a w (hf.known ht e) hs
theorem WL.heap {R' : List RO} {O' : List Own} (hs : ∀ w, Sat R O w → Sat R' O' w) (k : WL P n ops Q rest L R' O') : WL P n ops Q rest L R O := fun a w hf h => k a w hf (hs w h)
theorem WC.region {id : Nat} {l : List Oper} (h : WL P n l.toArray Q l L R O) : WC P n (.region id l.toArray false) Q L R O :=
 fun a w hf hs => wp_region_lit (h a w hf hs)
theorem WC.draw {id : Nat} {l : List Oper} (S : List RO) (T : List Own) (hm : P.follows .mixedOrders = true) (h : WD P n l.toArray Q S T l.toArray.size (Array.replicate l.toArray.size false) L R O) : WC P n (.region id l.toArray true) Q L R O :=
 fun a w hf hs => wp_region_held (S := fun w => (∀ p ∈ S, p w) ∧ ∀ c ∈ T, c.pred w) hm (h a _ hf (hs.drew _))
def thenQ (P : Program) (n : Sz) (y : Code) (Q : Post) : Post
 | .normal, L, R, O => WC P n y Q L R O
 | e, L, R, O => Q e L R O
theorem thenQ.normal {y : Code} (h : WC P n y Q L R O) : thenQ P n y Q .normal L R O := h
theorem WC.seq {x y : Code} (h : WC P n x (thenQ P n y Q) L R O) : WC P n (.seq x y) Q L R O := by
 intro a w hf hs
 refine wp_seq (wp_mono (h a w hf hs) fun e a' w' hq => ?_)
 cases e with
 | normal => obtain ⟨L', R', O', hk, hf', hs'⟩ := hq; exact hk a' w' hf' hs'
 | exit id => exact hq
 | goto l => exact hq
 | ret => exact hq
 | panic c => exact hq
 | outgrown => exact hq
theorem WC.skip (h : Q .normal L R O) : WC P n .skip Q L R O := fun _ _ hf hs => wp_skip (lift_normal h hf hs)
theorem WC.exit {id : Nat} (h : Q (.exit id) L R O) : WC P n (.exit id) Q L R O := fun _ _ hf hs => wp_exit ⟨_, _, _, h, hf, hs⟩
theorem Fr.own {a : Act} (h : Fr n L a) : Fr ⟨n.n, a.defers⟩ L a := ⟨h.size, rfl, h.get⟩
theorem WC.retO {O' : List Own} (hF : FinO n.ds O O') (h : Q .ret L R O') : WC P n .ret Q L R O := fun _ _ hf hs => wp_ret ⟨_, _, _, h, hf.own, by rw [hf.defers]; exact hF.fin hs⟩
theorem WC.ret (h : Q .ret L R O) (hF : FinO n.ds O O := by exact FinO.nil) : WC P n .ret Q L R O := WC.retO hF h
def blockQ (id : Nat) (Q : Post) : Post
 | .exit id', L, R, O => match Nat.beq id' id with
   | true => Q .normal L R O
   | false => Q (.exit id') L R O
 | e, L, R, O => Q e L R O
theorem WC.block {id : Nat} {c : Code} (h : WC P n c (blockQ id Q) L R O) : WC P n (.block id c) Q L R O := by
 intro a w hf hs
 refine wp_block (wp_mono (h a w hf hs) fun e a' w' hq => ?_)
 cases e with
 | normal => exact hq
 | exit id' =>
   obtain ⟨L', R', O', hk, hf', hs'⟩ := hq
   by_cases e : id' = id
   · subst e
     simp only [blockQ, Nat.beq_refl] at hk
     simp only [Exit.inBlock, if_true]
     exact ⟨_, _, _, hk, hf', hs'⟩
   · simp only [blockQ, show Nat.beq id' id = false from by rw [← Bool.not_eq_true, Nat.beq_eq]; exact e] at hk
     simp only [Exit.inBlock, e, if_false]
     exact ⟨_, _, _, hk, hf', hs'⟩
 | goto l => exact hq
 | ret => exact hq
 | panic c => exact hq
 | outgrown => exact hq
theorem WC.cond {c : Operand} {x y : Code} {b : Bool} (hc : ev L c = some (.bool b)) (ht : b = true → WC P n x Q L R O) (hf : b = false → WC P n y Q L R O) : WC P n (.cond c x y) Q L R O := by
 intro a w hfr hs
 exact wp_cond_split (hfr.ev hc) (fun h => ht h a w hfr hs) (fun h => hf h a w hfr hs)
theorem WC.ite {c : Operand} {x y : Code} {p : Prop} [Decidable p] (hc : ev L c = some (.bool (decide p))) (ht : p → WC P n x Q L R O) (hf : ¬ p → WC P n y Q L R O) : WC P n (.cond c x y) Q L R O :=
 WC.cond hc (fun h => ht (of_decide_eq_true h)) (fun h => hf (of_decide_eq_false h))
theorem WC.yes {c : Operand} {x y : Code} (hc : ev L c = some (.bool true)) (ht : WC P n x Q L R O) : WC P n (.cond c x y) Q L R O :=
 WC.cond hc (fun _ => ht) (fun h => by cases h)
theorem WC.frame {c : Code} {L' : Env} (hs : Sub L' L) (k : WC P n c Q L' R O) : WC P n c Q L R O := fun a w hf h => k a w (hf.sub hs) h
theorem WC.pick {c : Code} (ks : List Nat) {L' : Env} (hp : Pick L ks L') (k : WC P n c Q L' R O) : WC P n c Q L R O := WC.frame hp.sub k
theorem WC.heap {c : Code} {R' : List RO} {O' : List Own} (hs : ∀ w, Sat R O w → Sat R' O' w) (k : WC P n c Q L R' O') : WC P n c Q L R O := fun a w hf h => k a w hf (hs w h)
theorem WC.say {c : Code} (t : Nat) {v u : Value} (ht : Env.find L t = some v) (e : v = u) (k : WC P n c Q ((t, u) :: L) R O) : WC P n c Q L R O :=
 fun a w hf hs => k a w (hf.known ht e) hs
theorem WC.mono {c : Code} {Q' : Post} (h : WC P n c Q' L R O) (hq : ∀ e L R O, Q' e L R O → Q e L R O) : WC P n c Q L R O := by
 intro a w hf hs
 refine wp_mono (h a w hf hs) fun e a' w' hk => ?_
 cases e with
 | panic c => exact hk
 | outgrown => exact hk
 | normal => obtain ⟨L', R', O', h1, h2, h3⟩ := hk; exact ⟨L', R', O', hq _ _ _ _ h1, h2, h3⟩
 | exit id => obtain ⟨L', R', O', h1, h2, h3⟩ := hk; exact ⟨L', R', O', hq _ _ _ _ h1, h2, h3⟩
 | goto l => obtain ⟨L', R', O', h1, h2, h3⟩ := hk; exact ⟨L', R', O', hq _ _ _ _ h1, h2, h3⟩
 | ret => obtain ⟨L', R', O', h1, h2, h3⟩ := hk; exact ⟨L', R', O', hq _ _ _ _ h1, h2, h3⟩
def midQ {α : Type} (LF : α → Env) (RF : α → List RO) (OF : α → List Own) (I : α → Prop) (Q : Post) : Post
 | .normal, L, R, O => ∃ x, I x ∧ Sub (LF x) L ∧ (∀ w, Sat R O w → Sat (RF x) (OF x) w)
 | e, L, R, O => Q e L R O
theorem WC.cut {x y : Code} {α : Type} (LF : α → Env) (RF : α → List RO) (OF : α → List Own) (I : α → Prop)
 (h1 : WC P n x (midQ LF RF OF I Q) L R O) (h2 : ∀ z, I z → WC P n y Q (LF z) (RF z) (OF z)) : WC P n (.seq x y) Q L R O := by
 refine WC.seq (h1.mono fun e L' R' O' hk => ?_)
 cases e with
 | normal => obtain ⟨z, hI, hL, hS⟩ := hk; exact WC.frame hL (WC.heap hS (h2 z hI))
 | exit id => exact hk
 | goto l => exact hk
 | ret => exact hk
 | panic c => exact hk
 | outgrown => exact hk
def loopQ {α : Type} (LF : α → Env) (RF : α → List RO) (OF : α → List Own) (I : α → Prop) (μ : α → Nat) (m : Nat) (Q : Post) : Post
 | .normal, L, R, O => ∃ x, I x ∧ μ x < m ∧ Sub (LF x) L ∧ (∀ w, Sat R O w → Sat (RF x) (OF x) w)
 | e, L, R, O => Q e L R O
theorem WC.loop {c : Code} {α : Type} (LF : α → Env) (RF : α → List RO) (OF : α → List Own) (I : α → Prop) (μ : α → Nat) (x0 : α) (h0 : I x0) (hL : Sub (LF x0) L) (hS : ∀ w, Sat R O w → Sat (RF x0) (OF x0) w)
 (round : ∀ x, I x → WC P n c (loopQ LF RF OF I μ (μ x) Q) (LF x) (RF x) (OF x)) : WC P n (.loop c) Q L R O := by
 have up : ∀ (Q : Exit → Act → World → Prop) m a w, Code.rounds P c Q m a w → Code.rounds P c Q (m + 1) a w := by
  intro Q m
  induction m with
  | zero => intro a w h; exact h.elim
  | succ m ih =>
    intro a w h
    refine wp_mono h fun e a' w' hq => ?_
    cases e with
    | normal => exact ih _ _ hq
    | exit id => exact hq
    | goto l => exact hq
    | ret => exact hq
    | panic c => exact hq
    | outgrown => exact hq
 have ups : ∀ (Q : Exit → Act → World → Prop) m k a w, Code.rounds P c Q m a w → Code.rounds P c Q (m + k) a w := by
  intro Q m k
  induction k with
  | zero => intro a w h; exact h
  | succ k ih => intro a w h; exact up Q _ _ _ (ih _ _ h)
 have key : ∀ m x, μ x = m → I x → ∀ a w, Fr n (LF x) a → Sat (RF x) (OF x) w → Code.rounds P c (lift n Q) (m + 1) a w := by
  intro m
  induction m using Nat.strongRecOn with
  | _ m ih =>
    intro x hm hI a w hf hs
    rw [rounds_succ]
    refine wp_mono (round x hI a w hf hs) fun e a' w' hq => ?_
    cases e with
    | normal =>
      obtain ⟨L', R', O', ⟨y, hy, hlt, hL', hS'⟩, hf', hs'⟩ := hq
      rw [hm] at hlt
      have h := ih (μ y) hlt y rfl hy a' w' (hf'.sub hL') (hS' _ hs')
      have h2 := ups (lift n Q) (μ y + 1) (m - (μ y + 1)) a' w' h
      rw [show μ y + 1 + (m - (μ y + 1)) = m from by omega] at h2
      exact h2
    | exit id => exact hq
    | goto l => exact hq
    | ret => exact hq
    | panic c => exact hq
    | outgrown => exact hq
 exact fun a w hf hs => wp_loop_rounds _ (key _ x0 rfl h0 a w (hf.sub hL) (hS w hs))
theorem thenQ.exit {y : Code} {id : Nat} (h : Q (.exit id) L R O) : thenQ P n y Q (.exit id) L R O := h
theorem blockQ.normal {id : Nat} (h : Q .normal L R O) : blockQ id Q .normal L R O := h
theorem blockQ.exit {id : Nat} (h : Q .normal L R O) : blockQ id Q (.exit id) L R O := by simp only [blockQ, Nat.beq_refl]; exact h
theorem blockQ.pass {id id' : Nat} (hne : Nat.beq id' id = false) (h : Q (.exit id') L R O) : blockQ id Q (.exit id') L R O := by simp only [blockQ, hne]; exact h
theorem midQ.exit {α : Type} {LF : α → Env} {RF : α → List RO} {OF : α → List Own} {I : α → Prop} {id : Nat} (h : Q (.exit id) L R O) : midQ LF RF OF I Q (.exit id) L R O := h
def valQ (d : Nat) (v : Value) (L0 : Env) (R0 : List RO) (O0 : List Own) (Q : Post) : Post
 | .normal, L, R, O => Sub ((d, v) :: L0) L ∧ ∀ w, Sat R O w → Sat R0 O0 w
 | e, L, R, O => Q e L R O
theorem valQ.exit {d : Nat} {v : Value} {L0 : Env} {R0 : List RO} {O0 : List Own} {id : Nat} (h : Q (.exit id) L R O) : valQ d v L0 R0 O0 Q (.exit id) L R O := h
theorem WC.val {x y : Code} (d : Nat) (v : Value) (h1 : WC P n x (valQ d v L R O Q) L R O) (h2 : WC P n y Q ((d, v) :: L) R O) : WC P n (.seq x y) Q L R O := by
 refine WC.seq (h1.mono fun e L' R' O' hk => ?_)
 cases e with
 | normal => obtain ⟨hL, hS⟩ := hk; exact WC.frame hL (WC.heap hS h2)
 | exit id => exact hk
 | goto l => exact hk
 | ret => exact hk
 | panic c => exact hk
 | outgrown => exact hk
inductive Split : Nat → Env → Env → Env → Prop
 | zero {L : Env} : Split 0 L [] L
 | succ {m : Nat} {x : Nat × Value} {L p r : Env} (h : Split m L p r) : Split (m + 1) (x :: L) (x :: p) r
section loops
variable {c : Code} {α β γ δ ε ζ η : Type}
def loopQ1 (ch : α → Env) (Lc : Env) (RF : α → List RO) (OF : α → List Own) (I : α → Prop) (μ : α → Nat) (m : Nat) (Q : Post) : Post :=
 loopQ (α := α) (fun q => ch q ++ Lc) (fun q => RF q) (fun q => OF q) (fun q => I q) (fun q => μ q) m Q
theorem loopQ1.mk {ch : α → Env} {Lc : Env} {RF : α → List RO} {OF : α → List Own} {I : α → Prop} {μ : α → Nat} {m : Nat} (x : α) (hI : I x) (hm : μ x < m) (hL : Sub (ch x ++ Lc) L) (hS : ∀ w, Sat R O w → Sat (RF x) (OF x) w) : loopQ1 ch Lc RF OF I μ m Q .normal L R O := ⟨x, hI, hm, hL, hS⟩
theorem loopQ1.exit {ch : α → Env} {Lc : Env} {RF : α → List RO} {OF : α → List Own} {I : α → Prop} {μ : α → Nat} {m id : Nat} (h : Q (.exit id) L R O) : loopQ1 ch Lc RF OF I μ m Q (.exit id) L R O := h
theorem WC.loop1r (m : Nat) (ch : α → Env) (RF : α → List RO) (OF : α → List Own) (I : α → Prop) (μ : α → Nat) (x0 : α) {pre Lc : Env} (_hs : Split m L pre Lc) (h0 : I x0) (hL : Sub (ch x0 ++ Lc) L) (hS : ∀ w, Sat R O w → Sat (RF x0) (OF x0) w)
 (round : ∀ x, I x → WC P n c (loopQ1 ch Lc RF OF I μ (μ x) Q) (ch x ++ Lc) (RF x) (OF x)) : WC P n (.loop c) Q L R O :=
 WC.loop (α := α) (fun q => ch q ++ Lc) (fun q => RF q) (fun q => OF q) (fun q => I q) (fun q => μ q) x0 h0 hL hS (fun q hq => round q hq)
theorem WC.loop1 (m : Nat) (ch : α → Env) (OF : α → List Own) (I : α → Prop) (μ : α → Nat) (x0 : α) {pre Lc : Env} (hs : Split m L pre Lc) (h0 : I x0) (hL : Sub (ch x0 ++ Lc) L) (hS : ∀ w, Sat R O w → Sat R (OF x0) w)
 (round : ∀ x, I x → WC P n c (loopQ1 ch Lc (fun _ => R) OF I μ (μ x) Q) (ch x ++ Lc) R (OF x)) : WC P n (.loop c) Q L R O := WC.loop1r m ch (fun _ => R) OF I μ x0 hs h0 hL hS round
theorem WC.loop1o (m : Nat) (ch : α → Env) (I : α → Prop) (μ : α → Nat) (x0 : α) {pre Lc : Env} (hs : Split m L pre Lc) (h0 : I x0) (hL : Sub (ch x0 ++ Lc) L) (hS : ∀ w, Sat R O w → Sat R O w)
 (round : ∀ x, I x → WC P n c (loopQ1 ch Lc (fun _ => R) (fun _ => O) I μ (μ x) Q) (ch x ++ Lc) R O) : WC P n (.loop c) Q L R O := WC.loop1r m ch (fun _ => R) (fun _ => O) I μ x0 hs h0 hL hS round
def loopQ2 (ch : α → β → Env) (Lc : Env) (RF : α → β → List RO) (OF : α → β → List Own) (I : α → β → Prop) (μ : α → β → Nat) (m : Nat) (Q : Post) : Post :=
 loopQ (α := α × β) (fun q => ch q.1 q.2 ++ Lc) (fun q => RF q.1 q.2) (fun q => OF q.1 q.2) (fun q => I q.1 q.2) (fun q => μ q.1 q.2) m Q
theorem loopQ2.mk {ch : α → β → Env} {Lc : Env} {RF : α → β → List RO} {OF : α → β → List Own} {I : α → β → Prop} {μ : α → β → Nat} {m : Nat} (x : α) (y : β) (hI : I x y) (hm : μ x y < m) (hL : Sub (ch x y ++ Lc) L) (hS : ∀ w, Sat R O w → Sat (RF x y) (OF x y) w) : loopQ2 ch Lc RF OF I μ m Q .normal L R O := ⟨(x, y), hI, hm, hL, hS⟩
theorem loopQ2.exit {ch : α → β → Env} {Lc : Env} {RF : α → β → List RO} {OF : α → β → List Own} {I : α → β → Prop} {μ : α → β → Nat} {m id : Nat} (h : Q (.exit id) L R O) : loopQ2 ch Lc RF OF I μ m Q (.exit id) L R O := h
theorem WC.loop2r (m : Nat) (ch : α → β → Env) (RF : α → β → List RO) (OF : α → β → List Own) (I : α → β → Prop) (μ : α → β → Nat) (x0 : α) (y0 : β) {pre Lc : Env} (_hs : Split m L pre Lc) (h0 : I x0 y0) (hL : Sub (ch x0 y0 ++ Lc) L) (hS : ∀ w, Sat R O w → Sat (RF x0 y0) (OF x0 y0) w)
 (round : ∀ x y, I x y → WC P n c (loopQ2 ch Lc RF OF I μ (μ x y) Q) (ch x y ++ Lc) (RF x y) (OF x y)) : WC P n (.loop c) Q L R O :=
 WC.loop (α := α × β) (fun q => ch q.1 q.2 ++ Lc) (fun q => RF q.1 q.2) (fun q => OF q.1 q.2) (fun q => I q.1 q.2) (fun q => μ q.1 q.2) (x0, y0) h0 hL hS (fun q hq => round q.1 q.2 hq)
theorem WC.loop2 (m : Nat) (ch : α → β → Env) (OF : α → β → List Own) (I : α → β → Prop) (μ : α → β → Nat) (x0 : α) (y0 : β) {pre Lc : Env} (hs : Split m L pre Lc) (h0 : I x0 y0) (hL : Sub (ch x0 y0 ++ Lc) L) (hS : ∀ w, Sat R O w → Sat R (OF x0 y0) w)
 (round : ∀ x y, I x y → WC P n c (loopQ2 ch Lc (fun _ _ => R) OF I μ (μ x y) Q) (ch x y ++ Lc) R (OF x y)) : WC P n (.loop c) Q L R O := WC.loop2r m ch (fun _ _ => R) OF I μ x0 y0 hs h0 hL hS round
def loopQ3 (ch : α → β → γ → Env) (Lc : Env) (RF : α → β → γ → List RO) (OF : α → β → γ → List Own) (I : α → β → γ → Prop) (μ : α → β → γ → Nat) (m : Nat) (Q : Post) : Post :=
 loopQ (α := α × β × γ) (fun q => ch q.1 q.2.1 q.2.2 ++ Lc) (fun q => RF q.1 q.2.1 q.2.2) (fun q => OF q.1 q.2.1 q.2.2) (fun q => I q.1 q.2.1 q.2.2) (fun q => μ q.1 q.2.1 q.2.2) m Q
theorem loopQ3.mk {ch : α → β → γ → Env} {Lc : Env} {RF : α → β → γ → List RO} {OF : α → β → γ → List Own} {I : α → β → γ → Prop} {μ : α → β → γ → Nat} {m : Nat} (x : α) (y : β) (z : γ) (hI : I x y z) (hm : μ x y z < m) (hL : Sub (ch x y z ++ Lc) L) (hS : ∀ w, Sat R O w → Sat (RF x y z) (OF x y z) w) : loopQ3 ch Lc RF OF I μ m Q .normal L R O := ⟨(x, y, z), hI, hm, hL, hS⟩
theorem loopQ3.exit {ch : α → β → γ → Env} {Lc : Env} {RF : α → β → γ → List RO} {OF : α → β → γ → List Own} {I : α → β → γ → Prop} {μ : α → β → γ → Nat} {m id : Nat} (h : Q (.exit id) L R O) : loopQ3 ch Lc RF OF I μ m Q (.exit id) L R O := h
theorem WC.loop3r (m : Nat) (ch : α → β → γ → Env) (RF : α → β → γ → List RO) (OF : α → β → γ → List Own) (I : α → β → γ → Prop) (μ : α → β → γ → Nat) (x0 : α) (y0 : β) (z0 : γ) {pre Lc : Env} (_hs : Split m L pre Lc) (h0 : I x0 y0 z0) (hL : Sub (ch x0 y0 z0 ++ Lc) L) (hS : ∀ w, Sat R O w → Sat (RF x0 y0 z0) (OF x0 y0 z0) w)
 (round : ∀ x y z, I x y z → WC P n c (loopQ3 ch Lc RF OF I μ (μ x y z) Q) (ch x y z ++ Lc) (RF x y z) (OF x y z)) : WC P n (.loop c) Q L R O :=
 WC.loop (α := α × β × γ) (fun q => ch q.1 q.2.1 q.2.2 ++ Lc) (fun q => RF q.1 q.2.1 q.2.2) (fun q => OF q.1 q.2.1 q.2.2) (fun q => I q.1 q.2.1 q.2.2) (fun q => μ q.1 q.2.1 q.2.2) (x0, y0, z0) h0 hL hS (fun q hq => round q.1 q.2.1 q.2.2 hq)
theorem WC.loop3 (m : Nat) (ch : α → β → γ → Env) (OF : α → β → γ → List Own) (I : α → β → γ → Prop) (μ : α → β → γ → Nat) (x0 : α) (y0 : β) (z0 : γ) {pre Lc : Env} (hs : Split m L pre Lc) (h0 : I x0 y0 z0) (hL : Sub (ch x0 y0 z0 ++ Lc) L) (hS : ∀ w, Sat R O w → Sat R (OF x0 y0 z0) w)
 (round : ∀ x y z, I x y z → WC P n c (loopQ3 ch Lc (fun _ _ _ => R) OF I μ (μ x y z) Q) (ch x y z ++ Lc) R (OF x y z)) : WC P n (.loop c) Q L R O := WC.loop3r m ch (fun _ _ _ => R) OF I μ x0 y0 z0 hs h0 hL hS round
def loopQ4 (ch : α → β → γ → δ → Env) (Lc : Env) (RF : α → β → γ → δ → List RO) (OF : α → β → γ → δ → List Own) (I : α → β → γ → δ → Prop) (μ : α → β → γ → δ → Nat) (m : Nat) (Q : Post) : Post :=
 loopQ (α := α × β × γ × δ) (fun q => ch q.1 q.2.1 q.2.2.1 q.2.2.2 ++ Lc) (fun q => RF q.1 q.2.1 q.2.2.1 q.2.2.2) (fun q => OF q.1 q.2.1 q.2.2.1 q.2.2.2) (fun q => I q.1 q.2.1 q.2.2.1 q.2.2.2) (fun q => μ q.1 q.2.1 q.2.2.1 q.2.2.2) m Q
theorem loopQ4.mk {ch : α → β → γ → δ → Env} {Lc : Env} {RF : α → β → γ → δ → List RO} {OF : α → β → γ → δ → List Own} {I : α → β → γ → δ → Prop} {μ : α → β → γ → δ → Nat} {m : Nat} (x : α) (y : β) (z : γ) (u : δ) (hI : I x y z u) (hm : μ x y z u < m) (hL : Sub (ch x y z u ++ Lc) L) (hS : ∀ w, Sat R O w → Sat (RF x y z u) (OF x y z u) w) : loopQ4 ch Lc RF OF I μ m Q .normal L R O := ⟨(x, y, z, u), hI, hm, hL, hS⟩
theorem loopQ4.exit {ch : α → β → γ → δ → Env} {Lc : Env} {RF : α → β → γ → δ → List RO} {OF : α → β → γ → δ → List Own} {I : α → β → γ → δ → Prop} {μ : α → β → γ → δ → Nat} {m id : Nat} (h : Q (.exit id) L R O) : loopQ4 ch Lc RF OF I μ m Q (.exit id) L R O := h
theorem WC.loop4r (m : Nat) (ch : α → β → γ → δ → Env) (RF : α → β → γ → δ → List RO) (OF : α → β → γ → δ → List Own) (I : α → β → γ → δ → Prop) (μ : α → β → γ → δ → Nat) (x0 : α) (y0 : β) (z0 : γ) (u0 : δ) {pre Lc : Env} (_hs : Split m L pre Lc) (h0 : I x0 y0 z0 u0) (hL : Sub (ch x0 y0 z0 u0 ++ Lc) L) (hS : ∀ w, Sat R O w → Sat (RF x0 y0 z0 u0) (OF x0 y0 z0 u0) w)
 (round : ∀ x y z u, I x y z u → WC P n c (loopQ4 ch Lc RF OF I μ (μ x y z u) Q) (ch x y z u ++ Lc) (RF x y z u) (OF x y z u)) : WC P n (.loop c) Q L R O :=
 WC.loop (α := α × β × γ × δ) (fun q => ch q.1 q.2.1 q.2.2.1 q.2.2.2 ++ Lc) (fun q => RF q.1 q.2.1 q.2.2.1 q.2.2.2) (fun q => OF q.1 q.2.1 q.2.2.1 q.2.2.2) (fun q => I q.1 q.2.1 q.2.2.1 q.2.2.2) (fun q => μ q.1 q.2.1 q.2.2.1 q.2.2.2) (x0, y0, z0, u0) h0 hL hS (fun q hq => round q.1 q.2.1 q.2.2.1 q.2.2.2 hq)
theorem WC.loop4 (m : Nat) (ch : α → β → γ → δ → Env) (OF : α → β → γ → δ → List Own) (I : α → β → γ → δ → Prop) (μ : α → β → γ → δ → Nat) (x0 : α) (y0 : β) (z0 : γ) (u0 : δ) {pre Lc : Env} (hs : Split m L pre Lc) (h0 : I x0 y0 z0 u0) (hL : Sub (ch x0 y0 z0 u0 ++ Lc) L) (hS : ∀ w, Sat R O w → Sat R (OF x0 y0 z0 u0) w)
 (round : ∀ x y z u, I x y z u → WC P n c (loopQ4 ch Lc (fun _ _ _ _ => R) OF I μ (μ x y z u) Q) (ch x y z u ++ Lc) R (OF x y z u)) : WC P n (.loop c) Q L R O := WC.loop4r m ch (fun _ _ _ _ => R) OF I μ x0 y0 z0 u0 hs h0 hL hS round
def loopQ5 (ch : α → β → γ → δ → ε → Env) (Lc : Env) (RF : α → β → γ → δ → ε → List RO) (OF : α → β → γ → δ → ε → List Own) (I : α → β → γ → δ → ε → Prop) (μ : α → β → γ → δ → ε → Nat) (m : Nat) (Q : Post) : Post :=
 loopQ (α := α × β × γ × δ × ε) (fun q => ch q.1 q.2.1 q.2.2.1 q.2.2.2.1 q.2.2.2.2 ++ Lc) (fun q => RF q.1 q.2.1 q.2.2.1 q.2.2.2.1 q.2.2.2.2) (fun q => OF q.1 q.2.1 q.2.2.1 q.2.2.2.1 q.2.2.2.2) (fun q => I q.1 q.2.1 q.2.2.1 q.2.2.2.1 q.2.2.2.2) (fun q => μ q.1 q.2.1 q.2.2.1 q.2.2.2.1 q.2.2.2.2) m Q
theorem loopQ5.mk {ch : α → β → γ → δ → ε → Env} {Lc : Env} {RF : α → β → γ → δ → ε → List RO} {OF : α → β → γ → δ → ε → List Own} {I : α → β → γ → δ → ε → Prop} {μ : α → β → γ → δ → ε → Nat} {m : Nat} (x : α) (y : β) (z : γ) (u : δ) (v : ε) (hI : I x y z u v) (hm : μ x y z u v < m) (hL : Sub (ch x y z u v ++ Lc) L) (hS : ∀ w, Sat R O w → Sat (RF x y z u v) (OF x y z u v) w) : loopQ5 ch Lc RF OF I μ m Q .normal L R O := ⟨(x, y, z, u, v), hI, hm, hL, hS⟩
theorem loopQ5.exit {ch : α → β → γ → δ → ε → Env} {Lc : Env} {RF : α → β → γ → δ → ε → List RO} {OF : α → β → γ → δ → ε → List Own} {I : α → β → γ → δ → ε → Prop} {μ : α → β → γ → δ → ε → Nat} {m id : Nat} (h : Q (.exit id) L R O) : loopQ5 ch Lc RF OF I μ m Q (.exit id) L R O := h
theorem WC.loop5r (m : Nat) (ch : α → β → γ → δ → ε → Env) (RF : α → β → γ → δ → ε → List RO) (OF : α → β → γ → δ → ε → List Own) (I : α → β → γ → δ → ε → Prop) (μ : α → β → γ → δ → ε → Nat) (x0 : α) (y0 : β) (z0 : γ) (u0 : δ) (v0 : ε) {pre Lc : Env} (_hs : Split m L pre Lc) (h0 : I x0 y0 z0 u0 v0) (hL : Sub (ch x0 y0 z0 u0 v0 ++ Lc) L) (hS : ∀ w, Sat R O w → Sat (RF x0 y0 z0 u0 v0) (OF x0 y0 z0 u0 v0) w)
 (round : ∀ x y z u v, I x y z u v → WC P n c (loopQ5 ch Lc RF OF I μ (μ x y z u v) Q) (ch x y z u v ++ Lc) (RF x y z u v) (OF x y z u v)) : WC P n (.loop c) Q L R O :=
 WC.loop (α := α × β × γ × δ × ε) (fun q => ch q.1 q.2.1 q.2.2.1 q.2.2.2.1 q.2.2.2.2 ++ Lc) (fun q => RF q.1 q.2.1 q.2.2.1 q.2.2.2.1 q.2.2.2.2) (fun q => OF q.1 q.2.1 q.2.2.1 q.2.2.2.1 q.2.2.2.2) (fun q => I q.1 q.2.1 q.2.2.1 q.2.2.2.1 q.2.2.2.2) (fun q => μ q.1 q.2.1 q.2.2.1 q.2.2.2.1 q.2.2.2.2) (x0, y0, z0, u0, v0) h0 hL hS (fun q hq => round q.1 q.2.1 q.2.2.1 q.2.2.2.1 q.2.2.2.2 hq)
theorem WC.loop5 (m : Nat) (ch : α → β → γ → δ → ε → Env) (OF : α → β → γ → δ → ε → List Own) (I : α → β → γ → δ → ε → Prop) (μ : α → β → γ → δ → ε → Nat) (x0 : α) (y0 : β) (z0 : γ) (u0 : δ) (v0 : ε) {pre Lc : Env} (hs : Split m L pre Lc) (h0 : I x0 y0 z0 u0 v0) (hL : Sub (ch x0 y0 z0 u0 v0 ++ Lc) L) (hS : ∀ w, Sat R O w → Sat R (OF x0 y0 z0 u0 v0) w)
 (round : ∀ x y z u v, I x y z u v → WC P n c (loopQ5 ch Lc (fun _ _ _ _ _ => R) OF I μ (μ x y z u v) Q) (ch x y z u v ++ Lc) R (OF x y z u v)) : WC P n (.loop c) Q L R O := WC.loop5r m ch (fun _ _ _ _ _ => R) OF I μ x0 y0 z0 u0 v0 hs h0 hL hS round
def loopQ6 (ch : α → β → γ → δ → ε → ζ → Env) (Lc : Env) (RF : α → β → γ → δ → ε → ζ → List RO) (OF : α → β → γ → δ → ε → ζ → List Own) (I : α → β → γ → δ → ε → ζ → Prop) (μ : α → β → γ → δ → ε → ζ → Nat) (m : Nat) (Q : Post) : Post :=
 loopQ (α := α × β × γ × δ × ε × ζ) (fun q => ch q.1 q.2.1 q.2.2.1 q.2.2.2.1 q.2.2.2.2.1 q.2.2.2.2.2 ++ Lc) (fun q => RF q.1 q.2.1 q.2.2.1 q.2.2.2.1 q.2.2.2.2.1 q.2.2.2.2.2) (fun q => OF q.1 q.2.1 q.2.2.1 q.2.2.2.1 q.2.2.2.2.1 q.2.2.2.2.2) (fun q => I q.1 q.2.1 q.2.2.1 q.2.2.2.1 q.2.2.2.2.1 q.2.2.2.2.2) (fun q => μ q.1 q.2.1 q.2.2.1 q.2.2.2.1 q.2.2.2.2.1 q.2.2.2.2.2) m Q
theorem loopQ6.mk {ch : α → β → γ → δ → ε → ζ → Env} {Lc : Env} {RF : α → β → γ → δ → ε → ζ → List RO} {OF : α → β → γ → δ → ε → ζ → List Own} {I : α → β → γ → δ → ε → ζ → Prop} {μ : α → β → γ → δ → ε → ζ → Nat} {m : Nat} (x : α) (y : β) (z : γ) (u : δ) (v : ε) (t : ζ) (hI : I x y z u v t) (hm : μ x y z u v t < m) (hL : Sub (ch x y z u v t ++ Lc) L) (hS : ∀ w, Sat R O w → Sat (RF x y z u v t) (OF x y z u v t) w) : loopQ6 ch Lc RF OF I μ m Q .normal L R O := ⟨(x, y, z, u, v, t), hI, hm, hL, hS⟩
theorem loopQ6.exit {ch : α → β → γ → δ → ε → ζ → Env} {Lc : Env} {RF : α → β → γ → δ → ε → ζ → List RO} {OF : α → β → γ → δ → ε → ζ → List Own} {I : α → β → γ → δ → ε → ζ → Prop} {μ : α → β → γ → δ → ε → ζ → Nat} {m id : Nat} (h : Q (.exit id) L R O) : loopQ6 ch Lc RF OF I μ m Q (.exit id) L R O := h
def loopQ7 (ch : α → β → γ → δ → ε → ζ → η → Env) (Lc : Env) (RF : α → β → γ → δ → ε → ζ → η → List RO) (OF : α → β → γ → δ → ε → ζ → η → List Own) (I : α → β → γ → δ → ε → ζ → η → Prop) (μ : α → β → γ → δ → ε → ζ → η → Nat) (m : Nat) (Q : Post) : Post :=
 loopQ (α := α × β × γ × δ × ε × ζ × η) (fun q => ch q.1 q.2.1 q.2.2.1 q.2.2.2.1 q.2.2.2.2.1 q.2.2.2.2.2.1 q.2.2.2.2.2.2 ++ Lc) (fun q => RF q.1 q.2.1 q.2.2.1 q.2.2.2.1 q.2.2.2.2.1 q.2.2.2.2.2.1 q.2.2.2.2.2.2) (fun q => OF q.1 q.2.1 q.2.2.1 q.2.2.2.1 q.2.2.2.2.1 q.2.2.2.2.2.1 q.2.2.2.2.2.2) (fun q => I q.1 q.2.1 q.2.2.1 q.2.2.2.1 q.2.2.2.2.1 q.2.2.2.2.2.1 q.2.2.2.2.2.2) (fun q => μ q.1 q.2.1 q.2.2.1 q.2.2.2.1 q.2.2.2.2.1 q.2.2.2.2.2.1 q.2.2.2.2.2.2) m Q
theorem loopQ7.mk {ch : α → β → γ → δ → ε → ζ → η → Env} {Lc : Env} {RF : α → β → γ → δ → ε → ζ → η → List RO} {OF : α → β → γ → δ → ε → ζ → η → List Own} {I : α → β → γ → δ → ε → ζ → η → Prop} {μ : α → β → γ → δ → ε → ζ → η → Nat} {m : Nat} (x : α) (y : β) (z : γ) (u : δ) (v : ε) (t : ζ) (s : η) (hI : I x y z u v t s) (hm : μ x y z u v t s < m) (hL : Sub (ch x y z u v t s ++ Lc) L) (hS : ∀ w, Sat R O w → Sat (RF x y z u v t s) (OF x y z u v t s) w) : loopQ7 ch Lc RF OF I μ m Q .normal L R O := ⟨(x, y, z, u, v, t, s), hI, hm, hL, hS⟩
theorem loopQ7.exit {ch : α → β → γ → δ → ε → ζ → η → Env} {Lc : Env} {RF : α → β → γ → δ → ε → ζ → η → List RO} {OF : α → β → γ → δ → ε → ζ → η → List Own} {I : α → β → γ → δ → ε → ζ → η → Prop} {μ : α → β → γ → δ → ε → ζ → η → Nat} {m id : Nat} (h : Q (.exit id) L R O) : loopQ7 ch Lc RF OF I μ m Q (.exit id) L R O := h
theorem WC.loop7r (m : Nat) (ch : α → β → γ → δ → ε → ζ → η → Env) (RF : α → β → γ → δ → ε → ζ → η → List RO) (OF : α → β → γ → δ → ε → ζ → η → List Own) (I : α → β → γ → δ → ε → ζ → η → Prop) (μ : α → β → γ → δ → ε → ζ → η → Nat) (x0 : α) (y0 : β) (z0 : γ) (u0 : δ) (v0 : ε) (t0 : ζ) (s0 : η) {pre Lc : Env} (_hs : Split m L pre Lc) (h0 : I x0 y0 z0 u0 v0 t0 s0) (hL : Sub (ch x0 y0 z0 u0 v0 t0 s0 ++ Lc) L) (hS : ∀ w, Sat R O w → Sat (RF x0 y0 z0 u0 v0 t0 s0) (OF x0 y0 z0 u0 v0 t0 s0) w)
 (round : ∀ x y z u v t s, I x y z u v t s → WC P n c (loopQ7 ch Lc RF OF I μ (μ x y z u v t s) Q) (ch x y z u v t s ++ Lc) (RF x y z u v t s) (OF x y z u v t s)) : WC P n (.loop c) Q L R O :=
 WC.loop (α := α × β × γ × δ × ε × ζ × η) (fun q => ch q.1 q.2.1 q.2.2.1 q.2.2.2.1 q.2.2.2.2.1 q.2.2.2.2.2.1 q.2.2.2.2.2.2 ++ Lc) (fun q => RF q.1 q.2.1 q.2.2.1 q.2.2.2.1 q.2.2.2.2.1 q.2.2.2.2.2.1 q.2.2.2.2.2.2) (fun q => OF q.1 q.2.1 q.2.2.1 q.2.2.2.1 q.2.2.2.2.1 q.2.2.2.2.2.1 q.2.2.2.2.2.2) (fun q => I q.1 q.2.1 q.2.2.1 q.2.2.2.1 q.2.2.2.2.1 q.2.2.2.2.2.1 q.2.2.2.2.2.2) (fun q => μ q.1 q.2.1 q.2.2.1 q.2.2.2.1 q.2.2.2.2.1 q.2.2.2.2.2.1 q.2.2.2.2.2.2) (x0, y0, z0, u0, v0, t0, s0) h0 hL hS (fun q hq => round q.1 q.2.1 q.2.2.1 q.2.2.2.1 q.2.2.2.2.1 q.2.2.2.2.2.1 q.2.2.2.2.2.2 hq)
end loops
end rules
end Go.SL
namespace Go.SL
open Go
section draw
variable {P : Program} {n : Sz} {ops : Array Oper} {Q : Post} {rest : List Oper} {o : Oper} {L : Env} {R : List RO} {O : List Own}
def WS (P : Program) (n : Sz) (ops : Array Oper) (Q : Post) (k : Nat) (rest : List Oper) (L : Env) (R : List RO) (O : List Own) : Prop :=
 ∀ a w, Fr n L a → Sat R O w → wpStill P ops w (fun a' => wpList P ops (lift n Q) (rest.drop k) a' w) (rest.take k) a
theorem WC.tail {id : Nat} {l : List Oper} (k : Nat) (hm : P.follows .mixedOrders = true) (hB : Region.lexTailB .any l.toArray k = true) (h : WS P n l.toArray Q k l L R O) : WC P n (.region id l.toArray true) Q L R O :=
 fun a w hf hs => wp_region_still_tail k hm hB (h a _ hf (hs.drew _))
theorem WS.switch (h : WL P n ops Q rest L R O) : WS P n ops Q 0 rest L R O := fun a w hf hs => h a w hf hs
theorem still_of {a : Act} {w : World} {v : Value} {next : Act → Prop} (hr : (execOp a.eval o).run P w = .ok (.value v) w) (h : next (a.put o.dst v)) : o.still P a w next := by
 unfold Oper.still; rw [hr]; exact ⟨rfl, h⟩
theorem WS.rd {k d : Nat} {v : Value} (hg : o.guard = none) (hd : o.dst = some d) (hn : Nat.blt d n.n = true) (h : Rd P o L R O v) (c : WS P n ops Q k rest ((d, v) :: L) R O) : WS P n ops Q (k + 1) (o :: rest) L R O := by
 intro a w hf hs
 show wpStill P ops w _ (o :: rest.take k) a
 unfold wpStill
 rw [if_pos (by simp [Region.wanted, hg])]
 refine still_of (h a.eval w (fun x u hx => hf.ev hx) (fun p hp => hs.read hp) (fun c hc => hs.see hc)) ?_
 rw [hd]; exact c _ _ (hf.put hn v) hs
theorem WS.case {k : Nat} (t : Nat) {p : Prop} [Decidable p] (ht : Env.find L t = some (.bool (decide p))) (hy : p → WS P n ops Q k rest ((t, .bool true) :: L) R O) (hno : ¬ p → WS P n ops Q k rest ((t, .bool false) :: L) R O) : WS P n ops Q k rest L R O := by
 intro a w hf hs
 by_cases h : p
 · exact hy h a w (hf.known ht (by simp [h])) hs
 · exact hno h a w (hf.known ht (by simp [h])) hs
theorem WS.say {k : Nat} (t : Nat) {v u : Value} (ht : Env.find L t = some v) (e : v = u) (c : WS P n ops Q k rest ((t, u) :: L) R O) : WS P n ops Q k rest L R O :=
 fun a w hf hs => c a w (hf.known ht e) hs
theorem WS.heap {k : Nat} {R' : List RO} {O' : List Own} (hs : ∀ w, Sat R O w → Sat R' O' w) (c : WS P n ops Q k rest L R' O') : WS P n ops Q k rest L R O := fun a w hf h => c a w hf (hs w h)
def WA (P : Program) (n : Sz) (ops : Array Oper) (Q : Post) (rest : List Oper) (L : Env) (R : List RO) (O : List Own) : Prop :=
 ∀ a w, Fr n L a → Sat R O w → wpStill P ops w (fun a' => lift n Q .normal a' w) rest a
theorem WC.still {id : Nat} {l : List Oper} (hm : P.follows .mixedOrders = true) (hB : Region.lexB .any l.toArray = true) (h : WA P n l.toArray Q l L R O) : WC P n (.region id l.toArray true) Q L R O :=
 fun a w hf hs => wp_region_still_lit hm hB (h a _ hf (hs.drew _))
theorem WA.nil (h : Q .normal L R O) : WA P n ops Q [] L R O := fun _ _ hf hs => wpStill_nil (lift_normal h hf hs)
theorem WA.rd {d : Nat} {v : Value} (hg : o.guard = none) (hd : o.dst = some d) (hn : Nat.blt d n.n = true) (h : Rd P o L R O v) (c : WA P n ops Q rest ((d, v) :: L) R O) : WA P n ops Q (o :: rest) L R O := by
 intro a w hf hs
 unfold wpStill
 rw [if_pos (by simp [Region.wanted, hg])]
 refine still_of (h a.eval w (fun x u hx => hf.ev hx) (fun p hp => hs.read hp) (fun c hc => hs.see hc)) ?_
 rw [hd]; exact c _ _ (hf.put hn v) hs
theorem WA.rd_yes {j d e : Nat} {b : Bool} {v : Value} (hg : o.guard = some (j, b)) (hj : (ops[j]?).bind (·.dst) = some e) (hne : Nat.blt e n.n = true) (hb : Env.find L e = some (.bool b))
 (hd : o.dst = some d) (hn : Nat.blt d n.n = true) (h : Rd P o L R O v) (c : WA P n ops Q rest ((d, v) :: L) R O) : WA P n ops Q (o :: rest) L R O := by
 intro a w hf hs
 unfold wpStill
 rw [if_pos (by rw [wanted_of hf hg hj hne hb]; simp)]
 refine still_of (h a.eval w (fun x u hx => hf.ev hx) (fun p hp => hs.read hp) (fun c hc => hs.see hc)) ?_
 rw [hd]; exact c _ _ (hf.put hn v) hs
theorem WA.no {j d e : Nat} {b : Bool} (hg : o.guard = some (j, b)) (hj : (ops[j]?).bind (·.dst) = some e) (hne : Nat.blt e n.n = true) (hb : Env.find L e = some (.bool (!b)))
 (hd : o.dst = some d) (hn : Nat.blt d n.n = true) (c : WA P n ops Q rest ((d, undef) :: L) R O) : WA P n ops Q (o :: rest) L R O := by
 intro a w hf hs
 unfold wpStill
 rw [if_neg (by rw [wanted_of hf hg hj hne hb]; cases b <;> simp), hd]
 exact c _ _ (hf.put hn _) hs
theorem WA.noU {j d e : Nat} {b : Bool} (hg : o.guard = some (j, b)) (hj : (ops[j]?).bind (·.dst) = some e) (hne : Nat.blt e n.n = true) (hb : Env.find L e = some undef)
 (hd : o.dst = some d) (hn : Nat.blt d n.n = true) (c : WA P n ops Q rest ((d, undef) :: L) R O) : WA P n ops Q (o :: rest) L R O := by
 intro a w hf hs
 unfold wpStill
 rw [if_neg (by rw [wantedU hf hg hj hne hb]; simp), hd]
 exact c _ _ (hf.put hn _) hs
theorem WA.case (t : Nat) {p : Prop} [Decidable p] (ht : Env.find L t = some (.bool (decide p))) (hy : p → WA P n ops Q rest ((t, .bool true) :: L) R O) (hno : ¬ p → WA P n ops Q rest ((t, .bool false) :: L) R O) : WA P n ops Q rest L R O := by
 intro a w hf hs
 by_cases h : p
 · exact hy h a w (hf.known ht (by simp [h])) hs
 · exact hno h a w (hf.known ht (by simp [h])) hs
theorem WA.say (t : Nat) {v u : Value} (ht : Env.find L t = some v) (e : v = u) (c : WA P n ops Q rest ((t, u) :: L) R O) : WA P n ops Q rest L R O :=
 fun a w hf hs => c a w (hf.known ht e) hs
theorem WA.heap {R' : List RO} {O' : List Own} (hs : ∀ w, Sat R O w → Sat R' O' w) (c : WA P n ops Q rest L R' O') : WA P n ops Q rest L R O := fun a w hf h => c a w hf (hs w h)
def takeOk (ops : Array Oper) (listed : Array Bool) (i : Nat) : Bool := Region.noSelect ops && Region.free .any ops listed i && (Region.ready .any ops listed).contains i
variable {S : List RO} {T : List Own} {fuel : Nat} {listed : Array Bool}
def Held (S : List RO) (T : List Own) (R : List RO) (O : List Own) : Prop := ∀ w, Sat R O w → (∀ p ∈ S, p w) ∧ ∀ c ∈ T, c.pred w
theorem Held.mk' (hS : SubL S R) (hT : OwnL O T) : Held S T R O := fun _ h => ⟨fun p hp => h.read (hS.mem p hp), fun c hc => h.see (hT.mem.1 c hc)⟩
theorem Z.H {S R : List RO} {T O : List Own} (hS : SubL S R := by repeat (first | exact SubL.refl | refine SubL.cons Z.M ?_ | refine SubL.skip ?_)) (hT : OwnL O T := by repeat (first | exact OwnL.refl | apply OwnL.take (by repeat (first | exact Take.head _ | apply Take.tail)) | apply OwnL.drop)) : Held S T R O := Held.mk' hS hT
theorem Held.all : Held R O R O := fun _ h => ⟨fun _ hp => h.read hp, fun _ hc => h.see hc⟩
theorem Held.see {c d : Own} {O' T' : List Own} (hS : SubL S R) (hT : Take c O O') (hd : ∀ w, c.pred w → d.pred w) (hO : OwnL O' T') : Held S (d :: T') R O := fun w h => by
 have h' := h.perm hT.perm
 refine ⟨fun p hp => h.read (hS.mem p hp), fun x hx => ?_⟩
 rcases List.mem_cons.1 hx with rfl | hx
 · exact hd w (h'.see List.mem_cons_self)
 · exact h'.see (List.mem_cons_of_mem _ (hO.mem.1 x hx))
theorem take_aux {i : Nat} {v : Value} {dst : Option Nat} {L' : Env} (hi : ops[i]? = some o) (hok : takeOk ops listed i = true) (hS : Held S T R O) (hd : o.dst = dst) (hL : ∀ a, Fr n L a → Fr n L' (a.put dst v))
 (hy : ∀ a, Fr n L a → YieldsIf P ops (fun w => (∀ p ∈ S, p w) ∧ ∀ c ∈ T, c.pred w) o v a) (k : WD P n ops Q S T fuel (listed.setIfInBounds i true) L' R O) : WD P n ops Q S T (fuel + 1) listed L R O := by
 intro a w hf hs
 simp only [takeOk, Bool.and_eq_true] at hok
 refine wpAnyH_take hi hok.1.1 hok.1.2 hok.2 (fun c a w h => h) (hy a hf) (hS w hs) ?_
 rw [hd]
 exact k _ _ (hL a hf) hs
theorem WD.take (i : Nat) {d : Nat} {v : Value} (hi : ops[i]? = some o) (hok : takeOk ops listed i = true) (hS : Held S T R O) (hg : o.guard = none) (hd : o.dst = some d) (hn : Nat.blt d n.n = true) (h : Rd P o L S T v)
 (k : WD P n ops Q S T fuel (listed.setIfInBounds i true) ((d, v) :: L) R O) : WD P n ops Q S T (fuel + 1) listed L R O :=
 take_aux hi hok hS hd (fun _ hf => hf.put hn v) (fun a hf => .inl ⟨by simp [Region.wanted, hg], fun w hw => h a.eval w (fun x u hx => hf.ev hx) hw.1 hw.2⟩) k
theorem WD.one (i : Nat) (hi : ops[i]? = some o) (hr : Region.ready .any ops listed = [i]) (hg : o.guard = none)
 (h : OpW P n o L R O (fun L' R' O' => Held S T R' O' ∧ WD P n ops Q S T fuel (listed.setIfInBounds i true) L' R' O')) : WD P n ops Q S T (fuel + 1) listed L R O := by
 intro a w hf hs
 refine wpAnyH_all hr (by simp) fun j hj => ?_
 simp only [List.mem_singleton] at hj
 subst hj
 unfold wpOp
 rw [hi]
 simp only [Region.wanted, hg, if_true]
 exact .inl (Oper.wp_mono (fun a' w' ⟨L', R', O', hk, hf', hs'⟩ => ⟨hk.1 w' hs', hk.2 a' w' hf' hs'⟩) (h a w hf hs _))
theorem WD.two {o2 : Oper} (i j : Nat) (hi : ops[i]? = some o) (hj : ops[j]? = some o2) (hr : Region.ready .any ops listed = [i, j]) (hg : o.guard = none) (hg2 : o2.guard = none)
 (h : OpW P n o L R O (fun L' R' O' => Held S T R' O' ∧ WD P n ops Q S T fuel (listed.setIfInBounds i true) L' R' O'))
 (h2 : OpW P n o2 L R O (fun L' R' O' => Held S T R' O' ∧ WD P n ops Q S T fuel (listed.setIfInBounds j true) L' R' O')) : WD P n ops Q S T (fuel + 1) listed L R O := by
 intro a w hf hs
 refine wpAnyH_all hr (by simp) fun x hx => ?_
 simp only [List.mem_cons, List.not_mem_nil, or_false] at hx
 rcases hx with rfl | rfl
 · unfold wpOp
   rw [hi]
   simp only [Region.wanted, hg, if_true]
   exact .inl (Oper.wp_mono (fun a' w' ⟨L', R', O', hk, hf', hs'⟩ => ⟨hk.1 w' hs', hk.2 a' w' hf' hs'⟩) (h a w hf hs _))
 · unfold wpOp
   rw [hj]
   simp only [Region.wanted, hg2, if_true]
   exact .inl (Oper.wp_mono (fun a' w' ⟨L', R', O', hk, hf', hs'⟩ => ⟨hk.1 w' hs', hk.2 a' w' hf' hs'⟩) (h2 a w hf hs _))
theorem WD.say (t : Nat) {v u : Value} (ht : Env.find L t = some v) (e : v = u) (k : WD P n ops Q S T fuel listed ((t, u) :: L) R O) : WD P n ops Q S T fuel listed L R O :=
 fun a w hf hs => k a w (hf.known ht e) hs
theorem WD.done (hr : (Region.ready .any ops listed).isEmpty = true) (h : Q .normal L R O) : WD P n ops Q S T fuel listed L R O :=
 fun _ _ hf hs => wpAnyH_done (List.isEmpty_iff.1 hr) (lift_normal h hf hs) fuel
theorem WD.case (t : Nat) {p : Prop} [Decidable p] (ht : Env.find L t = some (.bool (decide p))) (hy : p → WD P n ops Q S T fuel listed ((t, .bool true) :: L) R O) (hno : ¬ p → WD P n ops Q S T fuel listed ((t, .bool false) :: L) R O) : WD P n ops Q S T fuel listed L R O := by
 intro a w hf hs
 by_cases h : p
 · exact hy h a w (hf.known ht (by simp [h])) hs
 · exact hno h a w (hf.known ht (by simp [h])) hs
theorem WD.heap {R' : List RO} {O' : List Own} (hs : ∀ w, Sat R O w → Sat R' O' w) (c : WD P n ops Q S T fuel listed L R' O') : WD P n ops Q S T fuel listed L R O := fun a w hf h => c a w hf (hs w h)
theorem WC.drawn {id : Nat} {l : List Oper} (T : List Own) (m : Nat) (hlen : l.length = m) (hm : P.follows .mixedOrders = true) (h : WD P n l.toArray Q R T m (Array.replicate m false) L R O) : WC P n (.region id l.toArray true) Q L R O := by
 subst hlen
 exact WC.draw R T hm (by simpa using h)
theorem WC.drawnA {id : Nat} {l : List Oper} (m : Nat) (hlen : l.length = m) (hm : P.follows .mixedOrders = true) (h : WD P n l.toArray Q R O m (Array.replicate m false) L R O) : WC P n (.region id l.toArray true) Q L R O := WC.drawn O m hlen hm h
end draw
section calls
variable {P : Program} {n : Sz} {o : Oper} {L : Env} {R : List RO} {O : List Own} {K : Env → List RO → List Own → Prop}
def Fun (P : Program) (f : FuncId) (args : Array Value) (R : List RO) (O : List Own) (post : Value → List RO → List Own → Prop) : Prop :=
 ∀ w, Sat R O w → Calls P f args w (fun e w' => ∃ v R' O', e = .returned v ∧ post v R' O' ∧ Sat R' O' w')
theorem vb {p q : Prop} [Decidable p] [Decidable q] (h : p ↔ q) : Value.bool (decide p) = Value.bool (decide q) := by rw [decide_eq_decide.2 h]
theorem vb_t {q : Prop} [Decidable q] (h : q) : Value.bool true = Value.bool (decide q) := by rw [decide_eq_true h]
theorem vb_f {q : Prop} [Decidable q] (h : ¬ q) : Value.bool false = Value.bool (decide q) := by rw [decide_eq_false h]
theorem Fun.mono {f : FuncId} {args : Array Value} {post post' : Value → List RO → List Own → Prop} (h : Fun P f args R O post) (hp : ∀ v R O, post v R O → post' v R O) : Fun P f args R O post' :=
 fun w hs => (h w hs).mono fun e w' ⟨v, R', O', he, hk, hs'⟩ => ⟨v, R', O', he, hp _ _ _ hk, hs'⟩
theorem Fun.heap {f : FuncId} {args : Array Value} {post : Value → List RO → List Own → Prop} {R' : List RO} {O' : List Own} (hs : ∀ w, Sat R O w → Sat R' O' w) (h : Fun P f args R' O' post) : Fun P f args R O post :=
 fun w h0 => h w (hs w h0)
def retQ (P : Program) (fn : Func) (n : Sz) (post : Value → List RO → List Own → Prop) : Post
 | .ret, L, R, O => ∃ v, (∀ a w ds, Fr ⟨n.n, ds⟩ L a → (∃ O1, Sat R (O1 ++ O) w) → (results fn a.tmps).run P w = .ok v w) ∧ post v R O
 | .normal, L, R, O => ∃ v, (∀ a w ds, Fr ⟨n.n, ds⟩ L a → (∃ O1, Sat R (O1 ++ O) w) → (results fn a.tmps).run P w = .ok v w) ∧ post v R O
 | _, _, _, _ => False
def argsEnv : List Value → Nat → Env
 | [], _ => []
 | v :: r, k => (k, v) :: argsEnv r (k + 1)
theorem argsEnv_find {l : List Value} : ∀ {k t : Nat} {v : Value}, Env.find (argsEnv l k) t = some v → k ≤ t ∧ l[t - k]? = some v := by
 induction l with
 | nil => intro k t v h; simp [argsEnv, Env.find] at h
 | cons x r ih =>
   intro k t v h
   simp only [argsEnv, Env.find] at h
   by_cases e : k = t
   · subst e
     simp only [Nat.beq_refl, Option.some.injEq] at h
     simp [h]
   · rw [show Nat.beq k t = false from by rw [← Bool.not_eq_true, Nat.beq_eq]; exact e] at h
     obtain ⟨h1, h2⟩ := ih h
     refine ⟨by omega, ?_⟩
     rw [show t - k = (t - (k + 1)) + 1 from by omega]
     simpa using h2
theorem Fin.leaves {f : FuncId} {fn : Func} {n : Nat} {L : Env} {v : Value} {a : Act} {w : World} {R' : List RO} {O' : List Own} {post : Value → List RO → List Own → Prop} (hr : ∀ a w ds, Fr ⟨n, ds⟩ L a → (∃ O1, Sat R' (O1 ++ O') w) → (results fn a.tmps).run P w = .ok v w) (hp : post v R' O')
 (hf : Fr ⟨n, a.defers⟩ L a) (h : Fin a.defers R' O' w) : LeavesInM Fence.wide 0 P fn a.tmps (fun e w' => ∃ v R' O', e = .returned v ∧ post v R' O' ∧ Sat R' O' w') a.defers .returning w := by
 rcases h with ⟨hd, hs⟩ | ⟨D, hd, hs⟩
 · rw [hd]; exact ⟨v, hr a w _ hf ⟨[], hs⟩, v, R', O', rfl, hp, hs⟩
 · rw [hd]
   have hD : w.heap[D]? = some (.deferred (some [])) := hs.own _ List.mem_cons_self w (Agree.refl _ _)
   have hlt : D < w.heap.size := (Array.getElem?_eq_some_iff.1 hD).1
   have hs2 : Sat R' O' (w.putObj D (.deferred none)) := by
    refine (hs.update (w' := w.putObj D (.deferred none)) ⟨[], fun _ => True⟩ ⟨rfl, rfl, rfl, by simp [World.putObj], fun k _ hn => ?_⟩ (fun k hk => by cases hk) (fun k hk => by cases hk) List.nodup_nil (fun _ _ _ => trivial)).drop
    exact World.putObj_heap_other (fun e => hn (by rw [e]; exact List.mem_singleton.2 rfl))
   exact ⟨by simp, .inl ⟨D, _, rfl, run_takeDeferred hD, v, hr a _ _ hf ⟨[], hs2⟩, v, R', O', rfl, hp, hs2⟩⟩
theorem Fun.enter {f : FuncId} {fn : Func} {n : Nat} {c : Code} {l : List Value} {post : Value → List RO → List Own → Prop} (hf : P.funcs[f]? = some fn) (hb : fn.body = some c) (hn : fn.ntmps = n) (hl : Nat.ble l.length n = true) {L0 : Env} (hL : argsEnv l 0 = L0)
 (h : WC P ⟨n, []⟩ c (retQ P fn ⟨n, []⟩ post) L0 R O) : Fun P f l.toArray R O post := by
 intro w hs
 refine (callsIn_wide (n := 0)).1 (callsIn_of_wp_marks hf hb trivial (wpIn_wide.2 ?_))
 have hl' : l.length ≤ n := Nat.le_of_ble_eq_true hl
 refine wp_mono (h _ w ⟨?_, rfl, ?_⟩ hs) fun e a' w' hq => ?_
 · simp [hn]; omega
 · intro t v ht
   rw [← hL] at ht
   obtain ⟨_, h2⟩ := argsEnv_find ht
   simp only [Nat.sub_zero] at h2
   have hlt : t < l.length := (List.getElem?_eq_some_iff.1 h2).1
   simp only [Array.getD_eq_getD_getElem?]
   rw [Array.getElem?_append_left (by simpa using hlt)]
   simp [h2]
 · cases e with
   | normal => obtain ⟨L', R', O', ⟨v, hr, hp⟩, hf', hs'⟩ := hq; exact Fin.leaves (f := f) hr hp hf'.own (.inl ⟨hf'.defers, hs'⟩)
   | ret => obtain ⟨L', R', O', ⟨v, hr, hp⟩, hf', hs'⟩ := hq; exact Fin.leaves (f := f) hr hp hf' hs'
   | exit id => obtain ⟨L', R', O', hk, _⟩ := hq; exact hk.elim
   | goto l => obtain ⟨L', R', O', hk, _⟩ := hq; exact hk.elim
   | panic c => exact hq.elim
   | outgrown => exact hq.elim
section ret
variable {fn : Func} {post : Value → List RO → List Own → Prop} {v v1 v2 v3 v4 : Value} {t t1 t2 t3 t4 : Nat}
theorem getD_of {a : Act} (hf : Fr n L a) {t : Nat} {v : Value} (h : Env.find L t = some v) : a.tmps.getD t undef = v := hf.get t v h
theorem Ret.zero (hr : fn.results = #[]) (h : post (.tuple #[]) R O) : retQ P fn n post .ret L R O := ⟨_, fun a w _ _ _ => results_none hr a.tmps P w, h⟩
theorem Ret.one (hr : fn.results = #[.tmp t]) (ht : Env.find L t = some v) (h : post v R O) : retQ P fn n post .ret L R O :=
 ⟨_, fun a w _ hf _ => by rw [results_tmp hr, getD_of hf ht], h⟩
theorem Ret.two (hr : fn.results = #[.tmp t1, .tmp t2]) (h1 : Env.find L t1 = some v1) (h2 : Env.find L t2 = some v2) (h : post (.tuple #[v1, v2]) R O) : retQ P fn n post .ret L R O :=
 ⟨_, fun a w _ hf _ => by rw [results_tmp2 hr, getD_of hf h1, getD_of hf h2], h⟩
theorem Ret.three (hr : fn.results = #[.tmp t1, .tmp t2, .tmp t3]) (h1 : Env.find L t1 = some v1) (h2 : Env.find L t2 = some v2) (h3 : Env.find L t3 = some v3) (h : post (.tuple #[v1, v2, v3]) R O) : retQ P fn n post .ret L R O :=
 ⟨_, fun a w _ hf _ => by
   have e1 := getD_of hf h1; have e2 := getD_of hf h2; have e3 := getD_of hf h3
   simp only [Array.getD_eq_getD_getElem?] at e1 e2 e3
   simp [results, hr, e1, e2, e3], h⟩
theorem Ret.normal (h : retQ P fn n post .ret L R O) : retQ P fn n post .normal L R O := h
end ret
inductive Evs (L : Env) : List Operand → List Value → Prop
 | nil : Evs L [] []
 | cons {x : Operand} {v : Value} {xs : List Operand} {vs : List Value} (h : ev L x = some v) (r : Evs L xs vs) : Evs L (x :: xs) (v :: vs)
theorem Evs.eval {xs : List Operand} {vs : List Value} (h : Evs L xs vs) {ρ : Operand → Value} (hρ : ∀ x u, ev L x = some u → ρ x = u) : xs.map ρ = vs := by
 induction h with
 | nil => rfl
 | cons hx _ ih => simp [hρ _ _ hx, ih]
def hasBody (P : Program) (f : FuncId) : Bool := match P.funcs[f]? with
 | some fn => fn.body.isSome && !(fn.name == "runtime.NumGoroutine")
 | none => false
theorem run_callFunc {f : FuncId} (h : hasBody P f = true) (args : Array Value) (w : World) : (callFunc f args).run P w = .ok (.enter f args) w := by
 unfold hasBody at h
 split at h
 · rename_i fn hf
   simp only [Bool.and_eq_true, Bool.not_eq_true'] at h
   have h1 : ¬ fn.body = none := by cases hb : fn.body <;> simp_all
   have h2 : ¬ fn.name = "runtime.NumGoroutine" := by simpa using h.2
   simp [callFunc, hf, h2, h1]
 · cases h
theorem OpW.call {f : FuncId} {first captured : Array Value} {x : Operand} {xs : List Operand} {azs : List Value} {ts : Array TypeId} {args : List Value} {d : Nat} (ho : o.op = .call { callee := .value x, args := xs.toArray, argTypes := ts })
 (hx : ev L x = some (.func (.func f) first captured)) (has : Evs L xs azs) (hb : hasBody P f = true) (hd : o.dst = some d) (hn : Nat.blt d n.n = true) (ha : first.toList ++ azs ++ captured.toList = args)
 (h : Fun P f args.toArray R O (fun v R' O' => K ((d, v) :: L) R' O')) : OpW P n o L R O K := by
 intro a w hf hs Q
 have e1 : a.eval x = _ := hf.ev hx
 have e2 := has.eval (ρ := a.eval) (fun x u hx => hf.ev hx)
 have e3 : first ++ azs.toArray ++ captured = args.toArray := by rw [← ha]; simp
 unfold Oper.wp
 have hr : (execOp a.eval o).run P w = .ok (.enter f args.toArray) w := by
  simp only [execOp, ho, resolve, e1, Deferred.ofValue, List.map_toArray, e2, Sem.run_bind, Sem.run_pure, Result.andThen_ok, invoke, run_callFunc hb, e3]
 rw [hr, Oper.upon_enter]
 exact (h w hs).mono fun e w' ⟨v, R', O', he, hk, hs'⟩ => by
  subst he
  rw [hd]
  exact ⟨_, _, _, hk, hf.put hn v, hs'⟩
end calls
abbrev vs (l : List UInt8) : Value := .string ⟨l.toArray⟩
abbrev vi (x : Int) : Value := .int .i64 x
section rd
variable {P : Program} {o : Oper} {L : Env} {R : List RO} {O : List Own} {x y c : Operand} {v u : Value} {t t' : TypeId}
theorem Rd.move (ho : o.op = .move x) (hx : ev L x = some v) : Rd P o L R O v := fun ρ w hρ _ _ => by simp [execOp, ho, hρ _ _ hx]
theorem Rd.assign (ho : o.op = .assign x) (hx : ev L x = some v) : Rd P o L R O v := fun ρ w hρ _ _ => by simp [execOp, ho, hρ _ _ hx]
theorem Rd.pick_t (ho : o.op = .pick c x y) (hc : ev L c = some (.bool true)) (hx : ev L x = some v) : Rd P o L R O v := fun ρ w hρ _ _ => by simp [execOp, ho, hρ _ _ hx, hρ _ _ hc, asBool]
theorem Rd.pick_f (ho : o.op = .pick c x y) (hc : ev L c = some (.bool false)) (hx : ev L y = some v) : Rd P o L R O v := fun ρ w hρ _ _ => by simp [execOp, ho, hρ _ _ hx, hρ _ _ hc, asBool]
theorem Rd.func {fn : Fn} {fs cs : List Operand} {fv cv : List Value} (ho : o.op = .makeFunc fn fs.toArray cs.toArray) (hf : Evs L fs fv) (hc : Evs L cs cv) (hy : (∃ f, fn = .func f)) : Rd P o L R O (.func fn fv.toArray cv.toArray) := fun ρ w hρ _ _ => by
 obtain ⟨f, rfl⟩ := hy
 simp [execOp, ho, hf.eval hρ, hc.eval hρ, Instr.makeFunc]
theorem wrap_i64 {q : Int} (h : -9223372036854775808 ≤ q ∧ q ≤ 9223372036854775807) : IntKind.i64.wrap q = q := IntWalk.i64_in q ⟨h.1, h.2⟩
section ints
variable {k : IntKind} {p q : Int}
theorem run_bin {op : BinOp} (ho : o.op = .binOp op t x y t') (hx : ev L x = some (.int k p)) (hy : ev L y = some (.int k q)) {r : Value} (h : ∀ w, (binOp op t (.int k p) (.int k q)).run P w = .ok r w) : Rd P o L R O r := fun ρ w hρ _ _ => by
 have e : (eqGuard op t x y (.int k p) (.int k q)).run P w = .ok () w := by
  unfold eqGuard
  split <;> rfl
 simp only [execOp, ho, hρ _ _ hx, hρ _ _ hy, Sem.run_bind, e, Result.andThen_ok, h, Sem.run_pure]
theorem run_bin2 {k2 : IntKind} {op : BinOp} (ho : o.op = .binOp op t x y t') (hx : ev L x = some (.int k p)) (hy : ev L y = some (.int k2 q)) {r : Value} (h : ∀ w, (binOp op t (.int k p) (.int k2 q)).run P w = .ok r w) : Rd P o L R O r := fun ρ w hρ _ _ => by
 have e : (eqGuard op t x y (.int k p) (.int k2 q)).run P w = .ok () w := by
  unfold eqGuard
  split <;> rfl
 simp only [execOp, ho, hρ _ _ hx, hρ _ _ hy, Sem.run_bind, e, Result.andThen_ok, h, Sem.run_pure]
theorem Rd.add (ho : o.op = .binOp .add t x y t') (hx : ev L x = some (.int .i64 p)) (hy : ev L y = some (.int .i64 q)) (h : -9223372036854775808 ≤ p + q ∧ p + q ≤ 9223372036854775807) : Rd P o L R O (.int .i64 (p + q)) :=
 run_bin ho hx hy fun w => by simp [binOp, Op.intArith, wrap_i64 h]
theorem Rd.sub (ho : o.op = .binOp .sub t x y t') (hx : ev L x = some (.int .i64 p)) (hy : ev L y = some (.int .i64 q)) (h : -9223372036854775808 ≤ p - q ∧ p - q ≤ 9223372036854775807) : Rd P o L R O (.int .i64 (p - q)) :=
 run_bin ho hx hy fun w => by simp [binOp, Op.intArith, wrap_i64 h]
theorem Rd.mul (ho : o.op = .binOp .mul t x y t') (hx : ev L x = some (.int .i64 p)) (hy : ev L y = some (.int .i64 q)) (h : -9223372036854775808 ≤ p * q ∧ p * q ≤ 9223372036854775807) : Rd P o L R O (.int .i64 (p * q)) :=
 run_bin ho hx hy fun w => by simp [binOp, Op.intArith, wrap_i64 h]
theorem Rd.addw (ho : o.op = .binOp .add t x y t') (hx : ev L x = some (.int k p)) (hy : ev L y = some (.int k q)) : Rd P o L R O (.int k (k.wrap (p + q))) :=
 run_bin ho hx hy fun w => by simp [binOp, Op.intArith]
theorem Rd.subw (ho : o.op = .binOp .sub t x y t') (hx : ev L x = some (.int k p)) (hy : ev L y = some (.int k q)) : Rd P o L R O (.int k (k.wrap (p - q))) :=
 run_bin ho hx hy fun w => by simp [binOp, Op.intArith]
theorem Rd.mulw (ho : o.op = .binOp .mul t x y t') (hx : ev L x = some (.int k p)) (hy : ev L y = some (.int k q)) : Rd P o L R O (.int k (k.wrap (p * q))) :=
 run_bin ho hx hy fun w => by simp [binOp, Op.intArith]
theorem Rd.addk {r : Int} (ho : o.op = .binOp .add t x y t') (hx : ev L x = some (.int k p)) (hy : ev L y = some (.int k q)) (h : k.wrap (p + q) = r) : Rd P o L R O (.int k r) := h ▸ Rd.addw ho hx hy
theorem Rd.subk {r : Int} (ho : o.op = .binOp .sub t x y t') (hx : ev L x = some (.int k p)) (hy : ev L y = some (.int k q)) (h : k.wrap (p - q) = r) : Rd P o L R O (.int k r) := h ▸ Rd.subw ho hx hy
theorem Rd.and (ho : o.op = .binOp .and t x y t') (hx : ev L x = some (.int k p)) (hy : ev L y = some (.int k q)) : Rd P o L R O (.int k (k.wrap ((BitVec.ofInt k.bits p &&& BitVec.ofInt k.bits q).toNat))) :=
 run_bin ho hx hy fun w => by simp only [binOp, Op.intBits, ne_eq, not_true_eq_false, if_false]; rfl
theorem Rd.or (ho : o.op = .binOp .or t x y t') (hx : ev L x = some (.int k p)) (hy : ev L y = some (.int k q)) : Rd P o L R O (.int k (k.wrap ((BitVec.ofInt k.bits p ||| BitVec.ofInt k.bits q).toNat))) :=
 run_bin ho hx hy fun w => by simp only [binOp, Op.intBits, ne_eq, not_true_eq_false, if_false]; rfl
theorem Rd.xor (ho : o.op = .binOp .xor t x y t') (hx : ev L x = some (.int k p)) (hy : ev L y = some (.int k q)) : Rd P o L R O (.int k (k.wrap ((BitVec.ofInt k.bits p ^^^ BitVec.ofInt k.bits q).toNat))) :=
 run_bin ho hx hy fun w => by simp only [binOp, Op.intBits, ne_eq, not_true_eq_false, if_false]; rfl
theorem Rd.andNot (ho : o.op = .binOp .andNot t x y t') (hx : ev L x = some (.int k p)) (hy : ev L y = some (.int k q)) : Rd P o L R O (.int k (k.wrap ((BitVec.ofInt k.bits p &&& ~~~(BitVec.ofInt k.bits q)).toNat))) :=
 run_bin ho hx hy fun w => by simp only [binOp, Op.intBits, ne_eq, not_true_eq_false, if_false]; rfl
theorem ofInt_toNat {n a : Nat} (h : a < 2 ^ n) : (BitVec.ofInt n (a : Int)).toNat = a := by
 rw [BitVec.ofInt_natCast, BitVec.toNat_ofNat, Nat.mod_eq_of_lt h]
theorem wrap_mod {k : IntKind} {a : Nat} (h : a < 2 ^ k.bits) : (a : Int) % 2 ^ k.bits = a := by
 have h2 : ((2 : Int) ^ k.bits) = ((2 ^ k.bits : Nat) : Int) := by simp
 rw [h2]; exact Int.emod_eq_of_lt Z.W Z.W
theorem wrap_natU {k : IntKind} {a : Nat} (hs : k.signed = false) (h : a < 2 ^ k.bits) : k.wrap (a : Int) = a := by
 simp only [IntKind.wrap, hs, Bool.false_and, Bool.false_eq_true, if_false, wrap_mod h]
theorem wrap_natS {k : IntKind} {a : Nat} (h : a < 2 ^ (k.bits - 1)) : k.wrap (a : Int) = a := by
 have h1 : (2 : Nat) ^ (k.bits - 1) ≤ 2 ^ k.bits := Nat.pow_le_pow_right Z.W Z.W
 have h3 : ((2 : Int) ^ (k.bits - 1)) = ((2 ^ (k.bits - 1) : Nat) : Int) := by simp
 simp only [IntKind.wrap, wrap_mod (Nat.lt_of_lt_of_le h h1)]
 rw [if_neg]
 simp only [Bool.and_eq_true, decide_eq_true_eq, h3, not_and]
 intro _; omega
theorem Rd.andU {a b : Nat} (ho : o.op = .binOp .and t x y t') (hx : ev L x = some (.int k p)) (hy : ev L y = some (.int k q)) (hs : k.signed = false) (hp : p = (a : Int)) (hq : q = (b : Int)) (ha : a < 2 ^ k.bits) (hb : b < 2 ^ k.bits) : Rd P o L R O (.int k ((a &&& b : Nat) : Int)) := by
 have h := Rd.and (R := R) (O := O) (P := P) ho hx hy
 rw [hp, hq, BitVec.toNat_and, ofInt_toNat ha, ofInt_toNat hb, wrap_natU hs (Nat.lt_of_le_of_lt Nat.and_le_left ha)] at h
 exact h
theorem Rd.orU {a b : Nat} (ho : o.op = .binOp .or t x y t') (hx : ev L x = some (.int k p)) (hy : ev L y = some (.int k q)) (hs : k.signed = false) (hp : p = (a : Int)) (hq : q = (b : Int)) (ha : a < 2 ^ k.bits) (hb : b < 2 ^ k.bits) : Rd P o L R O (.int k ((a ||| b : Nat) : Int)) := by
 have h := Rd.or (R := R) (O := O) (P := P) ho hx hy
 rw [hp, hq, BitVec.toNat_or, ofInt_toNat ha, ofInt_toNat hb, wrap_natU hs (Nat.or_lt_two_pow ha hb)] at h
 exact h
theorem Rd.xorU {a b : Nat} (ho : o.op = .binOp .xor t x y t') (hx : ev L x = some (.int k p)) (hy : ev L y = some (.int k q)) (hs : k.signed = false) (hp : p = (a : Int)) (hq : q = (b : Int)) (ha : a < 2 ^ k.bits) (hb : b < 2 ^ k.bits) : Rd P o L R O (.int k ((a ^^^ b : Nat) : Int)) := by
 have h := Rd.xor (R := R) (O := O) (P := P) ho hx hy
 rw [hp, hq, BitVec.toNat_xor, ofInt_toNat ha, ofInt_toNat hb, wrap_natU hs (Nat.xor_lt_two_pow ha hb)] at h
 exact h
theorem Rd.shlw {k' : IntKind} {n : Nat} (ho : o.op = .binOp .shl t x y t') (hx : ev L x = some (.int k p)) (hy : ev L y = some (.int k' q)) (hq : q = (n : Int)) (hn : n ≤ k.bits) : Rd P o L R O (.int k (k.wrap (p * 2 ^ n))) :=
 run_bin2 ho hx hy fun w => by
  subst hq
  have h1 : ¬ ((n : Int) < 0) := by omega
  simp only [binOp, Op.shift, h1, if_false, Int.toNat_natCast, Nat.min_eq_left hn]; rfl
theorem Rd.shrw {k' : IntKind} {n : Nat} (ho : o.op = .binOp .shr t x y t') (hx : ev L x = some (.int k p)) (hy : ev L y = some (.int k' q)) (hq : q = (n : Int)) (hn : n ≤ k.bits) : Rd P o L R O (.int k (p.fdiv (2 ^ n))) :=
 run_bin2 ho hx hy fun w => by
  subst hq
  have h1 : ¬ ((n : Int) < 0) := by omega
  simp only [binOp, Op.shift, h1, if_false, Int.toNat_natCast, Nat.min_eq_left hn]; rfl
theorem Rd.shrN {k' : IntKind} {a n : Nat} (ho : o.op = .binOp .shr t x y t') (hx : ev L x = some (.int k p)) (hy : ev L y = some (.int k' q)) (hp : p = (a : Int)) (hq : q = (n : Int)) (hn : n ≤ k.bits) : Rd P o L R O (.int k ((a / 2 ^ n : Nat) : Int)) := by
 have h := Rd.shrw (R := R) (O := O) (P := P) ho hx hy hq hn
 have e : p.fdiv (2 ^ n) = ((a / 2 ^ n : Nat) : Int) := by
  rw [hp, Int.fdiv_eq_ediv_of_nonneg _ (Int.pow_nonneg Z.W)]; simp
 rw [e] at h; exact h
theorem Rd.shlN {k' : IntKind} {a n : Nat} (ho : o.op = .binOp .shl t x y t') (hx : ev L x = some (.int k p)) (hy : ev L y = some (.int k' q)) (hp : p = (a : Int)) (hq : q = (n : Int)) (hn : n ≤ k.bits) (hs : k.signed = false) : Rd P o L R O (.int k ((a * 2 ^ n % 2 ^ k.bits : Nat) : Int)) := by
 have h := Rd.shlw (R := R) (O := O) (P := P) ho hx hy hq hn
 have e : k.wrap (p * 2 ^ n) = ((a * 2 ^ n % 2 ^ k.bits : Nat) : Int) := by
  rw [hp]; simp only [IntKind.wrap, hs, Bool.false_and, Bool.false_eq_true, if_false]; simp
 rw [e] at h; exact h
theorem Rd.shlS {k' : IntKind} {a n : Nat} (ho : o.op = .binOp .shl t x y t') (hx : ev L x = some (.int .i64 p)) (hy : ev L y = some (.int k' q)) (hp : p = (a : Int)) (hq : q = (n : Int)) (hn : n ≤ 64) (ha : a * 2 ^ n ≤ 9223372036854775807) : Rd P o L R O (.int .i64 ((a * 2 ^ n : Nat) : Int)) := by
 have h := Rd.shlw (R := R) (O := O) (P := P) ho hx hy hq hn
 have e : p * 2 ^ n = ((a * 2 ^ n : Nat) : Int) := by rw [hp]; simp
 rw [e, wrap_i64 Z.W] at h; exact h
theorem Rd.quoN {a b : Nat} (ho : o.op = .binOp .quo t x y t') (hx : ev L x = some (.int k p)) (hy : ev L y = some (.int k q)) (hp : p = (a : Int)) (hq : q = (b : Int)) (hb : 0 < b) (ha : k.wrap (a / b : Nat) = ((a / b : Nat) : Int)) : Rd P o L R O (.int k ((a / b : Nat) : Int)) :=
 run_bin ho hx hy fun w => by
  subst hp; subst hq
  have h1 : ¬ ((b : Int) = 0) := by omega
  simp only [binOp, Op.intDiv, ne_eq, not_true_eq_false, if_false, h1]
  rw [show (a : Int).tdiv b = ((a / b : Nat) : Int) from rfl, ha]; rfl
theorem Rd.quoI {a b : Nat} (ho : o.op = .binOp .quo t x y t') (hx : ev L x = some (.int .i64 p)) (hy : ev L y = some (.int .i64 q)) (hp : p = (a : Int)) (hq : q = (b : Int)) (hb : 0 < b) (ha : a ≤ 9223372036854775807) : Rd P o L R O (.int .i64 ((a / b : Nat) : Int)) :=
 Rd.quoN ho hx hy hp hq hb (wrap_i64 (by have h1 := Nat.div_le_self a b; generalize a / b = c at h1; omega))
theorem Rd.remN {a b : Nat} (ho : o.op = .binOp .rem t x y t') (hx : ev L x = some (.int k p)) (hy : ev L y = some (.int k q)) (hp : p = (a : Int)) (hq : q = (b : Int)) (hb : 0 < b) : Rd P o L R O (.int k ((a % b : Nat) : Int)) :=
 run_bin ho hx hy fun w => by
  subst hp; subst hq
  have h1 : ¬ ((b : Int) = 0) := by omega
  simp only [binOp, Op.intDiv, ne_eq, not_true_eq_false, if_false, h1]; rfl
theorem Rd.remI {b : Nat} (ho : o.op = .binOp .rem t x y t') (hx : ev L x = some (.int k p)) (hy : ev L y = some (.int k q)) (hq : q = (b : Int)) (hb : 0 < b) : Rd P o L R O (.int k (p.tmod b)) :=
 run_bin ho hx hy fun w => by
  subst hq
  have h1 : ¬ ((b : Int) = 0) := by omega
  simp only [binOp, Op.intDiv, ne_eq, not_true_eq_false, if_false, h1]; rfl
theorem wrap_u8 {r : Int} (h : 0 ≤ r ∧ r ≤ 255) : IntKind.u8.wrap r = r := by simp only [IntKind.wrap, IntKind.signed, IntKind.bits, Bool.false_and, Bool.false_eq_true, if_false]; omega
theorem wrap_u16 {r : Int} (h : 0 ≤ r ∧ r ≤ 65535) : IntKind.u16.wrap r = r := by simp only [IntKind.wrap, IntKind.signed, IntKind.bits, Bool.false_and, Bool.false_eq_true, if_false]; omega
theorem wrap_u64 {r : Int} (h : 0 ≤ r ∧ r ≤ 18446744073709551615) : IntKind.u64.wrap r = r := by simp only [IntKind.wrap, IntKind.signed, IntKind.bits, Bool.false_and, Bool.false_eq_true, if_false]; omega
theorem Rd.lss (ho : o.op = .binOp .lss t x y t') (hx : ev L x = some (.int k p)) (hy : ev L y = some (.int k q)) : Rd P o L R O (.bool (decide (p < q))) :=
 run_bin ho hx hy fun w => by simp [binOp, Op.intCmp]
theorem Rd.leq (ho : o.op = .binOp .leq t x y t') (hx : ev L x = some (.int k p)) (hy : ev L y = some (.int k q)) : Rd P o L R O (.bool (decide (p ≤ q))) :=
 run_bin ho hx hy fun w => by simp [binOp, Op.intCmp]
theorem Rd.gtr (ho : o.op = .binOp .gtr t x y t') (hx : ev L x = some (.int k p)) (hy : ev L y = some (.int k q)) : Rd P o L R O (.bool (decide (q < p))) :=
 run_bin ho hx hy fun w => by simp [binOp, Op.intCmp]
theorem Rd.geq (ho : o.op = .binOp .geq t x y t') (hx : ev L x = some (.int k p)) (hy : ev L y = some (.int k q)) : Rd P o L R O (.bool (decide (q ≤ p))) :=
 run_bin ho hx hy fun w => by simp [binOp, Op.intCmp]
theorem Rd.eql (ho : o.op = .binOp .eql t x y t') (hx : ev L x = some (.int k p)) (hy : ev L y = some (.int k q)) : Rd P o L R O (.bool (decide (p = q))) :=
 run_bin ho hx hy fun w => by simp [binOp, Op.intCmp]; rfl
theorem Rd.neq (ho : o.op = .binOp .neq t x y t') (hx : ev L x = some (.int k p)) (hy : ev L y = some (.int k q)) : Rd P o L R O (.bool (decide (p ≠ q))) :=
 run_bin ho hx hy fun w => by simp [binOp, Op.intCmp, bne]; rfl
end ints
section strings
variable {s r : List UInt8} {p q : Int}
theorem size_mk (l : List UInt8) : (ByteArray.mk l.toArray).size = l.length := by simp [ByteArray.size]
theorem run_sbin {op : BinOp} (ho : o.op = .binOp op t x y t') (hx : ev L x = some (vs s)) (hy : ev L y = some (vs r)) {r' : Value} (h : ∀ w, (binOp op t (vs s) (vs r)).run P w = .ok r' w) : Rd P o L R O r' := fun ρ w hρ _ _ => by
 have e : (eqGuard op t x y (vs s) (vs r)).run P w = .ok () w := by
  unfold eqGuard
  split <;> rfl
 simp only [execOp, ho, hρ _ _ hx, hρ _ _ hy, Sem.run_bind, e, Result.andThen_ok, h, Sem.run_pure]
theorem Rd.seql (ho : o.op = .binOp .eql t x y t') (hx : ev L x = some (vs s)) (hy : ev L y = some (vs r)) : Rd P o L R O (.bool (decide (s = r))) :=
 run_sbin ho hx hy fun w => by simp [binOp, Op.stringOp]; rw [Bool.eq_iff_iff]; simp
theorem Rd.sneq (ho : o.op = .binOp .neq t x y t') (hx : ev L x = some (vs s)) (hy : ev L y = some (vs r)) : Rd P o L R O (.bool (decide (s ≠ r))) :=
 run_sbin ho hx hy fun w => by simp [binOp, Op.stringOp]; rw [Bool.eq_iff_iff]; simp
theorem Rd.slss (ho : o.op = .binOp .lss t x y t') (hx : ev L x = some (vs s)) (hy : ev L y = some (vs r)) : Rd P o L R O (.bool (Op.bytesLess s r)) :=
 run_sbin ho hx hy fun w => by simp [binOp, Op.stringOp]
theorem Rd.sleq (ho : o.op = .binOp .leq t x y t') (hx : ev L x = some (vs s)) (hy : ev L y = some (vs r)) : Rd P o L R O (.bool (Op.bytesLess s r || s == r)) :=
 run_sbin ho hx hy fun w => by simp [binOp, Op.stringOp]
theorem Rd.scat (ho : o.op = .binOp .add t x y t') (hx : ev L x = some (vs s)) (hy : ev L y = some (vs r)) (h : s.length + r.length ≤ 9223372036854775807) : Rd P o L R O (vs (s ++ r)) :=
 run_sbin ho hx hy fun w => by
  have h1 : ¬ (((ByteArray.mk s.toArray).size + (ByteArray.mk r.toArray).size : Nat) : Int) > IntKind.i64.max := by
   rw [size_mk, size_mk, show IntKind.i64.max = 9223372036854775807 from rfl]; omega
  have h2 : ByteArray.mk s.toArray ++ ByteArray.mk r.toArray = ByteArray.mk (s ++ r).toArray := by
   apply ByteArray.ext; simp
  simp only [binOp, Op.stringOp, if_neg h1, h2, Sem.run_pure]
theorem Rd.slen {ty : TypeId} {ts : Array TypeId} (ho : o.op = .call { callee := .builtin .len, args := #[x], argTypes := #[t] }) (hx : ev L x = some (vs s)) (hT : P.underlying t = some .string) : Rd P o L R O (.int .i64 s.length) := fun ρ w hρ _ _ => by
 simp [execOp, ho, resolve, invoke, builtin, hρ _ _ hx, Builtin.len_, run_underlying hT, goInt, size_mk]
theorem Rd.len {ad : Option Addr} {m cp : Nat} {e : TypeId} (ho : o.op = .call { callee := .builtin .len, args := #[x], argTypes := #[t] }) (hx : ev L x = some (.slice ad m cp)) (hT : P.underlying t = some (.slice e)) : Rd P o L R O (.int .i64 m) := fun ρ w hρ _ _ => by
 simp [execOp, ho, resolve, invoke, builtin, hρ _ _ hx, Builtin.len_, run_underlying hT, goInt]
end strings
section more
variable {s : List UInt8} {kd kd' : IntKind} {p q : Int}
theorem Rd.min2 (ho : o.op = .call { callee := .builtin .min, args := #[x, y], argTypes := #[t, t'] }) (hx : ev L x = some (.int kd p)) (hy : ev L y = some (.int kd' q)) : Rd P o L R O (.int kd (if q < p then q else p)) := fun ρ w hρ _ _ => by
 simp [execOp, ho, resolve, invoke, builtin, hρ _ _ hx, hρ _ _ hy, run_min_int2]
theorem Rd.max2 (ho : o.op = .call { callee := .builtin .max, args := #[x, y], argTypes := #[t, t'] }) (hx : ev L x = some (.int kd p)) (hy : ev L y = some (.int kd' q)) : Rd P o L R O (.int kd (if q > p then q else p)) := fun ρ w hρ _ _ => by
 simp [execOp, ho, resolve, invoke, builtin, hρ _ _ hx, hρ _ _ hy, run_max_int2]
theorem Rd.not {b : Bool} (ho : o.op = .unOp .not t x) (hx : ev L x = some (.bool b)) : Rd P o L R O (.bool (!b)) := fun ρ w hρ _ _ => by simp [execOp, ho, hρ _ _ hx, Op.unary]
theorem Rd.notd {p : Prop} [Decidable p] (ho : o.op = .unOp .not t x) (hx : ev L x = some (.bool (decide p))) : Rd P o L R O (.bool (decide (¬ p))) := fun ρ w hρ _ _ => by simp [execOp, ho, hρ _ _ hx, Op.unary]
theorem Rd.neg (ho : o.op = .unOp .neg t x) (hx : ev L x = some (.int .i64 p)) (h : -9223372036854775808 ≤ -p ∧ -p ≤ 9223372036854775807) : Rd P o L R O (.int .i64 (-p)) := fun ρ w hρ _ _ => by
 have h' : IntKind.i64.wrap (-p) = -p := wrap_i64 h
 simp [execOp, ho, hρ _ _ hx, Op.unary, Op.intArith, h']
theorem run_bbin {op : BinOp} {b c' : Bool} (ho : o.op = .binOp op t x y t') (hx : ev L x = some (.bool b)) (hy : ev L y = some (.bool c')) {r' : Value} (h : ∀ w, (binOp op t (.bool b) (.bool c')).run P w = .ok r' w) : Rd P o L R O r' := fun ρ w hρ _ _ => by
 have e : (eqGuard op t x y (.bool b) (.bool c')).run P w = .ok () w := by
  unfold eqGuard
  split <;> rfl
 simp only [execOp, ho, hρ _ _ hx, hρ _ _ hy, Sem.run_bind, e, Result.andThen_ok, h, Sem.run_pure]
theorem Rd.beql {b c' : Bool} (ho : o.op = .binOp .eql t x y t') (hx : ev L x = some (.bool b)) (hy : ev L y = some (.bool c')) (hT : P.underlying t = some .bool) : Rd P o L R O (.bool (b == c')) := run_bbin ho hx hy fun w => run_eql_bool w t b c' hT
theorem Rd.bneq {b c' : Bool} (ho : o.op = .binOp .neq t x y t') (hx : ev L x = some (.bool b)) (hy : ev L y = some (.bool c')) (hT : P.underlying t = some .bool) : Rd P o L R O (.bool (!(b == c'))) := run_bbin ho hx hy fun w => run_neq_bool w t b c' hT
theorem Rd.sidx {k : Nat} {b : UInt8} (ho : o.op = .index t x y) (hT : P.underlying t = some .string) (hx : ev L x = some (vs s)) (hy : ev L y = some (.int kd p)) (hp : p = (k : Int)) (hk : s[k]? = some b) : Rd P o L R O (.int .u8 b.toNat) := fun ρ w hρ _ _ => by
 subst hp
 have hlt := (List.getElem?_eq_some_iff.1 hk).1
 have h2 : (ByteArray.mk s.toArray)[k]? = some b := by
  rw [ByteArray.getElem?_lt' _ _ (by simpa [ByteArray.size] using hlt)]
  have := (List.getElem?_eq_some_iff.1 hk).2
  simp only [Option.some.injEq]
  rw [← this]
  rfl
 have h3 : (0 : Int) ≤ (k : Int) := by omega
 simp [execOp, ho, hρ _ _ hx, hρ _ _ hy, Instr.index, asIntOf, run_underlying hT, h3, h2]
theorem cut_str (s : List UInt8) (lo hi : Nat) : (ByteArray.mk s.toArray).extract lo hi = ByteArray.mk ((s.take hi).drop lo).toArray := by
 apply ByteArray.ext
 rw [ByteArray.data_extract]
 apply Array.ext'
 simp [List.extract_eq_take_drop]
 rw [List.drop_take]
variable {lo hi : Nat} {kl kh : IntKind} {a b : Operand}
theorem sbound_ok {k : IntKind} {x : Int} {y r : Nat} {code : BoundsCode} (hx : x = (r : Int)) (hr : r ≤ y) (w : World) : (Instr.sliceBound (.int k x) y code).run P w = .ok r w := by
 subst hx
 have : (0 : Int) ≤ (r : Int) ∧ (r : Int) ≤ (y : Int) := ⟨by omega, by omega⟩
 simp [Instr.sliceBound, asIntOf, this, hr]
theorem Rd.scut_l (ho : o.op = .slice t x (some a) none none) (hT : P.underlying t = some .string) (hx : ev L x = some (vs s)) (ha : ev L a = some (.int kl p)) (hp : p = (lo : Int)) (h1 : lo ≤ s.length) : Rd P o L R O (vs (s.drop lo)) := fun ρ w hρ _ _ => by
 have e2 := fun c w => sbound_ok (P := P) (k := kl) (code := c) hp h1 w
 have e3 := cut_str s lo s.length
 rw [List.take_length] at e3
 simp [execOp, ho, hρ _ _ hx, hρ _ _ ha, Instr.sliceAt, run_underlying hT, Instr.slice, Instr.sliceBounds, size_mk, e2, e3]
theorem Rd.scut_h (ho : o.op = .slice t x none (some b) none) (hT : P.underlying t = some .string) (hx : ev L x = some (vs s)) (hb : ev L b = some (.int kh q)) (hq : q = (hi : Int)) (h2 : hi ≤ s.length) : Rd P o L R O (vs (s.take hi)) := fun ρ w hρ _ _ => by
 have e1 := fun c w => sbound_ok (P := P) (k := kh) (code := c) hq h2 w
 have e3 := cut_str s 0 hi
 rw [List.drop_zero] at e3
 simp [execOp, ho, hρ _ _ hx, hρ _ _ hb, Instr.sliceAt, run_underlying hT, Instr.slice, Instr.sliceBounds, size_mk, e1, e3]
theorem Rd.convw {sT dT : TypeId} (ho : o.op = .convert sT dT x) (hx : ev L x = some (.int kd p)) (hT : P.underlying dT = some (.int kd')) {sd : TypeDesc} (hS : P.underlying sT = some sd := by rfl) : Rd P o L R O (.int kd' (kd'.wrap p)) := fun ρ w hρ _ _ => by
 cases sd <;> simp [execOp, ho, hρ _ _ hx, convert, run_underlying hT, run_underlying hS, Conv.intToInt]
theorem Rd.conv {sT dT : TypeId} (ho : o.op = .convert sT dT x) (hx : ev L x = some (.int kd p)) (hT : P.underlying dT = some (.int kd')) (hw : kd'.wrap p = p) {sd : TypeDesc} (hS : P.underlying sT = some sd := by rfl) : Rd P o L R O (.int kd' p) := by
 have h := Rd.convw (O := O) (R := R) ho hx hT hS
 rwa [hw] at h
theorem Rd.convs {sT dT : TypeId} (ho : o.op = .convert sT dT x) (hx : ev L x = some (vs s)) (hS : P.underlying sT = some .string) (hT : P.underlying dT = some .string) : Rd P o L R O (vs s) := fun ρ w hρ _ _ => by
 simp [execOp, ho, hρ _ _ hx, convert, run_underlying hT, run_underlying hS]
theorem Rd.extract {vals : Array Value} {i : Nat} (ho : o.op = .extract x i) (hx : ev L x = some (.tuple vals)) (hi : vals[i]? = some v) : Rd P o L R O v := fun ρ w hρ _ _ => by
 simp [execOp, ho, hρ _ _ hx, Instr.extract, hi]
def EqS (P : Program) (t : TypeId) (xs ys : Array Value) (p : Prop) [Decidable p] : Prop := (∀ w, (Op.equalIn 10000 t (.agg xs) (.agg ys)).run P w = .ok (decide p) w) ∧ P.eqGuardType P.depth t = false
theorem Rd.aeql {xs ys : Array Value} {p : Prop} [Decidable p] (ho : o.op = .binOp .eql t x y t') (hx : ev L x = some (.agg xs)) (hy : ev L y = some (.agg ys)) (h : EqS P t xs ys p) : Rd P o L R O (.bool (decide p)) := fun ρ w hρ _ _ => by
 simp only [execOp, ho, hρ _ _ hx, hρ _ _ hy, Sem.run_bind, run_eqGuard_agg _ _ _ _ _ _ _ h.2, Result.andThen_ok, run_eql_struct, h.1, Sem.run_pure]
theorem Rd.aneq {xs ys : Array Value} {p : Prop} [Decidable p] (ho : o.op = .binOp .neq t x y t') (hx : ev L x = some (.agg xs)) (hy : ev L y = some (.agg ys)) (h : EqS P t xs ys p) : Rd P o L R O (.bool (decide (¬ p))) := fun ρ w hρ _ _ => by
 simp only [execOp, ho, hρ _ _ hx, hρ _ _ hy, Sem.run_bind, run_eqGuard_agg _ _ _ _ _ _ _ h.2, Result.andThen_ok, run_neq_struct, h.1, Sem.run_pure, decide_not]
end more
end rd
end Go.SL
namespace Go.SL
open Go
section
variable {P : Program} {n : Sz} {o : Oper} {ops : Array Oper} {Q : Post} {rest : List Oper} {L : Env} {R : List RO} {O : List Own} {x : Operand} {d j g i id : Nat} {u v : Value} {b : Bool} {l : List Oper} {y : Code} {q : Array Value} {m : Nat}
theorem Z.r1 (e : (o.guard, o.dst, Nat.blt d n.n) = (none, some d, true)) (h : Rd P o L R O v) (k : WL P n ops Q rest ((d, v) :: L) R O) : WL P n ops Q (o :: rest) L R O := by
 simp only [Prod.mk.injEq] at e
 exact WL.rd e.1 e.2.1 e.2.2 h k
theorem Z.m1 (e : (o.op, o.guard, o.dst, Nat.blt d n.n, ev L x) = (.move x, none, some d, true, some v)) (k : WL P n ops Q rest ((d, v) :: L) R O) : WL P n ops Q (o :: rest) L R O := by
 simp only [Prod.mk.injEq] at e
 exact WL.rd e.2.1 e.2.2.1 e.2.2.2.1 (Rd.move e.1 e.2.2.2.2) k
theorem Z.a1 (e : (o.op, o.guard, o.dst, Nat.blt d n.n, ev L x) = (.assign x, none, some d, true, some v)) (k : WL P n ops Q rest ((d, v) :: L) R O) : WL P n ops Q (o :: rest) L R O := by
 simp only [Prod.mk.injEq] at e
 exact WL.rd e.2.1 e.2.2.1 e.2.2.2.1 (Rd.assign e.1 e.2.2.2.2) k
theorem Z.x1 (e : (o.op, o.guard, o.dst, Nat.blt d n.n, ev L x, q[i]?) = (.extract x i, none, some d, true, some (.tuple q), some v)) (k : WL P n ops Q rest ((d, v) :: L) R O) : WL P n ops Q (o :: rest) L R O := by
 simp only [Prod.mk.injEq] at e
 exact WL.rd e.2.1 e.2.2.1 e.2.2.2.1 (Rd.extract e.1 e.2.2.2.2.1 e.2.2.2.2.2) k
theorem Z.y1 (e : (o.guard, (ops[j]?).bind (·.dst), Nat.blt g n.n, Env.find L g, o.dst, Nat.blt d n.n) = (some (j, b), some g, true, some (.bool b), some d, true)) (h : Rd P o L R O v) (k : WL P n ops Q rest ((d, v) :: L) R O) : WL P n ops Q (o :: rest) L R O := by
 simp only [Prod.mk.injEq] at e
 exact WL.rd_yes e.1 e.2.1 e.2.2.1 e.2.2.2.1 e.2.2.2.2.1 e.2.2.2.2.2 h k
theorem Z.o1 (e : (o.guard, (ops[j]?).bind (·.dst), Nat.blt g n.n, Env.find L g, o.dst, Nat.blt d n.n) = (some (j, b), some g, true, some (.bool (!b)), some d, true)) (k : WL P n ops Q rest ((d, undef) :: L) R O) : WL P n ops Q (o :: rest) L R O := by
 simp only [Prod.mk.injEq] at e
 exact WL.no e.1 e.2.1 e.2.2.1 e.2.2.2.1 e.2.2.2.2.1 e.2.2.2.2.2 k
theorem Z.b1 (e : (o.guard, o.dst, Nat.blt d n.n) = (none, some d, true)) (h : Rd P o L R O v) (k : WA P n ops Q rest ((d, v) :: L) R O) : WA P n ops Q (o :: rest) L R O := by
 simp only [Prod.mk.injEq] at e
 exact WA.rd e.1 e.2.1 e.2.2 h k
theorem Z.c1 (e : (o.guard, (ops[j]?).bind (·.dst), Nat.blt g n.n, Env.find L g, o.dst, Nat.blt d n.n) = (some (j, b), some g, true, some (.bool b), some d, true)) (h : Rd P o L R O v) (k : WA P n ops Q rest ((d, v) :: L) R O) : WA P n ops Q (o :: rest) L R O := by
 simp only [Prod.mk.injEq] at e
 exact WA.rd_yes e.1 e.2.1 e.2.2.1 e.2.2.2.1 e.2.2.2.2.1 e.2.2.2.2.2 h k
theorem Z.p1 (e : (o.guard, (ops[j]?).bind (·.dst), Nat.blt g n.n, Env.find L g, o.dst, Nat.blt d n.n) = (some (j, b), some g, true, some (.bool (!b)), some d, true)) (k : WA P n ops Q rest ((d, undef) :: L) R O) : WA P n ops Q (o :: rest) L R O := by
 simp only [Prod.mk.injEq] at e
 exact WA.no e.1 e.2.1 e.2.2.1 e.2.2.2.1 e.2.2.2.2.1 e.2.2.2.2.2 k
theorem Z.d1 (e : (o.guard, o.dst, Nat.blt d n.n) = (none, some d, true)) (h : Rd P o L R O v) (k : WS P n ops Q m rest ((d, v) :: L) R O) : WS P n ops Q (m + 1) (o :: rest) L R O := by
 simp only [Prod.mk.injEq] at e
 exact WS.rd e.1 e.2.1 e.2.2 h k
theorem Z.n1 (h : WC P n y Q L R O) : WL P n ops (thenQ P n y Q) [] L R O := WL.nil (thenQ.normal h)
theorem Z.q1 (h : WL P n l.toArray (thenQ P n y Q) l L R O) : WL P n ops (thenQ P n (.seq (.region id l.toArray false) y) Q) [] L R O := WL.nil (thenQ.normal (WC.seq (WC.region h)))
theorem Z.g1 (h : WL P n l.toArray Q l L R O) : WL P n ops (thenQ P n (.region id l.toArray false) Q) [] L R O := WL.nil (thenQ.normal (WC.region h))
theorem Z.s1 (h : WL P n l.toArray (thenQ P n y Q) l L R O) : WC P n (.seq (.region id l.toArray false) y) Q L R O := WC.seq (WC.region h)
theorem Z.s2 {z : Code} (h : WL P n l.toArray (thenQ P n z (thenQ P n y Q)) l L R O) : WC P n (.seq (.seq (.region id l.toArray false) z) y) Q L R O := WC.seq (WC.seq (WC.region h))
end
end Go.SL
namespace Go.SL
open Go
def Cell1 (P : Program) (t : TypeId) : Prop := ∀ w, (isAgg t).run P w = .ok false w
def Agg (P : Program) (t : TypeId) (size : Nat) : Prop := (∀ w, (isAgg t).run P w = .ok true w) ∧ ∀ w, (sizeOf t).run P w = .ok size w
structure SlT (P : Program) (t e : TypeId) (size bytes : Nat) (z : Value) : Prop where
 under : P.underlying t = some (.slice e)
 info : ∃ i, P.info? e = some i ∧ i.zero = some z ∧ i.size = size ∧ i.bytes = bytes
 zsize : z.cells.size = size
 pos : 0 < size
theorem SlT.sizeOf {P : Program} {t e : TypeId} {size bytes : Nat} {z : Value} (h : SlT P t e size bytes z) (w : World) : (Go.sizeOf e).run P w = .ok size w := by
 obtain ⟨i, hi, _, hs, _⟩ := h.info
 simp [Go.sizeOf, typeInfo, hi, hs]
theorem SlT.zero {P : Program} {t e : TypeId} {size bytes : Nat} {z : Value} (h : SlT P t e size bytes z) (w : World) : (zeroValue e).run P w = .ok z w := by
 obtain ⟨i, hi, hz, _, _⟩ := h.info
 simp [zeroValue, typeInfo, hi, hz]
inductive NF {α : Type} : List α → List α → Prop
 | nil : NF [] []
 | cons {a : α} {r r' : List α} (h : NF r r') : NF (a :: r) (a :: r')
theorem NF.eq {α : Type} {l l' : List α} (h : NF l l') : l = l' := by
 induction h with
 | nil => rfl
 | cons _ ih => rw [ih]
structure OneV (v : Value) : Prop where
 cells : v.cells = #[v]
 one : v.oneCell' = true
theorem OneV.sl {o : Option Addr} {n c : Nat} : OneV (.slice o n c) := ⟨rfl, rfl⟩
section sle
variable {α : Type}
def SlE (enc : α → List Value) (v : Value) (xs : List α) : RO := fun w =>
 ∃ o c, v = .slice o xs.length c ∧ xs.length ≤ c ∧ c ≤ maxLen ∧ (o = none → xs.length = 0) ∧ ∀ a, o = some a → (0 < xs.length → a.spot = none) ∧ ∀ j u, (xs.flatMap enc)[j]? = some u → w.cell? ⟨a.block, a.off + j, none⟩ = some u
def elemAddr (v : Value) (j : Nat) : Addr := match v with
 | .slice (some a) _ _ => ⟨a.block, a.off + j, none⟩
 | _ => ⟨0, 0, none⟩
def one (g : α → Value) : α → List Value := fun x => [g x]
theorem flat_one (g : α → Value) (xs : List α) : xs.flatMap (one g) = xs.map g := by
 induction xs with
 | nil => rfl
 | cons x r ih => simp [one] at ih ⊢; simp [ih]
theorem flat_get {enc : α → List Value} {size : Nat} (hs : ∀ x, (enc x).length = size) : ∀ (xs : List α) (k f : Nat) (x : α) (u : Value), xs[k]? = some x → (enc x)[f]? = some u → (xs.flatMap enc)[k * size + f]? = some u := by
 intro xs
 induction xs with
 | nil => intro k f x u h; simp at h
 | cons y r ih =>
   intro k f x u h hu
   cases k with
   | zero =>
     simp at h; subst h
     have hf : f < (enc y).length := (List.getElem?_eq_some_iff.1 hu).1
     simp only [List.flatMap_cons, Nat.zero_mul, Nat.zero_add]
     rw [List.getElem?_append_left hf]; exact hu
   | succ k =>
     simp only [List.flatMap_cons]
     rw [List.getElem?_append_right (by rw [hs]; rw [Nat.add_mul, Nat.one_mul]; omega), hs, show (k + 1) * size + f - size = k * size + f from by rw [Nat.add_mul, Nat.one_mul]; omega]
     exact ih k f x u (by simpa using h) hu
theorem flat_len {enc : α → List Value} {size : Nat} (hs : ∀ x, (enc x).length = size) (xs : List α) : (xs.flatMap enc).length = xs.length * size := by
 induction xs with
 | nil => simp
 | cons x r ih => simp [hs, ih, Nat.add_mul]; omega
theorem get!_of_lt [Inhabited α] {xs : List α} {k : Nat} (h : k < xs.length) : xs[k]? = some xs[k]! := by simp [h]
end sle
section own
variable {α : Type}
def rowC (b : Nat) (e : TypeId) (cs : List Value) : Own := { blks := [b], pred := fun w => w.heap[b]? = some (.cells cs.toArray e (0, 0)) }
def accC (e : TypeId) (size : Nat) (enc : α → List Value) (v : Value) (xs : List α) : Own := { blks := v.ownBlock.toList, pred := fun w => w.ownsRow 0 e size v xs.length (xs.flatMap enc) }
end own
section rules
variable {P : Program} {n : Sz} {o : Oper} {L : Env} {R : List RO} {O O' : List Own} {K : Env → List RO → List Own → Prop} {x y c : Operand} {v u : Value} {t t' e : TypeId} {α : Type} {enc : α → List Value} {xs : List α} {size bytes : Nat} {z : Value}
theorem Rd.lenE (ho : o.op = .call { callee := .builtin .len, args := #[x], argTypes := #[t] }) (hx : ev L x = some v) (hT : P.underlying t = some (.slice e)) (hp : SlE enc v xs ∈ R) : Rd P o L R O (.int .i64 xs.length) := fun ρ w hρ hR _ => by
 obtain ⟨o', c, rfl, _⟩ := hR _ hp
 simp [execOp, ho, resolve, invoke, builtin, hρ _ _ hx, Builtin.len_, run_underlying hT, goInt]
theorem Rd.lenA (ho : o.op = .call { callee := .builtin .len, args := #[x], argTypes := #[t] }) (hx : ev L x = some v) (hT : P.underlying t = some (.slice e)) {e' : TypeId} (hp : accC e' size enc v xs ∈ O) : Rd P o L R O (.int .i64 xs.length) := fun ρ w hρ _ hO => by
 rcases (hO _ hp).2 with ⟨rfl, h0⟩ | ⟨g, cap, cur, rfl, _⟩
 · simp [execOp, ho, resolve, invoke, builtin, hρ _ _ hx, Builtin.len_, run_underlying hT, goInt, h0]
 · simp [execOp, ho, resolve, invoke, builtin, hρ _ _ hx, Builtin.len_, run_underlying hT, goInt]
theorem add_spot {a : Addr} (h : a.spot = none) (m : Nat) : a.add m = ⟨a.block, a.off + m, none⟩ := by
 unfold Addr.add
 split
 · subst m; cases a; simp at h; simp [h]
 · rfl
theorem run_indexAt {a : Addr} (hs : a.spot = none) {len cp : Nat} {k : Nat} {kd : IntKind} (hT : SlT P t e size bytes z) (hk : k < len) (w : World) : (Instr.indexAt t (.slice (some a) len cp) (.int kd (k : Int))).run P w = .ok (.pointer (some (⟨a.block, a.off + k * size, none⟩ : Addr))) w := by
 have h1 : (0 : Int) ≤ (k : Int) ∧ (k : Int) < (len : Int) := ⟨by omega, by omega⟩
 simp [Instr.indexAt, asIntOf, run_underlying hT.under, h1, hk, hT.sizeOf, add_spot hs]
theorem Rd.idx {kd : IntKind} {k : Nat} {p : Int} (ho : o.op = .indexAddr t x y) (hT : SlT P t e size bytes z) (hx : ev L x = some v) (hy : ev L y = some (.int kd p)) (hk : p = (k : Int)) (hp : SlE enc v xs ∈ R) (hlt : k < xs.length) : Rd P o L R O (.pointer (some (elemAddr v (k * size)))) := fun ρ w hρ hR _ => by
 obtain ⟨o', c, rfl, _, _, hn, ha⟩ := hR _ hp
 subst hk
 cases o' with
 | none => have := hn rfl; omega
 | some a => simp only [execOp, ho, hρ _ _ hx, hρ _ _ hy, Sem.run_bind, run_indexAt ((ha a rfl).1 Z.W) hT hlt, Result.andThen_ok, Sem.run_pure, elemAddr]
theorem Rd.idx1 {kd : IntKind} {k : Nat} {p : Int} (ho : o.op = .indexAddr t x y) (hT : SlT P t e 1 bytes z) (hx : ev L x = some v) (hy : ev L y = some (.int kd p)) (hk : p = (k : Int)) (hp : SlE enc v xs ∈ R) (hlt : k < xs.length) : Rd P o L R O (.pointer (some (elemAddr v k))) := by
 have h := Rd.idx ho hT hx hy hk hp hlt (O := O)
 rwa [Nat.mul_one] at h
theorem Rd.idxA {kd : IntKind} {k : Nat} {p : Int} {e' : TypeId} (ho : o.op = .indexAddr t x y) (hT : SlT P t e size bytes z) (hx : ev L x = some v) (hy : ev L y = some (.int kd p)) (hk : p = (k : Int)) (hp : accC e' size enc v xs ∈ O) (hlt : k < xs.length) : Rd P o L R O (.pointer (some (elemAddr v (k * size)))) := fun ρ w hρ _ hO => by
 subst hk
 rcases (hO _ hp).2 with ⟨rfl, h0⟩ | ⟨g, cap, cur, rfl, _⟩
 · omega
 · simp only [execOp, ho, hρ _ _ hx, hρ _ _ hy, Sem.run_bind, run_indexAt (a := ⟨g, 0, none⟩) rfl hT hlt, Result.andThen_ok, Sem.run_pure, elemAddr]
theorem Rd.idxR {kd : IntKind} {k b off len cp r : Nat} {p : Int} (ho : o.op = .indexAddr t x y) (hT : SlT P t e size bytes z) (hx : ev L x = some (.slice (some ⟨b, off, none⟩) len cp)) (hy : ev L y = some (.int kd p)) (hk : p = (k : Int)) (hlt : k < len) (hr : off + k * size = r := by rfl) : Rd P o L R O (.pointer (some ⟨b, r, none⟩)) := fun ρ w hρ _ _ => by
 subst hk; subst hr
 simp only [execOp, ho, hρ _ _ hx, hρ _ _ hy, Sem.run_bind, run_indexAt (a := ⟨b, off, none⟩) rfl hT hlt, Result.andThen_ok, Sem.run_pure]
theorem Rd.idxR1 {kd : IntKind} {k b len cp : Nat} {p : Int} (ho : o.op = .indexAddr t x y) (hT : SlT P t e 1 bytes z) (hx : ev L x = some (.slice (some ⟨b, 0, none⟩) len cp)) (hy : ev L y = some (.int kd p)) (hk : p = (k : Int)) (hlt : k < len) : Rd P o L R O (.pointer (some ⟨b, k, none⟩)) :=
 Rd.idxR ho hT hx hy hk hlt (by rw [Nat.mul_one, Nat.zero_add])
theorem Rd.idxA1 {kd : IntKind} {k : Nat} {p : Int} {e' : TypeId} (ho : o.op = .indexAddr t x y) (hT : SlT P t e 1 bytes z) (hx : ev L x = some v) (hy : ev L y = some (.int kd p)) (hk : p = (k : Int)) (hp : accC e' 1 enc v xs ∈ O) (hlt : k < xs.length) : Rd P o L R O (.pointer (some (elemAddr v k))) := by
 have h := Rd.idxA ho hT hx hy hk hp hlt (R := R)
 rwa [Nat.mul_one] at h
theorem run_load1 (hc : Cell1 P t) {a : Addr} {w : World} (h : w.cell? a = some v) : (Instr.loadAt t (.pointer (some a))).run P w = .ok v w := by
 simp [Instr.loadAt, Instr.sureAddr, loadVar, hc w, h]
theorem run_loadCellsFrom {a : Addr} (hs : a.spot = none) {w : World} : ∀ (m i : Nat) (cs : List Value) (acc : Array Value), cs.length = m → (∀ j u, cs[j]? = some u → w.cell? ⟨a.block, a.off + (i + j), none⟩ = some u) → (loadCellsFrom a i m acc).run P w = .ok (acc ++ cs.toArray) w := by
 intro m
 induction m with
 | zero => intro i cs acc hl _; rw [List.length_eq_zero_iff.1 hl]; simp [loadCellsFrom]
 | succ m ih =>
   intro i cs acc hl h
   match cs, hl with
   | d :: r, hl =>
     have h0 := h 0 d (by simp)
     have hr := ih (i + 1) r (acc.push d) (by simpa using hl) (fun j u hj => by have := h (j + 1) u (by simpa using hj); rwa [show i + (j + 1) = i + 1 + j from by omega] at this)
     simp only [Nat.add_zero] at h0
     simp [loadCellsFrom, add_spot hs, h0, hr]
theorem run_loadAgg (hc : Agg P t size) {a : Addr} (hs : a.spot = none) {w : World} {cs : List Value} (hl : cs.length = size) (h : ∀ j u, cs[j]? = some u → w.cell? ⟨a.block, a.off + j, none⟩ = some u) : (Instr.loadAt t (.pointer (some a))).run P w = .ok (.agg cs.toArray) w := by
 have h1 := run_loadCellsFrom (P := P) hs size 0 cs #[] hl (fun j u hj => by simpa using h j u hj)
 simp [Instr.loadAt, Instr.sureAddr, loadVar, hc.1 w, hc.2 w, loadCells, h1]
theorem SlE.cell {w : World} (h : SlE enc v xs w) {j : Nat} {u : Value} (hj : (xs.flatMap enc)[j]? = some u) : w.cell? (elemAddr v j) = some u := by
 obtain ⟨o', c, rfl, _, _, hn, ha⟩ := h
 cases o' with
 | none => have h0 := hn rfl; rw [List.length_eq_zero_iff.1 h0] at hj; simp at hj
 | some a => exact (ha a rfl).2 j u hj
theorem acc_cell {w : World} {e' : TypeId} (h : (accC e' size enc v xs).pred w) {j : Nat} {u : Value} (hj : (xs.flatMap enc)[j]? = some u) : w.cell? (elemAddr v j) = some u := by
 rcases h.2 with ⟨rfl, h0⟩ | ⟨g, cap, cur, hv, _⟩
 · rw [List.length_eq_zero_iff.1 h0] at hj; simp at hj
 · subst hv
   have := World.ownsRow.cells h (g := g) rfl j u hj
   rw [add_spot rfl] at this
   exact this
theorem elemAddr_spot (v : Value) (j : Nat) : (elemAddr v j).spot = none := by unfold elemAddr; split <;> rfl
theorem elemAddr_add (v : Value) (j i : Nat) (h : ∃ a n c, v = .slice (some a) n c) : elemAddr v (j + i) = ⟨(elemAddr v j).block, (elemAddr v j).off + i, none⟩ := by
 obtain ⟨a, n, c, rfl⟩ := h; simp [elemAddr, Nat.add_assoc]
theorem Rd.get {g : α → Value} {k : Nat} {a : α} (ho : o.op = .load t x) (hc : Cell1 P t) (hx : ev L x = some (.pointer (some (elemAddr v k)))) (hp : SlE (one g) v xs ∈ R) (hk : xs[k]? = some a) : Rd P o L R O (g a) := fun ρ w hρ hR _ => by
 have h := SlE.cell (hR _ hp) (j := k) (u := g a) (by rw [flat_one]; simp [hk])
 simp only [execOp, ho, hρ _ _ hx, Sem.run_bind, run_load1 hc h, Result.andThen_ok, Sem.run_pure]
theorem Rd.getA {g : α → Value} {k : Nat} {a : α} {e' : TypeId} (ho : o.op = .load t x) (hc : Cell1 P t) (hx : ev L x = some (.pointer (some (elemAddr v k)))) (hp : accC e' 1 (one g) v xs ∈ O) (hk : xs[k]? = some a) : Rd P o L R O (g a) := fun ρ w hρ _ hO => by
 have h := acc_cell (hO _ hp) (j := k) (u := g a) (by rw [flat_one]; simp [hk])
 simp only [execOp, ho, hρ _ _ hx, Sem.run_bind, run_load1 hc h, Result.andThen_ok, Sem.run_pure]
theorem Rd.getF {k f j : Nat} {a : α} (ho : o.op = .load t x) (hc : Cell1 P t) (hx : ev L x = some (.pointer (some (elemAddr v j)))) (hp : SlE enc v xs ∈ R) (hs : ∀ x, (enc x).length = size) (hj : j = k * size + f) (hk : xs[k]? = some a) (hf : (enc a)[f]? = some u) : Rd P o L R O u := fun ρ w hρ hR _ => by
 have h := SlE.cell (hR _ hp) (j := j) (u := u) (by rw [hj]; exact flat_get hs xs k f a u hk hf)
 simp only [execOp, ho, hρ _ _ hx, Sem.run_bind, run_load1 hc h, Result.andThen_ok, Sem.run_pure]
theorem Rd.getFA {k f j : Nat} {a : α} {e' : TypeId} (ho : o.op = .load t x) (hc : Cell1 P t) (hx : ev L x = some (.pointer (some (elemAddr v j)))) (hp : accC e' size enc v xs ∈ O) (hs : ∀ x, (enc x).length = size) (hj : j = k * size + f) (hk : xs[k]? = some a) (hf : (enc a)[f]? = some u) : Rd P o L R O u := fun ρ w hρ _ hO => by
 have h := acc_cell (hO _ hp) (j := j) (u := u) (by rw [hj]; exact flat_get hs xs k f a u hk hf)
 simp only [execOp, ho, hρ _ _ hx, Sem.run_bind, run_load1 hc h, Result.andThen_ok, Sem.run_pure]
theorem Rd.getS {k : Nat} {a : α} {cs : List Value} (ho : o.op = .load t x) (hc : Agg P t size) (hx : ev L x = some (.pointer (some (elemAddr v (k * size))))) (hp : SlE enc v xs ∈ R) (hs : ∀ x, (enc x).length = size) (hk : xs[k]? = some a) (he : NF (enc a) cs) : Rd P o L R O (.agg cs.toArray) := fun ρ w hρ hR _ => by
 obtain rfl := he.eq
 have hE := hR _ hp
 have hv : ∃ ad n c, v = .slice (some ad) n c := by
  obtain ⟨o', c, rfl, _, _, hn, ha⟩ := hE
  cases o' with
  | none => have h0 := hn rfl; rw [List.length_eq_zero_iff.1 h0] at hk; simp at hk
  | some ad => exact ⟨ad, _, _, rfl⟩
 have h := run_loadAgg (P := P) (w := w) hc (elemAddr_spot v (k * size)) (hs a) (fun j u hj => by
  rw [← elemAddr_add v (k * size) j hv]
  exact SlE.cell hE (flat_get hs xs k j a u hk hj))
 simp only [execOp, ho, hρ _ _ hx, Sem.run_bind, h, Result.andThen_ok, Sem.run_pure]
theorem Rd.getSA {k : Nat} {a : α} {cs : List Value} {e' : TypeId} (ho : o.op = .load t x) (hc : Agg P t size) (hx : ev L x = some (.pointer (some (elemAddr v (k * size))))) (hp : accC e' size enc v xs ∈ O) (hs : ∀ x, (enc x).length = size) (hk : xs[k]? = some a) (he : NF (enc a) cs) : Rd P o L R O (.agg cs.toArray) := fun ρ w hρ _ hO => by
 obtain rfl := he.eq
 have hE := hO _ hp
 have hv : ∃ ad n c, v = .slice (some ad) n c := by
  rcases hE.2 with ⟨rfl, h0⟩ | ⟨g, cap, cur, hv, _⟩
  · rw [List.length_eq_zero_iff.1 h0] at hk; simp at hk
  · exact ⟨_, _, _, hv⟩
 have h := run_loadAgg (P := P) (w := w) hc (elemAddr_spot v (k * size)) (hs a) (fun j u hj => by
  rw [← elemAddr_add v (k * size) j hv]
  exact acc_cell hE (flat_get hs xs k j a u hk hj))
 simp only [execOp, ho, hρ _ _ hx, Sem.run_bind, h, Result.andThen_ok, Sem.run_pure]
section rows
variable {b off : Nat} {cs : List Value}
theorem row_cell {w : World} (h : (rowC b e cs).pred w) {j : Nat} {u : Value} (hj : cs[j]? = some u) : w.cell? ⟨b, j, none⟩ = some u := by
 have h' : w.heap[b]? = some (.cells cs.toArray e (0, 0)) := h
 simp [World.cell?, h', hj]
theorem row_free {w : World} (h : (rowC b e cs).pred w) (j : Nat) : w.frozen? ⟨b, j, none⟩ = false := by
 have h' : w.heap[b]? = some (.cells cs.toArray e (0, 0)) := h
 simp [World.frozen?, h']
theorem Rd.row1 (ho : o.op = .load t x) (hc : Cell1 P t) (hx : ev L x = some (.pointer (some ⟨b, off, none⟩))) (hp : rowC b e cs ∈ O) (hk : cs[off]? = some u) : Rd P o L R O u := fun ρ w hρ _ hO => by
 simp only [execOp, ho, hρ _ _ hx, Sem.run_bind, run_load1 hc (row_cell (hO _ hp) hk), Result.andThen_ok, Sem.run_pure]
theorem Rd.rowS (ho : o.op = .load t x) (hc : Agg P t size) (hx : ev L x = some (.pointer (some ⟨b, off, none⟩))) (hp : rowC b e cs ∈ O) {ds : List Value} (hk' : NF ((cs.drop off).take size) ds) (hl : ds.length = size) : Rd P o L R O (.agg ds.toArray) := fun ρ w hρ _ hO => by
 have hk := hk'.eq
 have h := run_loadAgg (P := P) (w := w) hc (a := ⟨b, off, none⟩) rfl hl (fun j u hj => row_cell (hO _ hp) (by
  rw [← hk, List.getElem?_take] at hj
  split at hj
  · rwa [List.getElem?_drop] at hj
  · cases hj))
 simp only [execOp, ho, hρ _ _ hx, Sem.run_bind, h, Result.andThen_ok, Sem.run_pure]
def FieldAt (P : Program) (s : TypeId) (f off : Nat) : Prop := ∃ fields fd m, P.underlying s = some (.struct fields) ∧ fields[f]? = some fd ∧ fd.offset = off ∧ (∀ w, (sizeOf fd.type).run P w = .ok (m + 1) w)
theorem run_fieldAt {s : TypeId} {f fo : Nat} (h : FieldAt P s f fo) (a : Addr) (hs : a.spot = none) (w : World) : (Instr.fieldAt s (.pointer (some a)) f).run P w = .ok (.pointer (some ⟨a.block, a.off + fo, none⟩)) w := by
 obtain ⟨fields, fd, m, h1, h2, h3, h4⟩ := h
 simp [Instr.fieldAt, run_underlying h1, h2, Instr.sureAddr, fieldPlace, h4, h3, add_spot hs]
theorem Rd.field {s : TypeId} {f fo : Nat} {r : Nat} (ho : o.op = .fieldAddr s x f) (hF : FieldAt P s f fo) (hx : ev L x = some (.pointer (some ⟨b, off, none⟩))) (hr : off + fo = r) : Rd P o L R O (.pointer (some ⟨b, r, none⟩)) := fun ρ w hρ _ _ => by
 subst hr
 simp only [execOp, ho, hρ _ _ hx, Sem.run_bind, run_fieldAt hF ⟨b, off, none⟩ rfl, Result.andThen_ok, Sem.run_pure]
theorem Rd.fieldE {s : TypeId} {f fo j : Nat} (ho : o.op = .fieldAddr s x f) (hF : FieldAt P s f fo) (hx : ev L x = some (.pointer (some (elemAddr v j)))) (hp : SlE enc v xs ∈ R) (hne : 0 < xs.length) : Rd P o L R O (.pointer (some (elemAddr v (j + fo)))) := fun ρ w hρ hR _ => by
 have hv : ∃ ad n c, v = .slice (some ad) n c := by
  obtain ⟨o', c, rfl, _, _, hn, ha⟩ := hR _ hp
  cases o' with
  | none => have h0 := hn rfl; omega
  | some ad => exact ⟨ad, _, _, rfl⟩
 simp only [execOp, ho, hρ _ _ hx, Sem.run_bind, run_fieldAt hF _ (elemAddr_spot v j), Result.andThen_ok, Sem.run_pure, elemAddr_add v j fo hv]
theorem Rd.fieldA {s : TypeId} {f fo j : Nat} {e' : TypeId} (ho : o.op = .fieldAddr s x f) (hF : FieldAt P s f fo) (hx : ev L x = some (.pointer (some (elemAddr v j)))) (hp : accC e' size enc v xs ∈ O) (hne : 0 < xs.length) : Rd P o L R O (.pointer (some (elemAddr v (j + fo)))) := fun ρ w hρ _ hO => by
 have hv : ∃ ad n c, v = .slice (some ad) n c := by
  rcases (hO _ hp).2 with ⟨rfl, h0⟩ | ⟨g, cap, cur, hv, _⟩
  · omega
  · exact ⟨_, _, _, hv⟩
 simp only [execOp, ho, hρ _ _ hx, Sem.run_bind, run_fieldAt hF _ (elemAddr_spot v j), Result.andThen_ok, Sem.run_pure, elemAddr_add v j fo hv]
theorem Rd.part {s ft : TypeId} {f fo : Nat} {cs : Array Value} {fields : Array Field} {fd : Field} (ho : o.op = .field s x f) (h1 : P.underlying s = some (.struct fields)) (h2 : fields[f]? = some fd) (hc : Cell1 P fd.type) (h3 : fd.offset = fo) (hx : ev L x = some (.agg cs)) (hk : cs[fo]? = some u) : Rd P o L R O u := fun ρ w hρ _ _ => by
 subst h3
 simp [execOp, ho, hρ _ _ hx, Instr.field, run_underlying h1, h2, asAgg, Go.part, hc w, hk]
theorem zip_pairs (ρ : Operand → Value) : ∀ ps : List (Nat × Operand), ps.map (fun (i, x) => (i, ρ x)) = (ps.map (·.1)).zip ((ps.map (·.2)).map ρ)
 | [] => rfl
 | p :: r => by simp [zip_pairs ρ r]
theorem Rd.build {ps : List (Nat × Operand)} {vals : List Value} {fields : Array Field} {i : TypeInfo} {zv : Value} {sizes : Array (Nat × Nat)} {cells : Array Value} (ho : o.op = .build t ps.toArray) (h1 : P.underlying t = some (.struct fields)) (hi : P.info? t = some i) (hz : i.zero = some zv)
 (hsz : ∀ w, (fields.mapM (m := Sem) fun f => do pure (f.offset, ← sizeOf f.type)).run P w = .ok sizes w) (hv : Evs L (ps.map (·.2)) vals) (hf : Instr.fill (sizes[·]?) zv.cells ((ps.map (·.1)).zip vals) = some cells) : Rd P o L R O (.agg cells) := fun ρ w hρ _ _ => by
 have e1 : (ps.toArray.map fun (i, x) => (i, ρ x)).toList = (ps.map (·.1)).zip vals := by
  have e2 := hv.eval hρ
  rw [← e2]
  simp only [List.map_toArray]
  exact zip_pairs ρ ps
 simp only [execOp, ho, Sem.run_bind, Instr.build, zeroValue, typeInfo, hi, hz, run_underlying h1, hsz, Result.andThen_ok, Sem.run_pure, run_program, e1, hf]
theorem OpW.new {d : Nat} {cells : Array Value} (hd : o.dst = some d) (hn : Nat.blt d n.n = true) (hr : ∀ ρ w, (∀ x u, ev L x = some u → ρ x = u) → (execOp ρ o).run P w = .ok (.value (.pointer (some ⟨w.heap.size, 0, none⟩))) (w.alloc (.cells cells e)))
 (k : ∀ b, K ((d, .pointer (some ⟨b, 0, none⟩)) :: L) R (rowC b e cells.toList :: O)) : OpW P n o L R O K := by
 intro a w hf hs Q
 unfold Oper.wp
 rw [hr a.eval w (fun x u hx => hf.ev hx), Oper.upon_value, hd]
 exact ⟨_, _, _, k w.heap.size, hf.put hn _, hs.alloc _ _ rfl (fun w' h _ => by simpa [rowC] using h)⟩
theorem OpW.alloc {d : Nat} {i : TypeInfo} {zv : Value} {zs : List Value} (ho : o.op = .alloc e) (hi : P.info? e = some i) (hz : i.zero = some zv) (hzs' : NF zv.cells.toList zs) (hd : o.dst = some d) (hn : Nat.blt d n.n = true)
 (k : ∀ b, K ((d, .pointer (some ⟨b, 0, none⟩)) :: L) R (rowC b e zs :: O)) : OpW P n o L R O K := by
 obtain rfl := hzs'.eq
 exact OpW.new hd hn (fun ρ w _ => by simp [execOp, ho, Instr.alloc, zeroValue, typeInfo, hi, hz, newVar, newRow]) k
theorem OpW.box {d : Nat} {zs : List Value} (ho : o.op = .box e x) (hx : ev L x = some v) (hzs' : NF v.cells.toList zs) (hd : o.dst = some d) (hn : Nat.blt d n.n = true)
 (k : ∀ b, K ((d, .pointer (some ⟨b, 0, none⟩)) :: L) R (rowC b e zs :: O)) : OpW P n o L R O K := by
 obtain rfl := hzs'.eq
 exact OpW.new hd hn (fun ρ w hρ => by simp [execOp, ho, hρ _ _ hx, Instr.box, newVar, newRow]) k
theorem OpW.box1 {d : Nat} (ho : o.op = .box e x) (hx : ev L x = some v) (hv : OneV v) (hd : o.dst = some d) (hn : Nat.blt d n.n = true)
 (k : ∀ b, K ((d, .pointer (some ⟨b, 0, none⟩)) :: L) R (rowC b e [v] :: O)) : OpW P n o L R O K :=
 OpW.new (cells := #[v]) hd hn (fun ρ w hρ => by simp [execOp, ho, hρ _ _ hx, Instr.box, newVar, newRow, hv.cells]) k
theorem setCell_row {w : World} {cs : List Value} (h : w.heap[b]? = some (.cells cs.toArray e (0, 0))) (j : Nat) (u : Value) : (w.setCell ⟨b, j, none⟩ u).heap[b]? = some (.cells (cs.set j u).toArray e (0, 0)) := by
 have := heap_setCell_same w b j cs.toArray e u h
 rw [this]; simp
theorem OpW.store1 {b off : Nat} {cs : List Value} (ho : o.op = .store t x y) (hsz : ∀ w, (sizeOf t).run P w = .ok 1 w) (hx : ev L x = some (.pointer (some ⟨b, off, none⟩))) (hy : ev L y = some v) (hv : OneV v) (hT : Take (rowC b e cs) O O') (hlt : off < cs.length) (hd : o.dst = none)
 (k : K L R (rowC b e (cs.set off v) :: O')) : OpW P n o L R O K := by
 intro a w hf hs Q
 have h1 := hv.cells
 have h2 := hv.one
 have hs' := hs.perm hT.perm
 have hp : (rowC b e cs).pred w := hs'.see List.mem_cons_self
 obtain ⟨u, hu⟩ : ∃ u, cs[off]? = some u := ⟨cs[off], by simp [hlt]⟩
 have hr : (execOp a.eval o).run P w = .ok .skip (w.setCell ⟨b, off, none⟩ v) := by
  simp [execOp, ho, hf.ev hx, hf.ev hy, Instr.storeAt, Instr.sureAddr, storeVar, hsz, h1, storeCells, Addr.add, run_store _ _ _ _ _ h2, row_cell hp hu, row_free hp]
 unfold Oper.wp
 rw [hr, Oper.upon_skip, hd]
 have hlt' : b < w.heap.size := hs'.lt b (by simp [owned, rowC])
 refine ⟨_, _, _, k, hf.none _, hs'.update _ ⟨rfl, rfl, rfl, by simp, fun j hj hn => heap_setCell_other w _ _ v (by simpa [rowC] using hn)⟩ (by simp [rowC]) (by simpa [rowC] using hlt') (by simp [rowC]) (fun w'' ha _ => ?_)⟩
 show w''.heap[b]? = _
 rw [ha.2.2.2.2 b (by simpa using hlt') (by simp [rowC])]
 exact setCell_row hp off v
end rows
theorem OpW.heap {R' : List RO} (hs : ∀ w, Sat R O w → Sat R' O' w) (h : OpW P n o L R' O' K) : OpW P n o L R O K := fun a w hf h0 Q => h a w hf (hs w h0) Q
theorem OpW.after {K' : Env → List RO → List Own → Prop} (h : OpW P n o L R O K') (hk : ∀ L' R' O', K' L' R' O' → ∃ R2 O2, K L' R2 O2 ∧ ∀ w, Sat R' O' w → Sat R2 O2 w) : OpW P n o L R O K := fun a w hf h0 Q =>
 Oper.wp_mono (fun a' w' ⟨L', R', O', h1, h2, h3⟩ => let ⟨R2, O2, k1, k2⟩ := hk L' R' O' h1; ⟨L', R2, O2, k1, h2, k2 w' h3⟩) (h a w hf h0 Q)
section app
variable {base : Nat}
theorem fill_all {w : World} {news : List Value} {a : Addr} (hs : a.spot = none) (h : ∀ j u, news[j]? = some u → w.cell? ⟨a.block, a.off + j, none⟩ = some u) : ∀ j u, news[j]? = some u → w.cell? (a.add j) = some u := fun j u hj => by rw [add_spot hs]; exact h j u hj
theorem run_append_src' (hT : SlT P t e size bytes z) (tx ty : TypeId) (w : World) {m : Nat} {xsc news : List Value} (hown : w.ownsRow 0 e size v m xsc) (xv : Value) (k : Nat) (hsrc : Src P size tx xv k news w)
 (h63 : m + k ≤ maxLen) (hbytes : (m + k) * bytes ≤ 140737488355328) :
 ∃ v' w', (Builtin.append_ #[t, tx] ty #[v, xv]).run P w = .ok v' w' ∧ w'.ownsRow 0 e size v' (m + k) (xsc ++ news) ∧ w.grownBy w' v.ownBlock ∧ (v'.ownBlock = v.ownBlock ∨ v'.ownBlock = some w.heap.size) := by
 obtain ⟨i, hi, hz, hsize, hby⟩ := hT.info
 subst hsize; subst hby
 have hlen : (xsc ++ news).length = (m + k) * i.size := by rw [List.length_append, hown.1, hsrc.newsLen, Nat.add_mul]
 have grown : ∀ (old : Nat), old < m + k → ∀ (row : Option Nat),
  (w.drew.alloc (.cells (xsc.toArray ++ news.toArray ++ Builtin.zeroCells z.cells (grownCap w (m + k) old e - (m + k))) e)).ownsRow 0 e i.size
    (.slice (some ⟨w.heap.size, 0, none⟩) (m + k) (grownCap w (m + k) old e)) (m + k) (xsc ++ news) ∧
  w.grownBy (w.drew.alloc (.cells (xsc.toArray ++ news.toArray ++ Builtin.zeroCells z.cells (grownCap w (m + k) old e - (m + k))) e)) row := by
  intro old ho row
  have hge := grownCap_ge w (m + k) old e
  have hcm : grownCap w (m + k) old e ≤ maxLen := grownCap_le_maxLen w (m + k) old e h63
  refine ⟨⟨hlen, .inr ⟨w.heap.size, _, _, rfl, Nat.zero_le _, SL.alloc_new w.drew _, hge, hcm, ?_, ?_⟩⟩, ⟨rfl, rfl, rfl, by simp, fun k hk _ => SL.alloc_old w.drew _ hk⟩⟩
  · simp only [Array.size_append, List.size_toArray, size_zeroCells, hT.zsize, hown.1, hsrc.newsLen, ← Nat.add_mul]
    congr 1
    omega
  · simp only [Array.toList_append, List.append_assoc]
    rw [← List.append_assoc, ← hlen]
    exact List.take_left
 have hzz := hT.zero
 have hss := hT.sizeOf
 have e1 : ∀ {w' : World}, (underlying t).run P w' = .ok (.slice e) w' := fun {w'} => run_underlying hT.under w'
 have e2 : ∀ {w' : World}, (typeInfo e).run P w' = .ok i w' := fun {w'} => by simp [typeInfo, hi]
 rcases hown.2 with ⟨rfl, rfl⟩ | ⟨g, cap, cur, rfl, hbg, hg, hnc, hcm, hcs, htake⟩
 · have hx : xsc = [] := List.eq_nil_of_length_eq_zero (by simpa using hown.1)
   subst hx
   by_cases hm : k = 0
   · subst hm
     have hnn : news = [] := List.eq_nil_of_length_eq_zero (by simpa using hsrc.newsLen)
     subst hnn
     refine ⟨.slice none 0 0, w, ?_, World.ownsRow_nil w 0 e i.size, ⟨rfl, rfl, rfl, Nat.le_refl _, fun _ _ _ => rfl⟩, .inl rfl⟩
     have hc := hsrc.cells
     rcases hsrc.kind with ⟨e', h⟩ | h <;> simp [Builtin.append_, e1, hss, run_underlying h, hsrc.len, hc]
   · have hgr := grown 0 Z.W (Value.ownBlock (.slice none 0 0))
     refine ⟨_, _, ?_, hgr.1, hgr.2, .inr rfl⟩
     have hr := run_append_grow_src (P := P) w t tx ty e i z hT.under hi hz none 0 0 [] (by simp [Builtin.firstCells]) xv k news hsrc Z.W (by simp only [maxLen] at h63; omega) (growslice_fits Z.W (by simpa using hbytes))
     simpa using hr
 · by_cases hroom : m + k ≤ cap
   · have hfit : m * i.size + news.length ≤ cur.size := by rw [hsrc.newsLen, hcs, ← Nat.add_mul]; exact Nat.mul_le_mul_right _ hroom
     have hst := run_storeCells_at P g (m * i.size) e news 0 cur w hg (by simpa using hfit) hsrc.one
     simp only [Nat.add_zero] at hst
     refine ⟨_, w.setRow g (cur.toList.take (m * i.size) ++ news ++ cur.toList.drop (m * i.size + news.length)).toArray, ?_, ⟨hlen, .inr ⟨g, cap, _, rfl, hbg, setRow_heap w g cur _ e _ hg, hroom, hcm, ?_, ?_⟩⟩, ⟨rfl, rfl, rfl, by simp, fun k _ hk => setRow_other w g k _ (fun e => hk (by simp [Value.ownBlock, e]))⟩, .inl rfl⟩
     · have hc := hsrc.cells
       rcases hsrc.kind with ⟨e', h⟩ | h <;> simp [Builtin.append_, e1, hss, run_underlying h, hsrc.len, hc, hroom, Addr.add_lit, hst]
     · simp only [List.size_toArray, List.length_append, List.length_take, List.length_drop, Array.length_toList]
       omega
     · rw [htake, ← hlen]
       exact List.take_left
   · have holds : ∀ j u, xsc[j]? = some u → w.cell? ((⟨g, 0, none⟩ : Addr).add j) = some u := hown.cells (g := g) rfl
     have hgr := grown cap Z.W (Value.ownBlock (.slice (some ⟨g, 0, none⟩) m cap))
     refine ⟨_, _, ?_, hgr.1, hgr.2, .inr rfl⟩
     have hr := run_append_grow_src (P := P) w t tx ty e i z hT.under hi hz (some ⟨g, 0, none⟩) m cap xsc (run_firstCells_some w.drew i.size m ⟨g, 0, none⟩ m cap xsc hown.1 (by simpa using holds)) xv k news hsrc Z.W (by simp only [maxLen] at h63; omega) (growslice_fits Z.W hbytes)
     simpa using hr
def Room (m bytes : Nat) : Prop := m ≤ maxLen ∧ m * bytes ≤ 140737488355328
theorem ownBlock_lt {w : World} {m : Nat} {l : List Value} (h : w.ownsRow 0 e size v m l) : ∀ k ∈ v.ownBlock.toList, k < w.heap.size := fun k hk => (World.ownsRow.lt h k (by simpa using hk)).2
theorem OpW.append {β : Type} {enc : β → List Value} {xs ys : List β} {d : Nat} {xv : Value} {tx : TypeId} (ho : o.op = .call { callee := .builtin .append, args := #[x, y], argTypes := #[t, tx] }) (hT : SlT P t e size bytes z) (hx : ev L x = some v) (hy : ev L y = some xv)
 (hO : Take (accC e size enc v xs) O O') (hsrc : ∀ w, (∀ p ∈ R, p w) → (∀ c ∈ O, c.pred w) → Src P size tx xv ys.length (ys.flatMap enc) w) (hroom : Room (xs.length + ys.length) bytes) (hd : o.dst = some d) (hn : Nat.blt d n.n = true)
 (k : ∀ v', OneV v' → K ((d, v') :: L) R (accC e size enc v' (xs ++ ys) :: O')) : OpW P n o L R O K := by
 intro a w hf hs Q
 have hs' := hs.perm hO.perm
 have hp : w.ownsRow 0 e size v xs.length (xs.flatMap enc) := hs'.see List.mem_cons_self
 obtain ⟨v', w', hr, h1, h2, h3⟩ := run_append_src' hT tx o.type w hp xv ys.length (hsrc w (fun p hp => hs.read hp) (fun c hc => hs.see hc)) hroom.1 hroom.2
 have hr' : (execOp a.eval o).run P w = .ok (.value v') w' := by
  simp only [execOp, ho, resolve, invoke, builtin, hf.ev hx, hf.ev hy, Sem.run_bind, Sem.run_pure, Result.andThen_ok, List.map_toArray, List.map_cons, List.map_nil, hr]
 unfold Oper.wp
 rw [hr', Oper.upon_value, hd]
 have hlt : ∀ k ∈ v'.ownBlock.toList, k < w'.heap.size := ownBlock_lt h1
 have hone : OneV v' := by
  rcases h1.2 with ⟨rfl, _⟩ | ⟨g, cap, cur, rfl, _⟩ <;> exact OneV.sl
 refine ⟨_, _, _, k v' hone, hf.put hn v', hs'.update (accC e size enc v' (xs ++ ys)) ⟨h2.os, h2.tape, h2.output, h2.size, fun k hk hn => h2.block k hk (fun e => hn (by simp [accC, ← e]))⟩ ?_ hlt ?_ ?_⟩
 · intro k hk
   rcases h3 with h3 | h3
   · left; simpa [accC, h3] using hk
   · right; simp [accC, h3] at hk; omega
 · simp only [accC]; cases v'.ownBlock <;> simp
 · intro w'' ha _
   show w''.ownsRow 0 e size v' (xs ++ ys).length _
   rw [List.flatMap_append, List.length_append]
   refine ⟨h1.1, ?_⟩
   rcases h1.2 with h | ⟨g, cap, cur, rfl, hb, hg, rest⟩
   · exact .inl h
   · refine .inr ⟨g, cap, cur, rfl, hb, ?_, rest⟩
     rw [ha.2.2.2.2 g (hlt g (by simp [Value.ownBlock])) (by simp [accC, Value.ownBlock])]
     exact hg
theorem SlE.src {β : Type} {enc : β → List Value} {ys : List β} {xv : Value} {tx e' : TypeId} (hk : P.underlying tx = some (.slice e')) (hs : ∀ x, (enc x).length = size) (h1' : ∀ x, ((enc x).all Value.oneCell') = true) {w : World} (h : SlE enc xv ys w) : Src P size tx xv ys.length (ys.flatMap enc) w := by
 obtain ⟨o', c, rfl, _, _, hn, ha⟩ := h
 cases o' with
 | none =>
   have h0 := hn rfl
   rw [List.length_eq_zero_iff.1 h0]
   exact Src.ofNil w hk c
 | some a => exact Src.ofSlice w hk a _ _ _ (flat_len hs ys) (fun j u hj => by
    by_cases h0 : 0 < ys.length
    · exact fill_all (w := w) ((ha a rfl).1 h0) (ha a rfl).2 j u hj
    · rw [List.length_eq_zero_iff.1 (by omega : ys.length = 0)] at hj; simp at hj) (fun u hu => by
    obtain ⟨x, _, hx⟩ := List.mem_flatMap.1 hu
    exact List.all_eq_true.1 (h1' x) u hx)
theorem OpW.appendE {β : Type} {enc : β → List Value} {xs ys : List β} {d : Nat} {xv : Value} {tx e' : TypeId} (ho : o.op = .call { callee := .builtin .append, args := #[x, y], argTypes := #[t, tx] }) (hT : SlT P t e size bytes z) (hk : P.underlying tx = some (.slice e')) (hx : ev L x = some v) (hy : ev L y = some xv)
 (hO : Take (accC e size enc v xs) O O') (hp : SlE enc xv ys ∈ R) (hs : ∀ x, (enc x).length = size) (h1' : ∀ x, ((enc x).all Value.oneCell') = true) (hroom : Room (xs.length + ys.length) bytes) (hd : o.dst = some d) (hn : Nat.blt d n.n = true)
 (k : ∀ v', OneV v' → K ((d, v') :: L) R (accC e size enc v' (xs ++ ys) :: O')) : OpW P n o L R O K :=
 OpW.append ho hT hx hy hO (fun w hR _ => SlE.src hk hs h1' (hR _ hp)) hroom hd hn k
theorem OpW.appendRow {β : Type} {enc : β → List Value} {xs ys : List β} {d b m : Nat} {cells : List Value} {O'' : List Own} (ho : o.op = .call { callee := .builtin .append, args := #[x, y], argTypes := #[t, t] }) (hT : SlT P t e size bytes z) (hx : ev L x = some v) (hy : ev L y = some (.slice (some ⟨b, 0, none⟩) m m))
 (hb : Take (rowC b e cells) O O'') (hO : Take (accC e size enc v xs) O'' O') (ys' : List β) (hys : ys' = ys) (hc : ys'.flatMap enc = cells) (hm : ys'.length = m) (hs : ∀ x, (enc x).length = size) (h1' : ∀ x, ((enc x).all Value.oneCell') = true) (hroom : Room (xs.length + m) bytes) (hd : o.dst = some d) (hn : Nat.blt d n.n = true)
 (k : ∀ v', OneV v' → K ((d, v') :: L) R (accC e size enc v' (xs ++ ys) :: O')) : OpW P n o L R O K := by
 subst hys
 refine OpW.heap (fun w hsat => (hsat.perm (hb.perm.trans (List.Perm.cons _ hO.perm))).perm (List.Perm.swap _ _ _)) (O' := accC e size enc v xs :: rowC b e cells :: O') ?_
 refine OpW.after (K' := fun L' R' O1 => ∃ v', OneV v' ∧ L' = (d, v') :: L ∧ R' = R ∧ O1 = accC e size enc v' (xs ++ ys') :: rowC b e cells :: O') ?_ ?_
 · refine OpW.append ho hT hx hy (Take.head _) (ys := ys') (fun w' _ hO' => ?_) (by rw [hm]; exact hroom) hd hn (fun v' h => ⟨v', h, rfl, rfl, rfl⟩)
   have hrow : w'.heap[b]? = some (.cells cells.toArray e (0, 0)) := hO' _ (List.mem_cons_of_mem _ List.mem_cons_self)
   rw [hc, hm]
   refine Src.ofSlice w' hT.under ⟨b, 0, none⟩ m m cells (by rw [← hc, ← hm]; exact flat_len hs ys') (fun j u hj => ?_) (fun u hu => ?_)
   · rw [add_spot rfl]; simp [World.cell?, hrow, hj]
   · rw [← hc] at hu
     obtain ⟨x, _, hx⟩ := List.mem_flatMap.1 hu
     exact List.all_eq_true.1 (h1' x) u hx
 · rintro L' R' O1 ⟨v', hone, rfl, rfl, rfl⟩
   exact ⟨_, _, k v' hone, fun w h => (h.perm (List.Perm.swap _ _ _)).drop⟩
end app
theorem OpW.buildSlice {d m : Nat} {ps : List (Nat × Operand)} {vals cells : List Value} {zc : Array Value} (ho : o.op = .buildSlice t m ps.toArray) (hT : SlT P t e size bytes z) (hv : Evs L (ps.map (·.2)) vals) (hm : Nat.ble (m * size) 16777216 = true)
 (hzc : zc = (if m * size = 0 then #[] else z.cells)) (hf : Instr.fill (fun i => some (i * size, size)) ((Array.range (m * size)).map (zc[· % zc.size]!)) ((ps.map (·.1)).zip vals) = some cells.toArray) (hd : o.dst = some d) (hn : Nat.blt d n.n = true)
 (k : ∀ b, K ((d, .slice (some ⟨b, 0, none⟩) m m) :: L) R (rowC b e cells :: O)) : OpW P n o L R O K := by
 intro a w hf' hs Q
 have e1 : (ps.toArray.map fun (i, x) => (i, a.eval x)).toList = (ps.map (·.1)).zip vals := by
  have e2 := hv.eval (ρ := a.eval) (fun x u hx => hf'.ev hx)
  rw [← e2]
  simp only [List.map_toArray]
  exact zip_pairs a.eval ps
 have hm' : ¬ m * size > 2 ^ 24 := by have := Nat.le_of_ble_eq_true hm; omega
 have hr : (execOp a.eval o).run P w = .ok (.value (.slice (some ⟨w.heap.size, 0, none⟩) m m)) (w.alloc (.cells cells.toArray e)) := by
  by_cases h0 : m * size = 0
  · rw [if_pos h0] at hzc
    subst hzc
    simp only [execOp, ho, Sem.run_bind, Instr.buildSlice, run_underlying hT.under, hT.sizeOf, Result.andThen_ok, Sem.run_pure, if_neg hm', if_pos h0, e1, hf, newRow, run_newObj]
    rfl
  · rw [if_neg h0] at hzc
    subst hzc
    simp only [execOp, ho, Sem.run_bind, Instr.buildSlice, run_underlying hT.under, hT.sizeOf, Result.andThen_ok, Sem.run_pure, if_neg hm', if_neg h0, hT.zero, e1, hf, newRow, run_newObj]
    rfl
 unfold Oper.wp
 rw [hr, Oper.upon_value, hd]
 exact ⟨_, _, _, k w.heap.size, hf'.put hn _, hs.alloc _ _ rfl (fun w' h _ => h)⟩
theorem OpW.make {d : Nat} {m c : Nat} {kd kd' : IntKind} {p q : Int} (ho : o.op = .makeSlice t x y) (hT : SlT P t e size bytes z) (hx : ev L x = some (.int kd p)) (hy : ev L y = some (.int kd' q)) (hp : p = (m : Int)) (hq : q = (c : Int)) (hmc : m ≤ c) (hroom : bytes * c ≤ 281474976710656) (hc63 : c ≤ 9223372036854775807) (hd : o.dst = some d) (hn : Nat.blt d n.n = true)
 (k : ∀ b, K ((d, .slice (some ⟨b, 0, none⟩) m c) :: L) R (rowC b e (List.replicate c z.cells.toList).flatten :: O)) : OpW P n o L R O K := by
 intro a w hf' hs Q
 obtain ⟨i, hi, hz, hsz, hby⟩ := hT.info
 subst hp; subst hq
 have h1 : IntKind.i64.wrap (m : Int) = m := wrap_i64 ⟨by omega, by omega⟩
 have h2 : IntKind.i64.wrap (c : Int) = c := wrap_i64 ⟨by omega, by omega⟩
 have h3 : ¬ ((c : Int) < 0) := by omega
 have h4 : ¬ ((bytes : Int) * (c : Int) > 2 ^ 48) := by
  have h := Int.ofNat_le.2 hroom
  rw [Int.natCast_mul] at h
  show ¬ _ > (281474976710656 : Int)
  omega
 have h5 : ¬ ((m : Int) < 0) := by omega
 have h6 : ¬ ((m : Int) > (c : Int)) := by omega
 have hcells : ((Array.range (c * size)).map fun j => (if c * size = 0 then (#[] : Array Value) else z.cells)[j % (if c * size = 0 then (#[] : Array Value) else z.cells).size]!) = (List.replicate c z.cells.toList).flatten.toArray := by
  by_cases h0 : c = 0
  · subst h0; simp
  · have hpos := hT.pos
    have hne : c * size ≠ 0 := Nat.mul_ne_zero h0 (Nat.ne_of_gt hpos)
    simp only [if_neg hne]
    apply Array.ext
    · simp [hT.zsize]
    · intro j hj1 hj2
      simp only [Array.getElem_map, Array.getElem_range, List.getElem_toArray]
      have hj : j < c * size := by simpa using hj1
      have hmod : j % z.cells.size < z.cells.size := Nat.mod_lt _ (by rw [hT.zsize]; exact hpos)
      have hg : ∀ (l : List Value) (c j : Nat), 0 < l.length → j < c * l.length → (List.replicate c l).flatten[j]? = l[j % l.length]? := by
       intro l c
       induction c with
       | zero => intro j _ h; simp at h
       | succ c ih =>
         intro j hl h
         simp only [List.replicate_succ, List.flatten_cons]
         by_cases hjl : j < l.length
         · rw [List.getElem?_append_left hjl, Nat.mod_eq_of_lt hjl]
         · rw [List.getElem?_append_right Z.W, ih (j - l.length) hl (by rw [Nat.add_mul, Nat.one_mul] at h; omega)]
           congr 1
           exact (Nat.mod_eq_sub_mod Z.W).symm
      have h9 := hg z.cells.toList c j (by simpa [hT.zsize] using hpos) (by simpa [hT.zsize] using hj)
      have e9 : z.cells.toList.length = z.cells.size := by simp
      rw [e9] at h9
      rw [List.getElem?_eq_getElem (by simpa using hj2)] at h9
      simp only [Array.getElem?_toList, hmod, getElem?_pos, Option.some.injEq] at h9
      rw [h9]
      simp [hmod]
 have hr : (execOp a.eval o).run P w = .ok (.value (.slice (some ⟨w.heap.size, 0, none⟩) m c)) (w.alloc (.cells (List.replicate c z.cells.toList).flatten.toArray e)) := by
  by_cases h0 : c * size = 0
  · simp only [if_pos h0] at hcells
    simp only [execOp, ho, hf'.ev hx, hf'.ev hy, Sem.run_bind, Instr.makeSlice, run_underlying hT.under, asInt, asIntOf, Result.andThen_ok, Sem.run_pure, typeInfo, hi, run_program, hby, h1, h2, h3, h4, h5, h6, hT.sizeOf, Int.toNat_natCast, run_askRoom, if_pos h0, newRow, run_newObj, decide_false, Bool.or_self, Bool.false_eq_true, if_false, hcells]
    rfl
  · simp only [if_neg h0] at hcells
    simp only [execOp, ho, hf'.ev hx, hf'.ev hy, Sem.run_bind, Instr.makeSlice, run_underlying hT.under, asInt, asIntOf, Result.andThen_ok, Sem.run_pure, typeInfo, hi, run_program, hby, h1, h2, h3, h4, h5, h6, hT.sizeOf, hT.zero, Int.toNat_natCast, run_askRoom, if_neg h0, newRow, run_newObj, decide_false, Bool.or_self, Bool.false_eq_true, if_false, hcells]
    rfl
 unfold Oper.wp
 rw [hr, Oper.upon_value, hd]
 exact ⟨_, _, _, k w.heap.size, hf'.put hn _, hs.alloc _ _ rfl (fun w' h _ => h)⟩
theorem rep_flat {α : Type} (c : Nat) (x : α) : (List.replicate c [x]).flatten = List.replicate c x := by
 induction c with
 | zero => rfl
 | succ c ih => simp [List.replicate_succ, ih]
theorem OpW.make1 {d : Nat} {m c : Nat} {kd kd' : IntKind} {p q : Int} {z0 : Value} (ho : o.op = .makeSlice t x y) (hT : SlT P t e 1 bytes z) (hx : ev L x = some (.int kd p)) (hy : ev L y = some (.int kd' q)) (hp : p = (m : Int)) (hq : q = (c : Int)) (hz : z.cells.toList = [z0]) (hmc : m ≤ c) (hroom : bytes * c ≤ 281474976710656) (hc63 : c ≤ 9223372036854775807) (hd : o.dst = some d) (hn : Nat.blt d n.n = true)
 (k : ∀ b, K ((d, .slice (some ⟨b, 0, none⟩) m c) :: L) R (rowC b e (List.replicate c z0) :: O)) : OpW P n o L R O K :=
 OpW.make ho hT hx hy hp hq hmc hroom hc63 hd hn (fun b => by rw [hz, rep_flat]; exact k b)
def subSl (v : Value) (size lo hi : Nat) : Value := match v with
 | .slice o _ c => .slice (if c = lo then o else o.map (·.add (lo * size))) (hi - lo) (c - lo)
 | v => v
theorem SlE.sub {w : World} (hs : ∀ x, (enc x).length = size) {lo hi : Nat} (h1 : lo ≤ hi) (h2 : hi ≤ xs.length) (h : SlE enc v xs w) : SlE enc (subSl v size lo hi) ((xs.take hi).drop lo) w := by
 obtain ⟨o', c, rfl, hc, hm, hn, ha⟩ := h
 have hl : ((xs.take hi).drop lo).length = hi - lo := by simp [Nat.min_eq_left h2]
 refine ⟨if c = lo then o' else o'.map (·.add (lo * size)), c - lo, by simp [subSl, hl], by rw [hl]; omega, Nat.le_trans (Nat.sub_le _ _) hm, ?_, ?_⟩
 · intro hno
   have : o' = none := by
    split at hno
    · exact hno
    · simpa using hno
   have := hn this
   omega
 · intro a hae
   by_cases hcl : c = lo
   · rw [if_pos hcl] at hae
     have hz : hi - lo = 0 := by omega
     rw [show (xs.take hi).drop lo = [] from List.length_eq_zero_iff.1 (by rw [hl]; exact hz)]
     exact ⟨fun h => by simp at h, fun j u hj => by simp at hj⟩
   · rw [if_neg hcl] at hae
     cases o' with
     | none => simp at hae
     | some a0 =>
       simp only [Option.map_some, Option.some.injEq] at hae
       subst hae
       obtain ⟨hsp', hcell⟩ := ha a0 rfl
       by_cases hne : 0 < xs.length
       case neg =>
        have hx : xs = [] := List.length_eq_zero_iff.1 Z.W
        subst hx
        exact ⟨fun h => by simp at h, fun j u hj => by simp at hj⟩
       have hsp := hsp' hne
       rw [add_spot hsp]
       refine ⟨fun _ => rfl, fun j u hj => ?_⟩
       have hj' : (xs.flatMap enc)[lo * size + j]? = some u := by
        have e1 : xs.flatMap enc = (xs.take lo).flatMap enc ++ ((xs.take hi).drop lo).flatMap enc ++ (xs.drop hi).flatMap enc := by
         have : xs = xs.take lo ++ (xs.take hi).drop lo ++ xs.drop hi := by
          have h3 : xs.take lo = (xs.take hi).take lo := by rw [List.take_take, Nat.min_eq_left h1]
          rw [h3, List.take_append_drop, List.take_append_drop]
         conv => lhs; rw [this]
         simp only [List.flatMap_append]
        have e2 : ((xs.take lo).flatMap enc).length = lo * size := by rw [flat_len hs]; simp [Nat.min_eq_left (Nat.le_trans h1 h2)]
        rw [e1, List.append_assoc, List.getElem?_append_right (by rw [e2]; omega), e2, show lo * size + j - lo * size = j from by omega, List.getElem?_append_left (List.getElem?_eq_some_iff.1 hj).1]
        exact hj
       have := hcell (lo * size + j) u hj'
       simpa [Nat.add_assoc] using this
theorem SlE.subl {w : World} (hs : ∀ x, (enc x).length = size) {lo : Nat} (h1 : lo ≤ xs.length) (h : SlE enc v xs w) : SlE enc (subSl v size lo xs.length) (xs.drop lo) w := by
 have := SlE.sub hs h1 (Nat.le_refl _) h
 rwa [List.take_length] at this
section cut
variable {kl kh : IntKind} {p q : Int} {lo hi m cp : Nat} {ad : Option Addr}
theorem run_cut (hT : SlT P t e size bytes z) (l' h' : Option Value) (hl : ∀ w, (match l' with | some v => Instr.sliceBound v hi .sliceB | none => pure 0 : Sem Nat).run P w = .ok lo w) (hh : ∀ w, (match h' with | some v => Instr.sliceBound v cp .sliceAcap | none => pure m : Sem Nat).run P w = .ok hi w) (w : World) :
 (Instr.sliceAt t (.slice ad m cp) l' h' none).run P w = .ok (subSl (.slice ad m cp) size lo hi) w := by
 have h1 := hl w; have h2 := hh w
 cases l' with
 | none =>
   have h3 : 0 = lo := by simpa using h1
   subst h3
   cases h' with
   | none =>
     have h4 : m = hi := by simpa using h2
     subst h4
     simp [Instr.sliceAt, run_underlying hT.under, Instr.slice, Instr.sliceBounds, hT.sizeOf, subSl]
   | some vh => simp only [] at h2; simp [Instr.sliceAt, run_underlying hT.under, Instr.slice, Instr.sliceBounds, hT.sizeOf, subSl, h2]
 | some vl =>
   simp only [] at h1
   cases h' with
   | none =>
     have h4 : m = hi := by simpa using h2
     subst h4
     simp [Instr.sliceAt, run_underlying hT.under, Instr.slice, Instr.sliceBounds, hT.sizeOf, subSl, h1]
   | some vh => simp only [] at h2; simp [Instr.sliceAt, run_underlying hT.under, Instr.slice, Instr.sliceBounds, hT.sizeOf, subSl, h1, h2]
theorem bound_ok {k : IntKind} {x : Int} {y r : Nat} {code : BoundsCode} (hx : x = (r : Int)) (hr : r ≤ y) (w : World) : (Instr.sliceBound (.int k x) y code).run P w = .ok r w := by
 subst hx
 have : (0 : Int) ≤ (r : Int) ∧ (r : Int) ≤ (y : Int) := ⟨by omega, by omega⟩
 simp [Instr.sliceBound, asIntOf, this, hr]
theorem Rd.cut_l {a : Operand} (ho : o.op = .slice t x (some a) none none) (hT : SlT P t e size bytes z) (hx : ev L x = some v) (ha : ev L a = some (.int kl p)) (hp : p = (lo : Int)) (hR : SlE enc v xs ∈ R) (h1 : lo ≤ xs.length) : Rd P o L R O (subSl v size lo xs.length) := fun ρ w hρ hr _ => by
 obtain ⟨o', c, rfl, hc, _⟩ := hr _ hR
 have h := run_cut (P := P) (m := xs.length) (cp := c) (ad := o') (lo := lo) (hi := xs.length) hT (some (.int kl p)) none (bound_ok hp h1) (fun _ => rfl) w
 simp only [execOp, ho, hρ _ _ hx, hρ _ _ ha, Option.map_some, Option.map_none, Sem.run_bind, h, Result.andThen_ok, Sem.run_pure]
theorem Rd.cut_h {b : Operand} (ho : o.op = .slice t x none (some b) none) (hT : SlT P t e size bytes z) (hx : ev L x = some v) (hb : ev L b = some (.int kh q)) (hq : q = (hi : Int)) (hR : SlE enc v xs ∈ R) (h2 : hi ≤ xs.length) : Rd P o L R O (subSl v size 0 hi) := fun ρ w hρ hr _ => by
 obtain ⟨o', c, rfl, hc, _⟩ := hr _ hR
 have h := run_cut (P := P) (m := xs.length) (cp := c) (ad := o') (lo := 0) (hi := hi) hT none (some (.int kh q)) (fun _ => rfl) (bound_ok hq (Nat.le_trans h2 hc)) w
 simp only [execOp, ho, hρ _ _ hx, hρ _ _ hb, Option.map_some, Option.map_none, Sem.run_bind, h, Result.andThen_ok, Sem.run_pure]
end cut
theorem row_SlE {b : Nat} {cells : List Value} {w : World} (hc : xs.flatMap enc = cells) {m c : Nat} (hm : xs.length = m) (hmc : m ≤ c) (hcm : c ≤ maxLen) (h : (rowC b e cells).pred w) : SlE enc (.slice (some ⟨b, 0, none⟩) m c) xs w := by
 subst hm
 refine ⟨some ⟨b, 0, none⟩, c, rfl, hmc, hcm, (fun h => by cases h), fun a ha => ?_⟩
 cases ha
 exact ⟨fun _ => rfl, fun j u hj => by rw [hc] at hj; simpa using row_cell h hj⟩
theorem acc_SlE {w : World} (h : (accC e size enc v xs).pred w) : SlE enc v xs w := by
 rcases h.2 with ⟨rfl, h0⟩ | ⟨g, cap, cur, hv, _, hg, hnc, hcm, _⟩
 · refine ⟨none, 0, by rw [h0], by rw [h0]; exact Nat.le_refl _, Nat.zero_le _, fun _ => h0, fun a ha => by cases ha⟩
 · refine ⟨some ⟨g, 0, none⟩, cap, hv, hnc, hcm, (fun h => by cases h), fun a ha => ?_⟩
   cases ha
   refine ⟨fun _ => rfl, fun j u hj => ?_⟩
   have := acc_cell h hj
   rw [hv] at this
   exact this
theorem Sat.shareA {w : World} (hT : Take (accC e size enc v xs) O O') (h : Sat R O w) : Sat (SlE enc v xs :: R) O' w := (h.perm hT.perm).share _ (fun _ h _ => acc_SlE h)
theorem Sat.shareRow {b m : Nat} {cells : List Value} {w : World} (hT : Take (rowC b e cells) O O') (hc : xs.flatMap enc = cells) (hm : xs.length = m) (hmc : m ≤ 9223372036854775807) (h : Sat R O w) : Sat (SlE enc (.slice (some ⟨b, 0, none⟩) m m) xs :: R) O' w :=
 (h.perm hT.perm).share _ (fun _ h _ => row_SlE hc hm (Nat.le_refl _) hmc h)
theorem Sat.accRow {b m : Nat} {cells : List Value} {w : World} (hT : Take (rowC b e cells) O O') (hc : xs.flatMap enc = cells) (hm : xs.length = m) (hs : ∀ x, (enc x).length = size) (hmc : m ≤ 9223372036854775807) (h : Sat R O w) : Sat R (accC e size enc (.slice (some ⟨b, 0, none⟩) m m) xs :: O') w :=
 (h.perm hT.perm).recast _ rfl (fun w hp _ => by
   subst hm; subst hc
   refine ⟨flat_len hs xs, .inr ⟨b, xs.length, _, rfl, Nat.zero_le _, hp, Nat.le_refl _, hmc, by simp [flat_len hs], by rw [← flat_len hs xs]; exact List.take_length⟩⟩)
theorem Sat.accNil {w : World} (h : Sat R O w) : Sat R (accC e size enc (.slice none 0 0) ([] : List α) :: O) w := by
 refine ⟨by simpa [owned, accC, Value.ownBlock] using h.nodup, by simpa [owned, accC, Value.ownBlock] using h.lt, fun p hp w' ha => h.ro p hp w' (by simpa [owned, accC, Value.ownBlock] using ha), fun c hc w' ha => ?_⟩
 rcases List.mem_cons.1 hc with rfl | hc
 · exact World.ownsRow_nil w' 0 e size
 · exact h.own c hc w' (by simpa [owned, accC, Value.ownBlock] using ha)
theorem Sat.nilE {w : World} (h : Sat R O w) : Sat (SlE enc (.slice none 0 0) ([] : List α) :: R) O w :=
 ⟨h.nodup, h.lt, fun p hp w' ha => by
   rcases List.mem_cons.1 hp with rfl | hp
   · exact ⟨none, 0, rfl, Nat.le_refl _, Nat.zero_le _, fun _ => rfl, fun a ha => by cases ha⟩
   · exact h.ro p hp w' ha, h.own⟩
theorem Sat.swap {c d : Own} {w : World} (h : Sat R (c :: d :: O) w) : Sat R (d :: c :: O) w := h.perm (List.Perm.swap _ _ _)
inductive CellsOf : List Value → List (List Value) → Prop
 | nil : CellsOf [] []
 | cons {v : Value} {a : Array Value} {vs : List Value} {cs : List (List Value)} (h : v.cells = a) (r : CellsOf vs cs) : CellsOf (v :: vs) (a.toList :: cs)
theorem foldl_splice (off : Nat) : ∀ (l : List Value) (k : Nat) (cells : Array Value), off + k + l.length ≤ cells.size →
 ((l.zipIdx k).foldl (fun cs (c, j) => cs.setIfInBounds (off + j) c) cells).toList = cells.toList.take (off + k) ++ l ++ cells.toList.drop (off + k + l.length)
 | [], k, cells, _ => by simp
 | v :: l, k, cells, h => by
   simp only [List.length_cons] at h
   simp only [List.zipIdx_cons, List.foldl_cons]
   rw [foldl_splice off l (k + 1) _ (by simp; omega)]
   simp only [Array.toList_setIfInBounds, List.length_cons]
   have hk : off + k < cells.toList.length := by simp; omega
   rw [show off + (k + 1) = off + k + 1 from by omega]
   rw [List.take_succ_eq_append_getElem (by simpa using hk)]
   simp only [List.getElem_set_self, List.take_set_of_le (Nat.le_refl _)]
   rw [List.drop_set_of_lt Z.W]
   simp [show off + k + 1 + l.length = off + k + (l.length + 1) from by omega]
theorem zipIdx_foldl (cells : Array Value) (off : Nat) (v : Array Value) : v.zipIdx.foldl (fun cs (c, j) => cs.setIfInBounds (off + j) c) cells = (v.toList.zipIdx 0).foldl (fun cs (c, j) => cs.setIfInBounds (off + j) c) cells := by
 rw [← Array.foldl_toList, Array.toList_zipIdx]
theorem fill_cover {size : Nat} : ∀ (vals : List Value) (css : List (List Value)) (k : Nat) (cells : Array Value), CellsOf vals css → (∀ l ∈ css, l.length = size) → (k + css.length) * size ≤ cells.size →
 ∃ r, Instr.fill (fun i => some (i * size, size)) cells ((List.range' k vals.length).zip vals) = some r ∧ r.toList = cells.toList.take (k * size) ++ css.flatten ++ cells.toList.drop ((k + css.length) * size)
 | _, _, k, cells, .nil, _, _ => ⟨cells, by simp [Instr.fill], by simp⟩
 | _, _, k, cells, .cons (v := v) (a := a) (vs := vals) (cs := css) hv r, hl, hsz => by
   have hla : a.size = size := by have := hl a.toList List.mem_cons_self; simpa using this
   simp only [List.length_cons] at hsz
   have h1 : k * size + size ≤ cells.size := by
    have : (k + 1) * size ≤ (k + (css.length + 1)) * size := Nat.mul_le_mul_right _ Z.W
    rw [Nat.add_mul, Nat.one_mul] at this; omega
   have hsp := foldl_splice (k * size) a.toList 0 cells (by simp [hla]; omega)
   obtain ⟨r', hr, hrl⟩ := fill_cover vals css (k + 1) ((a.toList.zipIdx 0).foldl (fun cs (c, j) => cs.setIfInBounds (k * size + j) c) cells) r (fun l h => hl l (List.mem_cons_of_mem _ h)) (by
    have : ((a.toList.zipIdx 0).foldl (fun cs (c, j) => cs.setIfInBounds (k * size + j) c) cells).size = cells.size := by
     rw [← Array.length_toList, hsp]; simp [hla]; omega
    rw [this]; rw [show k + 1 + css.length = k + (css.length + 1) from by omega]; exact hsz)
   refine ⟨r', ?_, ?_⟩
   · simp only [List.length_cons, List.range'_succ, List.zip_cons_cons, Instr.fill, hv, hla]
     rw [if_neg (by simp; omega), zipIdx_foldl]
     exact hr
   · rw [hrl, hsp]
     simp only [Nat.add_zero, Array.length_toList, hla, List.length_cons, List.flatten_cons]
     have e1 : (k + 1) * size = k * size + size := by rw [Nat.add_mul, Nat.one_mul]
     have e2 : (k + 1 + css.length) * size = k * size + size + css.length * size := by rw [Nat.add_mul, Nat.add_mul, Nat.one_mul]
     have e3 : (k + (css.length + 1)) * size = k * size + size + css.length * size := by rw [Nat.add_mul, Nat.add_mul, Nat.one_mul]; omega
     rw [e1, e2, e3]
     have hlen : (cells.toList.take (k * size) ++ a.toList).length = k * size + size := by simp [hla]; omega
     rw [List.take_append_of_le_length (by rw [hlen]; exact Nat.le_refl _), List.take_of_length_le (by rw [hlen]; exact Nat.le_refl _)]
     rw [List.drop_append, hlen, List.drop_eq_nil_of_le (by rw [hlen]; omega), List.nil_append, List.drop_drop]
     simp [Nat.add_sub_cancel_left]
theorem OpW.buildSl {d m : Nat} {ps : List (Nat × Operand)} {vals cells : List Value} {css : List (List Value)} (ho : o.op = .buildSlice t m ps.toArray) (hT : SlT P t e size bytes z) (hv : Evs L (ps.map (·.2)) vals) (hm : Nat.ble (m * size) 16777216 = true)
 (hi : ps.map (·.1) = List.range' 0 m) (hc : CellsOf vals css) (hl : (css.all fun l => Nat.beq l.length size) = true) (hcells : css.flatten = cells) (hd : o.dst = some d) (hn : Nat.blt d n.n = true)
 (k : ∀ b, K ((d, .slice (some ⟨b, 0, none⟩) m m) :: L) R (rowC b e cells :: O)) : OpW P n o L R O K := by
 subst hcells
 have hlen : vals.length = m := by
  have h1 : (ps.map (·.1)).length = m := by rw [hi]; simp
  have h2 : vals.length = (ps.map (·.2)).length := by
   clear hi hc ho h1
   generalize ps.map (·.2) = xs at hv
   induction hv with
   | nil => rfl
   | cons _ _ ih => simp [ih]
  rw [h2, List.length_map, ← h1, List.length_map]
 have hcl : css.length = vals.length := by
  clear hv hlen hl k
  induction hc with
  | nil => rfl
  | cons _ _ ih => simp [ih]
 have hl' : ∀ l ∈ css, l.length = size := fun l h => Nat.eq_of_beq_eq_true (List.all_eq_true.1 hl l h)
 have hzsz : ∀ zc : Array Value, ((Array.range (m * size)).map (zc[· % zc.size]!)).size = m * size := fun zc => by simp
 obtain ⟨r, hr, hrl⟩ := fill_cover vals css 0 ((Array.range (m * size)).map ((if m * size = 0 then (#[] : Array Value) else z.cells)[· % (if m * size = 0 then (#[] : Array Value) else z.cells).size]!)) hc hl' (by rw [hzsz, hcl, hlen]; simp)
 have hre : r = css.flatten.toArray := by
  apply Array.ext'
  rw [hrl]
  have : ((0 + css.length) * size) = ((Array.range (m * size)).map ((if m * size = 0 then (#[] : Array Value) else z.cells)[· % (if m * size = 0 then (#[] : Array Value) else z.cells).size]!)).toList.length := by
   simp [hcl, hlen]
  rw [this, List.drop_length]; simp
 refine OpW.buildSlice ho hT hv hm rfl ?_ hd hn k
 rw [hi, ← hre, ← hr, hlen]
def FieldPlaces (P : Program) (t : TypeId) (sizes : List (Nat × Nat)) : Prop := ∃ fields, P.underlying t = some (.struct fields) ∧ ∀ w, (fields.mapM (m := Sem) fun (f : Field) => do pure (f.offset, ← sizeOf f.type)).run P w = .ok sizes.toArray w
def spl (l : List Value) (off : Nat) (vs : List Value) : List Value := l.take off ++ vs ++ l.drop (off + vs.length)
def fillL (sizes : List (Nat × Nat)) : List Value → List Nat → List (List Value) → Option (List Value)
 | zero, i :: is, cs :: css => match sizes[i]? with
   | some (off, size) => match Nat.beq cs.length size && Nat.ble (off + cs.length) zero.length with
     | true => fillL sizes (spl zero off cs) is css
     | false => none
   | none => none
 | zero, _, _ => some zero
inductive NFo : Option (List Value) → List Value → Prop
 | mk {l l' : List Value} (h : NF l l') : NFo (some l) l'
theorem fill_of {sizes : List (Nat × Nat)} : ∀ (is : List Nat) (vals : List Value) (css : List (List Value)) (zero r : List Value), CellsOf vals css → fillL sizes zero is css = some r →
 Instr.fill (sizes.toArray[·]?) zero.toArray (is.zip vals) = some r.toArray
 | [], vals, css, zero, r, _, h => by cases css <;> simp [fillL] at h <;> simp [Instr.fill, h]
 | i :: is, _, _, zero, r, .nil, h => by simp [fillL] at h; simp [Instr.fill, h]
 | i :: is, _, _, zero, r, .cons (v := v) (a := a) (vs := vals) (cs := css) hv hr, h => by
   simp only [fillL] at h
   split at h
   · rename_i off size hs
     split at h
     · rename_i hb
       simp only [Bool.and_eq_true] at hb
       have h1 : a.toList.length = size := Nat.eq_of_beq_eq_true hb.1
       have h2 : off + a.toList.length ≤ zero.length := Nat.le_of_ble_eq_true hb.2
       have hs' : sizes.toArray[i]? = some (off, size) := by simpa using hs
       simp only [List.zip_cons_cons, Instr.fill, hs', hv]
       rw [if_neg (by simp at h1 h2 ⊢; omega), zipIdx_foldl]
       have h3 := foldl_splice off a.toList 0 zero.toArray (by simpa using h2)
       simp only [Nat.add_zero] at h3
       have h4 : (a.toList.zipIdx 0).foldl (fun cs (c, j) => cs.setIfInBounds (off + j) c) zero.toArray = (spl zero off a.toList).toArray := by
        apply Array.ext'
        rw [h3]; simp [spl]
       rw [h4]
       exact fill_of is vals css _ r hr h
     · cases h
   · cases h
theorem Rd.buildN {ps : List (Nat × Operand)} {vals : List Value} {css : List (List Value)} {i : TypeInfo} {zv : Value} {sizes : List (Nat × Nat)} {cells : List Value} (ho : o.op = .build t ps.toArray) (hP : FieldPlaces P t sizes) (hi : P.info? t = some i) (hz : i.zero = some zv)
 (hv : Evs L (ps.map (·.2)) vals) (hc : CellsOf vals css) (hf : NFo (fillL sizes zv.cells.toList (ps.map (·.1)) css) cells) : Rd P o L R O (.agg cells.toArray) := by
 obtain ⟨fields, h1, hsz⟩ := hP
 generalize hg : fillL sizes zv.cells.toList (ps.map (·.1)) css = g at hf
 cases hf with
 | mk h =>
   obtain rfl := h.eq
   exact Rd.build ho h1 hi hz hsz hv (by have := fill_of _ _ _ _ _ hc hg; simpa using this)
theorem OpW.storeS {b off : Nat} {cs ds r : List Value} {va : Array Value} (ho : o.op = .store t x y) (hG : Agg P t size) (hx : ev L x = some (.pointer (some ⟨b, off, none⟩))) (hy : ev L y = some (.agg va)) (hva : NF va.toList ds) (hT : Take (rowC b e cs) O O') (hl : ds.length = size) (hfit' : Nat.ble (off + ds.length) cs.length = true) (hr : NF (spl cs off ds) r) (hd : o.dst = none)
 (k : K L R (rowC b e r :: O')) (h1 : (ds.all Value.oneCell') = true := by rfl) : OpW P n o L R O K := by
 intro a w hf hs Q
 have hs' := hs.perm hT.perm
 have hp : (rowC b e cs).pred w := hs'.see List.mem_cons_self
 have hp' : w.heap[b]? = some (.cells cs.toArray e (0, 0)) := hp
 obtain rfl := hva.eq
 obtain rfl := hr.eq
 have hfit := Nat.le_of_ble_eq_true hfit'
 have hst := run_storeCells_at P b off e va.toList 0 cs.toArray w hp' (by simpa using hfit) (fun u hu => List.all_eq_true.1 h1 u hu)
 have hcell : (spl cs off va.toList).toArray = (cs.toArray.toList.take (off + 0) ++ va.toList ++ cs.toArray.toList.drop (off + 0 + va.toList.length)).toArray := by simp [spl]
 rw [← hcell] at hst
 have hsz : va.size = size := by simpa using hl
 have hsz2 : ∀ w, (sizeOf t).run P w = .ok va.size w := fun w => by rw [hsz]; exact hG.2 w
 have hr : (execOp a.eval o).run P w = .ok .skip (w.setRow b (spl cs off va.toList).toArray) := by
  simp only [execOp, ho, hf.ev hx, hf.ev hy, Instr.storeAt, Instr.sureAddr, storeVar, Value.cells, hsz2, Sem.run_bind, Result.andThen_ok, Sem.run_pure, Sem.run_ite, ne_eq, not_true_eq_false, if_false, hst]
 unfold Oper.wp
 rw [hr, Oper.upon_skip, hd]
 have hlt' : b < w.heap.size := hs'.lt b (by simp [owned, rowC])
 refine ⟨_, _, _, k, hf.none _, hs'.update _ ⟨rfl, rfl, rfl, by simp, fun j hj hn => setRow_other w b j _ (by simpa [rowC] using hn)⟩ (by simp [rowC]) (by simpa [rowC] using hlt') (by simp [rowC]) (fun w'' ha _ => ?_)⟩
 show w''.heap[b]? = _
 rw [ha.2.2.2.2 b (by simpa using hlt') (by simp [rowC])]
 exact setRow_heap w b cs.toArray _ e _ hp'
theorem Fun.know {f : FuncId} {args : Array Value} {post : Value → List RO → List Own → Prop} {p : RO} {φ : Prop} (hp : p ∈ R) (hφ : ∀ w, p w → φ) (h : φ → Fun P f args R O post) : Fun P f args R O post := fun w hs => h (hφ w (hs.read hp)) w hs
theorem WC.know {cd : Code} {Q : Post} {p : RO} {φ : Prop} (hp : p ∈ R) (hφ : ∀ w, p w → φ) (h : φ → WC P n cd Q L R O) : WC P n cd Q L R O := fun a w hf hs => h (hφ w (hs.read hp)) a w hf hs
theorem WC.knowO {cd : Code} {Q : Post} {cc : Own} {φ : Prop} (hp : cc ∈ O) (hφ : ∀ w, cc.pred w → φ) (h : φ → WC P n cd Q L R O) : WC P n cd Q L R O := fun a w hf hs => h (hφ w (hs.see hp)) a w hf hs
theorem SlE.oneV {w : World} (h : SlE enc v xs w) : OneV v := by
 obtain ⟨o', c, rfl, _⟩ := h; exact OneV.sl
theorem Fun.oneV {f : FuncId} {args : Array Value} {post : Value → List RO → List Own → Prop} (hp : SlE enc v xs ∈ R) (h : OneV v → Fun P f args R O post) : Fun P f args R O post := Fun.know hp (fun _ h => h.oneV) h
theorem SlE.len {w : World} (h : SlE enc v xs w) : xs.length ≤ 9223372036854775807 := by
 obtain ⟨o', c, rfl, hc, hm, _⟩ := h
 exact Nat.le_trans hc hm
theorem Fun.len {f : FuncId} {args : Array Value} {post : Value → List RO → List Own → Prop} (hp : SlE enc v xs ∈ R) (h : xs.length ≤ 9223372036854775807 → Fun P f args R O post) : Fun P f args R O post := Fun.know hp (fun _ h => h.len) h
end rules
end Go.SL
namespace Go.SL
open Go Go.RowKit Go.ChangeShapes Go.WideShapes Go.ChangeAt
section
variable {H : Type} {en : TypeId × Value → H} {P : Program} {w : World} {base : Nat} {spare : Nat → Bool} {held : Bool}
def Els {α : Type} (P : Program) (e : TypeId) (enc : α → List Value) : Prop := ∀ {H : Type} {en : TypeId × Value → H} {w : World} {base : Nat} {spare : Nat → Bool} {held : Bool} (n : Nat) (cs : List Value) (x : DataW H × List MemPlace), DataW.trod en P w base spare held n e cs = some x → ∃ a : α, cs = enc a
theorem els_int {e : TypeId} {k : IntKind} (he : P.underlying e = some (.int k)) : Els P e (one (fun n : Int => .int k n)) := fun n cs x h => by
 obtain ⟨m, rfl, _⟩ := DataW.trod_int he h
 exact ⟨m, rfl⟩
theorem mapM_get {α β : Type} {f : α → Option β} : ∀ {l : List α} {r : List β}, l.mapM f = some r → ∀ (i : Nat) (a : α), l[i]? = some a → ∃ b, r[i]? = some b ∧ f a = some b
 | [], r, h, i, a, ha => by simp at ha
 | x :: l, r, h, i, a, ha => by
   simp only [List.mapM_cons, Option.bind_eq_bind, Option.bind_eq_some_iff, Option.pure_def, Option.some.injEq] at h
   obtain ⟨b, hb, bs, hbs, rfl⟩ := h
   cases i with
   | zero => simp at ha; subst ha; exact ⟨b, by simp, hb⟩
   | succ i => simpa using mapM_get hbs i a (by simpa using ha)
end
section
variable {P : Program} {W : World}
theorem SlE.stable {α : Type} {enc : α → List Value} {v : Value} {xs : List α} (h : SlE enc v xs W) (w' : World) (ha : Agree (· ∈ owned []) W w') : SlE enc v xs w' := by
 obtain ⟨o, c, hv, h1, h2, h3, h4⟩ := h
 refine ⟨o, c, hv, h1, h2, h3, fun a hoa => ⟨(h4 a hoa).1, fun j u hj => ?_⟩⟩
 have := (h4 a hoa).2 j u hj
 rw [← this]
 exact World.cell?_of_block (ha.2.2.2.2 _ (World.block_lt_of_cell? W _ this) (by simp [owned]))
def baseRO (W : World) : RO := fun w => Below W.heap.size W w
theorem base_stable (w' : World) (ha : Agree (· ∈ owned []) W w') : baseRO W w' := ⟨ha.1, ha.2.1, ha.2.2.1, ha.2.2.2.1, fun k hk => ha.2.2.2.2 k hk (by simp [owned])⟩
inductive Lasts (W : World) : List RO → Prop
 | nil : Lasts W []
 | cons {p : RO} {R : List RO} (h : ∀ w', Agree (· ∈ owned []) W w' → p w') (r : Lasts W R) : Lasts W (p :: R)
theorem Lasts.all {R : List RO} (h : Lasts W R) : ∀ p ∈ R, ∀ w', Agree (· ∈ owned []) W w' → p w' := by
 induction h with
 | nil => exact fun p hp => by cases hp
 | cons h _ ih => intro p hp; rcases List.mem_cons.1 hp with rfl | hp; exact h; exact ih p hp
theorem law_calls {f : FuncId} {args : Array Value} {R : List RO} (hl : Lasts W R) (h : Fun P f args (baseRO W :: R) [] (fun v R' _ => v = .bool true ∧ R' = baseRO W :: R)) :
 Calls P f args W fun e w' => e = .returned (.bool true) ∧ Below W.heap.size W w' := by
 have hs : Sat (baseRO W :: R) [] W := by
  refine ⟨List.nodup_nil, fun k hk => by simp [owned] at hk, ?_, fun c hc => by cases hc⟩
  exact (Lasts.cons (fun w' ha => base_stable w' ha) hl).all
 refine (h W hs).mono ?_
 rintro e w' ⟨v, R', O', rfl, ⟨rfl, rfl⟩, hs'⟩
 exact ⟨rfl, hs'.read List.mem_cons_self⟩
end
end Go.SL
namespace Go.SL
open Go Go.RowKit Go.ChangeShapes Go.WideShapes Go.ChangeAt
section
variable {H : Type} {en : TypeId × Value → H} {P : Program} {w : World} {base : Nat} {spare : Nat → Bool} {held : Bool}
def Small (P : Program) (e : TypeId) {H : Type} (d : DataW H) : Prop := ∀ m ∈ d.weights P e, m ≤ 140737488351232
theorem small_of {ts : List TypeId} {ds : List (DataW H)} (h : (DataW.weightsEach P ts ds).all (· ≤ reachBytes) = true) {j : Nat} {t : TypeId} {d : DataW H} (ht : ts[j]? = some t) (hd : ds[j]? = some d) : Small P t d := fun n hn => by
 have h1 : n ≤ reachBytes := by simpa using List.all_eq_true.1 h _ (DataW.weights_mem_each ht hd n hn)
 exact h1
theorem weightsAll_mem {e : TypeId} : ∀ {l : List (DataW H)} {d : DataW H}, d ∈ l → ∀ n ∈ d.weights P e, n ∈ DataW.weightsAll P e l
 | x :: l, d, hd, n, hn => by
   simp only [DataW.weightsAll, List.mem_append]
   rcases List.mem_cons.1 hd with rfl | hd
   · exact .inl hn
   · exact .inr (weightsAll_mem hd n hn)
def ElsW {α : Type} (P : Program) (e : TypeId) (enc : α → List Value) (Q : World → α → Prop) : Prop := ∀ ⦃H : Type⦄ ⦃en : TypeId × Value → H⦄ ⦃w : World⦄ ⦃base : Nat⦄ ⦃spare : Nat → Bool⦄ ⦃held : Bool⦄ (n : Nat) (cs : List Value) (x : DataW H × List MemPlace), DataW.trod en P w base spare held n e cs = some x → Small P e x.1 → ∃ a : α, cs = enc a ∧ Q w a
theorem elsW_of {α : Type} {e : TypeId} {enc : α → List Value} (h : Els P e enc) : ElsW P e enc (fun _ _ => True) := fun _ _ _ _ _ _ n cs x hx _ => by
 obtain ⟨a, ha⟩ := h n cs x hx
 exact ⟨a, ha, trivial⟩
theorem open_SlEW {α : Type} {enc : α → List Value} {Q : World → α → Prop} {t e : TypeId} {size fuel : Nat} {cs : List Value} {x : DataW H × List MemPlace} (ht : P.underlying t = some (.slice e)) (hsz : P.cellsOf e = size) (hpos : 0 < size) (hel : ElsW P e enc Q) (hs : ∀ a, (enc a).length = size)
 (h : DataW.trod en P w base spare held fuel t cs = some x) (hsm : Small P t x.1) : ∃ v xs, cs = [v] ∧ SlE enc v xs w ∧ xs.length * P.bytesOf e ≤ 140737488351232 ∧ ∀ a ∈ xs, Q w a := by
 rcases Deep.open_slice ht h with ⟨rfl, _⟩ | ⟨a, len, cap, m, n, D, Pl, rfl, _, hlc, hcm, hm, rfl, hall⟩
 · exact ⟨_, [], rfl, ⟨none, 0, rfl, Nat.le_refl _, Nat.zero_le _, fun _ => rfl, fun a ha => by cases ha⟩, by simp, fun a ha => absurd ha List.not_mem_nil⟩
 · have hlm : len ≤ m := by rw [hm]; split <;> omega
   have hch : ∀ i, ∃ y : Option α, i < len → ∃ z, y = some z ∧ Q w z ∧ ∀ j u, (enc z)[j]? = some u → w.cell? ((a.add (i * size)).add j) = some u := by
    intro i
    by_cases hi : i < len
    · obtain ⟨cs', hc, htr⟩ := hall i Z.W
      obtain ⟨z, hz, hzq⟩ := hel _ _ _ htr (fun k hk => hsm k (by
       simp only [DataW.weights, ht, List.mem_cons, List.mem_append]
       exact .inr (.inl (weightsAll_mem (List.mem_map.2 ⟨i, List.mem_range.2 hi, rfl⟩) k hk))))
      refine ⟨some z, fun _ => ⟨z, rfl, hzq, fun j u hj => ?_⟩⟩
      rw [hsz] at hc
      unfold World.cells? at hc
      split at hc
      · rw [← hz] at hj
        have hjs : j < size := by
         have := (List.getElem?_eq_some_iff.1 hj).1
         rw [hz, hs] at this; exact this
        obtain ⟨b, hb, hf⟩ := mapM_get hc j j (by simp [hjs])
        rw [hj] at hb
        cases hb
        exact hf
      · cases hc
    · exact ⟨none, fun h => absurd h hi⟩
   obtain ⟨g, hg⟩ := Classical.axiomOfChoice hch
   have hmap : ∃ xs : List α, xs.length = len ∧ ∀ i z, xs[i]? = some z → i < len ∧ Q w z ∧ ∀ j u, (enc z)[j]? = some u → w.cell? ((a.add (i * size)).add j) = some u := by
    have : ∀ k, k ≤ len → ∃ xs : List α, xs.length = k ∧ ∀ i z, xs[i]? = some z → i < len ∧ Q w z ∧ ∀ j u, (enc z)[j]? = some u → w.cell? ((a.add (i * size)).add j) = some u := by
     intro k
     induction k with
     | zero => exact fun _ => ⟨[], rfl, fun i z h => by simp at h⟩
     | succ k ih =>
       intro hk
       obtain ⟨xs, hl, hx⟩ := ih Z.W
       obtain ⟨z, _, hz⟩ := hg k Z.W
       refine ⟨xs ++ [z], by simp [hl], fun i y hy => ?_⟩
       rcases Nat.lt_or_ge i k with hi | hi
       · rw [List.getElem?_append_left Z.W] at hy; exact hx i y hy
       · rw [List.getElem?_append_right Z.W, hl] at hy
         have : i - k = 0 := by
          rcases Nat.eq_zero_or_pos (i - k) with h | h
          · exact h
          · rw [List.getElem?_eq_none (by simp; omega)] at hy; cases hy
         rw [this] at hy
         simp at hy
         subst hy
         obtain rfl : i = k := by omega
         exact ⟨by omega, hz⟩
    exact this len (Nat.le_refl _)
   obtain ⟨xs, hxl, hx⟩ := hmap
   have hspot : 0 < xs.length → a.spot = none := by
    intro h0
    obtain ⟨z, hz⟩ : ∃ z, xs[0]? = some z := ⟨_, List.getElem?_eq_getElem h0⟩
    obtain ⟨_, _, hc⟩ := hx 0 z hz
    obtain ⟨u, hu⟩ : ∃ u, (enc z)[0]? = some u := ⟨_, List.getElem?_eq_getElem (by rw [hs]; exact hpos)⟩
    have := hc 0 u hu
    simp only [Nat.zero_mul, Addr.add, if_true] at this
    exact World.cell?_spot this
   refine ⟨_, xs, rfl, ⟨some a, cap, by rw [hxl], by omega, hcm, (fun h => by cases h), fun a' ha' => ?_⟩, ?_, fun z hz => ?_⟩
   rotate_left
   · have := hsm ((len + (m - len)) * P.bytesOf e) (by simp [DataW.weights, ht])
     exact Nat.le_trans (Nat.mul_le_mul_right _ Z.W) this
   · obtain ⟨i, hi, rfl⟩ := List.getElem_of_mem hz
     exact (hx i _ (List.getElem?_eq_getElem hi)).2.1
   cases ha'
   refine ⟨hspot, fun j u hj => ?_⟩
   have hjl : j < xs.length * size := by rw [← flat_len hs]; exact (List.getElem?_eq_some_iff.1 hj).1
   have hdiv : j / size < xs.length := Nat.div_lt_of_lt_mul (by rwa [Nat.mul_comm] at hjl)
   have hsp := hspot (Nat.lt_of_le_of_lt (Nat.zero_le _) hdiv)
   obtain ⟨z, hz⟩ : ∃ z, xs[j / size]? = some z := ⟨_, List.getElem?_eq_getElem hdiv⟩
   obtain ⟨_, _, hc⟩ := hx _ z hz
   have hmod : j % size < size := Nat.mod_lt _ hpos
   obtain ⟨u', hu'⟩ : ∃ u', (enc z)[j % size]? = some u' := ⟨_, List.getElem?_eq_getElem (by rw [hs]; exact hmod)⟩
   have h1 := hc _ _ hu'
   have h2 := flat_get hs xs (j / size) (j % size) z u' hz hu'
   have e : j / size * size + j % size = j := by rw [Nat.mul_comm]; exact Nat.div_add_mod j size
   rw [e, hj] at h2
   cases h2
   rw [add_spot hsp, add_spot rfl] at h1
   simp only at h1
   rw [Nat.add_assoc, e] at h1
   exact h1
end
end Go.SL
namespace Go.SL
open Go Go.MapKept
structure GoMap (κ β : Type) where
 l : List (κ × β × Nat)
 clock : Nat
 keys : (l.map (·.1)).Nodup
 born : (l.map (·.2.2)).Nodup
 lt : ∀ x ∈ l, x.2.2 < clock
namespace GoMap
variable {κ β : Type} [DecidableEq κ]
def gfind : List (κ × β × Nat) → κ → Nat → Option (Nat × β)
 | [], _, _ => none
 | x :: l, k, i => if x.1 = k then some (i, x.2.1) else gfind l k (i + 1)
theorem gfind_some : ∀ {l : List (κ × β × Nat)} {k : κ} {i j : Nat} {v : β}, gfind l k i = some (j, v) → i ≤ j ∧ ∃ b, l[j - i]? = some (k, v, b)
 | [], _, _, _, _, h => by cases h
 | x :: l, k, i, j, v, h => by
   rw [gfind] at h
   by_cases e : x.1 = k
   · rw [if_pos e] at h
     cases h
     refine ⟨Nat.le_refl _, x.2.2, ?_⟩
     rw [Nat.sub_self, ← e]; rfl
   · rw [if_neg e] at h
     obtain ⟨h1, b, h2⟩ := gfind_some h
     refine ⟨by omega, b, ?_⟩
     rw [show j - i = (j - (i + 1)) + 1 from by omega]
     exact h2
theorem gfind_none : ∀ {l : List (κ × β × Nat)} {k : κ} {i : Nat}, gfind l k i = none ↔ ∀ x ∈ l, x.1 ≠ k
 | [], _, _ => by simp [gfind]
 | x :: l, k, i => by
   rw [gfind]
   by_cases e : x.1 = k
   · simp [e]
   · rw [if_neg e, gfind_none]
     simp [e]
def get (m : GoMap κ β) (k : κ) : Option β := (gfind m.l k 0).map (·.2)
def has (m : GoMap κ β) (k : κ) : Bool := (m.get k).isSome
theorem nodup_inj {α γ : Type} {f : α → γ} : ∀ {l : List α}, (l.map f).Nodup → ∀ {x y : α}, x ∈ l → y ∈ l → f x = f y → x = y
 | [], _, x, _, hx, _, _ => by cases hx
 | a :: l, h, x, y, hx, hy, e => by
   rw [List.map_cons, List.nodup_cons] at h
   rcases List.mem_cons.1 hx with h1 | h1
   · rcases List.mem_cons.1 hy with h2 | h2
     · rw [h1, h2]
     · exact absurd (List.mem_map.2 ⟨y, h2, by rw [← e, h1]⟩) h.1
   · rcases List.mem_cons.1 hy with h2 | h2
     · exact absurd (List.mem_map.2 ⟨x, h1, by rw [e, h2]⟩) h.1
     · exact nodup_inj h.2 h1 h2 e
theorem nodup_pos {α γ : Type} {f : α → γ} : ∀ {l : List α}, (l.map f).Nodup → ∀ {i j : Nat} {x y : α}, l[i]? = some x → l[j]? = some y → f x = f y → i = j
 | [], _, i, _, x, _, hx, _, _ => by simp at hx
 | a :: l, h, i, j, x, y, hx, hy, e => by
   rw [List.map_cons, List.nodup_cons] at h
   cases i with
   | zero =>
     cases j with
     | zero => rfl
     | succ j =>
       simp only [List.getElem?_cons_zero, Option.some.injEq, List.getElem?_cons_succ] at hx hy
       exact absurd (List.mem_map.2 ⟨y, List.mem_of_getElem? hy, by rw [← e, hx]⟩) h.1
   | succ i =>
     cases j with
     | zero =>
       simp only [List.getElem?_cons_zero, Option.some.injEq, List.getElem?_cons_succ] at hx hy
       exact absurd (List.mem_map.2 ⟨x, List.mem_of_getElem? hx, by rw [e, hy]⟩) h.1
     | succ j =>
       simp only [List.getElem?_cons_succ] at hx hy
       rw [nodup_pos h.2 hx hy e]
theorem get_iff {m : GoMap κ β} {k : κ} {v : β} : m.get k = some v ↔ ∃ b, (k, v, b) ∈ m.l := by
 constructor
 · intro h
   obtain ⟨⟨j, v'⟩, h1, h2⟩ := Option.map_eq_some_iff.1 h
   simp only at h2; subst h2
   obtain ⟨_, b, hb⟩ := gfind_some h1
   exact ⟨b, List.mem_of_getElem? hb⟩
 · rintro ⟨b, hb⟩
   cases hg : gfind m.l k 0 with
   | none => exact absurd rfl (gfind_none.1 hg _ hb)
   | some q =>
     obtain ⟨j, v'⟩ := q
     obtain ⟨_, b', hb'⟩ := gfind_some hg
     have := nodup_inj m.keys hb (List.mem_of_getElem? hb') rfl
     cases this
     simp [get, hg]
theorem get_none {m : GoMap κ β} {k : κ} : m.get k = none ↔ ∀ x ∈ m.l, x.1 ≠ k := by
 rw [get, Option.map_eq_none_iff, gfind_none]
def empty : GoMap κ β := ⟨[], 0, List.nodup_nil, List.nodup_nil, fun x hx => by cases hx⟩
@[simp] theorem get_empty (k : κ) : (empty : GoMap κ β).get k = none := rfl
def setL (l : List (κ × β × Nat)) (k : κ) (v : β) : List (κ × β × Nat) := l.map fun x => if x.1 = k then (x.1, v, x.2.2) else x
theorem setL_keys (l : List (κ × β × Nat)) (k : κ) (v : β) : (setL l k v).map (·.1) = l.map (·.1) := by
 rw [setL, List.map_map]; exact List.map_congr_left fun x _ => by show (if x.1 = k then (x.1, v, x.2.2) else x).1 = x.1; split <;> rfl
theorem setL_born (l : List (κ × β × Nat)) (k : κ) (v : β) : (setL l k v).map (·.2.2) = l.map (·.2.2) := by
 rw [setL, List.map_map]; exact List.map_congr_left fun x _ => by show (if x.1 = k then (x.1, v, x.2.2) else x).2.2 = x.2.2; split <;> rfl
theorem mem_setL {l : List (κ × β × Nat)} {k k' : κ} {v v' : β} {b : Nat} : (k', v', b) ∈ setL l k v ↔ (k' ≠ k ∧ (k', v', b) ∈ l) ∨ (k' = k ∧ v' = v ∧ ∃ u, (k, u, b) ∈ l) := by
 rw [setL, List.mem_map]
 constructor
 · rintro ⟨⟨k1, v1, b1⟩, hx, e⟩
   by_cases h : k1 = k
   · simp only [h, if_true, Prod.mk.injEq] at e
     obtain ⟨rfl, rfl, rfl⟩ := e
     exact .inr ⟨rfl, rfl, v1, h ▸ hx⟩
   · simp only [h, if_false, Prod.mk.injEq] at e
     obtain ⟨rfl, rfl, rfl⟩ := e
     exact .inl ⟨h, hx⟩
 · rintro (⟨h, hx⟩ | ⟨rfl, rfl, u, hx⟩)
   · exact ⟨_, hx, by simp [h]⟩
   · exact ⟨_, hx, by simp⟩
def set (m : GoMap κ β) (k : κ) (v : β) : GoMap κ β :=
 if h : (gfind m.l k 0).isSome then
  ⟨setL m.l k v, m.clock, by rw [setL_keys]; exact m.keys, by rw [setL_born]; exact m.born, fun x hx => by
    have : x.2.2 ∈ (setL m.l k v).map (·.2.2) := List.mem_map_of_mem hx
    rw [setL_born] at this
    obtain ⟨y, hy, e⟩ := List.mem_map.1 this
    rw [← e]; exact m.lt y hy⟩
 else
  have hn : ∀ x ∈ m.l, x.1 ≠ k := gfind_none.1 (by simpa using h)
  ⟨m.l ++ [(k, v, m.clock)], m.clock + 1, by
    rw [List.map_append, List.nodup_append]
    exact ⟨m.keys, by simp, fun a ha b hb => by
     obtain ⟨x, hx, rfl⟩ := List.mem_map.1 ha
     simp only [List.map_cons, List.map_nil, List.mem_singleton] at hb
     rw [hb]; exact hn x hx⟩, by
    rw [List.map_append, List.nodup_append]
    exact ⟨m.born, by simp, fun a ha b hb => by
     obtain ⟨x, hx, rfl⟩ := List.mem_map.1 ha
     simp only [List.map_cons, List.map_nil, List.mem_singleton] at hb
     have := m.lt x hx; omega⟩, fun x hx => by
    rcases List.mem_append.1 hx with hx | hx
    · have := m.lt x hx; omega
    · simp only [List.mem_singleton] at hx; subst hx; exact Nat.lt_succ_self _⟩
theorem get_set (m : GoMap κ β) (k k' : κ) (v : β) : (m.set k v).get k' = if k' = k then some v else m.get k' := by
 by_cases h : (gfind m.l k 0).isSome
 · have el : (m.set k v).l = setL m.l k v := by rw [set, dif_pos h]
   obtain ⟨⟨j, u⟩, hj⟩ := Option.isSome_iff_exists.1 h
   obtain ⟨_, b, hb⟩ := gfind_some hj
   have hb := List.mem_of_getElem? hb
   by_cases e : k' = k
   · subst e
     rw [if_pos rfl, get_iff, el]
     exact ⟨b, mem_setL.2 (.inr ⟨rfl, rfl, u, hb⟩)⟩
   · rw [if_neg e]
     apply Option.ext
     intro a
     rw [get_iff, get_iff, el]
     constructor
     · rintro ⟨b', hb'⟩
       rcases mem_setL.1 hb' with ⟨_, h⟩ | ⟨h, _⟩
       · exact ⟨b', h⟩
       · exact absurd h e
     · rintro ⟨b', hb'⟩
       exact ⟨b', mem_setL.2 (.inl ⟨e, hb'⟩)⟩
 · have el : (m.set k v).l = m.l ++ [(k, v, m.clock)] := by rw [set, dif_neg h]
   have hn : ∀ x ∈ m.l, x.1 ≠ k := gfind_none.1 (by simpa using h)
   by_cases e : k' = k
   · subst e
     rw [if_pos rfl, get_iff, el]
     exact ⟨m.clock, by simp⟩
   · rw [if_neg e]
     apply Option.ext
     intro a
     rw [get_iff, get_iff, el]
     constructor
     · rintro ⟨b', hb'⟩
       rcases List.mem_append.1 hb' with h | h
       · exact ⟨b', h⟩
       · simp only [List.mem_singleton, Prod.mk.injEq] at h; exact absurd h.1 e
     · rintro ⟨b', hb'⟩
       exact ⟨b', List.mem_append_left _ hb'⟩
@[simp] theorem get_set_self (m : GoMap κ β) (k : κ) (v : β) : (m.set k v).get k = some v := by rw [get_set, if_pos rfl]
def del (m : GoMap κ β) (k : κ) : GoMap κ β :=
 ⟨m.l.filter (fun x => decide (x.1 ≠ k)), m.clock, m.keys.sublist (List.Sublist.map _ List.filter_sublist), m.born.sublist (List.Sublist.map _ List.filter_sublist), fun x hx => m.lt x ((List.mem_filter.1 hx).1)⟩
theorem get_del (m : GoMap κ β) (k k' : κ) : (m.del k).get k' = if k' = k then none else m.get k' := by
 by_cases e : k' = k
 · subst e
   rw [if_pos rfl, get_none]
   intro x hx
   have := (List.mem_filter.1 hx).2
   simpa using this
 · rw [if_neg e]
   apply Option.ext
   intro a
   rw [get_iff, get_iff]
   constructor
   · rintro ⟨b, hb⟩; exact ⟨b, (List.mem_filter.1 hb).1⟩
   · rintro ⟨b, hb⟩; exact ⟨b, List.mem_filter.2 ⟨hb, by simp [e]⟩⟩
def ks (m : GoMap κ β) : List κ := m.l.map (·.1)
theorem mem_ks {m : GoMap κ β} {k : κ} : k ∈ m.ks ↔ ∃ v, m.get k = some v := by
 rw [ks, List.mem_map]
 constructor
 · rintro ⟨⟨k', v, b⟩, h, rfl⟩; exact ⟨v, get_iff.2 ⟨b, h⟩⟩
 · rintro ⟨v, h⟩
   obtain ⟨b, hb⟩ := get_iff.1 h
   exact ⟨_, hb, rfl⟩
theorem set_len_le (m : GoMap κ β) (k : κ) (v : β) : (m.set k v).l.length ≤ m.l.length + 1 := by
 unfold set
 split
 · simp [setL]
 · simp
theorem set_len (m : GoMap κ β) (k : κ) (v : β) : (m.set k v).l.length = if (m.get k).isSome then m.l.length else m.l.length + 1 := by
 have e : (m.get k).isSome = (gfind m.l k 0).isSome := by rw [get, Option.isSome_map]
 rw [e]
 by_cases h : (gfind m.l k 0).isSome
 · rw [if_pos h, set, dif_pos h]; simp [setL]
 · rw [if_neg h, set, dif_neg h]; simp
end GoMap
section
variable {κ β : Type}
def ent (kenc : κ → Value) (venc : β → Value) (x : κ × β × Nat) : MapEntry := { key := kenc x.1, val := venc x.2.1, born := x.2.2 }
def mapP (kenc : κ → Value) (venc : β → Value) (b : Nat) (m : GoMap κ β) : RO := fun w => w.heap[b]? = some (.map (m.l.map (ent kenc venc)).toArray m.clock)
def mapC (kenc : κ → Value) (venc : β → Value) (b : Nat) (m : GoMap κ β) : Own := { blks := [b], pred := mapP kenc venc b m }
structure MapT (P : Program) (t kt et : TypeId) (z : Value) : Prop where
 und : P.underlying t = some (.map kt et)
 zero : ∀ w, (zeroValue et).run P w = .ok z w
theorem MapT.mk' {P : Program} {t kt et : TypeId} {z : Value} {i : TypeInfo} (hu : P.underlying t = some (.map kt et)) (hi : P.info? et = some i) (hz : i.zero = some z) : MapT P t kt et z :=
 ⟨hu, fun w => by simp [zeroValue, typeInfo, hi, hz]⟩
section rules
variable {P : Program} {n : Sz} {o : Oper} {L : Env} {R : List RO} {O O' : List Own} {K : Env → List RO → List Own → Prop} {t kt et : TypeId} {z : Value} {x : Operand} {kenc : κ → Value} {venc : β → Value} {m : GoMap κ β} {b : Nat}
theorem Rd.lenM (T : MapT P t kt et z) (ho : o.op = .call { callee := .builtin .len, args := #[x], argTypes := #[t] }) (hx : ev L x = some (.map (some b))) (hp : mapC kenc venc b m ∈ O) : Rd P o L R O (.int .i64 m.l.length) := fun ρ w hρ _ hO => by
 have h : w.heap[b]? = _ := hO _ hp
 simp [execOp, ho, resolve, invoke, builtin, hρ _ _ hx, Builtin.len_, run_underlying T.und, goInt, MapKept.run_getObj_map h, Result.andThen]
theorem Rd.lenMR (T : MapT P t kt et z) (ho : o.op = .call { callee := .builtin .len, args := #[x], argTypes := #[t] }) (hx : ev L x = some (.map (some b))) (hp : mapP kenc venc b m ∈ R) : Rd P o L R O (.int .i64 m.l.length) := fun ρ w hρ hR _ => by
 have h : w.heap[b]? = _ := hR _ hp
 simp [execOp, ho, resolve, invoke, builtin, hρ _ _ hx, Builtin.len_, run_underlying T.und, goInt, MapKept.run_getObj_map h, Result.andThen]
theorem OpW.makeMap (kenc : κ → Value) (venc : β → Value) {d : Nat} (ho : o.op = .makeMap t none) (hd : o.dst = some d) (hn : Nat.blt d n.n = true)
 (k : ∀ b, K ((d, .map (some b)) :: L) R (mapC kenc venc b GoMap.empty :: O)) : OpW P n o L R O K := by
 intro a w hf hs Q
 unfold Oper.wp
 have hr : (execOp a.eval o).run P w = .ok (.value (.map (some w.heap.size))) (w.alloc (.map #[] 0)) := by
  simp [execOp, ho, Instr.makeMap, Result.andThen]
 rw [hr, Oper.upon_value, hd]
 exact ⟨_, _, _, k _, hf.put hn _, hs.alloc _ _ rfl fun w' h _ => h⟩
theorem Sat.shareM {w : World} (hT : Take (mapC kenc venc b m) O O') (h : Sat R O w) : Sat (mapP kenc venc b m :: R) O' w := (h.perm hT.perm).share _ (fun _ h _ => h)
theorem map_put {w : World} (hs : Sat R (mapC kenc venc b m :: O) w) (m' : GoMap κ β) (hb : w.heap[b]? = some (.map (m.l.map (ent kenc venc)).toArray m.clock)) :
 Sat R (mapC kenc venc b m' :: O) { w with heap := w.heap.setIfInBounds b (.map (m'.l.map (ent kenc venc)).toArray m'.clock) } := by
 have hlt : b < w.heap.size := (Array.getElem?_eq_some_iff.1 hb).1
 refine hs.update (mapC kenc venc b m') ⟨rfl, rfl, rfl, by simp, fun k hk hn => ?_⟩ (fun k hk => .inl hk) (fun k hk => ?_) (by simp [mapC]) (fun w'' ha _ => ?_)
 · have : k ≠ b := fun e => hn (by simp [mapC, e])
   exact (heap_set hb).2 k this
 · simp only [mapC, List.mem_singleton] at hk; subst hk; simpa using hlt
 · show w''.heap[b]? = _
   rw [ha.2.2.2.2 b (by simpa using hlt) (fun h => h (by simp [mapC]))]
   exact (heap_set hb).1
end rules
end
section
variable {κ β : Type} [DecidableEq κ]
structure KeyT (P : Program) (t : TypeId) (kenc : κ → Value) : Prop where
 check : ∀ (w : World) (e : Bool) (k : κ), (Instr.checkKey e 10000 t (kenc k)).run P w = .ok () w
 same : ∀ (w : World) (k : κ), (Instr.keyThatStays (kenc k) (kenc k)).run P w = .ok (kenc k) w
 find : ∀ {γ : Type} (w : World) (venc : γ → Value) (l : List (κ × γ × Nat)) (k : κ), (Instr.findKey t (kenc k) (l.map (ent kenc venc))).run P w = .ok ((GoMap.gfind l k 0).map fun q => (q.1, venc q.2)) w
theorem findNow_of {γ : Type} {d : TypeDesc} {kenc : κ → Value} (hs : ∀ a b, Instr.sameNow d (kenc a) (kenc b) = some (decide (b = a))) (venc : γ → Value) (k : κ) : ∀ (l : List (κ × γ × Nat)) (i : Nat), Instr.findNow d (kenc k) (l.map (ent kenc venc)) i = some ((GoMap.gfind l k i).map fun q => (q.1, venc q.2))
 | [], _ => rfl
 | x :: l, i => by
   rw [List.map_cons, Instr.findNow, GoMap.gfind]
   rw [show (ent kenc venc x).key = kenc x.1 from rfl, hs k x.1]
   by_cases e : x.1 = k
   · simp only [e, decide_true, if_true, Option.map_some]; rfl
   · simp only [e, decide_false, if_false]
     exact findNow_of hs venc k l (i + 1)
theorem KeyT.of {P : Program} {t : TypeId} {d : TypeDesc} {kenc : κ → Value} (hd : P.underlying t = some d) (hk : ∀ k, IsKey d (kenc k)) (hs : ∀ a b, Instr.sameNow d (kenc a) (kenc b) = some (decide (b = a))) : KeyT P t kenc :=
 ⟨fun _ e k => run_checkKey hd (hk k) e 9999, fun _ k => run_keyThatStays (hk k), fun _ venc l k => run_findKey hd (findNow_of hs venc k l 0)⟩
theorem bytes_beq_list (a b : List UInt8) : ((⟨a.toArray⟩ : ByteArray) == ⟨b.toArray⟩) = decide (b = a) := by
 rw [Bool.eq_iff_iff, bytes_beq, decide_eq_true_eq]
 constructor
 · intro h; have := congrArg (fun x : ByteArray => x.data.toList) h; simpa using this.symm
 · rintro rfl; rfl
theorem KeyT.string {P : Program} {t : TypeId} (hd : P.underlying t = some .string) : KeyT P t vs :=
 KeyT.of hd (fun _ => trivial) (fun a b => by simp only [vs, Instr.sameNow, bytes_beq_list])
theorem KeyT.int {P : Program} {t : TypeId} {kd : IntKind} (hd : P.underlying t = some (.int kd)) : KeyT P t (fun n : Int => .int kd n) :=
 KeyT.of hd (fun k => by simp [IsKey]) (fun a b => by
  simp only [Instr.sameNow, if_true, Option.some.injEq]
  rw [Bool.eq_iff_iff, beq_iff_eq, decide_eq_true_eq]; exact eq_comm)
abbrev vbl (b : Bool) : Value := .bool b
section rules
variable {P : Program} {n : Sz} {o : Oper} {L : Env} {R : List RO} {O O' : List Own} {K : Env → List RO → List Own → Prop} {t kt et : TypeId} {z : Value} {x y u : Operand} {kenc : κ → Value} {venc : β → Value} {m : GoMap κ β} {b : Nat} {k : κ} {kv : Value}
theorem run_lookup (T : MapT P t kt et z) (KT : KeyT P kt kenc) {w : World} (h : mapP kenc venc b m w) (c : Bool) : (Instr.lookup t (.map (some b)) (kenc k) c).run P w = .ok (if c then .tuple #[((m.get k).map venc).getD z, .bool (m.get k).isSome] else ((m.get k).map venc).getD z) w := by
 unfold mapP at h
 have hf := KT.find w venc m.l k
 have hc := KT.check w (m.l.map (ent kenc venc)).toArray.isEmpty k
 cases hg : GoMap.gfind m.l k 0 with
 | none =>
   rw [hg] at hf
   simp only [Option.map_none] at hf
   simp only [Instr.lookup, Sem.run_bind, run_underlying T.und, Result.andThen_ok, MapKept.run_getObj_map h, Sem.run_pure, hc, hf, T.zero, GoMap.get, hg, Option.map_none, Option.getD_none, Option.isSome_none]
 | some q =>
   rw [hg] at hf
   simp only [Option.map_some] at hf
   simp only [Instr.lookup, Sem.run_bind, run_underlying T.und, Result.andThen_ok, MapKept.run_getObj_map h, Sem.run_pure, hc, hf, GoMap.get, hg, Option.map_some, Option.getD_some, Option.isSome_some]
theorem exec_lookup {c : Bool} (ho : o.op = .lookup t x y c) (ρ : Operand → Value) (w : World) : (execOp ρ o).run P w = ((Instr.lookup t (ρ x) (ρ y) c).run P w).andThen fun v w => .ok (.value v) w := by
 simp [execOp, ho]
theorem Rd.lookup (T : MapT P t kt et z) (KT : KeyT P kt kenc) (ho : o.op = .lookup t x y false) (hx : ev L x = some (.map (some b))) (hy : ev L y = some kv) (hp : mapC kenc venc b m ∈ O) (hk : kenc k = kv) : Rd P o L R O (((m.get k).map venc).getD z) := fun ρ w hρ _ hO => by
 rw [exec_lookup ho, hρ _ _ hx, hρ _ _ hy, ← hk, run_lookup T KT (hO _ hp)]; rfl
theorem Rd.lookupR (T : MapT P t kt et z) (KT : KeyT P kt kenc) (ho : o.op = .lookup t x y false) (hx : ev L x = some (.map (some b))) (hy : ev L y = some kv) (hp : mapP kenc venc b m ∈ R) (hk : kenc k = kv) : Rd P o L R O (((m.get k).map venc).getD z) := fun ρ w hρ hR _ => by
 rw [exec_lookup ho, hρ _ _ hx, hρ _ _ hy, ← hk, run_lookup T KT (hR _ hp)]; rfl
theorem Rd.lookup2 (T : MapT P t kt et z) (KT : KeyT P kt kenc) (ho : o.op = .lookup t x y true) (hx : ev L x = some (.map (some b))) (hy : ev L y = some kv) (hp : mapC kenc venc b m ∈ O) (hk : kenc k = kv) : Rd P o L R O (.tuple #[((m.get k).map venc).getD z, .bool (m.get k).isSome]) := fun ρ w hρ _ hO => by
 rw [exec_lookup ho, hρ _ _ hx, hρ _ _ hy, ← hk, run_lookup T KT (hO _ hp)]; rfl
theorem Rd.lookup2R (T : MapT P t kt et z) (KT : KeyT P kt kenc) (ho : o.op = .lookup t x y true) (hx : ev L x = some (.map (some b))) (hy : ev L y = some kv) (hp : mapP kenc venc b m ∈ R) (hk : kenc k = kv) : Rd P o L R O (.tuple #[((m.get k).map venc).getD z, .bool (m.get k).isSome]) := fun ρ w hρ hR _ => by
 rw [exec_lookup ho, hρ _ _ hx, hρ _ _ hy, ← hk, run_lookup T KT (hR _ hp)]; rfl
theorem setL_modify {l : List (κ × β × Nat)} (hk : (l.map (·.1)).Nodup) {j : Nat} {u v : β} {s : Nat} (hj : l[j]? = some (k, u, s)) :
 (l.map (ent kenc venc)).modify j (fun e => { e with key := kenc k, val := venc v }) = (GoMap.setL l k v).map (ent kenc venc) := by
 apply List.ext_getElem?
 intro i
 rw [List.getElem?_modify, GoMap.setL, List.map_map, List.getElem?_map, List.getElem?_map]
 cases hi : l[i]? with
 | none => rfl
 | some q =>
   by_cases e : j = i
   · subst e
     rw [hj] at hi
     cases hi
     simp [ent]
   · have hne : q.1 ≠ k := by
      intro h
      exact e (GoMap.nodup_pos hk hj hi h.symm)
     simp [e, hne]
theorem run_update (T : MapT P t kt et z) (KT : KeyT P kt kenc) {w : World} (h : mapP kenc venc b m w) (v : β) : (Instr.mapUpdate t (.map (some b)) (kenc k) (venc v)).run P w = .ok () { w with heap := w.heap.setIfInBounds b (.map ((m.set k v).l.map (ent kenc venc)).toArray (m.set k v).clock) } := by
 unfold mapP at h
 have hf := KT.find w venc m.l k
 have hc := KT.check w false k
 cases hg : GoMap.gfind m.l k 0 with
 | none =>
   rw [hg] at hf
   simp only [Option.map_none] at hf
   simp only [Instr.mapUpdate, Sem.run_bind, run_underlying T.und, Result.andThen_ok, MapKept.run_getObj_map h, hc, hf, run_setObj_map _ h]
   have e1 : (m.set k v).l = m.l ++ [(k, v, m.clock)] := by rw [GoMap.set, dif_neg (by rw [hg]; simp)]
   have e2 : (m.set k v).clock = m.clock + 1 := by rw [GoMap.set, dif_neg (by rw [hg]; simp)]
   rw [e1, e2, List.map_append]
   simp [ent]
 | some q =>
   obtain ⟨j, u⟩ := q
   obtain ⟨_, s, hj⟩ := GoMap.gfind_some hg
   rw [Nat.sub_zero] at hj
   rw [hg] at hf
   simp only [Option.map_some] at hf
   have hold : (((m.l.map (ent kenc venc)).toArray[j]?).map (·.key)).getD (kenc k) = kenc k := by
    rw [List.getElem?_toArray, List.getElem?_map, hj]; rfl
   simp only [Instr.mapUpdate, Sem.run_bind, run_underlying T.und, Result.andThen_ok, MapKept.run_getObj_map h, hc, hf, hold, KT.same, run_setObj_map _ h]
   have e1 : (m.set k v).l = GoMap.setL m.l k v := by rw [GoMap.set, dif_pos (by rw [hg]; simp)]
   have e2 : (m.set k v).clock = m.clock := by rw [GoMap.set, dif_pos (by rw [hg]; simp)]
   rw [e1, e2, ← setL_modify m.keys hj, List.modify_toArray]
theorem OpW.mapUpdate {v : β} {vv : Value} (T : MapT P t kt et z) (KT : KeyT P kt kenc) (ho : o.op = .mapUpdate t x y u) (hx : ev L x = some (.map (some b))) (hy : ev L y = some kv) (hu : ev L u = some vv) (hT : Take (mapC kenc venc b m) O O') (hk : kenc k = kv) (hv : venc v = vv) (hd : o.dst = none)
 (c : K L R (mapC kenc venc b (m.set k v) :: O')) : OpW P n o L R O K := by
 intro a w hf hs Q
 have hs' := hs.perm hT.perm
 have hp : mapP kenc venc b m w := hs'.see List.mem_cons_self
 unfold Oper.wp
 have hr : (execOp a.eval o).run P w = .ok .skip { w with heap := w.heap.setIfInBounds b (.map ((m.set k v).l.map (ent kenc venc)).toArray (m.set k v).clock) } := by
  simp only [execOp, ho, Sem.run_bind, hf.ev hx, hf.ev hy, hf.ev hu, ← hk, ← hv, run_update T KT hp, Result.andThen_ok, Sem.run_pure]
 rw [hr, Oper.upon_skip, hd]
 exact ⟨_, _, _, c, hf.none _, map_put hs' _ hp⟩
theorem eraseIdx_filter {l : List (κ × β × Nat)} (hk : (l.map (·.1)).Nodup) {j : Nat} {u : β} {s : Nat} (hj : l[j]? = some (k, u, s)) : l.eraseIdx j = l.filter (fun x => decide (x.1 ≠ k)) := by
 induction l generalizing j with
 | nil => simp at hj
 | cons x l ih =>
   rw [List.map_cons, List.nodup_cons] at hk
   cases j with
   | zero =>
     simp only [List.getElem?_cons_zero, Option.some.injEq] at hj
     subst hj
     rw [List.eraseIdx_cons_zero, List.filter_cons_of_neg (by simp)]
     symm
     rw [List.filter_eq_self]
     intro y hy
     simp only [decide_eq_true_eq]
     intro e
     exact hk.1 (List.mem_map.2 ⟨y, hy, e⟩)
   | succ j =>
     simp only [List.getElem?_cons_succ] at hj
     have hne : x.1 ≠ k := by
      intro e
      have : k ∈ l.map (·.1) := List.mem_map.2 ⟨_, List.mem_of_getElem? hj, rfl⟩
      exact hk.1 (e ▸ this)
     rw [List.eraseIdx_cons_succ, List.filter_cons_of_pos (by simpa using hne), ih hk.2 hj]
theorem erase_map {α γ : Type} (f : α → γ) : ∀ (l : List α) (j : Nat), (l.map f).eraseIdx j = (l.eraseIdx j).map f
 | [], j => by simp
 | a :: l, 0 => rfl
 | a :: l, j + 1 => by rw [List.map_cons, List.eraseIdx_cons_succ, List.eraseIdx_cons_succ, List.map_cons, erase_map f l j]
theorem run_delete (T : MapT P t kt et z) (KT : KeyT P kt kenc) {w : World} (h : mapP kenc venc b m w) (t' ty : TypeId) : (Builtin.delete_ #[t, t'] ty #[.map (some b), kenc k]).run P w = .ok (.tuple #[]) { w with heap := w.heap.setIfInBounds b (.map ((m.del k).l.map (ent kenc venc)).toArray (m.del k).clock) } := by
 unfold mapP at h
 have hf := KT.find w venc m.l k
 have hc := KT.check w (m.l.map (ent kenc venc)).toArray.isEmpty k
 cases hg : GoMap.gfind m.l k 0 with
 | none =>
   rw [hg] at hf
   simp only [Option.map_none] at hf
   have e1 : (m.del k).l = m.l := by
    show m.l.filter _ = m.l
    rw [List.filter_eq_self]
    intro x hx
    simpa using GoMap.gfind_none.1 hg x hx
   have e2 : (m.del k).clock = m.clock := rfl
   rw [e1, e2]
   simp only [Builtin.delete_, Sem.run_bind, List.getElem?_toArray, List.getElem?_cons_zero, List.getElem?_cons_succ, run_underlying T.und, Result.andThen_ok, MapKept.run_getObj_map h, hc, hf, run_setObj_map _ h, Sem.run_pure]
 | some q =>
   obtain ⟨j, u⟩ := q
   obtain ⟨_, s, hj⟩ := GoMap.gfind_some hg
   rw [Nat.sub_zero] at hj
   rw [hg] at hf
   simp only [Option.map_some] at hf
   have e1 : (m.del k).l = m.l.eraseIdx j := (eraseIdx_filter m.keys hj).symm
   have e2 : (m.del k).clock = m.clock := rfl
   have e3 : (m.l.map (ent kenc venc)).toArray.eraseIdxIfInBounds j = ((m.l.eraseIdx j).map (ent kenc venc)).toArray := by
    have hlt := (List.getElem?_eq_some_iff.1 hj).1
    rw [Array.eraseIdxIfInBounds_eq, dif_pos (by simpa using hlt), List.eraseIdx_toArray, erase_map]
   rw [e1, e2, ← e3]
   simp only [Builtin.delete_, Sem.run_bind, List.getElem?_toArray, List.getElem?_cons_zero, List.getElem?_cons_succ, run_underlying T.und, Result.andThen_ok, MapKept.run_getObj_map h, hc, hf, run_setObj_map _ h, Sem.run_pure]
end rules
end
end Go.SL
namespace Go.SL
open Go
structure ArT (P : Program) (t : TypeId) (n : Nat) (e : TypeId) (size : Nat) : Prop where
 und : P.underlying t = some (.array n e)
 sz : ∀ w, (Go.sizeOf e).run P w = .ok size w
def garr (g : Nat) (cells : List Value) : RO := fun w => ∀ (j : Nat) (u : Value), cells[j]? = some u → w.cell? ⟨g, j, none⟩ = some u
theorem garr_stable {W : World} {g : Nat} {cells : List Value} (h : garr g cells W) (w' : World) (ha : Agree (· ∈ owned []) W w') : garr g cells w' := fun j u hj => by
 have := h j u hj
 rw [← this]
 exact World.cell?_of_block (ha.2.2.2.2 _ (World.block_lt_of_cell? W _ this) (by simp [owned]))
theorem garr_tab {P : Program} {W : World} {name : String} {k : IntKind} {zs : List Int} {g : Nat} (h : Lib.TabIs P W name k zs) (hg : P.globalNamed name = some g) : garr g (zs.map fun z => .int k z) W := fun j u hj => by
 have hl := (List.getElem?_eq_some_iff.1 hj).1
 rw [List.length_map] at hl
 rw [h.cell hg j hl]
 rw [List.getElem?_map, List.getElem?_eq_getElem hl] at hj
 rw [List.getD_eq_getElem?_getD, List.getElem?_eq_getElem hl]
 exact hj
section rules
variable {P : Program} {o : Oper} {L : Env} {R : List RO} {O : List Own} {t e : TypeId} {n size : Nat} {x y : Operand} {v u : Value} {b off : Nat}
theorem Rd.idxArr {kd : IntKind} {k r : Nat} {p : Int} (ho : o.op = .indexAddr t x y) (hT : ArT P t n e size) (hx : ev L x = some (.pointer (some ⟨b, off, none⟩))) (hy : ev L y = some (.int kd p)) (hk : p = (k : Int)) (hlt : k < n) (hr : off + k * size = r) : Rd P o L R O (.pointer (some ⟨b, r, none⟩)) := fun ρ w hρ _ _ => by
 subst hk; subst hr
 have h1 : (0 : Int) ≤ (k : Int) ∧ (k : Int) < (n : Int) := ⟨by omega, by omega⟩
 simp [execOp, ho, hρ _ _ hx, hρ _ _ hy, Instr.indexAt, asIntOf, run_underlying hT.und, Instr.sureAddr, h1, hlt, hT.sz, add_spot, Result.andThen]
theorem Rd.idxArr1 {kd : IntKind} {k : Nat} {p : Int} (ho : o.op = .indexAddr t x y) (hT : ArT P t n e 1) (hx : ev L x = some (.pointer (some ⟨b, 0, none⟩))) (hy : ev L y = some (.int kd p)) (hk : p = (k : Int)) (hlt : k < n) : Rd P o L R O (.pointer (some ⟨b, k, none⟩)) :=
 Rd.idxArr ho hT hx hy hk hlt (by rw [Nat.mul_one, Nat.zero_add])
theorem Rd.getGl {cells : List Value} (ho : o.op = .load t x) (hc : Cell1 P t) (hx : ev L x = some (.pointer (some ⟨b, off, none⟩))) (hp : garr b cells ∈ R) (hk : cells[off]? = some u) : Rd P o L R O u := fun ρ w hρ hR _ => by
 have h := run_load1 (P := P) hc (hR _ hp off u hk)
 simp only [execOp, ho, hρ _ _ hx, Sem.run_bind, h, Result.andThen_ok, Sem.run_pure]
theorem Rd.bnotU {k : IntKind} {p : Int} {a : Nat} (ho : o.op = .unOp .xor t x) (hx : ev L x = some (.int k p)) (hs : k.signed = false) (hp : p = (a : Int)) (ha : a < 2 ^ k.bits) (hm : k.max = ((2 ^ k.bits - 1 : Nat) : Int)) : Rd P o L R O (.int k ((2 ^ k.bits - 1 - a : Nat) : Int)) := fun ρ w hρ _ _ => by
 have hpos : 0 < 2 ^ k.bits := Nat.pow_pos (by decide)
 have h1 := ofInt_toNat (n := k.bits) (a := 2 ^ k.bits - 1) Z.W
 have h2 := ofInt_toNat (n := k.bits) (a := a) ha
 have h3 := wrap_natU (k := k) (a := 2 ^ k.bits - 1 - a) hs Z.W
 have h4 : (2 ^ k.bits - 1) ^^^ a = 2 ^ k.bits - 1 - a := by
  have := congrArg BitVec.toNat (BitVec.allOnes_xor (x := BitVec.ofNat k.bits a))
  rw [BitVec.toNat_xor, BitVec.toNat_allOnes, BitVec.toNat_not, BitVec.toNat_ofNat, Nat.mod_eq_of_lt ha] at this
  exact this
 have e1 : (BitVec.ofInt k.bits (((2 ^ k.bits - 1 : Nat) : Int)) ^^^ BitVec.ofInt k.bits (a : Int)).toNat = 2 ^ k.bits - 1 - a := by
  rw [BitVec.toNat_xor, h1, h2, h4]
 have e : (Op.unary .xor (.int k p)).run P w = .ok (.int k ((2 ^ k.bits - 1 - a : Nat) : Int)) w := by
  subst hp
  simp only [Op.unary, hs, Bool.false_eq_true, if_false, hm]
  show Result.ok (Value.int k (k.wrap ((BitVec.ofInt k.bits (((2 ^ k.bits - 1 : Nat) : Int)) ^^^ BitVec.ofInt k.bits (a : Int)).toNat : Nat))) w = _
  rw [e1, h3]
 simp only [execOp, ho, hρ _ _ hx, Sem.run_bind, e, Result.andThen_ok, Sem.run_pure]
end rules
end Go.SL
namespace Go.SL
open Go Go.RowKit
abbrev vy (b : UInt8) : Value := .int .u8 (b.toNat : Int)
section bytes
variable {P : Program} {n : Sz} {o : Oper} {L : Env} {R : List RO} {O O' : List Own} {K : Env → List RO → List Own → Prop} {x y : Operand} {v u : Value} {t t' e tx : TypeId} {bs xs ys : List UInt8} {bytes : Nat} {z : Value}
theorem fold_push : ∀ (bs : List UInt8) (s : ByteArray), (bs.map fun b => (b.toNat : Int)).foldl (fun r n => r.push (UInt8.ofNat n.toNat)) s = ⟨s.data ++ bs.toArray⟩
 | [], s => by cases s; simp
 | b :: bs, s => by
   simp only [List.map_cons, List.foldl_cons]
   rw [fold_push bs]
   simp [ByteArray.push]
theorem run_strOf {w : World} (h : SlE (one vy) v bs w) : (Conv.bytesToString v).run P w = .ok (vs bs) w := by
 obtain ⟨o, c, rfl, h1, h2, h3, h4⟩ := h
 cases o with
 | none =>
   have h0 := List.length_eq_zero_iff.1 (h3 rfl)
   subst h0; rfl
 | some a =>
   obtain ⟨hs, hc⟩ := h4 a rfl
   have hl : (loadCells a bs.length).run P w = .ok (((bs.map fun b => (b.toNat : Int)).map (Value.int .u8)).toArray) w := by
    cases bs with
    | nil => rfl
    | cons b r =>
      have := run_loadCellsFrom (P := P) (hs (by simp)) (b :: r).length 0 ((b :: r).map vy) #[] (by simp) (fun j u hj => by
       have h5 := hc j u (by rw [flat_one]; exact hj)
       simpa using h5)
      simpa [loadCells, Function.comp_def] using this
   rw [run_bytesToString w a bs.length c _ hl, fold_push]
   simp
theorem Rd.strOf (ho : o.op = .convert t t' x) (h1 : P.underlying t = some (.slice e)) (h2 : P.underlying t' = some .string) (h3 : P.underlying e = some (.int .u8)) (hx : ev L x = some v)
 (hs : ∀ w, (∀ p ∈ R, p w) → (∀ c ∈ O, c.pred w) → SlE (one vy) v bs w) : Rd P o L R O (vs bs) := fun ρ w hρ hR hO => by
 have hS := hs w hR hO
 have hr := run_strOf (P := P) hS
 obtain ⟨a, c, rfl, _⟩ := hS
 simp only [execOp, ho, hρ _ _ hx, convert, Sem.run_bind, run_underlying h1, run_underlying h2, run_underlying h3, Result.andThen_ok, hr, Sem.run_pure]
theorem Rd.strOfA {e' : TypeId} (ho : o.op = .convert t t' x) (h1 : P.underlying t = some (.slice e)) (h2 : P.underlying t' = some .string) (h3 : P.underlying e = some (.int .u8)) (hx : ev L x = some v) (hp : accC e' 1 (one vy) v bs ∈ O) : Rd P o L R O (vs bs) :=
 Rd.strOf ho h1 h2 h3 hx fun _ _ hO => acc_SlE (hO _ hp)
theorem Rd.strOfR {b m : Nat} {e' : TypeId} {cs : List Value} (ho : o.op = .convert t t' x) (h1 : P.underlying t = some (.slice e)) (h2 : P.underlying t' = some .string) (h3 : P.underlying e = some (.int .u8)) (hx : ev L x = some (.slice (some ⟨b, 0, none⟩) m m)) (hp : rowC b e' cs ∈ O) (hc : bs.map vy = cs) (hm : bs.length = m) (hmc : m ≤ 9223372036854775807) : Rd P o L R O (vs bs) :=
 Rd.strOf ho h1 h2 h3 hx fun _ _ hO => row_SlE (by rw [flat_one]; exact hc) hm (Nat.le_refl _) hmc (hO _ hp)
theorem byteCells_list (ys : List UInt8) : byteCells ⟨ys.toArray⟩ = ys.flatMap (one vy) := by
 rw [flat_one]; simp [byteCells]
theorem OpW.appendStr {d : Nat} (ho : o.op = .call { callee := .builtin .append, args := #[x, y], argTypes := #[t, tx] }) (hT : SlT P t e 1 bytes z) (hk : P.underlying tx = some .string) (hx : ev L x = some v) (hy : ev L y = some (vs ys))
 (hO : Take (accC e 1 (one vy) v xs) O O') (hroom : Room (xs.length + ys.length) bytes) (hd : o.dst = some d) (hn : Nat.blt d n.n = true)
 (k : ∀ v', OneV v' → K ((d, v') :: L) R (accC e 1 (one vy) v' (xs ++ ys) :: O')) : OpW P n o L R O K :=
 OpW.append ho hT hx hy hO (fun w _ _ => by
  have h := Src.ofString w hk (⟨ys.toArray⟩ : ByteArray) (P := P)
  rw [byteCells_list] at h
  exact h) hroom hd hn k
theorem Rd.nilc {a : Addr} (ho : o.op = .nilCheck x) (hx : ev L x = some (.pointer (some a))) : Rd P o L R O (.pointer (some a)) := fun ρ w hρ _ _ => by
 simp [execOp, ho, hρ _ _ hx]
theorem run_pbin {op : BinOp} {p q : Option Addr} (ho : o.op = .binOp op t x y t') (hx : ev L x = some (.pointer p)) (hy : ev L y = some (.pointer q)) {r : Value} (h : ∀ w, (∀ p ∈ R, p w) → (∀ c ∈ O, c.pred w) → (binOp op t (.pointer p) (.pointer q)).run P w = .ok r w) : Rd P o L R O r := fun ρ w hρ hR hO => by
 have e : (eqGuard op t x y (.pointer p) (.pointer q)).run P w = .ok () w := by
  unfold eqGuard
  split <;> rfl
 simp only [execOp, ho, hρ _ _ hx, hρ _ _ hy, Sem.run_bind, e, Result.andThen_ok, h w hR hO, Sem.run_pure]
theorem Rd.peq_nn {te : TypeId} (ho : o.op = .binOp .eql t x y t') (hT : P.underlying t = some (.pointer te)) (hx : ev L x = some (.pointer none)) (hy : ev L y = some (.pointer none)) : Rd P o L R O (.bool true) :=
 run_pbin ho hx hy fun w _ _ => by
  have h : ∀ d : Nat, (Op.equalIn (d + 1) t (.pointer none) (.pointer none)).run P w = .ok true w := fun d => by
   simp [Op.equalIn, run_underlying hT]
  simp only [binOp]
  simp [Op.equal, Op.maxDepth, h 9999]
theorem Rd.peq_sn {te : TypeId} {a : Addr} (ho : o.op = .binOp .eql t x y t') (hT : P.underlying t = some (.pointer te)) (hx : ev L x = some (.pointer (some a))) (hy : ev L y = some (.pointer none)) : Rd P o L R O (.bool false) :=
 run_pbin ho hx hy fun w _ _ => by
  have h : ∀ d : Nat, (Op.equalIn (d + 1) t (.pointer (some a)) (.pointer none)).run P w = .ok false w := fun d => by
   simp [Op.equalIn, run_underlying hT]
  simp only [binOp]
  simp [Op.equal, Op.maxDepth, h 9999]
theorem Rd.pneq_self {te : TypeId} {j : TypeInfo} {a : Addr} (ho : o.op = .binOp .neq t x y t') (hT : P.underlying t = some (.pointer te)) (hj : P.info? te = some j) (hx : ev L x = some (.pointer (some a))) (hy : ev L y = some (.pointer (some a))) : Rd P o L R O (.bool false) :=
 run_pbin ho hx hy fun w _ _ => Lib.run_neq_ptr_same w a hT hj
theorem Rd.toUnsafe {b off : Nat} {e' te : TypeId} {j : TypeInfo} {cs : List Value} (ho : o.op = .convert t t' x) (h1 : P.underlying t = some (.pointer te)) (h2 : P.underlying t' = some .unsafePointer) (hj : P.info? te = some j) (hj0 : j.size ≠ 0)
 (hx : ev L x = some (.pointer (some ⟨b, off, none⟩))) (hp : rowC b e' cs ∈ O) (hoff : off < cs.length) : Rd P o L R O (.pointer (some ⟨b, off, none⟩)) := fun ρ w hρ _ hO => by
 have hb : w.heap[b]? = some (.cells cs.toArray e' (0, 0)) := hO _ hp
 have hr := Lib.run_to_unsafe (P := P) w (e := e') (cells := cs.length) ⟨b, off, none⟩ h1 h2 hj hj0 (by simp [World.shape?, hb]) hoff
 simp only [execOp, ho, hρ _ _ hx, Sem.run_bind, hr, Result.andThen_ok, Sem.run_pure]
theorem Rd.ofUnsafe {b off : Nat} {e' te : TypeId} {j : TypeInfo} {cs : List Value} (ho : o.op = .convert t t' x) (h1 : P.underlying t = some .unsafePointer) (h2 : P.underlying t' = some (.pointer te)) (hj : P.info? te = some j)
 (hx : ev L x = some (.pointer (some ⟨b, off, none⟩))) (hp : rowC b e' cs ∈ O) (hl : liesAt P P.depth e' (cs.length / P.cellsOf e') off te 1 = true) : Rd P o L R O (.pointer (some ⟨b, off, none⟩)) := fun ρ w hρ _ hO => by
 have hb : w.heap[b]? = some (.cells cs.toArray e' (0, 0)) := hO _ hp
 have hr := Lib.run_from_unsafe (P := P) w (e := e') (cells := cs.length) ⟨b, off, none⟩ h1 h2 hj (by simp [World.shape?, hb]) hl
 simp only [execOp, ho, hρ _ _ hx, Sem.run_bind, hr, Result.andThen_ok, Sem.run_pure]
theorem Rd.extern {f : FuncId} {fn : Func} {ef : Array Value → Sem Value} {xs : List Operand} {azs : List Value} {ts : Array TypeId} {r : Value} (ho : o.op = .call { callee := .value x, args := xs.toArray, argTypes := ts })
 (hx : ev L x = some (.func (.func f) #[] #[])) (has : Evs L xs azs) (hf : P.funcs[f]? = some fn) (hname : (fn.name == "runtime.NumGoroutine") = false) (hb : fn.body.isNone = true) (hn : Extern.findNext fn = none) (he : Extern.find fn = some ef)
 (hr : ∀ w, (ef azs.toArray).run P w = .ok r w) : Rd P o L R O r := fun ρ w hρ _ _ => by
 have e2 := has.eval (ρ := ρ) hρ
 have e3 := run_callFunc_extern hf hname hb hn he azs.toArray w
 rw [hr, Result.andThen_ok] at e3
 simp [execOp, ho, resolve, hρ _ _ hx, Deferred.ofValue, List.map_toArray, e2, invoke, e3]
theorem OpW.sliceData {α : Type} {enc : α → List Value} {l : List α} {d size : Nat} {te : TypeId} {ts : Array TypeId} (ho : o.op = .call { callee := .builtin .unsafeSliceData, args := #[x], argTypes := ts }) (hT : P.underlying o.type = some (.pointer te)) (hx : ev L x = some v) (hp : accC e size enc v l ∈ O) (hd : o.dst = some d) (hn : Nat.blt d n.n = true)
 (k : ∀ q, (l ≠ [] → q = some (elemAddr v 0)) → K ((d, .pointer q) :: L) R O) : OpW P n o L R O K := by
 intro a w hf hs Q
 have hown := hs.see hp
 unfold Oper.wp
 rcases hown.2 with ⟨rfl, h0⟩ | ⟨g, cap, cur, rfl, _, hg, hnc, hcm, _⟩
 · have hr : (execOp a.eval o).run P w = .ok (.value (.pointer none)) w := by
    simp [execOp, ho, resolve, invoke, builtin, hf.ev hx, Lib.run_unsafeSliceData_nil]
   rw [hr, Oper.upon_value, hd]
   exact ⟨_, _, _, k none (fun h => absurd (List.length_eq_zero_iff.1 h0) h), hf.put hn _, hs⟩
 · rcases Nat.eq_zero_or_pos cap with h0 | h0
   · subst h0
     have hr : (execOp a.eval o).run P w = .ok (.value (.pointer (some ⟨w.heap.size, 0, none⟩))) (w.alloc (.view ⟨g, 0, none⟩ te)) := by
      have := Lib.run_unsafeSliceData_zero (P := P) w ts o.type te hT ⟨g, 0, none⟩ l.length (e, cur.size) (by simp [World.shape?, hg])
      simp [execOp, ho, resolve, invoke, builtin, hf.ev hx, this]
     rw [hr, Oper.upon_value, hd]
     exact ⟨_, _, _, k _ (fun h => absurd (List.length_eq_zero_iff.1 Z.W) h), hf.put hn _, (hs.alloc _ { blks := [w.heap.size], pred := fun _ => True } rfl (fun _ _ _ => trivial)).drop⟩
   · have hr : (execOp a.eval o).run P w = .ok (.value (.pointer (some ⟨g, 0, none⟩))) w := by
      simp [execOp, ho, resolve, invoke, builtin, hf.ev hx, Lib.run_unsafeSliceData_row w ts o.type ⟨g, 0, none⟩ l.length cap Z.W]
     rw [hr, Oper.upon_value, hd]
     exact ⟨_, _, _, k _ (fun _ => rfl), hf.put hn _, hs⟩
theorem freeze_size (w : World) (a : Addr) (n : Nat) : (w.freeze a n).heap.size = w.heap.size := by
 unfold World.freeze; split <;> simp
theorem freeze_agree (w : World) (g n : Nat) {S : Nat → Prop} (hS : ∀ j, ¬ S j → j ≠ g) : Agree S w (w.freeze ⟨g, 0, none⟩ n) := by
 unfold World.freeze
 split
 · exact ⟨rfl, rfl, rfl, Nat.le_refl _, fun _ _ _ => rfl⟩
 · exact ⟨rfl, rfl, rfl, by simp, fun j _ hn => by
    simp only [Array.getElem?_modify]
    rw [if_neg (Ne.symm (hS j hn))]⟩
theorem OpW.unsafeStr {d m : Nat} {ti : TypeId} {q : Option Addr} {p : Int} (ho : o.op = .call { callee := .builtin .unsafeString, args := #[x, y], argTypes := #[t, ti] }) (hT : P.underlying t = some (.pointer e)) (hc : P.cellsOf e = 1) (hx : ev L x = some (.pointer q)) (hy : ev L y = some (.int .i64 p)) (hp : p = (m : Int)) (hm : bs.length = m)
 (hO : Take (accC e 1 (one vy) v bs) O O') (hq : bs ≠ [] → q = some (elemAddr v 0)) (hd : o.dst = some d) (hn : Nat.blt d n.n = true)
 (k : K ((d, vs bs) :: L) R O') : OpW P n o L R O K := by
 intro a w hf hs Q
 have hs' := hs.perm hO.perm
 have hown : (accC e 1 (one vy) v bs).pred w := hs'.see List.mem_cons_self
 subst hp; subst hm
 unfold Oper.wp
 rcases Nat.eq_zero_or_pos bs.length with h0 | h0
 · obtain rfl := List.length_eq_zero_iff.1 h0
   have hr : (execOp a.eval o).run P w = .ok (.value (vs [])) w := by
    have := Lib.run_unsafeString_none (P := P) w t ti o.type q
    simp only [execOp, ho, resolve, invoke, builtin, List.map_toArray, List.map_cons, List.map_nil, hf.ev hx, hf.ev hy]
    simp [this]; rfl
   rw [hr, Oper.upon_value, hd]
   exact ⟨_, _, _, k, hf.put hn _, hs'.drop⟩
 · have hne : bs ≠ [] := by intro h; rw [h] at h0; cases h0
   have hcell : ∀ j u, bs[j]? = some u → w.cell? (elemAddr v j) = some (vy u) := fun j u hj => acc_cell hown (by rw [flat_one]; simp [hj])
   rcases hown.2 with ⟨_, h1⟩ | ⟨g, cap, cur, rfl, _, hg, hnc, hcm, hcur, _⟩
   · omega
   · rw [hq hne] at hx
     have hx' : ev L x = some (.pointer (some ⟨g, 0, none⟩)) := hx
     have hsz : bs.length ≤ cur.size := by simp at hcur; omega
     have hr : (execOp a.eval o).run P w = .ok (.value (vs bs)) (w.freeze ⟨g, 0, none⟩ bs.length) := by
      have := Lib.run_unsafeString_row (P := P) w t ti o.type e hT hc g cur.size (by simp [World.shape?, hg]) bs hne hsz (by have : cap ≤ 9223372036854775807 := hcm; omega) (fun j u hj => by rw [add_spot rfl]; exact hcell j u hj)
      simp only [execOp, ho, resolve, invoke, builtin, List.map_toArray, List.map_cons, List.map_nil, hf.ev hx', hf.ev hy]
      simp [this]
     rw [hr, Oper.upon_value, hd]
     have hlt : g < w.heap.size := by
      rcases Nat.lt_or_ge g w.heap.size with h | h
      · exact h
      · rw [Array.getElem?_eq_none h] at hg; cases hg
     refine ⟨_, _, _, k, hf.put hn _, (hs'.update (w' := w.freeze ⟨g, 0, none⟩ bs.length) { blks := [g], pred := fun _ => True } (freeze_agree w g bs.length (fun j hj => by simpa [accC, Value.ownBlock] using hj)) (fun j hj => ?_) (fun j hj => ?_) (by simp) (fun _ _ _ => trivial)).drop⟩
     · simp only [List.mem_singleton] at hj
       subst hj
       exact .inl (by simp [accC, Value.ownBlock])
     · simp only [List.mem_singleton] at hj
       subst hj
       rw [freeze_size]; exact hlt
end bytes
end Go.SL
namespace Go.SL
open Go
section rules
variable {P : Program} {n : Sz} {o : Oper} {L : Env} {R : List RO} {O O' : List Own} {K : Env → List RO → List Own → Prop} {t t' e : TypeId} {x y : Operand} {g : Nat} {bs : List UInt8}
end rules
end Go.SL
namespace Go.SL
open Go Go.RowKit
theorem Sat.below {R : List RO} {O : List Own} {w w' : World} (h : Sat R O w) (hb : Below w.heap.size w w') : Sat R O w' := by
 have key : ∀ {S : Nat → Prop} {w'' : World}, Agree S w' w'' → Agree S w w'' := fun {S w''} ha =>
  (show Agree S w w' from ⟨hb.os, hb.tape, hb.output, hb.size, fun k hk _ => hb.block k hk⟩).trans ha
 exact ⟨h.nodup, fun k hk => Nat.lt_of_lt_of_le (h.lt k hk) hb.size, fun p hp w'' ha => h.ro p hp w'' (key ha), fun c hc w'' ha => h.own c hc w'' (key ha)⟩
theorem Fun.below {P : Program} {f : FuncId} {args : Array Value} {R : List RO} {O : List Own} {post : Value → List RO → List Own → Prop} {v : Value} (h : ∀ w, Calls P f args w fun e w' => e = .returned v ∧ Below w.heap.size w w') (hk : post v R O) : Fun P f args R O post :=
 fun w hs => (h w).mono fun _ _ ⟨he, hb⟩ => ⟨v, R, O, he, hk, hs.below hb⟩
theorem Fun.still {P : Program} {f : FuncId} {args : Array Value} {R : List RO} {O : List Own} {post : Value → List RO → List Own → Prop} {v : Value} (h : ∀ w, Calls P f args w fun e w' => e = .returned v ∧ w' = w) (hk : post v R O) : Fun P f args R O post :=
 fun w hs => (h w).mono fun _ w' ⟨he, hb⟩ => ⟨v, R, O, he, hk, by rw [hb]; exact hs⟩
theorem Fun.thin {P : Program} {f : FuncId} {args : Array Value} {R : List RO} {O : List Own} {post post' : Value → List RO → List Own → Prop} (h : Fun P f args R O post') (hp : ∀ v R' O', post' v R' O' → ∃ R2 O2, post v R2 O2 ∧ ∀ w, Sat R' O' w → Sat R2 O2 w) : Fun P f args R O post :=
 fun w hs => (h w hs).mono fun _ w' ⟨v, R', O', he, hk, hs'⟩ => by
  obtain ⟨R2, O2, h2, h3⟩ := hp v R' O' hk
  exact ⟨v, R2, O2, he, h2, h3 w' hs'⟩
section ret
variable {P : Program} {fn : Func} {n : Sz} {L : Env} {R : List RO} {O : List Own} {post : Value → List RO → List Own → Prop}
theorem run_loadVar_agg {t : TypeId} {size : Nat} (hG : Agg P t size) {b : Nat} {e : TypeId} {cs : List Value} (hl : cs.length = size) {w : World} (h : (rowC b e cs).pred w) : (loadVar t ⟨b, 0, none⟩).run P w = .ok (.agg cs.toArray) w := by
 have h1 := run_loadAgg hG (a := ⟨b, 0, none⟩) rfl hl (w := w) (fun j u hj => by
  have := row_cell h hj
  simpa using this)
 simpa [Instr.loadAt, Instr.sureAddr] using h1
theorem Ret.cellRow {p : Tmp} {ty : TypeId} {size b : Nat} {e : TypeId} {cs : List Value} (hr : fn.results = #[.cell p ty]) (ht : Env.find L p = some (.pointer (some ⟨b, 0, none⟩))) (hp : rowC b e cs ∈ O) (hG : Agg P ty size) (hl : cs.length = size) (h : post (.agg cs.toArray) R O) : retQ P fn n post .ret L R O :=
 ⟨_, fun a w _ hf ⟨_, hs⟩ => by
   have e1 := getD_of hf ht
   have e2 := run_loadVar_agg hG hl (hs.see (List.mem_append_right _ hp))
   simp only [Array.getD_eq_getD_getElem?] at e1
   simp [results, hr, e1, asAddr, e2], h⟩
end ret
section parts
variable {P : Program} {o : Oper} {L : Env} {R : List RO} {O : List Own} {t e : TypeId} {m : Nat} {x y : Operand} {u : Value}
theorem Rd.idxAgg {kd : IntKind} {k : Nat} {p : Int} {cs : List Value} (ho : o.op = .index t x y) (hT : ArT P t m e 1) (hc : Cell1 P e) (hx : ev L x = some (.agg cs.toArray)) (hy : ev L y = some (.int kd p)) (hp : p = (k : Int)) (hlt : k < m) (hk : cs[k]? = some u) : Rd P o L R O u := fun ρ w hρ _ _ => by
 subst hp
 have h1 : (0 : Int) ≤ (k : Int) ∧ (k : Int) < (m : Int) := ⟨by omega, by omega⟩
 simp [execOp, ho, hρ _ _ hx, hρ _ _ hy, Instr.index, asIntOf, run_underlying hT.und, h1, hlt, hT.sz, Go.part, hc w, hk]
theorem Rd.buildA {ps : List (Nat × Operand)} {vals cells : List Value} {css : List (List Value)} {i : TypeInfo} {zv : Value} {size : Nat} (ho : o.op = .build t ps.toArray) (hT : ArT P t m e size) (hi : P.info? t = some i) (hz : i.zero = some zv) (hzs : zv.cells.size = m * size)
 (hv : Evs L (ps.map (·.2)) vals) (his : ps.map (·.1) = List.range' 0 m) (hc : CellsOf vals css) (hl : (css.all fun l => Nat.beq l.length size) = true) (hcells : css.flatten = cells) : Rd P o L R O (.agg cells.toArray) := fun ρ w hρ _ _ => by
 subst hcells
 have hlen : vals.length = m := by
  have h1 : (ps.map (·.1)).length = m := by rw [his]; simp
  have h2 : vals.length = (ps.map (·.2)).length := by
   clear his hc ho h1
   generalize ps.map (·.2) = xs at hv
   induction hv with
   | nil => rfl
   | cons _ _ ih => simp [ih]
  rw [h2, List.length_map, ← h1, List.length_map]
 have hcl : css.length = vals.length := by
  clear hv hlen hl
  induction hc with
  | nil => rfl
  | cons _ _ ih => simp [ih]
 have hl' : ∀ l ∈ css, l.length = size := fun l h => Nat.eq_of_beq_eq_true (List.all_eq_true.1 hl l h)
 obtain ⟨r, hr, hrl⟩ := fill_cover vals css 0 zv.cells hc hl' (by rw [hcl, hlen, hzs]; simp)
 have hre : r = css.flatten.toArray := by
  apply Array.ext'
  rw [hrl]
  have : ((0 + css.length) * size) = zv.cells.toList.length := by
   have h1 : zv.cells.toList.length = zv.cells.size := rfl
   rw [h1, hzs, hcl, hlen, Nat.zero_add]
  rw [this, List.drop_length]; simp
 have e1 : (ps.toArray.map fun (i, x) => (i, ρ x)).toList = (ps.map (·.1)).zip vals := by
  have e2 := hv.eval hρ
  rw [← e2]
  simp only [List.map_toArray]
  exact zip_pairs ρ ps
 rw [his, ← hlen] at e1
 simp only [execOp, ho, Sem.run_bind, Instr.build, zeroValue, typeInfo, hi, hz, run_underlying hT.und, hT.sz, Result.andThen_ok, Sem.run_pure, run_program, e1, hr, hre]
theorem Rd.sliceArr {b size : Nat} (ho : o.op = .slice t x none none none) (hT : ArT P t m e size) (hx : ev L x = some (.pointer (some ⟨b, 0, none⟩))) (_hm : 0 < m) : Rd P o L R O (.slice (some ⟨b, 0, none⟩) m m) := fun ρ w hρ _ _ => by
 simp [execOp, ho, hρ _ _ hx, Instr.sliceAt, Instr.sliceBounds, Instr.sureAddr, run_underlying hT.und, hT.sz, Addr.add, Result.andThen]
theorem Rd.andS {k : IntKind} {p q : Int} {a c : Nat} {t' : TypeId} (ho : o.op = .binOp .and t x y t') (hx : ev L x = some (.int k p)) (hy : ev L y = some (.int k q)) (hp : p = (a : Int)) (hq : q = (c : Int)) (ha : a < 2 ^ (k.bits - 1)) (hc : c < 2 ^ (k.bits - 1)) : Rd P o L R O (.int k ((a &&& c : Nat) : Int)) := by
 have h := Rd.and (R := R) (O := O) (P := P) ho hx hy
 have h1 : (2 : Nat) ^ (k.bits - 1) ≤ 2 ^ k.bits := Nat.pow_le_pow_right Z.W Z.W
 rw [hp, hq, BitVec.toNat_and, ofInt_toNat (Nat.lt_of_lt_of_le ha h1), ofInt_toNat (Nat.lt_of_lt_of_le hc h1), wrap_natS (Nat.lt_of_le_of_lt Nat.and_le_left ha)] at h
 exact h
end parts
theorem NF.refl {α : Type} : ∀ (l : List α), NF l l
 | [] => NF.nil
 | _ :: r => NF.cons (NF.refl r)
theorem NF.of {α : Type} {l l' : List α} (h : l = l') : NF l l' := h ▸ NF.refl l
theorem Sat.accCap {α : Type} {enc : α → List Value} {R : List RO} {O O' : List Own} {e : TypeId} {size b c : Nat} {cells : List Value} {w : World} (hT : Take (rowC b e cells) O O') (hl : cells.length = c * size) (hmc : c ≤ maxLen) (h : Sat R O w) : Sat R (accC e size enc (.slice (some ⟨b, 0, none⟩) 0 c) ([] : List α) :: O') w :=
 (h.perm hT.perm).recast _ rfl (fun _ hp _ => ⟨by simp, .inr ⟨b, c, _, rfl, Nat.zero_le _, hp, Nat.zero_le _, hmc, by simpa using hl, by simp⟩⟩)
section whole
variable {P : Program} {n : Sz} {o : Oper} {L : Env} {R : List RO} {O O' : List Own} {K : Env → List RO → List Own → Prop} {t e : TypeId} {size b : Nat} {x y : Operand} {cs : List Value}
theorem Rd.rowW (ho : o.op = .load t x) (hG : Agg P t size) (hx : ev L x = some (.pointer (some ⟨b, 0, none⟩))) (hp : rowC b e cs ∈ O) (hl : cs.length = size) : Rd P o L R O (.agg cs.toArray) :=
 Rd.rowS ho hG hx hp (NF.of (by rw [List.drop_zero, List.take_of_length_le Z.W])) hl
theorem OpW.storeW {ds : List Value} (ho : o.op = .store t x y) (hG : Agg P t size) (hx : ev L x = some (.pointer (some ⟨b, 0, none⟩))) (hy : ev L y = some (.agg ds.toArray)) (hT : Take (rowC b e cs) O O') (hl : ds.length = size) (hc : cs.length = size) (h1 : (ds.all Value.oneCell') = true) (hd : o.dst = none)
 (k : K L R (rowC b e ds :: O')) : OpW P n o L R O K :=
 OpW.storeS ho hG hx hy (NF.refl _) hT hl (Nat.ble_eq_true_of_le (by show 0 + ds.length ≤ cs.length; omega)) (NF.of (by rw [spl, List.take_zero, List.nil_append, Nat.zero_add, List.drop_of_length_le (by show cs.length ≤ ds.length; omega), List.append_nil])) hd k h1
theorem Rd.shl32 {k' : IntKind} {a m : Nat} {p q : Int} {t' : TypeId} (ho : o.op = .binOp .shl t x y t') (hx : ev L x = some (.int .u32 p)) (hy : ev L y = some (.int k' q)) (hp : p = (a : Int)) (hq : q = (m : Int)) (hn : m ≤ 32) : Rd P o L R O (.int .u32 ((a * 2 ^ m % 2 ^ 32 : Nat) : Int)) :=
 Rd.shlN (k := .u32) ho hx hy hp hq hn rfl
end whole
def prefC (b : Nat) (cs : List Value) : Own := { blks := [b], pred := fun w => ∀ (j : Nat) (u : Value), cs[j]? = some u → w.cell? ⟨b, j, none⟩ = some u }
theorem Rd.pref {P : Program} {o : Oper} {L : Env} {R : List RO} {O : List Own} {t : TypeId} {x : Operand} {b off : Nat} {cs : List Value} {u : Value} (ho : o.op = .load t x) (hc : Cell1 P t) (hx : ev L x = some (.pointer (some ⟨b, off, none⟩))) (hp : prefC b cs ∈ O) (hk : cs[off]? = some u) : Rd P o L R O u := fun ρ w hρ _ hO => by
 have h := run_load1 (P := P) hc (hO _ hp off u hk)
 simp only [execOp, ho, hρ _ _ hx, Sem.run_bind, h, Result.andThen_ok, Sem.run_pure]
theorem row_pref {b : Nat} {e : TypeId} {cs xs : List Value} (h : ∀ (j : Nat) (u : Value), xs[j]? = some u → cs[j]? = some u) : ∀ w, (rowC b e cs).pred w → (prefC b xs).pred w := fun _ hw j u hj => row_cell hw (h j u hj)
theorem pref_app {xs ys : List Value} : ∀ (j : Nat) (u : Value), xs[j]? = some u → (xs ++ ys)[j]? = some u := fun j u h => by
 rw [List.getElem?_append_left (List.getElem?_eq_some_iff.1 h).1, h]
theorem pref_set {xs ys : List Value} {k : Nat} {v : Value} (hk : xs.length ≤ k) : ∀ (j : Nat) (u : Value), xs[j]? = some u → ((xs ++ ys).set k v)[j]? = some u := fun j u h => by
 have hj := (List.getElem?_eq_some_iff.1 h).1
 rw [List.getElem?_set_ne Z.W, pref_app j u h]
theorem WD.some {P : Program} {n : Sz} {ops : Array Oper} {Q : Post} {L : Env} {R : List RO} {O : List Own} {S : List RO} {T : List Own} {fuel : Nat} {listed : Array Bool} (is : List Nat) (hr : Region.ready .any ops listed = is) (hne : is ≠ [])
 (h : ∀ i ∈ is, ∃ o, ops[i]? = some o ∧ o.guard = none ∧ OpW P n o L R O (fun L' R' O' => Held S T R' O' ∧ WD P n ops Q S T fuel (listed.setIfInBounds i true) L' R' O')) : WD P n ops Q S T (fuel + 1) listed L R O := by
 intro a w hf hs
 refine wpAnyH_all hr hne fun x hx => ?_
 obtain ⟨o, ho, hg, hop⟩ := h x hx
 unfold wpOp
 rw [ho]
 simp only [Region.wanted, hg, if_true]
 exact .inl (Oper.wp_mono (fun a' w' ⟨L', R', O', hk, hf', hs'⟩ => ⟨hk.1 w' hs', hk.2 a' w' hf' hs'⟩) (hop a w hf hs _))
end Go.SL
