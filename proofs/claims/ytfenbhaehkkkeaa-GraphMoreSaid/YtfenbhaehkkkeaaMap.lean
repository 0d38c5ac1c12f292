/-
  Maps of a call's own (or only read): what they hold as a pure list of entries, and the rules of the operations on maps. No program is in sight.
-/
import Derived.Test.YtfenbhaehkkkeaaMem
import Derived.MapKept
namespace Go.SL
open Go Go.MapKept

/-! ### pure maps -/
/-- The entries in the order in which they came, each with its stamp; no key stands twice. -/
structure GoMap (κ β : Type) where
  l : List (κ × β × Nat)
  clock : Nat
  keys : (l.map (·.1)).Nodup
  born : (l.map (·.2.2)).Nodup
  lt : ∀ x ∈ l, x.2.2 < clock

namespace GoMap
variable {κ β : Type} [DecidableEq κ]

def gfind : List (κ × β × Nat) → κ → Nat → Option (Nat × β)
  | [], _, _ => none
  | x :: l, k, i => if x.1 = k then some (i, x.2.1) else gfind l k (i + 1)
theorem gfind_some : ∀ {l : List (κ × β × Nat)} {k : κ} {i j : Nat} {v : β}, gfind l k i = some (j, v) → i ≤ j ∧ ∃ b, l[j - i]? = some (k, v, b)
  | [], _, _, _, _, h => by cases h
  | x :: l, k, i, j, v, h => by
    rw [gfind] at h
    by_cases e : x.1 = k
    · rw [if_pos e] at h
      cases h
      refine ⟨Nat.le_refl _, x.2.2, ?_⟩
      rw [Nat.sub_self, ← e]; rfl
    · rw [if_neg e] at h
      obtain ⟨h1, b, h2⟩ := gfind_some h
      refine ⟨by omega, b, ?_⟩
      rw [show j - i = (j - (i + 1)) + 1 from by omega]
      exact h2
theorem gfind_none : ∀ {l : List (κ × β × Nat)} {k : κ} {i : Nat}, gfind l k i = none ↔ ∀ x ∈ l, x.1 ≠ k
  | [], _, _ => by simp [gfind]
  | x :: l, k, i => by
    rw [gfind]
    by_cases e : x.1 = k
    · simp [e]
    · rw [if_neg e, gfind_none]
      simp [e]
def get (m : GoMap κ β) (k : κ) : Option β := (gfind m.l k 0).map (·.2)
def has (m : GoMap κ β) (k : κ) : Bool := (m.get k).isSome
theorem nodup_inj {α γ : Type} {f : α → γ} : ∀ {l : List α}, (l.map f).Nodup → ∀ {x y : α}, x ∈ l → y ∈ l → f x = f y → x = y
  | [], _, x, _, hx, _, _ => by cases hx
  | a :: l, h, x, y, hx, hy, e => by
    rw [List.map_cons, List.nodup_cons] at h
    rcases List.mem_cons.1 hx with h1 | h1
    · rcases List.mem_cons.1 hy with h2 | h2
      · rw [h1, h2]
      · exact absurd (List.mem_map.2 ⟨y, h2, by rw [← e, h1]⟩) h.1
    · rcases List.mem_cons.1 hy with h2 | h2
      · exact absurd (List.mem_map.2 ⟨x, h1, by rw [e, h2]⟩) h.1
      · exact nodup_inj h.2 h1 h2 e
theorem nodup_pos {α γ : Type} {f : α → γ} : ∀ {l : List α}, (l.map f).Nodup → ∀ {i j : Nat} {x y : α}, l[i]? = some x → l[j]? = some y → f x = f y → i = j
  | [], _, i, _, x, _, hx, _, _ => by simp at hx
  | a :: l, h, i, j, x, y, hx, hy, e => by
    rw [List.map_cons, List.nodup_cons] at h
    cases i with
    | zero =>
      cases j with
      | zero => rfl
      | succ j =>
        simp only [List.getElem?_cons_zero, Option.some.injEq, List.getElem?_cons_succ] at hx hy
        exact absurd (List.mem_map.2 ⟨y, List.mem_of_getElem? hy, by rw [← e, hx]⟩) h.1
    | succ i =>
      cases j with
      | zero =>
        simp only [List.getElem?_cons_zero, Option.some.injEq, List.getElem?_cons_succ] at hx hy
        exact absurd (List.mem_map.2 ⟨x, List.mem_of_getElem? hx, by rw [e, hy]⟩) h.1
      | succ j =>
        simp only [List.getElem?_cons_succ] at hx hy
        rw [nodup_pos h.2 hx hy e]
theorem get_iff {m : GoMap κ β} {k : κ} {v : β} : m.get k = some v ↔ ∃ b, (k, v, b) ∈ m.l := by
  constructor
  · intro h
    obtain ⟨⟨j, v'⟩, h1, h2⟩ := Option.map_eq_some_iff.1 h
    simp only at h2; subst h2
    obtain ⟨_, b, hb⟩ := gfind_some h1
    exact ⟨b, List.mem_of_getElem? hb⟩
  · rintro ⟨b, hb⟩
    cases hg : gfind m.l k 0 with
    | none => exact absurd rfl (gfind_none.1 hg _ hb)
    | some q =>
      obtain ⟨j, v'⟩ := q
      obtain ⟨_, b', hb'⟩ := gfind_some hg
      have := nodup_inj m.keys hb (List.mem_of_getElem? hb') rfl
      cases this
      simp [get, hg]
theorem get_none {m : GoMap κ β} {k : κ} : m.get k = none ↔ ∀ x ∈ m.l, x.1 ≠ k := by
  rw [get, Option.map_eq_none_iff, gfind_none]

def empty : GoMap κ β := ⟨[], 0, List.nodup_nil, List.nodup_nil, fun x hx => by cases hx⟩
@[simp] theorem get_empty (k : κ) : (empty : GoMap κ β).get k = none := rfl
def setL (l : List (κ × β × Nat)) (k : κ) (v : β) : List (κ × β × Nat) := l.map fun x => if x.1 = k then (x.1, v, x.2.2) else x
theorem setL_keys (l : List (κ × β × Nat)) (k : κ) (v : β) : (setL l k v).map (·.1) = l.map (·.1) := by
  rw [setL, List.map_map]; exact List.map_congr_left fun x _ => by show (if x.1 = k then (x.1, v, x.2.2) else x).1 = x.1; split <;> rfl
theorem setL_born (l : List (κ × β × Nat)) (k : κ) (v : β) : (setL l k v).map (·.2.2) = l.map (·.2.2) := by
  rw [setL, List.map_map]; exact List.map_congr_left fun x _ => by show (if x.1 = k then (x.1, v, x.2.2) else x).2.2 = x.2.2; split <;> rfl
theorem mem_setL {l : List (κ × β × Nat)} {k k' : κ} {v v' : β} {b : Nat} : (k', v', b) ∈ setL l k v ↔ (k' ≠ k ∧ (k', v', b) ∈ l) ∨ (k' = k ∧ v' = v ∧ ∃ u, (k, u, b) ∈ l) := by
  rw [setL, List.mem_map]
  constructor
  · rintro ⟨⟨k1, v1, b1⟩, hx, e⟩
    by_cases h : k1 = k
    · simp only [h, if_true, Prod.mk.injEq] at e
      obtain ⟨rfl, rfl, rfl⟩ := e
      exact .inr ⟨rfl, rfl, v1, h ▸ hx⟩
    · simp only [h, if_false, Prod.mk.injEq] at e
      obtain ⟨rfl, rfl, rfl⟩ := e
      exact .inl ⟨h, hx⟩
  · rintro (⟨h, hx⟩ | ⟨rfl, rfl, u, hx⟩)
    · exact ⟨_, hx, by simp [h]⟩
    · exact ⟨_, hx, by simp⟩
def set (m : GoMap κ β) (k : κ) (v : β) : GoMap κ β :=
  if h : (gfind m.l k 0).isSome then
    ⟨setL m.l k v, m.clock, by rw [setL_keys]; exact m.keys, by rw [setL_born]; exact m.born, fun x hx => by
      have : x.2.2 ∈ (setL m.l k v).map (·.2.2) := List.mem_map_of_mem hx
      rw [setL_born] at this
      obtain ⟨y, hy, e⟩ := List.mem_map.1 this
      rw [← e]; exact m.lt y hy⟩
  else
    have hn : ∀ x ∈ m.l, x.1 ≠ k := gfind_none.1 (by simpa using h)
    ⟨m.l ++ [(k, v, m.clock)], m.clock + 1, by
      rw [List.map_append, List.nodup_append]
      exact ⟨m.keys, by simp, fun a ha b hb => by
        obtain ⟨x, hx, rfl⟩ := List.mem_map.1 ha
        simp only [List.map_cons, List.map_nil, List.mem_singleton] at hb
        rw [hb]; exact hn x hx⟩, by
      rw [List.map_append, List.nodup_append]
      exact ⟨m.born, by simp, fun a ha b hb => by
        obtain ⟨x, hx, rfl⟩ := List.mem_map.1 ha
        simp only [List.map_cons, List.map_nil, List.mem_singleton] at hb
        have := m.lt x hx; omega⟩, fun x hx => by
      rcases List.mem_append.1 hx with hx | hx
      · have := m.lt x hx; omega
      · simp only [List.mem_singleton] at hx; subst hx; exact Nat.lt_succ_self _⟩
theorem get_set (m : GoMap κ β) (k k' : κ) (v : β) : (m.set k v).get k' = if k' = k then some v else m.get k' := by
  by_cases h : (gfind m.l k 0).isSome
  · have el : (m.set k v).l = setL m.l k v := by rw [set, dif_pos h]
    obtain ⟨⟨j, u⟩, hj⟩ := Option.isSome_iff_exists.1 h
    obtain ⟨_, b, hb⟩ := gfind_some hj
    have hb := List.mem_of_getElem? hb
    by_cases e : k' = k
    · subst e
      rw [if_pos rfl, get_iff, el]
      exact ⟨b, mem_setL.2 (.inr ⟨rfl, rfl, u, hb⟩)⟩
    · rw [if_neg e]
      apply Option.ext
      intro a
      rw [get_iff, get_iff, el]
      constructor
      · rintro ⟨b', hb'⟩
        rcases mem_setL.1 hb' with ⟨_, h⟩ | ⟨h, _⟩
        · exact ⟨b', h⟩
        · exact absurd h e
      · rintro ⟨b', hb'⟩
        exact ⟨b', mem_setL.2 (.inl ⟨e, hb'⟩)⟩
  · have el : (m.set k v).l = m.l ++ [(k, v, m.clock)] := by rw [set, dif_neg h]
    have hn : ∀ x ∈ m.l, x.1 ≠ k := gfind_none.1 (by simpa using h)
    by_cases e : k' = k
    · subst e
      rw [if_pos rfl, get_iff, el]
      exact ⟨m.clock, by simp⟩
    · rw [if_neg e]
      apply Option.ext
      intro a
      rw [get_iff, get_iff, el]
      constructor
      · rintro ⟨b', hb'⟩
        rcases List.mem_append.1 hb' with h | h
        · exact ⟨b', h⟩
        · simp only [List.mem_singleton, Prod.mk.injEq] at h; exact absurd h.1 e
      · rintro ⟨b', hb'⟩
        exact ⟨b', List.mem_append_left _ hb'⟩
@[simp] theorem get_set_self (m : GoMap κ β) (k : κ) (v : β) : (m.set k v).get k = some v := by rw [get_set, if_pos rfl]
theorem get_set_ne (m : GoMap κ β) {k k' : κ} (v : β) (h : k' ≠ k) : (m.set k v).get k' = m.get k' := by rw [get_set, if_neg h]
def del (m : GoMap κ β) (k : κ) : GoMap κ β :=
  ⟨m.l.filter (fun x => decide (x.1 ≠ k)), m.clock, m.keys.sublist (List.Sublist.map _ List.filter_sublist), m.born.sublist (List.Sublist.map _ List.filter_sublist), fun x hx => m.lt x ((List.mem_filter.1 hx).1)⟩
theorem get_del (m : GoMap κ β) (k k' : κ) : (m.del k).get k' = if k' = k then none else m.get k' := by
  by_cases e : k' = k
  · subst e
    rw [if_pos rfl, get_none]
    intro x hx
    have := (List.mem_filter.1 hx).2
    simpa using this
  · rw [if_neg e]
    apply Option.ext
    intro a
    rw [get_iff, get_iff]
    constructor
    · rintro ⟨b, hb⟩; exact ⟨b, (List.mem_filter.1 hb).1⟩
    · rintro ⟨b, hb⟩; exact ⟨b, List.mem_filter.2 ⟨hb, by simp [e]⟩⟩
def stamp (m : GoMap κ β) (k : κ) : Nat := ((m.l.find? fun x => decide (x.1 = k)).map (·.2.2)).getD 0
def touch (m : GoMap κ β) (k : κ) (z : β) : GoMap κ β := if (m.get k).isSome then m else m.set k z
/-- The keys. -/
def ks (m : GoMap κ β) : List κ := m.l.map (·.1)
theorem mem_ks {m : GoMap κ β} {k : κ} : k ∈ m.ks ↔ ∃ v, m.get k = some v := by
  rw [ks, List.mem_map]
  constructor
  · rintro ⟨⟨k', v, b⟩, h, rfl⟩; exact ⟨v, get_iff.2 ⟨b, h⟩⟩
  · rintro ⟨v, h⟩
    obtain ⟨b, hb⟩ := get_iff.1 h
    exact ⟨_, hb, rfl⟩
theorem set_len_le (m : GoMap κ β) (k : κ) (v : β) : (m.set k v).l.length ≤ m.l.length + 1 := by
  unfold set
  split
  · simp [setL]
  · simp
theorem set_len (m : GoMap κ β) (k : κ) (v : β) : (m.set k v).l.length = if (m.get k).isSome then m.l.length else m.l.length + 1 := by
  have e : (m.get k).isSome = (gfind m.l k 0).isSome := by rw [get, Option.isSome_map]
  rw [e]
  by_cases h : (gfind m.l k 0).isSome
  · rw [if_pos h, set, dif_pos h]; simp [setL]
  · rw [if_neg h, set, dif_neg h]; simp
end GoMap

/-! ### maps in the heap -/
section
variable {κ β : Type}
def ent (kenc : κ → Value) (venc : β → Value) (x : κ × β × Nat) : MapEntry := { key := kenc x.1, val := venc x.2.1, born := x.2.2 }
def mapP (kenc : κ → Value) (venc : β → Value) (b : Nat) (m : GoMap κ β) : RO := fun w => w.heap[b]? = some (.map (m.l.map (ent kenc venc)).toArray m.clock)
def mapC (kenc : κ → Value) (venc : β → Value) (b : Nat) (m : GoMap κ β) : Own := { blks := [b], pred := mapP kenc venc b m }

/-- A map's type. -/
structure MapT (P : Program) (t kt et : TypeId) (z : Value) : Prop where
  und : P.underlying t = some (.map kt et)
  zero : ∀ w, (zeroValue et).run P w = .ok z w

theorem MapT.mk' {P : Program} {t kt et : TypeId} {z : Value} {i : TypeInfo} (hu : P.underlying t = some (.map kt et)) (hi : P.info? et = some i) (hz : i.zero = some z) : MapT P t kt et z :=
  ⟨hu, fun w => by simp [zeroValue, typeInfo, hi, hz]⟩
section rules
variable {P : Program} {n : Sz} {o : Oper} {L : Env} {R : List RO} {O O' : List Own} {K : Env → List RO → List Own → Prop} {t kt et : TypeId} {z : Value} {x : Operand} {kenc : κ → Value} {venc : β → Value} {m : GoMap κ β} {b : Nat}
theorem Rd.lenM (T : MapT P t kt et z) (ho : o.op = .call { callee := .builtin .len, args := #[x], argTypes := #[t] }) (hx : ev L x = some (.map (some b))) (hp : mapC kenc venc b m ∈ O) : Rd P o L R O (.int .i64 m.l.length) := fun ρ w hρ _ hO => by
  have h : w.heap[b]? = _ := hO _ hp
  simp [execOp, ho, resolve, invoke, builtin, hρ _ _ hx, Builtin.len_, run_underlying T.und, goInt, MapKept.run_getObj_map h, Result.andThen]
theorem Rd.lenMR (T : MapT P t kt et z) (ho : o.op = .call { callee := .builtin .len, args := #[x], argTypes := #[t] }) (hx : ev L x = some (.map (some b))) (hp : mapP kenc venc b m ∈ R) : Rd P o L R O (.int .i64 m.l.length) := fun ρ w hρ hR _ => by
  have h : w.heap[b]? = _ := hR _ hp
  simp [execOp, ho, resolve, invoke, builtin, hρ _ _ hx, Builtin.len_, run_underlying T.und, goInt, MapKept.run_getObj_map h, Result.andThen]

/-- A new map. -/
theorem OpW.makeMap (kenc : κ → Value) (venc : β → Value) {d : Nat} (ho : o.op = .makeMap t none) (hd : o.dst = some d) (hn : Nat.blt d n.n = true)
    (k : ∀ b, K ((d, .map (some b)) :: L) R (mapC kenc venc b GoMap.empty :: O)) : OpW P n o L R O K := by
  intro a w hf hs Q
  unfold Oper.wp
  have hr : (execOp a.eval o).run P w = .ok (.value (.map (some w.heap.size))) (w.alloc (.map #[] 0)) := by
    simp [execOp, ho, Instr.makeMap, Result.andThen]
  rw [hr, Oper.upon_value, hd]
  exact ⟨_, _, _, k _, hf.put hn _, hs.alloc _ _ rfl fun w' h _ => h⟩

/-- A map is from here on only read. -/
theorem Sat.shareM {w : World} (hT : Take (mapC kenc venc b m) O O') (h : Sat R O w) : Sat (mapP kenc venc b m :: R) O' w := (h.perm hT.perm).share _ (fun _ h _ => h)
theorem map_put {w : World} (hs : Sat R (mapC kenc venc b m :: O) w) (m' : GoMap κ β) (hb : w.heap[b]? = some (.map (m.l.map (ent kenc venc)).toArray m.clock)) :
    Sat R (mapC kenc venc b m' :: O) { w with heap := w.heap.setIfInBounds b (.map (m'.l.map (ent kenc venc)).toArray m'.clock) } := by
  have hlt : b < w.heap.size := (Array.getElem?_eq_some_iff.1 hb).1
  refine hs.update (mapC kenc venc b m') ⟨rfl, rfl, rfl, by simp, fun k hk hn => ?_⟩ (fun k hk => .inl hk) (fun k hk => ?_) (by simp [mapC]) (fun w'' ha _ => ?_)
  · have : k ≠ b := fun e => hn (by simp [mapC, e])
    exact (heap_set hb).2 k this
  · simp only [mapC, List.mem_singleton] at hk; subst hk; simpa using hlt
  · show w''.heap[b]? = _
    rw [ha.2.2.2.2 b (by simpa using hlt) (fun h => h (by simp [mapC]))]
    exact (heap_set hb).1
end rules
end

section
variable {κ β : Type} [DecidableEq κ]
/-- Keys of a type: how they are found. -/
structure KeyT (P : Program) (t : TypeId) (kenc : κ → Value) : Prop where
  check : ∀ (w : World) (e : Bool) (k : κ), (Instr.checkKey e 10000 t (kenc k)).run P w = .ok () w
  same : ∀ (w : World) (k : κ), (Instr.keyThatStays (kenc k) (kenc k)).run P w = .ok (kenc k) w
  find : ∀ {γ : Type} (w : World) (venc : γ → Value) (l : List (κ × γ × Nat)) (k : κ), (Instr.findKey t (kenc k) (l.map (ent kenc venc))).run P w = .ok ((GoMap.gfind l k 0).map fun q => (q.1, venc q.2)) w
theorem findNow_of {γ : Type} {d : TypeDesc} {kenc : κ → Value} (hs : ∀ a b, Instr.sameNow d (kenc a) (kenc b) = some (decide (b = a))) (venc : γ → Value) (k : κ) : ∀ (l : List (κ × γ × Nat)) (i : Nat), Instr.findNow d (kenc k) (l.map (ent kenc venc)) i = some ((GoMap.gfind l k i).map fun q => (q.1, venc q.2))
  | [], _ => rfl
  | x :: l, i => by
    rw [List.map_cons, Instr.findNow, GoMap.gfind]
    rw [show (ent kenc venc x).key = kenc x.1 from rfl, hs k x.1]
    by_cases e : x.1 = k
    · simp only [e, decide_true, if_true, Option.map_some]; rfl
    · simp only [e, decide_false, if_false]
      exact findNow_of hs venc k l (i + 1)
theorem KeyT.of {P : Program} {t : TypeId} {d : TypeDesc} {kenc : κ → Value} (hd : P.underlying t = some d) (hk : ∀ k, IsKey d (kenc k)) (hs : ∀ a b, Instr.sameNow d (kenc a) (kenc b) = some (decide (b = a))) : KeyT P t kenc :=
  ⟨fun _ e k => run_checkKey hd (hk k) e 9999, fun _ k => run_keyThatStays (hk k), fun _ venc l k => run_findKey hd (findNow_of hs venc k l 0)⟩
theorem bytes_beq_list (a b : List UInt8) : ((⟨a.toArray⟩ : ByteArray) == ⟨b.toArray⟩) = decide (b = a) := by
  rw [Bool.eq_iff_iff, bytes_beq, decide_eq_true_eq]
  constructor
  · intro h; have := congrArg (fun x : ByteArray => x.data.toList) h; simpa using this.symm
  · rintro rfl; rfl
theorem KeyT.string {P : Program} {t : TypeId} (hd : P.underlying t = some .string) : KeyT P t vs :=
  KeyT.of hd (fun _ => trivial) (fun a b => by simp only [vs, Instr.sameNow, bytes_beq_list])
theorem KeyT.int {P : Program} {t : TypeId} {kd : IntKind} (hd : P.underlying t = some (.int kd)) : KeyT P t (fun n : Int => .int kd n) :=
  KeyT.of hd (fun k => by simp [IsKey]) (fun a b => by
    simp only [Instr.sameNow, if_true, Option.some.injEq]
    rw [Bool.eq_iff_iff, beq_iff_eq, decide_eq_true_eq]; exact eq_comm)

abbrev vbl (b : Bool) : Value := .bool b
section rules
variable {P : Program} {n : Sz} {o : Oper} {L : Env} {R : List RO} {O O' : List Own} {K : Env → List RO → List Own → Prop} {t kt et : TypeId} {z : Value} {x y u : Operand} {kenc : κ → Value} {venc : β → Value} {m : GoMap κ β} {b : Nat} {k : κ} {kv : Value}

theorem run_lookup (T : MapT P t kt et z) (KT : KeyT P kt kenc) {w : World} (h : mapP kenc venc b m w) (c : Bool) : (Instr.lookup t (.map (some b)) (kenc k) c).run P w = .ok (if c then .tuple #[((m.get k).map venc).getD z, .bool (m.get k).isSome] else ((m.get k).map venc).getD z) w := by
  unfold mapP at h
  have hf := KT.find w venc m.l k
  have hc := KT.check w (m.l.map (ent kenc venc)).toArray.isEmpty k
  cases hg : GoMap.gfind m.l k 0 with
  | none =>
    rw [hg] at hf
    simp only [Option.map_none] at hf
    simp only [Instr.lookup, Sem.run_bind, run_underlying T.und, Result.andThen_ok, MapKept.run_getObj_map h, Sem.run_pure, hc, hf, T.zero, GoMap.get, hg, Option.map_none, Option.getD_none, Option.isSome_none]
  | some q =>
    rw [hg] at hf
    simp only [Option.map_some] at hf
    simp only [Instr.lookup, Sem.run_bind, run_underlying T.und, Result.andThen_ok, MapKept.run_getObj_map h, Sem.run_pure, hc, hf, GoMap.get, hg, Option.map_some, Option.getD_some, Option.isSome_some]
theorem exec_lookup {c : Bool} (ho : o.op = .lookup t x y c) (ρ : Operand → Value) (w : World) : (execOp ρ o).run P w = ((Instr.lookup t (ρ x) (ρ y) c).run P w).andThen fun v w => .ok (.value v) w := by
  simp [execOp, ho]
theorem Rd.lookup (T : MapT P t kt et z) (KT : KeyT P kt kenc) (ho : o.op = .lookup t x y false) (hx : ev L x = some (.map (some b))) (hy : ev L y = some kv) (hp : mapC kenc venc b m ∈ O) (hk : kenc k = kv) : Rd P o L R O (((m.get k).map venc).getD z) := fun ρ w hρ _ hO => by
  rw [exec_lookup ho, hρ _ _ hx, hρ _ _ hy, ← hk, run_lookup T KT (hO _ hp)]; rfl
theorem Rd.lookupR (T : MapT P t kt et z) (KT : KeyT P kt kenc) (ho : o.op = .lookup t x y false) (hx : ev L x = some (.map (some b))) (hy : ev L y = some kv) (hp : mapP kenc venc b m ∈ R) (hk : kenc k = kv) : Rd P o L R O (((m.get k).map venc).getD z) := fun ρ w hρ hR _ => by
  rw [exec_lookup ho, hρ _ _ hx, hρ _ _ hy, ← hk, run_lookup T KT (hR _ hp)]; rfl
theorem Rd.lookup2 (T : MapT P t kt et z) (KT : KeyT P kt kenc) (ho : o.op = .lookup t x y true) (hx : ev L x = some (.map (some b))) (hy : ev L y = some kv) (hp : mapC kenc venc b m ∈ O) (hk : kenc k = kv) : Rd P o L R O (.tuple #[((m.get k).map venc).getD z, .bool (m.get k).isSome]) := fun ρ w hρ _ hO => by
  rw [exec_lookup ho, hρ _ _ hx, hρ _ _ hy, ← hk, run_lookup T KT (hO _ hp)]; rfl
theorem Rd.lookup2R (T : MapT P t kt et z) (KT : KeyT P kt kenc) (ho : o.op = .lookup t x y true) (hx : ev L x = some (.map (some b))) (hy : ev L y = some kv) (hp : mapP kenc venc b m ∈ R) (hk : kenc k = kv) : Rd P o L R O (.tuple #[((m.get k).map venc).getD z, .bool (m.get k).isSome]) := fun ρ w hρ hR _ => by
  rw [exec_lookup ho, hρ _ _ hx, hρ _ _ hy, ← hk, run_lookup T KT (hR _ hp)]; rfl
theorem setL_modify {l : List (κ × β × Nat)} (hk : (l.map (·.1)).Nodup) {j : Nat} {u v : β} {s : Nat} (hj : l[j]? = some (k, u, s)) :
    (l.map (ent kenc venc)).modify j (fun e => { e with key := kenc k, val := venc v }) = (GoMap.setL l k v).map (ent kenc venc) := by
  apply List.ext_getElem?
  intro i
  rw [List.getElem?_modify, GoMap.setL, List.map_map, List.getElem?_map, List.getElem?_map]
  cases hi : l[i]? with
  | none => rfl
  | some q =>
    by_cases e : j = i
    · subst e
      rw [hj] at hi
      cases hi
      simp [ent]
    · have hne : q.1 ≠ k := by
        intro h
        exact e (GoMap.nodup_pos hk hj hi h.symm)
      simp [e, hne]
theorem run_update (T : MapT P t kt et z) (KT : KeyT P kt kenc) {w : World} (h : mapP kenc venc b m w) (v : β) : (Instr.mapUpdate t (.map (some b)) (kenc k) (venc v)).run P w = .ok () { w with heap := w.heap.setIfInBounds b (.map ((m.set k v).l.map (ent kenc venc)).toArray (m.set k v).clock) } := by
  unfold mapP at h
  have hf := KT.find w venc m.l k
  have hc := KT.check w false k
  cases hg : GoMap.gfind m.l k 0 with
  | none =>
    rw [hg] at hf
    simp only [Option.map_none] at hf
    simp only [Instr.mapUpdate, Sem.run_bind, run_underlying T.und, Result.andThen_ok, MapKept.run_getObj_map h, hc, hf, run_setObj_map _ h]
    have e1 : (m.set k v).l = m.l ++ [(k, v, m.clock)] := by rw [GoMap.set, dif_neg (by rw [hg]; simp)]
    have e2 : (m.set k v).clock = m.clock + 1 := by rw [GoMap.set, dif_neg (by rw [hg]; simp)]
    rw [e1, e2, List.map_append]
    simp [ent]
  | some q =>
    obtain ⟨j, u⟩ := q
    obtain ⟨_, s, hj⟩ := GoMap.gfind_some hg
    rw [Nat.sub_zero] at hj
    rw [hg] at hf
    simp only [Option.map_some] at hf
    have hold : (((m.l.map (ent kenc venc)).toArray[j]?).map (·.key)).getD (kenc k) = kenc k := by
      rw [List.getElem?_toArray, List.getElem?_map, hj]; rfl
    simp only [Instr.mapUpdate, Sem.run_bind, run_underlying T.und, Result.andThen_ok, MapKept.run_getObj_map h, hc, hf, hold, KT.same, run_setObj_map _ h]
    have e1 : (m.set k v).l = GoMap.setL m.l k v := by rw [GoMap.set, dif_pos (by rw [hg]; simp)]
    have e2 : (m.set k v).clock = m.clock := by rw [GoMap.set, dif_pos (by rw [hg]; simp)]
    rw [e1, e2, ← setL_modify m.keys hj, List.modify_toArray]
theorem OpW.mapUpdate {v : β} {vv : Value} (T : MapT P t kt et z) (KT : KeyT P kt kenc) (ho : o.op = .mapUpdate t x y u) (hx : ev L x = some (.map (some b))) (hy : ev L y = some kv) (hu : ev L u = some vv) (hT : Take (mapC kenc venc b m) O O') (hk : kenc k = kv) (hv : venc v = vv) (hd : o.dst = none)
    (c : K L R (mapC kenc venc b (m.set k v) :: O')) : OpW P n o L R O K := by
  intro a w hf hs Q
  have hs' := hs.perm hT.perm
  have hp : mapP kenc venc b m w := hs'.see List.mem_cons_self
  unfold Oper.wp
  have hr : (execOp a.eval o).run P w = .ok .skip { w with heap := w.heap.setIfInBounds b (.map ((m.set k v).l.map (ent kenc venc)).toArray (m.set k v).clock) } := by
    simp only [execOp, ho, Sem.run_bind, hf.ev hx, hf.ev hy, hf.ev hu, ← hk, ← hv, run_update T KT hp, Result.andThen_ok, Sem.run_pure]
  rw [hr, Oper.upon_skip, hd]
  exact ⟨_, _, _, c, hf.none _, map_put hs' _ hp⟩
theorem eraseIdx_filter {l : List (κ × β × Nat)} (hk : (l.map (·.1)).Nodup) {j : Nat} {u : β} {s : Nat} (hj : l[j]? = some (k, u, s)) : l.eraseIdx j = l.filter (fun x => decide (x.1 ≠ k)) := by
  induction l generalizing j with
  | nil => simp at hj
  | cons x l ih =>
    rw [List.map_cons, List.nodup_cons] at hk
    cases j with
    | zero =>
      simp only [List.getElem?_cons_zero, Option.some.injEq] at hj
      subst hj
      rw [List.eraseIdx_cons_zero, List.filter_cons_of_neg (by simp)]
      symm
      rw [List.filter_eq_self]
      intro y hy
      simp only [decide_eq_true_eq]
      intro e
      exact hk.1 (List.mem_map.2 ⟨y, hy, e⟩)
    | succ j =>
      simp only [List.getElem?_cons_succ] at hj
      have hne : x.1 ≠ k := by
        intro e
        have : k ∈ l.map (·.1) := List.mem_map.2 ⟨_, List.mem_of_getElem? hj, rfl⟩
        exact hk.1 (e ▸ this)
      rw [List.eraseIdx_cons_succ, List.filter_cons_of_pos (by simpa using hne), ih hk.2 hj]
theorem erase_map {α γ : Type} (f : α → γ) : ∀ (l : List α) (j : Nat), (l.map f).eraseIdx j = (l.eraseIdx j).map f
  | [], j => by simp
  | a :: l, 0 => rfl
  | a :: l, j + 1 => by rw [List.map_cons, List.eraseIdx_cons_succ, List.eraseIdx_cons_succ, List.map_cons, erase_map f l j]
theorem run_delete (T : MapT P t kt et z) (KT : KeyT P kt kenc) {w : World} (h : mapP kenc venc b m w) (t' ty : TypeId) : (Builtin.delete_ #[t, t'] ty #[.map (some b), kenc k]).run P w = .ok (.tuple #[]) { w with heap := w.heap.setIfInBounds b (.map ((m.del k).l.map (ent kenc venc)).toArray (m.del k).clock) } := by
  unfold mapP at h
  have hf := KT.find w venc m.l k
  have hc := KT.check w (m.l.map (ent kenc venc)).toArray.isEmpty k
  cases hg : GoMap.gfind m.l k 0 with
  | none =>
    rw [hg] at hf
    simp only [Option.map_none] at hf
    have e1 : (m.del k).l = m.l := by
      show m.l.filter _ = m.l
      rw [List.filter_eq_self]
      intro x hx
      simpa using GoMap.gfind_none.1 hg x hx
    have e2 : (m.del k).clock = m.clock := rfl
    rw [e1, e2]
    simp only [Builtin.delete_, Sem.run_bind, List.getElem?_toArray, List.getElem?_cons_zero, List.getElem?_cons_succ, run_underlying T.und, Result.andThen_ok, MapKept.run_getObj_map h, hc, hf, run_setObj_map _ h, Sem.run_pure]
  | some q =>
    obtain ⟨j, u⟩ := q
    obtain ⟨_, s, hj⟩ := GoMap.gfind_some hg
    rw [Nat.sub_zero] at hj
    rw [hg] at hf
    simp only [Option.map_some] at hf
    have e1 : (m.del k).l = m.l.eraseIdx j := (eraseIdx_filter m.keys hj).symm
    have e2 : (m.del k).clock = m.clock := rfl
    have e3 : (m.l.map (ent kenc venc)).toArray.eraseIdxIfInBounds j = ((m.l.eraseIdx j).map (ent kenc venc)).toArray := by
      have hlt := (List.getElem?_eq_some_iff.1 hj).1
      rw [Array.eraseIdxIfInBounds_eq, dif_pos (by simpa using hlt), List.eraseIdx_toArray, erase_map]
    rw [e1, e2, ← e3]
    simp only [Builtin.delete_, Sem.run_bind, List.getElem?_toArray, List.getElem?_cons_zero, List.getElem?_cons_succ, run_underlying T.und, Result.andThen_ok, MapKept.run_getObj_map h, hc, hf, run_setObj_map _ h, Sem.run_pure]
end rules
end
end Go.SL
