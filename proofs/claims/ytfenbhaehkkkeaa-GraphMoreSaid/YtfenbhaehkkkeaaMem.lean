/-
  Memory: slices that are read (SlE), rows that are owned (rowC), slices that are appended to (accC), and the rules of the operations on them. No program is in sight.
-/
import Derived.Test.YtfenbhaehkkkeaaOps
import Derived.Deep.AppendSrc
import Derived.Laws.MakeOwn
import Derived.Laws.OwnMore
import Derived.Laws.CopyRow
namespace Go.SL
open Go

/-- A type whose variables are one cell. -/
def Cell1 (P : Program) (t : TypeId) : Prop := ∀ w, (isAgg t).run P w = .ok false w
/-- A struct's or an array's type: so many cells. -/
def Agg (P : Program) (t : TypeId) (size : Nat) : Prop := (∀ w, (isAgg t).run P w = .ok true w) ∧ ∀ w, (sizeOf t).run P w = .ok size w
structure SlT (P : Program) (t e : TypeId) (size bytes : Nat) (z : Value) : Prop where
  under : P.underlying t = some (.slice e)
  info : ∃ i, P.info? e = some i ∧ i.zero = some z ∧ i.size = size ∧ i.bytes = bytes
  zsize : z.cells.size = size
  pos : 0 < size

theorem SlT.sizeOf {P : Program} {t e : TypeId} {size bytes : Nat} {z : Value} (h : SlT P t e size bytes z) (w : World) : (Go.sizeOf e).run P w = .ok size w := by
  obtain ⟨i, hi, _, hs, _⟩ := h.info
  simp [Go.sizeOf, typeInfo, hi, hs]
theorem SlT.zero {P : Program} {t e : TypeId} {size bytes : Nat} {z : Value} (h : SlT P t e size bytes z) (w : World) : (zeroValue e).run P w = .ok z w := by
  obtain ⟨i, hi, hz, _, _⟩ := h.info
  simp [zeroValue, typeInfo, hi, hz]

/-- The second list is the first one, written out. -/
inductive NF {α : Type} : List α → List α → Prop
  | nil : NF [] []
  | cons {a : α} {r r' : List α} (h : NF r r') : NF (a :: r) (a :: r')
theorem NF.eq {α : Type} {l l' : List α} (h : NF l l') : l = l' := by
  induction h with
  | nil => rfl
  | cons _ ih => rw [ih]

/-- A value of one cell. -/
structure OneV (v : Value) : Prop where
  cells : v.cells = #[v]
  one : v.oneCell' = true
theorem OneV.sl {o : Option Addr} {n c : Nat} : OneV (.slice o n c) := ⟨rfl, rfl⟩

/-! ### what is only read -/
section sle
variable {α : Type}
/-- The value v is a slice whose elements are the xs, each laid out as 'enc' says. -/
def SlE (enc : α → List Value) (v : Value) (xs : List α) : RO := fun w =>
  ∃ o c, v = .slice o xs.length c ∧ xs.length ≤ c ∧ c ≤ maxLen ∧ (o = none → xs.length = 0) ∧ ∀ a, o = some a → (0 < xs.length → a.spot = none) ∧ ∀ j u, (xs.flatMap enc)[j]? = some u → w.cell? ⟨a.block, a.off + j, none⟩ = some u
def elemAddr (v : Value) (j : Nat) : Addr := match v with
  | .slice (some a) _ _ => ⟨a.block, a.off + j, none⟩
  | _ => ⟨0, 0, none⟩
def one (g : α → Value) : α → List Value := fun x => [g x]
theorem flat_one (g : α → Value) (xs : List α) : xs.flatMap (one g) = xs.map g := by
  induction xs with
  | nil => rfl
  | cons x r ih => simp [one] at ih ⊢; simp [ih]
theorem flat_get {enc : α → List Value} {size : Nat} (hs : ∀ x, (enc x).length = size) : ∀ (xs : List α) (k f : Nat) (x : α) (u : Value), xs[k]? = some x → (enc x)[f]? = some u → (xs.flatMap enc)[k * size + f]? = some u := by
  intro xs
  induction xs with
  | nil => intro k f x u h; simp at h
  | cons y r ih =>
    intro k f x u h hu
    cases k with
    | zero =>
      simp at h; subst h
      have hf : f < (enc y).length := (List.getElem?_eq_some_iff.1 hu).1
      simp only [List.flatMap_cons, Nat.zero_mul, Nat.zero_add]
      rw [List.getElem?_append_left hf]; exact hu
    | succ k =>
      simp only [List.flatMap_cons]
      rw [List.getElem?_append_right (by rw [hs]; rw [Nat.add_mul, Nat.one_mul]; omega), hs, show (k + 1) * size + f - size = k * size + f from by rw [Nat.add_mul, Nat.one_mul]; omega]
      exact ih k f x u (by simpa using h) hu
theorem flat_len {enc : α → List Value} {size : Nat} (hs : ∀ x, (enc x).length = size) (xs : List α) : (xs.flatMap enc).length = xs.length * size := by
  induction xs with
  | nil => simp
  | cons x r ih => simp [hs, ih, Nat.add_mul]; omega
theorem get!_of_lt [Inhabited α] {xs : List α} {k : Nat} (h : k < xs.length) : xs[k]? = some xs[k]! := by simp [h]
end sle

section own
variable {α : Type}
/-- Block b holds just the cells cs. -/
def rowC (b : Nat) (e : TypeId) (cs : List Value) : Own := { blks := [b], pred := fun w => w.heap[b]? = some (.cells cs.toArray e (0, 0)) }
/-- A slice of the call's own that may be appended to (nil, too). -/
def accC (e : TypeId) (size : Nat) (enc : α → List Value) (v : Value) (xs : List α) : Own := { blks := v.ownBlock.toList, pred := fun w => w.ownsRow 0 e size v xs.length (xs.flatMap enc) }
end own

section rules
variable {P : Program} {n : Sz} {o : Oper} {L : Env} {R : List RO} {O O' : List Own} {K : Env → List RO → List Own → Prop} {x y c : Operand} {v u : Value} {t t' e : TypeId} {α : Type} {enc : α → List Value} {xs : List α} {size bytes : Nat} {z : Value}

theorem Rd.lenE (ho : o.op = .call { callee := .builtin .len, args := #[x], argTypes := #[t] }) (hx : ev L x = some v) (hT : P.underlying t = some (.slice e)) (hp : SlE enc v xs ∈ R) : Rd P o L R O (.int .i64 xs.length) := fun ρ w hρ hR _ => by
  obtain ⟨o', c, rfl, _⟩ := hR _ hp
  simp [execOp, ho, resolve, invoke, builtin, hρ _ _ hx, Builtin.len_, run_underlying hT, goInt]
theorem Rd.lenA (ho : o.op = .call { callee := .builtin .len, args := #[x], argTypes := #[t] }) (hx : ev L x = some v) (hT : P.underlying t = some (.slice e)) {e' : TypeId} (hp : accC e' size enc v xs ∈ O) : Rd P o L R O (.int .i64 xs.length) := fun ρ w hρ _ hO => by
  rcases (hO _ hp).2 with ⟨rfl, h0⟩ | ⟨g, cap, cur, rfl, _⟩
  · simp [execOp, ho, resolve, invoke, builtin, hρ _ _ hx, Builtin.len_, run_underlying hT, goInt, h0]
  · simp [execOp, ho, resolve, invoke, builtin, hρ _ _ hx, Builtin.len_, run_underlying hT, goInt]

theorem add_spot {a : Addr} (h : a.spot = none) (m : Nat) : a.add m = ⟨a.block, a.off + m, none⟩ := by
  unfold Addr.add
  split
  · subst m; cases a; simp at h; simp [h]
  · rfl
theorem run_indexAt {a : Addr} (hs : a.spot = none) {len cp : Nat} {k : Nat} {kd : IntKind} (hT : SlT P t e size bytes z) (hk : k < len) (w : World) : (Instr.indexAt t (.slice (some a) len cp) (.int kd (k : Int))).run P w = .ok (.pointer (some (⟨a.block, a.off + k * size, none⟩ : Addr))) w := by
  have h1 : (0 : Int) ≤ (k : Int) ∧ (k : Int) < (len : Int) := ⟨by omega, by omega⟩
  simp [Instr.indexAt, asIntOf, run_underlying hT.under, h1, hk, hT.sizeOf, add_spot hs]
/-- The address of element k. -/
theorem Rd.idx {kd : IntKind} {k : Nat} {p : Int} (ho : o.op = .indexAddr t x y) (hT : SlT P t e size bytes z) (hx : ev L x = some v) (hy : ev L y = some (.int kd p)) (hk : p = (k : Int)) (hp : SlE enc v xs ∈ R) (hlt : k < xs.length) : Rd P o L R O (.pointer (some (elemAddr v (k * size)))) := fun ρ w hρ hR _ => by
  obtain ⟨o', c, rfl, _, _, hn, ha⟩ := hR _ hp
  subst hk
  cases o' with
  | none => have := hn rfl; omega
  | some a => simp only [execOp, ho, hρ _ _ hx, hρ _ _ hy, Sem.run_bind, run_indexAt ((ha a rfl).1 (by omega)) hT hlt, Result.andThen_ok, Sem.run_pure, elemAddr]
theorem Rd.idx1 {kd : IntKind} {k : Nat} {p : Int} (ho : o.op = .indexAddr t x y) (hT : SlT P t e 1 bytes z) (hx : ev L x = some v) (hy : ev L y = some (.int kd p)) (hk : p = (k : Int)) (hp : SlE enc v xs ∈ R) (hlt : k < xs.length) : Rd P o L R O (.pointer (some (elemAddr v k))) := by
  have h := Rd.idx ho hT hx hy hk hp hlt (O := O)
  rwa [Nat.mul_one] at h
theorem Rd.idxA {kd : IntKind} {k : Nat} {p : Int} {e' : TypeId} (ho : o.op = .indexAddr t x y) (hT : SlT P t e size bytes z) (hx : ev L x = some v) (hy : ev L y = some (.int kd p)) (hk : p = (k : Int)) (hp : accC e' size enc v xs ∈ O) (hlt : k < xs.length) : Rd P o L R O (.pointer (some (elemAddr v (k * size)))) := fun ρ w hρ _ hO => by
  subst hk
  rcases (hO _ hp).2 with ⟨rfl, h0⟩ | ⟨g, cap, cur, rfl, _⟩
  · omega
  · simp only [execOp, ho, hρ _ _ hx, hρ _ _ hy, Sem.run_bind, run_indexAt (a := ⟨g, 0, none⟩) rfl hT hlt, Result.andThen_ok, Sem.run_pure, elemAddr]

theorem Rd.idxR {kd : IntKind} {k b off len cp r : Nat} {p : Int} (ho : o.op = .indexAddr t x y) (hT : SlT P t e size bytes z) (hx : ev L x = some (.slice (some ⟨b, off, none⟩) len cp)) (hy : ev L y = some (.int kd p)) (hk : p = (k : Int)) (hlt : k < len) (hr : off + k * size = r := by rfl) : Rd P o L R O (.pointer (some ⟨b, r, none⟩)) := fun ρ w hρ _ _ => by
  subst hk; subst hr
  simp only [execOp, ho, hρ _ _ hx, hρ _ _ hy, Sem.run_bind, run_indexAt (a := ⟨b, off, none⟩) rfl hT hlt, Result.andThen_ok, Sem.run_pure]
theorem Rd.idxR1 {kd : IntKind} {k b len cp : Nat} {p : Int} (ho : o.op = .indexAddr t x y) (hT : SlT P t e 1 bytes z) (hx : ev L x = some (.slice (some ⟨b, 0, none⟩) len cp)) (hy : ev L y = some (.int kd p)) (hk : p = (k : Int)) (hlt : k < len) : Rd P o L R O (.pointer (some ⟨b, k, none⟩)) :=
  Rd.idxR ho hT hx hy hk hlt (by rw [Nat.mul_one, Nat.zero_add])
theorem Rd.idxA1 {kd : IntKind} {k : Nat} {p : Int} {e' : TypeId} (ho : o.op = .indexAddr t x y) (hT : SlT P t e 1 bytes z) (hx : ev L x = some v) (hy : ev L y = some (.int kd p)) (hk : p = (k : Int)) (hp : accC e' 1 enc v xs ∈ O) (hlt : k < xs.length) : Rd P o L R O (.pointer (some (elemAddr v k))) := by
  have h := Rd.idxA ho hT hx hy hk hp hlt (R := R)
  rwa [Nat.mul_one] at h
theorem run_load1 (hc : Cell1 P t) {a : Addr} {w : World} (h : w.cell? a = some v) : (Instr.loadAt t (.pointer (some a))).run P w = .ok v w := by
  simp [Instr.loadAt, Instr.sureAddr, loadVar, hc w, h]
theorem run_loadCellsFrom {a : Addr} (hs : a.spot = none) {w : World} : ∀ (m i : Nat) (cs : List Value) (acc : Array Value), cs.length = m → (∀ j u, cs[j]? = some u → w.cell? ⟨a.block, a.off + (i + j), none⟩ = some u) → (loadCellsFrom a i m acc).run P w = .ok (acc ++ cs.toArray) w := by
  intro m
  induction m with
  | zero => intro i cs acc hl _; rw [List.length_eq_zero_iff.1 hl]; simp [loadCellsFrom]
  | succ m ih =>
    intro i cs acc hl h
    match cs, hl with
    | d :: r, hl =>
      have h0 := h 0 d (by simp)
      have hr := ih (i + 1) r (acc.push d) (by simpa using hl) (fun j u hj => by have := h (j + 1) u (by simpa using hj); rwa [show i + (j + 1) = i + 1 + j from by omega] at this)
      simp only [Nat.add_zero] at h0
      simp [loadCellsFrom, add_spot hs, h0, hr]
theorem run_loadAgg (hc : Agg P t size) {a : Addr} (hs : a.spot = none) {w : World} {cs : List Value} (hl : cs.length = size) (h : ∀ j u, cs[j]? = some u → w.cell? ⟨a.block, a.off + j, none⟩ = some u) : (Instr.loadAt t (.pointer (some a))).run P w = .ok (.agg cs.toArray) w := by
  have h1 := run_loadCellsFrom (P := P) hs size 0 cs #[] hl (fun j u hj => by simpa using h j u hj)
  simp [Instr.loadAt, Instr.sureAddr, loadVar, hc.1 w, hc.2 w, loadCells, h1]

theorem SlE.cell {w : World} (h : SlE enc v xs w) {j : Nat} {u : Value} (hj : (xs.flatMap enc)[j]? = some u) : w.cell? (elemAddr v j) = some u := by
  obtain ⟨o', c, rfl, _, _, hn, ha⟩ := h
  cases o' with
  | none => have h0 := hn rfl; rw [List.length_eq_zero_iff.1 h0] at hj; simp at hj
  | some a => exact (ha a rfl).2 j u hj
theorem acc_cell {w : World} {e' : TypeId} (h : (accC e' size enc v xs).pred w) {j : Nat} {u : Value} (hj : (xs.flatMap enc)[j]? = some u) : w.cell? (elemAddr v j) = some u := by
  rcases h.2 with ⟨rfl, h0⟩ | ⟨g, cap, cur, hv, _⟩
  · rw [List.length_eq_zero_iff.1 h0] at hj; simp at hj
  · subst hv
    have := World.ownsRow.cells h (g := g) rfl j u hj
    rw [add_spot rfl] at this
    exact this
theorem elemAddr_spot (v : Value) (j : Nat) : (elemAddr v j).spot = none := by unfold elemAddr; split <;> rfl
theorem elemAddr_add (v : Value) (j i : Nat) (h : ∃ a n c, v = .slice (some a) n c) : elemAddr v (j + i) = ⟨(elemAddr v j).block, (elemAddr v j).off + i, none⟩ := by
  obtain ⟨a, n, c, rfl⟩ := h; simp [elemAddr, Nat.add_assoc]

/-- An element of one cell. -/
theorem Rd.get {g : α → Value} {k : Nat} {a : α} (ho : o.op = .load t x) (hc : Cell1 P t) (hx : ev L x = some (.pointer (some (elemAddr v k)))) (hp : SlE (one g) v xs ∈ R) (hk : xs[k]? = some a) : Rd P o L R O (g a) := fun ρ w hρ hR _ => by
  have h := SlE.cell (hR _ hp) (j := k) (u := g a) (by rw [flat_one]; simp [hk])
  simp only [execOp, ho, hρ _ _ hx, Sem.run_bind, run_load1 hc h, Result.andThen_ok, Sem.run_pure]
theorem Rd.getA {g : α → Value} {k : Nat} {a : α} {e' : TypeId} (ho : o.op = .load t x) (hc : Cell1 P t) (hx : ev L x = some (.pointer (some (elemAddr v k)))) (hp : accC e' 1 (one g) v xs ∈ O) (hk : xs[k]? = some a) : Rd P o L R O (g a) := fun ρ w hρ _ hO => by
  have h := acc_cell (hO _ hp) (j := k) (u := g a) (by rw [flat_one]; simp [hk])
  simp only [execOp, ho, hρ _ _ hx, Sem.run_bind, run_load1 hc h, Result.andThen_ok, Sem.run_pure]
/-- One cell of an element of several (its field f). -/
theorem Rd.getF {k f j : Nat} {a : α} (ho : o.op = .load t x) (hc : Cell1 P t) (hx : ev L x = some (.pointer (some (elemAddr v j)))) (hp : SlE enc v xs ∈ R) (hs : ∀ x, (enc x).length = size) (hj : j = k * size + f) (hk : xs[k]? = some a) (hf : (enc a)[f]? = some u) : Rd P o L R O u := fun ρ w hρ hR _ => by
  have h := SlE.cell (hR _ hp) (j := j) (u := u) (by rw [hj]; exact flat_get hs xs k f a u hk hf)
  simp only [execOp, ho, hρ _ _ hx, Sem.run_bind, run_load1 hc h, Result.andThen_ok, Sem.run_pure]
theorem Rd.getFA {k f j : Nat} {a : α} {e' : TypeId} (ho : o.op = .load t x) (hc : Cell1 P t) (hx : ev L x = some (.pointer (some (elemAddr v j)))) (hp : accC e' size enc v xs ∈ O) (hs : ∀ x, (enc x).length = size) (hj : j = k * size + f) (hk : xs[k]? = some a) (hf : (enc a)[f]? = some u) : Rd P o L R O u := fun ρ w hρ _ hO => by
  have h := acc_cell (hO _ hp) (j := j) (u := u) (by rw [hj]; exact flat_get hs xs k f a u hk hf)
  simp only [execOp, ho, hρ _ _ hx, Sem.run_bind, run_load1 hc h, Result.andThen_ok, Sem.run_pure]
/-- A whole element of several cells. -/
theorem Rd.getS {k : Nat} {a : α} {cs : List Value} (ho : o.op = .load t x) (hc : Agg P t size) (hx : ev L x = some (.pointer (some (elemAddr v (k * size))))) (hp : SlE enc v xs ∈ R) (hs : ∀ x, (enc x).length = size) (hk : xs[k]? = some a) (he : NF (enc a) cs) : Rd P o L R O (.agg cs.toArray) := fun ρ w hρ hR _ => by
  obtain rfl := he.eq
  have hE := hR _ hp
  have hv : ∃ ad n c, v = .slice (some ad) n c := by
    obtain ⟨o', c, rfl, _, _, hn, ha⟩ := hE
    cases o' with
    | none => have h0 := hn rfl; rw [List.length_eq_zero_iff.1 h0] at hk; simp at hk
    | some ad => exact ⟨ad, _, _, rfl⟩
  have h := run_loadAgg (P := P) (w := w) hc (elemAddr_spot v (k * size)) (hs a) (fun j u hj => by
    rw [← elemAddr_add v (k * size) j hv]
    exact SlE.cell hE (flat_get hs xs k j a u hk hj))
  simp only [execOp, ho, hρ _ _ hx, Sem.run_bind, h, Result.andThen_ok, Sem.run_pure]
theorem Rd.getSA {k : Nat} {a : α} {cs : List Value} {e' : TypeId} (ho : o.op = .load t x) (hc : Agg P t size) (hx : ev L x = some (.pointer (some (elemAddr v (k * size))))) (hp : accC e' size enc v xs ∈ O) (hs : ∀ x, (enc x).length = size) (hk : xs[k]? = some a) (he : NF (enc a) cs) : Rd P o L R O (.agg cs.toArray) := fun ρ w hρ _ hO => by
  obtain rfl := he.eq
  have hE := hO _ hp
  have hv : ∃ ad n c, v = .slice (some ad) n c := by
    rcases hE.2 with ⟨rfl, h0⟩ | ⟨g, cap, cur, hv, _⟩
    · rw [List.length_eq_zero_iff.1 h0] at hk; simp at hk
    · exact ⟨_, _, _, hv⟩
  have h := run_loadAgg (P := P) (w := w) hc (elemAddr_spot v (k * size)) (hs a) (fun j u hj => by
    rw [← elemAddr_add v (k * size) j hv]
    exact acc_cell hE (flat_get hs xs k j a u hk hj))
  simp only [execOp, ho, hρ _ _ hx, Sem.run_bind, h, Result.andThen_ok, Sem.run_pure]

/-! ### rows -/
section rows
variable {b off : Nat} {cs : List Value}
theorem row_cell {w : World} (h : (rowC b e cs).pred w) {j : Nat} {u : Value} (hj : cs[j]? = some u) : w.cell? ⟨b, j, none⟩ = some u := by
  have h' : w.heap[b]? = some (.cells cs.toArray e (0, 0)) := h
  simp [World.cell?, h', hj]
theorem row_free {w : World} (h : (rowC b e cs).pred w) (j : Nat) : w.frozen? ⟨b, j, none⟩ = false := by
  have h' : w.heap[b]? = some (.cells cs.toArray e (0, 0)) := h
  simp [World.frozen?, h']
theorem Rd.row1 (ho : o.op = .load t x) (hc : Cell1 P t) (hx : ev L x = some (.pointer (some ⟨b, off, none⟩))) (hp : rowC b e cs ∈ O) (hk : cs[off]? = some u) : Rd P o L R O u := fun ρ w hρ _ hO => by
  simp only [execOp, ho, hρ _ _ hx, Sem.run_bind, run_load1 hc (row_cell (hO _ hp) hk), Result.andThen_ok, Sem.run_pure]
theorem Rd.rowS (ho : o.op = .load t x) (hc : Agg P t size) (hx : ev L x = some (.pointer (some ⟨b, off, none⟩))) (hp : rowC b e cs ∈ O) {ds : List Value} (hk' : NF ((cs.drop off).take size) ds) (hl : ds.length = size) : Rd P o L R O (.agg ds.toArray) := fun ρ w hρ _ hO => by
  have hk := hk'.eq
  have h := run_loadAgg (P := P) (w := w) hc (a := ⟨b, off, none⟩) rfl hl (fun j u hj => row_cell (hO _ hp) (by
    rw [← hk, List.getElem?_take] at hj
    split at hj
    · rwa [List.getElem?_drop] at hj
    · cases hj))
  simp only [execOp, ho, hρ _ _ hx, Sem.run_bind, h, Result.andThen_ok, Sem.run_pure]
/-- The address of a field. -/
def FieldAt (P : Program) (s : TypeId) (f off : Nat) : Prop := ∃ fields fd m, P.underlying s = some (.struct fields) ∧ fields[f]? = some fd ∧ fd.offset = off ∧ (∀ w, (sizeOf fd.type).run P w = .ok (m + 1) w)
theorem run_fieldAt {s : TypeId} {f fo : Nat} (h : FieldAt P s f fo) (a : Addr) (hs : a.spot = none) (w : World) : (Instr.fieldAt s (.pointer (some a)) f).run P w = .ok (.pointer (some ⟨a.block, a.off + fo, none⟩)) w := by
  obtain ⟨fields, fd, m, h1, h2, h3, h4⟩ := h
  simp [Instr.fieldAt, run_underlying h1, h2, Instr.sureAddr, fieldPlace, h4, h3, add_spot hs]
theorem Rd.field {s : TypeId} {f fo : Nat} {r : Nat} (ho : o.op = .fieldAddr s x f) (hF : FieldAt P s f fo) (hx : ev L x = some (.pointer (some ⟨b, off, none⟩))) (hr : off + fo = r) : Rd P o L R O (.pointer (some ⟨b, r, none⟩)) := fun ρ w hρ _ _ => by
  subst hr
  simp only [execOp, ho, hρ _ _ hx, Sem.run_bind, run_fieldAt hF ⟨b, off, none⟩ rfl, Result.andThen_ok, Sem.run_pure]
theorem Rd.fieldE {s : TypeId} {f fo j : Nat} (ho : o.op = .fieldAddr s x f) (hF : FieldAt P s f fo) (hx : ev L x = some (.pointer (some (elemAddr v j)))) (hp : SlE enc v xs ∈ R) (hne : 0 < xs.length) : Rd P o L R O (.pointer (some (elemAddr v (j + fo)))) := fun ρ w hρ hR _ => by
  have hv : ∃ ad n c, v = .slice (some ad) n c := by
    obtain ⟨o', c, rfl, _, _, hn, ha⟩ := hR _ hp
    cases o' with
    | none => have h0 := hn rfl; omega
    | some ad => exact ⟨ad, _, _, rfl⟩
  simp only [execOp, ho, hρ _ _ hx, Sem.run_bind, run_fieldAt hF _ (elemAddr_spot v j), Result.andThen_ok, Sem.run_pure, elemAddr_add v j fo hv]
theorem Rd.fieldA {s : TypeId} {f fo j : Nat} {e' : TypeId} (ho : o.op = .fieldAddr s x f) (hF : FieldAt P s f fo) (hx : ev L x = some (.pointer (some (elemAddr v j)))) (hp : accC e' size enc v xs ∈ O) (hne : 0 < xs.length) : Rd P o L R O (.pointer (some (elemAddr v (j + fo)))) := fun ρ w hρ _ hO => by
  have hv : ∃ ad n c, v = .slice (some ad) n c := by
    rcases (hO _ hp).2 with ⟨rfl, h0⟩ | ⟨g, cap, cur, hv, _⟩
    · omega
    · exact ⟨_, _, _, hv⟩
  simp only [execOp, ho, hρ _ _ hx, Sem.run_bind, run_fieldAt hF _ (elemAddr_spot v j), Result.andThen_ok, Sem.run_pure, elemAddr_add v j fo hv]
/-- A field of a struct's value. -/
theorem Rd.part {s ft : TypeId} {f fo : Nat} {cs : Array Value} {fields : Array Field} {fd : Field} (ho : o.op = .field s x f) (h1 : P.underlying s = some (.struct fields)) (h2 : fields[f]? = some fd) (hc : Cell1 P fd.type) (h3 : fd.offset = fo) (hx : ev L x = some (.agg cs)) (hk : cs[fo]? = some u) : Rd P o L R O u := fun ρ w hρ _ _ => by
  subst h3
  simp [execOp, ho, hρ _ _ hx, Instr.field, run_underlying h1, h2, asAgg, Go.part, hc w, hk]
theorem zip_pairs (ρ : Operand → Value) : ∀ ps : List (Nat × Operand), ps.map (fun (i, x) => (i, ρ x)) = (ps.map (·.1)).zip ((ps.map (·.2)).map ρ)
  | [] => rfl
  | p :: r => by simp [zip_pairs ρ r]
/-- A struct's value out of its parts. -/
theorem Rd.build {ps : List (Nat × Operand)} {vals : List Value} {fields : Array Field} {i : TypeInfo} {zv : Value} {sizes : Array (Nat × Nat)} {cells : Array Value} (ho : o.op = .build t ps.toArray) (h1 : P.underlying t = some (.struct fields)) (hi : P.info? t = some i) (hz : i.zero = some zv)
    (hsz : ∀ w, (fields.mapM (m := Sem) fun f => do pure (f.offset, ← sizeOf f.type)).run P w = .ok sizes w) (hv : Evs L (ps.map (·.2)) vals) (hf : Instr.fill (sizes[·]?) zv.cells ((ps.map (·.1)).zip vals) = some cells) : Rd P o L R O (.agg cells) := fun ρ w hρ _ _ => by
  have e1 : (ps.toArray.map fun (i, x) => (i, ρ x)).toList = (ps.map (·.1)).zip vals := by
    have e2 := hv.eval hρ
    rw [← e2]
    simp only [List.map_toArray]
    exact zip_pairs ρ ps
  simp only [execOp, ho, Sem.run_bind, Instr.build, zeroValue, typeInfo, hi, hz, run_underlying h1, hsz, Result.andThen_ok, Sem.run_pure, run_program, e1, hf]

/-- New variables. -/
theorem OpW.new {d : Nat} {cells : Array Value} (hd : o.dst = some d) (hn : Nat.blt d n.n = true) (hr : ∀ ρ w, (∀ x u, ev L x = some u → ρ x = u) → (execOp ρ o).run P w = .ok (.value (.pointer (some ⟨w.heap.size, 0, none⟩))) (w.alloc (.cells cells e)))
    (k : ∀ b, K ((d, .pointer (some ⟨b, 0, none⟩)) :: L) R (rowC b e cells.toList :: O)) : OpW P n o L R O K := by
  intro a w hf hs Q
  unfold Oper.wp
  rw [hr a.eval w (fun x u hx => hf.ev hx), Oper.upon_value, hd]
  exact ⟨_, _, _, k w.heap.size, hf.put hn _, hs.alloc _ _ rfl (fun w' h _ => by simpa [rowC] using h)⟩
theorem OpW.alloc {d : Nat} {i : TypeInfo} {zv : Value} {zs : List Value} (ho : o.op = .alloc e) (hi : P.info? e = some i) (hz : i.zero = some zv) (hzs' : NF zv.cells.toList zs) (hd : o.dst = some d) (hn : Nat.blt d n.n = true)
    (k : ∀ b, K ((d, .pointer (some ⟨b, 0, none⟩)) :: L) R (rowC b e zs :: O)) : OpW P n o L R O K := by
  obtain rfl := hzs'.eq
  exact OpW.new hd hn (fun ρ w _ => by simp [execOp, ho, Instr.alloc, zeroValue, typeInfo, hi, hz, newVar, newRow]) k
theorem OpW.box {d : Nat} {zs : List Value} (ho : o.op = .box e x) (hx : ev L x = some v) (hzs' : NF v.cells.toList zs) (hd : o.dst = some d) (hn : Nat.blt d n.n = true)
    (k : ∀ b, K ((d, .pointer (some ⟨b, 0, none⟩)) :: L) R (rowC b e zs :: O)) : OpW P n o L R O K := by
  obtain rfl := hzs'.eq
  exact OpW.new hd hn (fun ρ w hρ => by simp [execOp, ho, hρ _ _ hx, Instr.box, newVar, newRow]) k

theorem OpW.box1 {d : Nat} (ho : o.op = .box e x) (hx : ev L x = some v) (hv : OneV v) (hd : o.dst = some d) (hn : Nat.blt d n.n = true)
    (k : ∀ b, K ((d, .pointer (some ⟨b, 0, none⟩)) :: L) R (rowC b e [v] :: O)) : OpW P n o L R O K :=
  OpW.new (cells := #[v]) hd hn (fun ρ w hρ => by simp [execOp, ho, hρ _ _ hx, Instr.box, newVar, newRow, hv.cells]) k

theorem setCell_row {w : World} {cs : List Value} (h : w.heap[b]? = some (.cells cs.toArray e (0, 0))) (j : Nat) (u : Value) : (w.setCell ⟨b, j, none⟩ u).heap[b]? = some (.cells (cs.set j u).toArray e (0, 0)) := by
  have := heap_setCell_same w b j cs.toArray e u h
  rw [this]; simp
/-- A store of one cell into a row. -/
theorem OpW.store1 {b off : Nat} {cs : List Value} (ho : o.op = .store t x y) (hsz : ∀ w, (sizeOf t).run P w = .ok 1 w) (hx : ev L x = some (.pointer (some ⟨b, off, none⟩))) (hy : ev L y = some v) (hv : OneV v) (hT : Take (rowC b e cs) O O') (hlt : off < cs.length) (hd : o.dst = none)
    (k : K L R (rowC b e (cs.set off v) :: O')) : OpW P n o L R O K := by
  intro a w hf hs Q
  have h1 := hv.cells
  have h2 := hv.one
  have hs' := hs.perm hT.perm
  have hp : (rowC b e cs).pred w := hs'.see List.mem_cons_self
  obtain ⟨u, hu⟩ : ∃ u, cs[off]? = some u := ⟨cs[off], by simp [hlt]⟩
  have hr : (execOp a.eval o).run P w = .ok .skip (w.setCell ⟨b, off, none⟩ v) := by
    simp [execOp, ho, hf.ev hx, hf.ev hy, Instr.storeAt, Instr.sureAddr, storeVar, hsz, h1, storeCells, Addr.add, run_store _ _ _ _ _ h2, row_cell hp hu, row_free hp]
  unfold Oper.wp
  rw [hr, Oper.upon_skip, hd]
  have hlt' : b < w.heap.size := hs'.lt b (by simp [owned, rowC])
  refine ⟨_, _, _, k, hf.none _, hs'.update _ ⟨rfl, rfl, rfl, by simp, fun j hj hn => heap_setCell_other w _ _ v (by simpa [rowC] using hn)⟩ (by simp [rowC]) (by simpa [rowC] using hlt') (by simp [rowC]) (fun w'' ha _ => ?_)⟩
  show w''.heap[b]? = _
  rw [ha.2.2.2.2 b (by simpa using hlt') (by simp [rowC])]
  exact setCell_row hp off v
end rows

/-! ### appending -/
theorem OpW.heap {R' : List RO} (hs : ∀ w, Sat R O w → Sat R' O' w) (h : OpW P n o L R' O' K) : OpW P n o L R O K := fun a w hf h0 Q => h a w hf (hs w h0) Q
theorem OpW.after {K' : Env → List RO → List Own → Prop} (h : OpW P n o L R O K') (hk : ∀ L' R' O', K' L' R' O' → ∃ R2 O2, K L' R2 O2 ∧ ∀ w, Sat R' O' w → Sat R2 O2 w) : OpW P n o L R O K := fun a w hf h0 Q =>
  Oper.wp_mono (fun a' w' ⟨L', R', O', h1, h2, h3⟩ => let ⟨R2, O2, k1, k2⟩ := hk L' R' O' h1; ⟨L', R2, O2, k1, h2, k2 w' h3⟩) (h a w hf h0 Q)
section app
variable {base : Nat}
theorem fill_all {w : World} {news : List Value} {a : Addr} (hs : a.spot = none) (h : ∀ j u, news[j]? = some u → w.cell? ⟨a.block, a.off + j, none⟩ = some u) : ∀ j u, news[j]? = some u → w.cell? (a.add j) = some u := fun j u hj => by rw [add_spot hs]; exact h j u hj

theorem run_append_src' (hT : SlT P t e size bytes z) (tx ty : TypeId) (w : World) {m : Nat} {xsc news : List Value} (hown : w.ownsRow 0 e size v m xsc) (xv : Value) (k : Nat) (hsrc : Src P size tx xv k news w)
    (h63 : m + k ≤ maxLen) (hbytes : (m + k) * bytes ≤ 140737488355328) :
    ∃ v' w', (Builtin.append_ #[t, tx] ty #[v, xv]).run P w = .ok v' w' ∧ w'.ownsRow 0 e size v' (m + k) (xsc ++ news) ∧ w.grownBy w' v.ownBlock ∧ (v'.ownBlock = v.ownBlock ∨ v'.ownBlock = some w.heap.size) := by
  obtain ⟨i, hi, hz, hsize, hby⟩ := hT.info
  subst hsize; subst hby
  have hlen : (xsc ++ news).length = (m + k) * i.size := by rw [List.length_append, hown.1, hsrc.newsLen, Nat.add_mul]
  have grown : ∀ (old : Nat), old < m + k → ∀ (row : Option Nat),
      (w.drew.alloc (.cells (xsc.toArray ++ news.toArray ++ Builtin.zeroCells z.cells (grownCap w (m + k) old e - (m + k))) e)).ownsRow 0 e i.size
        (.slice (some ⟨w.heap.size, 0, none⟩) (m + k) (grownCap w (m + k) old e)) (m + k) (xsc ++ news) ∧
      w.grownBy (w.drew.alloc (.cells (xsc.toArray ++ news.toArray ++ Builtin.zeroCells z.cells (grownCap w (m + k) old e - (m + k))) e)) row := by
    intro old ho row
    have hge := grownCap_ge w (m + k) old e
    have hcm : grownCap w (m + k) old e ≤ maxLen := grownCap_le_maxLen w (m + k) old e h63
    refine ⟨⟨hlen, .inr ⟨w.heap.size, _, _, rfl, Nat.zero_le _, SL.alloc_new w.drew _, hge, hcm, ?_, ?_⟩⟩, ⟨rfl, rfl, rfl, by simp, fun k hk _ => SL.alloc_old w.drew _ hk⟩⟩
    · simp only [Array.size_append, List.size_toArray, size_zeroCells, hT.zsize, hown.1, hsrc.newsLen, ← Nat.add_mul]
      congr 1
      omega
    · simp only [Array.toList_append, List.append_assoc]
      rw [← List.append_assoc, ← hlen]
      exact List.take_left
  have hzz := hT.zero
  have hss := hT.sizeOf
  have e1 : ∀ {w' : World}, (underlying t).run P w' = .ok (.slice e) w' := fun {w'} => run_underlying hT.under w'
  have e2 : ∀ {w' : World}, (typeInfo e).run P w' = .ok i w' := fun {w'} => by simp [typeInfo, hi]
  rcases hown.2 with ⟨rfl, rfl⟩ | ⟨g, cap, cur, rfl, hbg, hg, hnc, hcm, hcs, htake⟩
  · have hx : xsc = [] := List.eq_nil_of_length_eq_zero (by simpa using hown.1)
    subst hx
    by_cases hm : k = 0
    · subst hm
      have hnn : news = [] := List.eq_nil_of_length_eq_zero (by simpa using hsrc.newsLen)
      subst hnn
      refine ⟨.slice none 0 0, w, ?_, World.ownsRow_nil w 0 e i.size, ⟨rfl, rfl, rfl, Nat.le_refl _, fun _ _ _ => rfl⟩, .inl rfl⟩
      have hc := hsrc.cells
      rcases hsrc.kind with ⟨e', h⟩ | h <;> simp [Builtin.append_, e1, hss, run_underlying h, hsrc.len, hc]
    · have hgr := grown 0 (by omega) (Value.ownBlock (.slice none 0 0))
      refine ⟨_, _, ?_, hgr.1, hgr.2, .inr rfl⟩
      have hr := run_append_grow_src (P := P) w t tx ty e i z hT.under hi hz none 0 0 [] (by simp [Builtin.firstCells]) xv k news hsrc (by omega) (by simp only [maxLen] at h63; omega) (growslice_fits (by omega) (by simpa using hbytes))
      simpa using hr
  · by_cases hroom : m + k ≤ cap
    · have hfit : m * i.size + news.length ≤ cur.size := by rw [hsrc.newsLen, hcs, ← Nat.add_mul]; exact Nat.mul_le_mul_right _ hroom
      have hst := run_storeCells_at P g (m * i.size) e news 0 cur w hg (by simpa using hfit) hsrc.one
      simp only [Nat.add_zero] at hst
      refine ⟨_, w.setRow g (cur.toList.take (m * i.size) ++ news ++ cur.toList.drop (m * i.size + news.length)).toArray, ?_, ⟨hlen, .inr ⟨g, cap, _, rfl, hbg, setRow_heap w g cur _ e _ hg, hroom, hcm, ?_, ?_⟩⟩, ⟨rfl, rfl, rfl, by simp, fun k _ hk => setRow_other w g k _ (fun e => hk (by simp [Value.ownBlock, e]))⟩, .inl rfl⟩
      · have hc := hsrc.cells
        rcases hsrc.kind with ⟨e', h⟩ | h <;> simp [Builtin.append_, e1, hss, run_underlying h, hsrc.len, hc, hroom, Addr.add_lit, hst]
      · simp only [List.size_toArray, List.length_append, List.length_take, List.length_drop, Array.length_toList]
        omega
      · rw [htake, ← hlen]
        exact List.take_left
    · have holds : ∀ j u, xsc[j]? = some u → w.cell? ((⟨g, 0, none⟩ : Addr).add j) = some u := hown.cells (g := g) rfl
      have hgr := grown cap (by omega) (Value.ownBlock (.slice (some ⟨g, 0, none⟩) m cap))
      refine ⟨_, _, ?_, hgr.1, hgr.2, .inr rfl⟩
      have hr := run_append_grow_src (P := P) w t tx ty e i z hT.under hi hz (some ⟨g, 0, none⟩) m cap xsc (run_firstCells_some w.drew i.size m ⟨g, 0, none⟩ m cap xsc hown.1 (by simpa using holds)) xv k news hsrc (by omega) (by simp only [maxLen] at h63; omega) (growslice_fits (by omega) hbytes)
      simpa using hr

/-- The number of bytes and of elements that an append may come to. -/
def Room (m bytes : Nat) : Prop := m ≤ maxLen ∧ m * bytes ≤ 140737488355328
theorem Room.mk' {m bytes : Nat} (h : m * bytes ≤ 140737488355328) (hm : m ≤ 9223372036854775807) : Room m bytes := ⟨hm, h⟩

theorem ownBlock_lt {w : World} {m : Nat} {l : List Value} (h : w.ownsRow 0 e size v m l) : ∀ k ∈ v.ownBlock.toList, k < w.heap.size := fun k hk => (World.ownsRow.lt h k (by simpa using hk)).2

/-- append(s, x...), whatever x yields. -/
theorem OpW.append {β : Type} {enc : β → List Value} {xs ys : List β} {d : Nat} {xv : Value} {tx : TypeId} (ho : o.op = .call { callee := .builtin .append, args := #[x, y], argTypes := #[t, tx] }) (hT : SlT P t e size bytes z) (hx : ev L x = some v) (hy : ev L y = some xv)
    (hO : Take (accC e size enc v xs) O O') (hsrc : ∀ w, (∀ p ∈ R, p w) → (∀ c ∈ O, c.pred w) → Src P size tx xv ys.length (ys.flatMap enc) w) (hroom : Room (xs.length + ys.length) bytes) (hd : o.dst = some d) (hn : Nat.blt d n.n = true)
    (k : ∀ v', OneV v' → K ((d, v') :: L) R (accC e size enc v' (xs ++ ys) :: O')) : OpW P n o L R O K := by
  intro a w hf hs Q
  have hs' := hs.perm hO.perm
  have hp : w.ownsRow 0 e size v xs.length (xs.flatMap enc) := hs'.see List.mem_cons_self
  obtain ⟨v', w', hr, h1, h2, h3⟩ := run_append_src' hT tx o.type w hp xv ys.length (hsrc w (fun p hp => hs.read hp) (fun c hc => hs.see hc)) hroom.1 hroom.2
  have hr' : (execOp a.eval o).run P w = .ok (.value v') w' := by
    simp only [execOp, ho, resolve, invoke, builtin, hf.ev hx, hf.ev hy, Sem.run_bind, Sem.run_pure, Result.andThen_ok, List.map_toArray, List.map_cons, List.map_nil, hr]
  unfold Oper.wp
  rw [hr', Oper.upon_value, hd]
  have hlt : ∀ k ∈ v'.ownBlock.toList, k < w'.heap.size := ownBlock_lt h1
  have hone : OneV v' := by
    rcases h1.2 with ⟨rfl, _⟩ | ⟨g, cap, cur, rfl, _⟩ <;> exact OneV.sl
  refine ⟨_, _, _, k v' hone, hf.put hn v', hs'.update (accC e size enc v' (xs ++ ys)) ⟨h2.os, h2.tape, h2.output, h2.size, fun k hk hn => h2.block k hk (fun e => hn (by simp [accC, ← e]))⟩ ?_ hlt ?_ ?_⟩
  · intro k hk
    rcases h3 with h3 | h3
    · left; simpa [accC, h3] using hk
    · right; simp [accC, h3] at hk; omega
  · simp only [accC]; cases v'.ownBlock <;> simp
  · intro w'' ha _
    show w''.ownsRow 0 e size v' (xs ++ ys).length _
    rw [List.flatMap_append, List.length_append]
    refine ⟨h1.1, ?_⟩
    rcases h1.2 with h | ⟨g, cap, cur, rfl, hb, hg, rest⟩
    · exact .inl h
    · refine .inr ⟨g, cap, cur, rfl, hb, ?_, rest⟩
      rw [ha.2.2.2.2 g (hlt g (by simp [Value.ownBlock])) (by simp [accC, Value.ownBlock])]
      exact hg

theorem SlE.src {β : Type} {enc : β → List Value} {ys : List β} {xv : Value} {tx e' : TypeId} (hk : P.underlying tx = some (.slice e')) (hs : ∀ x, (enc x).length = size) (h1' : ∀ x, ((enc x).all Value.oneCell') = true) {w : World} (h : SlE enc xv ys w) : Src P size tx xv ys.length (ys.flatMap enc) w := by
  obtain ⟨o', c, rfl, _, _, hn, ha⟩ := h
  cases o' with
  | none =>
    have h0 := hn rfl
    rw [List.length_eq_zero_iff.1 h0]
    exact Src.ofNil w hk c
  | some a => exact Src.ofSlice w hk a _ _ _ (flat_len hs ys) (fun j u hj => by
      by_cases h0 : 0 < ys.length
      · exact fill_all (w := w) ((ha a rfl).1 h0) (ha a rfl).2 j u hj
      · rw [List.length_eq_zero_iff.1 (by omega : ys.length = 0)] at hj; simp at hj) (fun u hu => by
      obtain ⟨x, _, hx⟩ := List.mem_flatMap.1 hu
      exact List.all_eq_true.1 (h1' x) u hx)
/-- append(s, l...): l is only read. -/
theorem OpW.appendE {β : Type} {enc : β → List Value} {xs ys : List β} {d : Nat} {xv : Value} {tx e' : TypeId} (ho : o.op = .call { callee := .builtin .append, args := #[x, y], argTypes := #[t, tx] }) (hT : SlT P t e size bytes z) (hk : P.underlying tx = some (.slice e')) (hx : ev L x = some v) (hy : ev L y = some xv)
    (hO : Take (accC e size enc v xs) O O') (hp : SlE enc xv ys ∈ R) (hs : ∀ x, (enc x).length = size) (h1' : ∀ x, ((enc x).all Value.oneCell') = true) (hroom : Room (xs.length + ys.length) bytes) (hd : o.dst = some d) (hn : Nat.blt d n.n = true)
    (k : ∀ v', OneV v' → K ((d, v') :: L) R (accC e size enc v' (xs ++ ys) :: O')) : OpW P n o L R O K :=
  OpW.append ho hT hx hy hO (fun w hR _ => SlE.src hk hs h1' (hR _ hp)) hroom hd hn k
/-- append(s, x): the temporary row of the new elements is given up. -/
theorem OpW.appendRow {β : Type} {enc : β → List Value} {xs ys : List β} {d b m : Nat} {cells : List Value} {O'' : List Own} (ho : o.op = .call { callee := .builtin .append, args := #[x, y], argTypes := #[t, t] }) (hT : SlT P t e size bytes z) (hx : ev L x = some v) (hy : ev L y = some (.slice (some ⟨b, 0, none⟩) m m))
    (hb : Take (rowC b e cells) O O'') (hO : Take (accC e size enc v xs) O'' O') (ys' : List β) (hys : ys' = ys) (hc : ys'.flatMap enc = cells) (hm : ys'.length = m) (hs : ∀ x, (enc x).length = size) (h1' : ∀ x, ((enc x).all Value.oneCell') = true) (hroom : Room (xs.length + m) bytes) (hd : o.dst = some d) (hn : Nat.blt d n.n = true)
    (k : ∀ v', OneV v' → K ((d, v') :: L) R (accC e size enc v' (xs ++ ys) :: O')) : OpW P n o L R O K := by
  subst hys
  refine OpW.heap (fun w hsat => (hsat.perm (hb.perm.trans (List.Perm.cons _ hO.perm))).perm (List.Perm.swap _ _ _)) (O' := accC e size enc v xs :: rowC b e cells :: O') ?_
  refine OpW.after (K' := fun L' R' O1 => ∃ v', OneV v' ∧ L' = (d, v') :: L ∧ R' = R ∧ O1 = accC e size enc v' (xs ++ ys') :: rowC b e cells :: O') ?_ ?_
  · refine OpW.append ho hT hx hy (Take.head _) (ys := ys') (fun w' _ hO' => ?_) (by rw [hm]; exact hroom) hd hn (fun v' h => ⟨v', h, rfl, rfl, rfl⟩)
    have hrow : w'.heap[b]? = some (.cells cells.toArray e (0, 0)) := hO' _ (List.mem_cons_of_mem _ List.mem_cons_self)
    rw [hc, hm]
    refine Src.ofSlice w' hT.under ⟨b, 0, none⟩ m m cells (by rw [← hc, ← hm]; exact flat_len hs ys') (fun j u hj => ?_) (fun u hu => ?_)
    · rw [add_spot rfl]; simp [World.cell?, hrow, hj]
    · rw [← hc] at hu
      obtain ⟨x, _, hx⟩ := List.mem_flatMap.1 hu
      exact List.all_eq_true.1 (h1' x) u hx
  · rintro L' R' O1 ⟨v', hone, rfl, rfl, rfl⟩
    exact ⟨_, _, k v' hone, fun w h => (h.perm (List.Perm.swap _ _ _)).drop⟩
end app

/-! ### slices that are made, cut, given away -/
/-- '[]T{..}': a new row; the slice is the whole of it. -/
theorem OpW.buildSlice {d m : Nat} {ps : List (Nat × Operand)} {vals cells : List Value} {zc : Array Value} (ho : o.op = .buildSlice t m ps.toArray) (hT : SlT P t e size bytes z) (hv : Evs L (ps.map (·.2)) vals) (hm : Nat.ble (m * size) 16777216 = true)
    (hzc : zc = (if m * size = 0 then #[] else z.cells)) (hf : Instr.fill (fun i => some (i * size, size)) ((Array.range (m * size)).map (zc[· % zc.size]!)) ((ps.map (·.1)).zip vals) = some cells.toArray) (hd : o.dst = some d) (hn : Nat.blt d n.n = true)
    (k : ∀ b, K ((d, .slice (some ⟨b, 0, none⟩) m m) :: L) R (rowC b e cells :: O)) : OpW P n o L R O K := by
  intro a w hf' hs Q
  have e1 : (ps.toArray.map fun (i, x) => (i, a.eval x)).toList = (ps.map (·.1)).zip vals := by
    have e2 := hv.eval (ρ := a.eval) (fun x u hx => hf'.ev hx)
    rw [← e2]
    simp only [List.map_toArray]
    exact zip_pairs a.eval ps
  have hm' : ¬ m * size > 2 ^ 24 := by have := Nat.le_of_ble_eq_true hm; omega
  have hr : (execOp a.eval o).run P w = .ok (.value (.slice (some ⟨w.heap.size, 0, none⟩) m m)) (w.alloc (.cells cells.toArray e)) := by
    by_cases h0 : m * size = 0
    · rw [if_pos h0] at hzc
      subst hzc
      simp only [execOp, ho, Sem.run_bind, Instr.buildSlice, run_underlying hT.under, hT.sizeOf, Result.andThen_ok, Sem.run_pure, if_neg hm', if_pos h0, e1, hf, newRow, run_newObj]
      rfl
    · rw [if_neg h0] at hzc
      subst hzc
      simp only [execOp, ho, Sem.run_bind, Instr.buildSlice, run_underlying hT.under, hT.sizeOf, Result.andThen_ok, Sem.run_pure, if_neg hm', if_neg h0, hT.zero, e1, hf, newRow, run_newObj]
      rfl
  unfold Oper.wp
  rw [hr, Oper.upon_value, hd]
  exact ⟨_, _, _, k w.heap.size, hf'.put hn _, hs.alloc _ _ rfl (fun w' h _ => h)⟩
/-- make([]T, n), make([]T, n, n). -/
theorem OpW.make {d : Nat} {m c : Nat} {kd kd' : IntKind} {p q : Int} (ho : o.op = .makeSlice t x y) (hT : SlT P t e size bytes z) (hx : ev L x = some (.int kd p)) (hy : ev L y = some (.int kd' q)) (hp : p = (m : Int)) (hq : q = (c : Int)) (hmc : m ≤ c) (hroom : bytes * c ≤ 281474976710656) (hc63 : c ≤ 9223372036854775807) (hd : o.dst = some d) (hn : Nat.blt d n.n = true)
    (k : ∀ b, K ((d, .slice (some ⟨b, 0, none⟩) m c) :: L) R (rowC b e (List.replicate c z.cells.toList).flatten :: O)) : OpW P n o L R O K := by
  intro a w hf' hs Q
  obtain ⟨i, hi, hz, hsz, hby⟩ := hT.info
  subst hp; subst hq
  have h1 : IntKind.i64.wrap (m : Int) = m := wrap_i64 ⟨by omega, by omega⟩
  have h2 : IntKind.i64.wrap (c : Int) = c := wrap_i64 ⟨by omega, by omega⟩
  have h3 : ¬ ((c : Int) < 0) := by omega
  have h4 : ¬ ((bytes : Int) * (c : Int) > 2 ^ 48) := by
    have h := Int.ofNat_le.2 hroom
    rw [Int.natCast_mul] at h
    show ¬ _ > (281474976710656 : Int)
    omega
  have h5 : ¬ ((m : Int) < 0) := by omega
  have h6 : ¬ ((m : Int) > (c : Int)) := by omega
  have hcells : ((Array.range (c * size)).map fun j => (if c * size = 0 then (#[] : Array Value) else z.cells)[j % (if c * size = 0 then (#[] : Array Value) else z.cells).size]!) = (List.replicate c z.cells.toList).flatten.toArray := by
    by_cases h0 : c = 0
    · subst h0; simp
    · have hpos := hT.pos
      have hne : c * size ≠ 0 := Nat.mul_ne_zero h0 (Nat.ne_of_gt hpos)
      simp only [if_neg hne]
      apply Array.ext
      · simp [hT.zsize]
      · intro j hj1 hj2
        simp only [Array.getElem_map, Array.getElem_range, List.getElem_toArray]
        have hj : j < c * size := by simpa using hj1
        have hmod : j % z.cells.size < z.cells.size := Nat.mod_lt _ (by rw [hT.zsize]; exact hpos)
        have hg : ∀ (l : List Value) (c j : Nat), 0 < l.length → j < c * l.length → (List.replicate c l).flatten[j]? = l[j % l.length]? := by
          intro l c
          induction c with
          | zero => intro j _ h; simp at h
          | succ c ih =>
            intro j hl h
            simp only [List.replicate_succ, List.flatten_cons]
            by_cases hjl : j < l.length
            · rw [List.getElem?_append_left hjl, Nat.mod_eq_of_lt hjl]
            · rw [List.getElem?_append_right (by omega), ih (j - l.length) hl (by rw [Nat.add_mul, Nat.one_mul] at h; omega)]
              congr 1
              exact (Nat.mod_eq_sub_mod (by omega)).symm
        have h9 := hg z.cells.toList c j (by simpa [hT.zsize] using hpos) (by simpa [hT.zsize] using hj)
        have e9 : z.cells.toList.length = z.cells.size := by simp
        rw [e9] at h9
        rw [List.getElem?_eq_getElem (by simpa using hj2)] at h9
        simp only [Array.getElem?_toList, hmod, getElem?_pos, Option.some.injEq] at h9
        rw [h9]
        simp [hmod]
  have hr : (execOp a.eval o).run P w = .ok (.value (.slice (some ⟨w.heap.size, 0, none⟩) m c)) (w.alloc (.cells (List.replicate c z.cells.toList).flatten.toArray e)) := by
    by_cases h0 : c * size = 0
    · simp only [if_pos h0] at hcells
      simp only [execOp, ho, hf'.ev hx, hf'.ev hy, Sem.run_bind, Instr.makeSlice, run_underlying hT.under, asInt, asIntOf, Result.andThen_ok, Sem.run_pure, typeInfo, hi, run_program, hby, h1, h2, h3, h4, h5, h6, hT.sizeOf, Int.toNat_natCast, run_askRoom, if_pos h0, newRow, run_newObj, decide_false, Bool.or_self, Bool.false_eq_true, if_false, hcells]
      rfl
    · simp only [if_neg h0] at hcells
      simp only [execOp, ho, hf'.ev hx, hf'.ev hy, Sem.run_bind, Instr.makeSlice, run_underlying hT.under, asInt, asIntOf, Result.andThen_ok, Sem.run_pure, typeInfo, hi, run_program, hby, h1, h2, h3, h4, h5, h6, hT.sizeOf, hT.zero, Int.toNat_natCast, run_askRoom, if_neg h0, newRow, run_newObj, decide_false, Bool.or_self, Bool.false_eq_true, if_false, hcells]
      rfl
  unfold Oper.wp
  rw [hr, Oper.upon_value, hd]
  exact ⟨_, _, _, k w.heap.size, hf'.put hn _, hs.alloc _ _ rfl (fun w' h _ => h)⟩

theorem rep_flat {α : Type} (c : Nat) (x : α) : (List.replicate c [x]).flatten = List.replicate c x := by
  induction c with
  | zero => rfl
  | succ c ih => simp [List.replicate_succ, ih]
/-- make([]T, n), T of one cell. -/
theorem OpW.make1 {d : Nat} {m c : Nat} {kd kd' : IntKind} {p q : Int} {z0 : Value} (ho : o.op = .makeSlice t x y) (hT : SlT P t e 1 bytes z) (hx : ev L x = some (.int kd p)) (hy : ev L y = some (.int kd' q)) (hp : p = (m : Int)) (hq : q = (c : Int)) (hz : z.cells.toList = [z0]) (hmc : m ≤ c) (hroom : bytes * c ≤ 281474976710656) (hc63 : c ≤ 9223372036854775807) (hd : o.dst = some d) (hn : Nat.blt d n.n = true)
    (k : ∀ b, K ((d, .slice (some ⟨b, 0, none⟩) m c) :: L) R (rowC b e (List.replicate c z0) :: O)) : OpW P n o L R O K :=
  OpW.make ho hT hx hy hp hq hmc hroom hc63 hd hn (fun b => by rw [hz, rep_flat]; exact k b)

/-- A piece of a slice. -/
def subSl (v : Value) (size lo hi : Nat) : Value := match v with
  | .slice o _ c => .slice (if c = lo then o else o.map (·.add (lo * size))) (hi - lo) (c - lo)
  | v => v
theorem SlE.sub {w : World} (hs : ∀ x, (enc x).length = size) {lo hi : Nat} (h1 : lo ≤ hi) (h2 : hi ≤ xs.length) (h : SlE enc v xs w) : SlE enc (subSl v size lo hi) ((xs.take hi).drop lo) w := by
  obtain ⟨o', c, rfl, hc, hm, hn, ha⟩ := h
  have hl : ((xs.take hi).drop lo).length = hi - lo := by simp [Nat.min_eq_left h2]
  refine ⟨if c = lo then o' else o'.map (·.add (lo * size)), c - lo, by simp [subSl, hl], by rw [hl]; omega, Nat.le_trans (Nat.sub_le _ _) hm, ?_, ?_⟩
  · intro hno
    have : o' = none := by
      split at hno
      · exact hno
      · simpa using hno
    have := hn this
    omega
  · intro a hae
    by_cases hcl : c = lo
    · rw [if_pos hcl] at hae
      have hz : hi - lo = 0 := by omega
      rw [show (xs.take hi).drop lo = [] from List.length_eq_zero_iff.1 (by rw [hl]; exact hz)]
      exact ⟨fun h => by simp at h, fun j u hj => by simp at hj⟩
    · rw [if_neg hcl] at hae
      cases o' with
      | none => simp at hae
      | some a0 =>
        simp only [Option.map_some, Option.some.injEq] at hae
        subst hae
        obtain ⟨hsp', hcell⟩ := ha a0 rfl
        by_cases hne : 0 < xs.length
        case neg =>
          have hx : xs = [] := List.length_eq_zero_iff.1 (by omega)
          subst hx
          exact ⟨fun h => by simp at h, fun j u hj => by simp at hj⟩
        have hsp := hsp' hne
        rw [add_spot hsp]
        refine ⟨fun _ => rfl, fun j u hj => ?_⟩
        have hj' : (xs.flatMap enc)[lo * size + j]? = some u := by
          have e1 : xs.flatMap enc = (xs.take lo).flatMap enc ++ ((xs.take hi).drop lo).flatMap enc ++ (xs.drop hi).flatMap enc := by
            have : xs = xs.take lo ++ (xs.take hi).drop lo ++ xs.drop hi := by
              have h3 : xs.take lo = (xs.take hi).take lo := by rw [List.take_take, Nat.min_eq_left h1]
              rw [h3, List.take_append_drop, List.take_append_drop]
            conv => lhs; rw [this]
            simp only [List.flatMap_append]
          have e2 : ((xs.take lo).flatMap enc).length = lo * size := by rw [flat_len hs]; simp [Nat.min_eq_left (Nat.le_trans h1 h2)]
          rw [e1, List.append_assoc, List.getElem?_append_right (by rw [e2]; omega), e2, show lo * size + j - lo * size = j from by omega, List.getElem?_append_left (List.getElem?_eq_some_iff.1 hj).1]
          exact hj
        have := hcell (lo * size + j) u hj'
        simpa [Nat.add_assoc] using this
theorem SlE.subl {w : World} (hs : ∀ x, (enc x).length = size) {lo : Nat} (h1 : lo ≤ xs.length) (h : SlE enc v xs w) : SlE enc (subSl v size lo xs.length) (xs.drop lo) w := by
  have := SlE.sub hs h1 (Nat.le_refl _) h
  rwa [List.take_length] at this
theorem SlE.subh {w : World} (hs : ∀ x, (enc x).length = size) {hi : Nat} (h1 : hi ≤ xs.length) (h : SlE enc v xs w) : SlE enc (subSl v size 0 hi) (xs.take hi) w := SlE.sub hs (Nat.zero_le _) h1 h
section cut
variable {kl kh : IntKind} {p q : Int} {lo hi m cp : Nat} {ad : Option Addr}
theorem run_cut (hT : SlT P t e size bytes z) (l' h' : Option Value) (hl : ∀ w, (match l' with | some v => Instr.sliceBound v hi .sliceB | none => pure 0 : Sem Nat).run P w = .ok lo w) (hh : ∀ w, (match h' with | some v => Instr.sliceBound v cp .sliceAcap | none => pure m : Sem Nat).run P w = .ok hi w) (w : World) :
    (Instr.sliceAt t (.slice ad m cp) l' h' none).run P w = .ok (subSl (.slice ad m cp) size lo hi) w := by
  have h1 := hl w; have h2 := hh w
  cases l' with
  | none =>
    have h3 : 0 = lo := by simpa using h1
    subst h3
    cases h' with
    | none =>
      have h4 : m = hi := by simpa using h2
      subst h4
      simp [Instr.sliceAt, run_underlying hT.under, Instr.slice, Instr.sliceBounds, hT.sizeOf, subSl]
    | some vh => simp only [] at h2; simp [Instr.sliceAt, run_underlying hT.under, Instr.slice, Instr.sliceBounds, hT.sizeOf, subSl, h2]
  | some vl =>
    simp only [] at h1
    cases h' with
    | none =>
      have h4 : m = hi := by simpa using h2
      subst h4
      simp [Instr.sliceAt, run_underlying hT.under, Instr.slice, Instr.sliceBounds, hT.sizeOf, subSl, h1]
    | some vh => simp only [] at h2; simp [Instr.sliceAt, run_underlying hT.under, Instr.slice, Instr.sliceBounds, hT.sizeOf, subSl, h1, h2]
theorem bound_ok {k : IntKind} {x : Int} {y r : Nat} {code : BoundsCode} (hx : x = (r : Int)) (hr : r ≤ y) (w : World) : (Instr.sliceBound (.int k x) y code).run P w = .ok r w := by
  subst hx
  have : (0 : Int) ≤ (r : Int) ∧ (r : Int) ≤ (y : Int) := ⟨by omega, by omega⟩
  simp [Instr.sliceBound, asIntOf, this, hr]
theorem Rd.cut_lh {a b : Operand} (ho : o.op = .slice t x (some a) (some b) none) (hT : SlT P t e size bytes z) (hx : ev L x = some v) (ha : ev L a = some (.int kl p)) (hb : ev L b = some (.int kh q)) (hp : p = (lo : Int)) (hq : q = (hi : Int)) (hR : SlE enc v xs ∈ R) (h1 : lo ≤ hi) (h2 : hi ≤ xs.length) : Rd P o L R O (subSl v size lo hi) := fun ρ w hρ hr _ => by
  obtain ⟨o', c, rfl, hc, _⟩ := hr _ hR
  have h := run_cut (P := P) (m := xs.length) (cp := c) (ad := o') (lo := lo) (hi := hi) hT (some (.int kl p)) (some (.int kh q)) (bound_ok hp h1) (bound_ok hq (Nat.le_trans h2 hc)) w
  simp only [execOp, ho, hρ _ _ hx, hρ _ _ ha, hρ _ _ hb, Option.map_some, Option.map_none, Sem.run_bind, h, Result.andThen_ok, Sem.run_pure]
theorem Rd.cut_l {a : Operand} (ho : o.op = .slice t x (some a) none none) (hT : SlT P t e size bytes z) (hx : ev L x = some v) (ha : ev L a = some (.int kl p)) (hp : p = (lo : Int)) (hR : SlE enc v xs ∈ R) (h1 : lo ≤ xs.length) : Rd P o L R O (subSl v size lo xs.length) := fun ρ w hρ hr _ => by
  obtain ⟨o', c, rfl, hc, _⟩ := hr _ hR
  have h := run_cut (P := P) (m := xs.length) (cp := c) (ad := o') (lo := lo) (hi := xs.length) hT (some (.int kl p)) none (bound_ok hp h1) (fun _ => rfl) w
  simp only [execOp, ho, hρ _ _ hx, hρ _ _ ha, Option.map_some, Option.map_none, Sem.run_bind, h, Result.andThen_ok, Sem.run_pure]
theorem Rd.cut_h {b : Operand} (ho : o.op = .slice t x none (some b) none) (hT : SlT P t e size bytes z) (hx : ev L x = some v) (hb : ev L b = some (.int kh q)) (hq : q = (hi : Int)) (hR : SlE enc v xs ∈ R) (h2 : hi ≤ xs.length) : Rd P o L R O (subSl v size 0 hi) := fun ρ w hρ hr _ => by
  obtain ⟨o', c, rfl, hc, _⟩ := hr _ hR
  have h := run_cut (P := P) (m := xs.length) (cp := c) (ad := o') (lo := 0) (hi := hi) hT none (some (.int kh q)) (fun _ => rfl) (bound_ok hq (Nat.le_trans h2 hc)) w
  simp only [execOp, ho, hρ _ _ hx, hρ _ _ hb, Option.map_some, Option.map_none, Sem.run_bind, h, Result.andThen_ok, Sem.run_pure]
end cut

/-! ### rows and slices -/
theorem row_SlE {b : Nat} {cells : List Value} {w : World} (hc : xs.flatMap enc = cells) {m c : Nat} (hm : xs.length = m) (hmc : m ≤ c) (hcm : c ≤ maxLen) (h : (rowC b e cells).pred w) : SlE enc (.slice (some ⟨b, 0, none⟩) m c) xs w := by
  subst hm
  refine ⟨some ⟨b, 0, none⟩, c, rfl, hmc, hcm, (fun h => by cases h), fun a ha => ?_⟩
  cases ha
  exact ⟨fun _ => rfl, fun j u hj => by rw [hc] at hj; simpa using row_cell h hj⟩
theorem acc_SlE {w : World} (h : (accC e size enc v xs).pred w) : SlE enc v xs w := by
  rcases h.2 with ⟨rfl, h0⟩ | ⟨g, cap, cur, hv, _, hg, hnc, hcm, _⟩
  · refine ⟨none, 0, by rw [h0], by rw [h0]; exact Nat.le_refl _, Nat.zero_le _, fun _ => h0, fun a ha => by cases ha⟩
  · refine ⟨some ⟨g, 0, none⟩, cap, hv, hnc, hcm, (fun h => by cases h), fun a ha => ?_⟩
    cases ha
    refine ⟨fun _ => rfl, fun j u hj => ?_⟩
    have := acc_cell h hj
    rw [hv] at this
    exact this
/-- What was appended to is only read from here on. -/
theorem Sat.shareA {w : World} (hT : Take (accC e size enc v xs) O O') (h : Sat R O w) : Sat (SlE enc v xs :: R) O' w := (h.perm hT.perm).share _ (fun _ h _ => acc_SlE h)
theorem Sat.shareRow {b m : Nat} {cells : List Value} {w : World} (hT : Take (rowC b e cells) O O') (hc : xs.flatMap enc = cells) (hm : xs.length = m) (hmc : m ≤ 9223372036854775807) (h : Sat R O w) : Sat (SlE enc (.slice (some ⟨b, 0, none⟩) m m) xs :: R) O' w :=
  (h.perm hT.perm).share _ (fun _ h _ => row_SlE hc hm (Nat.le_refl _) hmc h)
/-- A row is from here on a slice that is appended to. -/
theorem Sat.accRow {b m : Nat} {cells : List Value} {w : World} (hT : Take (rowC b e cells) O O') (hc : xs.flatMap enc = cells) (hm : xs.length = m) (hs : ∀ x, (enc x).length = size) (hmc : m ≤ 9223372036854775807) (h : Sat R O w) : Sat R (accC e size enc (.slice (some ⟨b, 0, none⟩) m m) xs :: O') w :=
  (h.perm hT.perm).recast _ rfl (fun w hp _ => by
    subst hm; subst hc
    refine ⟨flat_len hs xs, .inr ⟨b, xs.length, _, rfl, Nat.zero_le _, hp, Nat.le_refl _, hmc, by simp [flat_len hs], by rw [← flat_len hs xs]; exact List.take_length⟩⟩)
theorem Sat.accNil {w : World} (h : Sat R O w) : Sat R (accC e size enc (.slice none 0 0) ([] : List α) :: O) w := by
  refine ⟨by simpa [owned, accC, Value.ownBlock] using h.nodup, by simpa [owned, accC, Value.ownBlock] using h.lt, fun p hp w' ha => h.ro p hp w' (by simpa [owned, accC, Value.ownBlock] using ha), fun c hc w' ha => ?_⟩
  rcases List.mem_cons.1 hc with rfl | hc
  · exact World.ownsRow_nil w' 0 e size
  · exact h.own c hc w' (by simpa [owned, accC, Value.ownBlock] using ha)
theorem Sat.nilE {w : World} (h : Sat R O w) : Sat (SlE enc (.slice none 0 0) ([] : List α) :: R) O w :=
  ⟨h.nodup, h.lt, fun p hp w' ha => by
    rcases List.mem_cons.1 hp with rfl | hp
    · exact ⟨none, 0, rfl, Nat.le_refl _, Nat.zero_le _, fun _ => rfl, fun a ha => by cases ha⟩
    · exact h.ro p hp w' ha, h.own⟩
theorem Sat.swap {c d : Own} {w : World} (h : Sat R (c :: d :: O) w) : Sat R (d :: c :: O) w := h.perm (List.Perm.swap _ _ _)

/-! ### literals of slices -/
inductive CellsOf : List Value → List (List Value) → Prop
  | nil : CellsOf [] []
  | cons {v : Value} {a : Array Value} {vs : List Value} {cs : List (List Value)} (h : v.cells = a) (r : CellsOf vs cs) : CellsOf (v :: vs) (a.toList :: cs)
theorem foldl_splice (off : Nat) : ∀ (l : List Value) (k : Nat) (cells : Array Value), off + k + l.length ≤ cells.size →
    ((l.zipIdx k).foldl (fun cs (c, j) => cs.setIfInBounds (off + j) c) cells).toList = cells.toList.take (off + k) ++ l ++ cells.toList.drop (off + k + l.length)
  | [], k, cells, _ => by simp
  | v :: l, k, cells, h => by
    simp only [List.length_cons] at h
    simp only [List.zipIdx_cons, List.foldl_cons]
    rw [foldl_splice off l (k + 1) _ (by simp; omega)]
    simp only [Array.toList_setIfInBounds, List.length_cons]
    have hk : off + k < cells.toList.length := by simp; omega
    rw [show off + (k + 1) = off + k + 1 from by omega]
    rw [List.take_succ_eq_append_getElem (by simpa using hk)]
    simp only [List.getElem_set_self, List.take_set_of_le (Nat.le_refl _)]
    rw [List.drop_set_of_lt (by omega)]
    simp [show off + k + 1 + l.length = off + k + (l.length + 1) from by omega]
theorem zipIdx_foldl (cells : Array Value) (off : Nat) (v : Array Value) : v.zipIdx.foldl (fun cs (c, j) => cs.setIfInBounds (off + j) c) cells = (v.toList.zipIdx 0).foldl (fun cs (c, j) => cs.setIfInBounds (off + j) c) cells := by
  rw [← Array.foldl_toList, Array.toList_zipIdx]
theorem fill_cover {size : Nat} : ∀ (vals : List Value) (css : List (List Value)) (k : Nat) (cells : Array Value), CellsOf vals css → (∀ l ∈ css, l.length = size) → (k + css.length) * size ≤ cells.size →
    ∃ r, Instr.fill (fun i => some (i * size, size)) cells ((List.range' k vals.length).zip vals) = some r ∧ r.toList = cells.toList.take (k * size) ++ css.flatten ++ cells.toList.drop ((k + css.length) * size)
  | _, _, k, cells, .nil, _, _ => ⟨cells, by simp [Instr.fill], by simp⟩
  | _, _, k, cells, .cons (v := v) (a := a) (vs := vals) (cs := css) hv r, hl, hsz => by
    have hla : a.size = size := by have := hl a.toList List.mem_cons_self; simpa using this
    simp only [List.length_cons] at hsz
    have h1 : k * size + size ≤ cells.size := by
      have : (k + 1) * size ≤ (k + (css.length + 1)) * size := Nat.mul_le_mul_right _ (by omega)
      rw [Nat.add_mul, Nat.one_mul] at this; omega
    have hsp := foldl_splice (k * size) a.toList 0 cells (by simp [hla]; omega)
    obtain ⟨r', hr, hrl⟩ := fill_cover vals css (k + 1) ((a.toList.zipIdx 0).foldl (fun cs (c, j) => cs.setIfInBounds (k * size + j) c) cells) r (fun l h => hl l (List.mem_cons_of_mem _ h)) (by
      have : ((a.toList.zipIdx 0).foldl (fun cs (c, j) => cs.setIfInBounds (k * size + j) c) cells).size = cells.size := by
        rw [← Array.length_toList, hsp]; simp [hla]; omega
      rw [this]; rw [show k + 1 + css.length = k + (css.length + 1) from by omega]; exact hsz)
    refine ⟨r', ?_, ?_⟩
    · simp only [List.length_cons, List.range'_succ, List.zip_cons_cons, Instr.fill, hv, hla]
      rw [if_neg (by simp; omega), zipIdx_foldl]
      exact hr
    · rw [hrl, hsp]
      simp only [Nat.add_zero, Array.length_toList, hla, List.length_cons, List.flatten_cons]
      have e1 : (k + 1) * size = k * size + size := by rw [Nat.add_mul, Nat.one_mul]
      have e2 : (k + 1 + css.length) * size = k * size + size + css.length * size := by rw [Nat.add_mul, Nat.add_mul, Nat.one_mul]
      have e3 : (k + (css.length + 1)) * size = k * size + size + css.length * size := by rw [Nat.add_mul, Nat.add_mul, Nat.one_mul]; omega
      rw [e1, e2, e3]
      have hlen : (cells.toList.take (k * size) ++ a.toList).length = k * size + size := by simp [hla]; omega
      rw [List.take_append_of_le_length (by rw [hlen]; exact Nat.le_refl _), List.take_of_length_le (by rw [hlen]; exact Nat.le_refl _)]
      rw [List.drop_append, hlen, List.drop_eq_nil_of_le (by rw [hlen]; omega), List.nil_append, List.drop_drop]
      simp [Nat.add_sub_cancel_left]
theorem OpW.buildSl {d m : Nat} {ps : List (Nat × Operand)} {vals cells : List Value} {css : List (List Value)} (ho : o.op = .buildSlice t m ps.toArray) (hT : SlT P t e size bytes z) (hv : Evs L (ps.map (·.2)) vals) (hm : Nat.ble (m * size) 16777216 = true)
    (hi : ps.map (·.1) = List.range' 0 m) (hc : CellsOf vals css) (hl : (css.all fun l => Nat.beq l.length size) = true) (hcells : css.flatten = cells) (hd : o.dst = some d) (hn : Nat.blt d n.n = true)
    (k : ∀ b, K ((d, .slice (some ⟨b, 0, none⟩) m m) :: L) R (rowC b e cells :: O)) : OpW P n o L R O K := by
  subst hcells
  have hlen : vals.length = m := by
    have h1 : (ps.map (·.1)).length = m := by rw [hi]; simp
    have h2 : vals.length = (ps.map (·.2)).length := by
      clear hi hc ho h1
      generalize ps.map (·.2) = xs at hv
      induction hv with
      | nil => rfl
      | cons _ _ ih => simp [ih]
    rw [h2, List.length_map, ← h1, List.length_map]
  have hcl : css.length = vals.length := by
    clear hv hlen hl k
    induction hc with
    | nil => rfl
    | cons _ _ ih => simp [ih]
  have hl' : ∀ l ∈ css, l.length = size := fun l h => Nat.eq_of_beq_eq_true (List.all_eq_true.1 hl l h)
  have hzsz : ∀ zc : Array Value, ((Array.range (m * size)).map (zc[· % zc.size]!)).size = m * size := fun zc => by simp
  obtain ⟨r, hr, hrl⟩ := fill_cover vals css 0 ((Array.range (m * size)).map ((if m * size = 0 then (#[] : Array Value) else z.cells)[· % (if m * size = 0 then (#[] : Array Value) else z.cells).size]!)) hc hl' (by rw [hzsz, hcl, hlen]; simp)
  have hre : r = css.flatten.toArray := by
    apply Array.ext'
    rw [hrl]
    have : ((0 + css.length) * size) = ((Array.range (m * size)).map ((if m * size = 0 then (#[] : Array Value) else z.cells)[· % (if m * size = 0 then (#[] : Array Value) else z.cells).size]!)).toList.length := by
      simp [hcl, hlen]
    rw [this, List.drop_length]; simp
  refine OpW.buildSlice ho hT hv hm rfl ?_ hd hn k
  rw [hi, ← hre, ← hr, hlen]

/-! ### a struct's value out of its parts -/
def FieldPlaces (P : Program) (t : TypeId) (sizes : List (Nat × Nat)) : Prop := ∃ fields, P.underlying t = some (.struct fields) ∧ ∀ w, (fields.mapM (m := Sem) fun (f : Field) => do pure (f.offset, ← sizeOf f.type)).run P w = .ok sizes.toArray w
def spl (l : List Value) (off : Nat) (vs : List Value) : List Value := l.take off ++ vs ++ l.drop (off + vs.length)
def fillL (sizes : List (Nat × Nat)) : List Value → List Nat → List (List Value) → Option (List Value)
  | zero, i :: is, cs :: css => match sizes[i]? with
    | some (off, size) => match Nat.beq cs.length size && Nat.ble (off + cs.length) zero.length with
      | true => fillL sizes (spl zero off cs) is css
      | false => none
    | none => none
  | zero, _, _ => some zero
inductive NFo : Option (List Value) → List Value → Prop
  | mk {l l' : List Value} (h : NF l l') : NFo (some l) l'
theorem fill_of {sizes : List (Nat × Nat)} : ∀ (is : List Nat) (vals : List Value) (css : List (List Value)) (zero r : List Value), CellsOf vals css → fillL sizes zero is css = some r →
    Instr.fill (sizes.toArray[·]?) zero.toArray (is.zip vals) = some r.toArray
  | [], vals, css, zero, r, _, h => by cases css <;> simp [fillL] at h <;> simp [Instr.fill, h]
  | i :: is, _, _, zero, r, .nil, h => by simp [fillL] at h; simp [Instr.fill, h]
  | i :: is, _, _, zero, r, .cons (v := v) (a := a) (vs := vals) (cs := css) hv hr, h => by
    simp only [fillL] at h
    split at h
    · rename_i off size hs
      split at h
      · rename_i hb
        simp only [Bool.and_eq_true] at hb
        have h1 : a.toList.length = size := Nat.eq_of_beq_eq_true hb.1
        have h2 : off + a.toList.length ≤ zero.length := Nat.le_of_ble_eq_true hb.2
        have hs' : sizes.toArray[i]? = some (off, size) := by simpa using hs
        simp only [List.zip_cons_cons, Instr.fill, hs', hv]
        rw [if_neg (by simp at h1 h2 ⊢; omega), zipIdx_foldl]
        have h3 := foldl_splice off a.toList 0 zero.toArray (by simpa using h2)
        simp only [Nat.add_zero] at h3
        have h4 : (a.toList.zipIdx 0).foldl (fun cs (c, j) => cs.setIfInBounds (off + j) c) zero.toArray = (spl zero off a.toList).toArray := by
          apply Array.ext'
          rw [h3]; simp [spl]
        rw [h4]
        exact fill_of is vals css _ r hr h
      · cases h
    · cases h
theorem Rd.buildN {ps : List (Nat × Operand)} {vals : List Value} {css : List (List Value)} {i : TypeInfo} {zv : Value} {sizes : List (Nat × Nat)} {cells : List Value} (ho : o.op = .build t ps.toArray) (hP : FieldPlaces P t sizes) (hi : P.info? t = some i) (hz : i.zero = some zv)
    (hv : Evs L (ps.map (·.2)) vals) (hc : CellsOf vals css) (hf : NFo (fillL sizes zv.cells.toList (ps.map (·.1)) css) cells) : Rd P o L R O (.agg cells.toArray) := by
  obtain ⟨fields, h1, hsz⟩ := hP
  generalize hg : fillL sizes zv.cells.toList (ps.map (·.1)) css = g at hf
  cases hf with
  | mk h =>
    obtain rfl := h.eq
    exact Rd.build ho h1 hi hz hsz hv (by have := fill_of _ _ _ _ _ hc hg; simpa using this)

/-- A store of a struct into a row. -/
theorem OpW.storeS {b off : Nat} {cs ds r : List Value} {va : Array Value} (ho : o.op = .store t x y) (hG : Agg P t size) (hx : ev L x = some (.pointer (some ⟨b, off, none⟩))) (hy : ev L y = some (.agg va)) (hva : NF va.toList ds) (hT : Take (rowC b e cs) O O') (hl : ds.length = size) (hfit' : Nat.ble (off + ds.length) cs.length = true) (hr : NF (spl cs off ds) r) (hd : o.dst = none)
    (k : K L R (rowC b e r :: O')) (h1 : (ds.all Value.oneCell') = true := by rfl) : OpW P n o L R O K := by
  intro a w hf hs Q
  have hs' := hs.perm hT.perm
  have hp : (rowC b e cs).pred w := hs'.see List.mem_cons_self
  have hp' : w.heap[b]? = some (.cells cs.toArray e (0, 0)) := hp
  obtain rfl := hva.eq
  obtain rfl := hr.eq
  have hfit := Nat.le_of_ble_eq_true hfit'
  have hst := run_storeCells_at P b off e va.toList 0 cs.toArray w hp' (by simpa using hfit) (fun u hu => List.all_eq_true.1 h1 u hu)
  have hcell : (spl cs off va.toList).toArray = (cs.toArray.toList.take (off + 0) ++ va.toList ++ cs.toArray.toList.drop (off + 0 + va.toList.length)).toArray := by simp [spl]
  rw [← hcell] at hst
  have hsz : va.size = size := by simpa using hl
  have hsz2 : ∀ w, (sizeOf t).run P w = .ok va.size w := fun w => by rw [hsz]; exact hG.2 w
  have hr : (execOp a.eval o).run P w = .ok .skip (w.setRow b (spl cs off va.toList).toArray) := by
    simp only [execOp, ho, hf.ev hx, hf.ev hy, Instr.storeAt, Instr.sureAddr, storeVar, Value.cells, hsz2, Sem.run_bind, Result.andThen_ok, Sem.run_pure, Sem.run_ite, ne_eq, not_true_eq_false, if_false, hst]
  unfold Oper.wp
  rw [hr, Oper.upon_skip, hd]
  have hlt' : b < w.heap.size := hs'.lt b (by simp [owned, rowC])
  refine ⟨_, _, _, k, hf.none _, hs'.update _ ⟨rfl, rfl, rfl, by simp, fun j hj hn => setRow_other w b j _ (by simpa [rowC] using hn)⟩ (by simp [rowC]) (by simpa [rowC] using hlt') (by simp [rowC]) (fun w'' ha _ => ?_)⟩
  show w''.heap[b]? = _
  rw [ha.2.2.2.2 b (by simpa using hlt') (by simp [rowC])]
  exact setRow_heap w b cs.toArray _ e _ hp'

/-! ### many rows -/
/-- Blocks bs, each of which holds just the cells of its row. -/
def rowsC (e : TypeId) (bs : List Nat) (rows : List (List Value)) : Own := { blks := bs, pred := fun w => bs.length = rows.length ∧ ∀ (i b : Nat) (cs : List Value), bs[i]? = some b → rows[i]? = some cs → w.heap[b]? = some (.cells cs.toArray e (0, 0)) }
abbrev rowSl (m : Nat) (b : Nat) : Value := .slice (some ⟨b, 0, none⟩) m m
theorem Sat.rowsNil {w : World} (h : Sat R O w) : Sat R (rowsC e [] [] :: O) w := h.emp _ rfl (fun w => ⟨rfl, fun i b cs hb => by simp at hb⟩)
theorem Sat.rowsAdd {w : World} {b : Nat} {bs : List Nat} {cs : List Value} {rows : List (List Value)} (h : Sat R (rowsC e bs rows :: rowC b e cs :: O) w) : Sat R (rowsC e (bs ++ [b]) (rows ++ [cs]) :: O) w :=
  h.merge _ rfl (fun w h1 h2 => ⟨by simp [h1.1], fun i b' cs' hb hc => by
    rcases Nat.lt_or_ge i bs.length with hi | hi
    · rw [List.getElem?_append_left hi] at hb
      rw [List.getElem?_append_left (by rw [← h1.1]; exact hi)] at hc
      exact h1.2 i b' cs' hb hc
    · rw [List.getElem?_append_right hi] at hb
      rw [List.getElem?_append_right (by rw [← h1.1]; exact hi), ← h1.1] at hc
      have h0 : i - bs.length = 0 := by
        rcases Nat.eq_zero_or_pos (i - bs.length) with h | h
        · exact h
        · rw [List.getElem?_eq_none (by simp; omega)] at hb; cases hb
      rw [h0] at hb hc
      simp at hb hc
      subst hb; subst hc
      exact h2⟩)
theorem Rd.rows1 {b off i : Nat} {bs : List Nat} {cs : List Value} {rows : List (List Value)} (ho : o.op = .load t x) (hc : Cell1 P t) (hx : ev L x = some (.pointer (some ⟨b, off, none⟩))) (hp : rowsC e bs rows ∈ O) (hb : bs[i]? = some b) (hr : rows[i]? = some cs) (hk : cs[off]? = some u) : Rd P o L R O u := fun ρ w hρ _ hO => by
  have h := (hO _ hp).2 i b cs hb hr
  simp only [execOp, ho, hρ _ _ hx, Sem.run_bind, run_load1 hc (row_cell (e := e) (cs := cs) h hk), Result.andThen_ok, Sem.run_pure]
theorem OpW.storeRows {b off i : Nat} {bs : List Nat} {cs : List Value} {rows : List (List Value)} (ho : o.op = .store t x y) (hsz : ∀ w, (sizeOf t).run P w = .ok 1 w) (hx : ev L x = some (.pointer (some ⟨b, off, none⟩))) (hy : ev L y = some v) (hv : OneV v) (hT : Take (rowsC e bs rows) O O') (hb : bs[i]? = some b) (hr : rows[i]? = some cs) (hlt : off < cs.length) (hd : o.dst = none)
    (k : K L R (rowsC e bs (rows.set i (cs.set off v)) :: O')) : OpW P n o L R O K := by
  intro a w hf hs Q
  have hs' := hs.perm hT.perm
  have hp := hs'.see (c := rowsC e bs rows) List.mem_cons_self
  have hrow : (rowC b e cs).pred w := hp.2 i b cs hb hr
  obtain ⟨u, hu⟩ : ∃ u, cs[off]? = some u := ⟨cs[off], by simp [hlt]⟩
  have hrr : (execOp a.eval o).run P w = .ok .skip (w.setCell ⟨b, off, none⟩ v) := by
    simp [execOp, ho, hf.ev hx, hf.ev hy, Instr.storeAt, Instr.sureAddr, storeVar, hsz, hv.cells, storeCells, Addr.add, run_store _ _ _ _ _ hv.one, row_cell hrow hu, row_free hrow]
  have hmem : b ∈ bs := List.mem_of_getElem? hb
  have hnd : bs.Nodup := by
    have := hs'.nodup
    simp only [owned, List.nodup_append] at this
    exact this.1
  unfold Oper.wp
  rw [hrr, Oper.upon_skip, hd]
  have hlt' : ∀ k ∈ bs, k < w.heap.size := fun k hk => hs'.lt k (by simp [owned, rowsC, hk])
  refine ⟨_, _, _, k, hf.none _, hs'.update _ ⟨rfl, rfl, rfl, by simp, fun j hj hn => heap_setCell_other w _ _ v (fun e => hn (by simp only [rowsC]; rw [e]; exact hmem))⟩ (fun k hk => .inl hk) (by simpa [rowsC] using hlt') hnd (fun w'' ha _ => ⟨by simp [hp.1], fun i' b' cs' hb' hr' => ?_⟩)⟩
  have hmem' : b' ∈ bs := List.mem_of_getElem? hb'
  rw [ha.2.2.2.2 b' (by simpa using hlt' b' hmem') (by simp [rowsC, hmem'])]
  by_cases e1 : i = i'
  · subst e1
    rw [hb] at hb'
    cases hb'
    have hil : i < rows.length := (List.getElem?_eq_some_iff.1 hr).1
    rw [List.getElem?_set_self hil] at hr'
    cases hr'
    exact setCell_row hrow off v
  · rw [List.getElem?_set_ne e1] at hr'
    have hne : b' ≠ b := by
      intro e2
      subst e2
      obtain ⟨h1, h2⟩ := List.getElem?_eq_some_iff.1 hb
      obtain ⟨h3, h4⟩ := List.getElem?_eq_some_iff.1 hb'
      have hpw := List.pairwise_iff_getElem.1 hnd
      rcases Nat.lt_or_gt_of_ne e1 with h5 | h5
      · exact hpw i i' h1 h3 h5 (h2.trans h4.symm)
      · exact hpw i' i h3 h1 h5 (h4.trans h2.symm)
    rw [heap_setCell_other w _ _ v (by simpa using hne)]
    exact hp.2 i' b' cs' hb' hr'

/-! ### what is known of the heap is known -/
theorem Fun.know {f : FuncId} {args : Array Value} {post : Value → List RO → List Own → Prop} {p : RO} {φ : Prop} (hp : p ∈ R) (hφ : ∀ w, p w → φ) (h : φ → Fun P f args R O post) : Fun P f args R O post := fun w hs => h (hφ w (hs.read hp)) w hs
theorem WC.know {cd : Code} {Q : Post} {p : RO} {φ : Prop} (hp : p ∈ R) (hφ : ∀ w, p w → φ) (h : φ → WC P n cd Q L R O) : WC P n cd Q L R O := fun a w hf hs => h (hφ w (hs.read hp)) a w hf hs
theorem WC.knowO {cd : Code} {Q : Post} {cc : Own} {φ : Prop} (hp : cc ∈ O) (hφ : ∀ w, cc.pred w → φ) (h : φ → WC P n cd Q L R O) : WC P n cd Q L R O := fun a w hf hs => h (hφ w (hs.see hp)) a w hf hs
theorem SlE.oneV {w : World} (h : SlE enc v xs w) : OneV v := by
  obtain ⟨o', c, rfl, _⟩ := h; exact OneV.sl
theorem Fun.oneV {f : FuncId} {args : Array Value} {post : Value → List RO → List Own → Prop} (hp : SlE enc v xs ∈ R) (h : OneV v → Fun P f args R O post) : Fun P f args R O post := Fun.know hp (fun _ h => h.oneV) h
theorem SlE.len {w : World} (h : SlE enc v xs w) : xs.length ≤ 9223372036854775807 := by
  obtain ⟨o', c, rfl, hc, hm, _⟩ := h
  exact Nat.le_trans hc hm
theorem Fun.len {f : FuncId} {args : Array Value} {post : Value → List RO → List Own → Prop} (hp : SlE enc v xs ∈ R) (h : xs.length ≤ 9223372036854775807 → Fun P f args R O post) : Fun P f args R O post := Fun.know hp (fun _ h => h.len) h
end rules
end Go.SL
