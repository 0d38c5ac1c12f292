/-
  Bytes: strings out of bytes, appending a string, the strings.Builder of a call's own. No program is in sight.
-/
import Derived.Test.YtfenbhaehkkkeaaMem
import Derived.Lib.Builder
import Derived.Lib.UnsafeStr
import Derived.Laws.BytesString
import Derived.Laws.Externs
namespace Go.SL
open Go Go.RowKit

/-- A byte as a value. -/
abbrev vy (b : UInt8) : Value := .int .u8 (b.toNat : Int)

section bytes
variable {P : Program} {n : Sz} {o : Oper} {L : Env} {R : List RO} {O O' : List Own} {K : Env → List RO → List Own → Prop} {x y : Operand} {v u : Value} {t t' e tx : TypeId} {bs xs ys : List UInt8} {bytes : Nat} {z : Value}

theorem fold_push : ∀ (bs : List UInt8) (s : ByteArray), (bs.map fun b => (b.toNat : Int)).foldl (fun r n => r.push (UInt8.ofNat n.toNat)) s = ⟨s.data ++ bs.toArray⟩
  | [], s => by cases s; simp
  | b :: bs, s => by
    simp only [List.map_cons, List.foldl_cons]
    rw [fold_push bs]
    simp [ByteArray.push]
theorem run_strOf {w : World} (h : SlE (one vy) v bs w) : (Conv.bytesToString v).run P w = .ok (vs bs) w := by
  obtain ⟨o, c, rfl, h1, h2, h3, h4⟩ := h
  cases o with
  | none =>
    have h0 := List.length_eq_zero_iff.1 (h3 rfl)
    subst h0; rfl
  | some a =>
    obtain ⟨hs, hc⟩ := h4 a rfl
    have hl : (loadCells a bs.length).run P w = .ok (((bs.map fun b => (b.toNat : Int)).map (Value.int .u8)).toArray) w := by
      cases bs with
      | nil => rfl
      | cons b r =>
        have := run_loadCellsFrom (P := P) (hs (by simp)) (b :: r).length 0 ((b :: r).map vy) #[] (by simp) (fun j u hj => by
          have h5 := hc j u (by rw [flat_one]; exact hj)
          simpa using h5)
        simpa [loadCells, Function.comp_def] using this
    rw [run_bytesToString w a bs.length c _ hl, fold_push]
    simp
theorem Rd.strOf (ho : o.op = .convert t t' x) (h1 : P.underlying t = some (.slice e)) (h2 : P.underlying t' = some .string) (h3 : P.underlying e = some (.int .u8)) (hx : ev L x = some v)
    (hs : ∀ w, (∀ p ∈ R, p w) → (∀ c ∈ O, c.pred w) → SlE (one vy) v bs w) : Rd P o L R O (vs bs) := fun ρ w hρ hR hO => by
  have hS := hs w hR hO
  have hr := run_strOf (P := P) hS
  obtain ⟨a, c, rfl, _⟩ := hS
  simp only [execOp, ho, hρ _ _ hx, convert, Sem.run_bind, run_underlying h1, run_underlying h2, run_underlying h3, Result.andThen_ok, hr, Sem.run_pure]
theorem Rd.strOfE (ho : o.op = .convert t t' x) (h1 : P.underlying t = some (.slice e)) (h2 : P.underlying t' = some .string) (h3 : P.underlying e = some (.int .u8)) (hx : ev L x = some v) (hp : SlE (one vy) v bs ∈ R) : Rd P o L R O (vs bs) :=
  Rd.strOf ho h1 h2 h3 hx fun _ hR _ => hR _ hp
theorem Rd.strOfA {e' : TypeId} (ho : o.op = .convert t t' x) (h1 : P.underlying t = some (.slice e)) (h2 : P.underlying t' = some .string) (h3 : P.underlying e = some (.int .u8)) (hx : ev L x = some v) (hp : accC e' 1 (one vy) v bs ∈ O) : Rd P o L R O (vs bs) :=
  Rd.strOf ho h1 h2 h3 hx fun _ _ hO => acc_SlE (hO _ hp)
theorem Rd.strOfR {b m : Nat} {e' : TypeId} {cs : List Value} (ho : o.op = .convert t t' x) (h1 : P.underlying t = some (.slice e)) (h2 : P.underlying t' = some .string) (h3 : P.underlying e = some (.int .u8)) (hx : ev L x = some (.slice (some ⟨b, 0, none⟩) m m)) (hp : rowC b e' cs ∈ O) (hc : bs.map vy = cs) (hm : bs.length = m) (hmc : m ≤ 9223372036854775807) : Rd P o L R O (vs bs) :=
  Rd.strOf ho h1 h2 h3 hx fun _ _ hO => row_SlE (by rw [flat_one]; exact hc) hm (Nat.le_refl _) hmc (hO _ hp)

theorem byteCells_list (ys : List UInt8) : byteCells ⟨ys.toArray⟩ = ys.flatMap (one vy) := by
  rw [flat_one]; simp [byteCells]
theorem OpW.appendStr {d : Nat} (ho : o.op = .call { callee := .builtin .append, args := #[x, y], argTypes := #[t, tx] }) (hT : SlT P t e 1 bytes z) (hk : P.underlying tx = some .string) (hx : ev L x = some v) (hy : ev L y = some (vs ys))
    (hO : Take (accC e 1 (one vy) v xs) O O') (hroom : Room (xs.length + ys.length) bytes) (hd : o.dst = some d) (hn : Nat.blt d n.n = true)
    (k : ∀ v', OneV v' → K ((d, v') :: L) R (accC e 1 (one vy) v' (xs ++ ys) :: O')) : OpW P n o L R O K :=
  OpW.append ho hT hx hy hO (fun w _ _ => by
    have h := Src.ofString w hk (⟨ys.toArray⟩ : ByteArray) (P := P)
    rw [byteCells_list] at h
    exact h) hroom hd hn k

theorem Rd.nilc {a : Addr} (ho : o.op = .nilCheck x) (hx : ev L x = some (.pointer (some a))) : Rd P o L R O (.pointer (some a)) := fun ρ w hρ _ _ => by
  simp [execOp, ho, hρ _ _ hx]
theorem run_pbin {op : BinOp} {p q : Option Addr} (ho : o.op = .binOp op t x y t') (hx : ev L x = some (.pointer p)) (hy : ev L y = some (.pointer q)) {r : Value} (h : ∀ w, (∀ p ∈ R, p w) → (∀ c ∈ O, c.pred w) → (binOp op t (.pointer p) (.pointer q)).run P w = .ok r w) : Rd P o L R O r := fun ρ w hρ hR hO => by
  have e : (eqGuard op t x y (.pointer p) (.pointer q)).run P w = .ok () w := by
    unfold eqGuard
    split <;> rfl
  simp only [execOp, ho, hρ _ _ hx, hρ _ _ hy, Sem.run_bind, e, Result.andThen_ok, h w hR hO, Sem.run_pure]
theorem Rd.peq_nn {te : TypeId} (ho : o.op = .binOp .eql t x y t') (hT : P.underlying t = some (.pointer te)) (hx : ev L x = some (.pointer none)) (hy : ev L y = some (.pointer none)) : Rd P o L R O (.bool true) :=
  run_pbin ho hx hy fun w _ _ => by
    have h : ∀ d : Nat, (Op.equalIn (d + 1) t (.pointer none) (.pointer none)).run P w = .ok true w := fun d => by
      simp [Op.equalIn, run_underlying hT]
    simp only [binOp]
    simp [Op.equal, Op.maxDepth, h 9999]
theorem Rd.peq_sn {te : TypeId} {a : Addr} (ho : o.op = .binOp .eql t x y t') (hT : P.underlying t = some (.pointer te)) (hx : ev L x = some (.pointer (some a))) (hy : ev L y = some (.pointer none)) : Rd P o L R O (.bool false) :=
  run_pbin ho hx hy fun w _ _ => by
    have h : ∀ d : Nat, (Op.equalIn (d + 1) t (.pointer (some a)) (.pointer none)).run P w = .ok false w := fun d => by
      simp [Op.equalIn, run_underlying hT]
    simp only [binOp]
    simp [Op.equal, Op.maxDepth, h 9999]
theorem Rd.pneq_self {te : TypeId} {j : TypeInfo} {a : Addr} (ho : o.op = .binOp .neq t x y t') (hT : P.underlying t = some (.pointer te)) (hj : P.info? te = some j) (hx : ev L x = some (.pointer (some a))) (hy : ev L y = some (.pointer (some a))) : Rd P o L R O (.bool false) :=
  run_pbin ho hx hy fun w _ _ => Lib.run_neq_ptr_same w a hT hj

/-- A pointer to a variable of the call's own becomes an unsafe.Pointer, and back. -/
theorem Rd.toUnsafe {b off : Nat} {e' te : TypeId} {j : TypeInfo} {cs : List Value} (ho : o.op = .convert t t' x) (h1 : P.underlying t = some (.pointer te)) (h2 : P.underlying t' = some .unsafePointer) (hj : P.info? te = some j) (hj0 : j.size ≠ 0)
    (hx : ev L x = some (.pointer (some ⟨b, off, none⟩))) (hp : rowC b e' cs ∈ O) (hoff : off < cs.length) : Rd P o L R O (.pointer (some ⟨b, off, none⟩)) := fun ρ w hρ _ hO => by
  have hb : w.heap[b]? = some (.cells cs.toArray e' (0, 0)) := hO _ hp
  have hr := Lib.run_to_unsafe (P := P) w (e := e') (cells := cs.length) ⟨b, off, none⟩ h1 h2 hj hj0 (by simp [World.shape?, hb]) hoff
  simp only [execOp, ho, hρ _ _ hx, Sem.run_bind, hr, Result.andThen_ok, Sem.run_pure]
theorem Rd.ofUnsafe {b off : Nat} {e' te : TypeId} {j : TypeInfo} {cs : List Value} (ho : o.op = .convert t t' x) (h1 : P.underlying t = some .unsafePointer) (h2 : P.underlying t' = some (.pointer te)) (hj : P.info? te = some j)
    (hx : ev L x = some (.pointer (some ⟨b, off, none⟩))) (hp : rowC b e' cs ∈ O) (hl : liesAt P P.depth e' (cs.length / P.cellsOf e') off te 1 = true) : Rd P o L R O (.pointer (some ⟨b, off, none⟩)) := fun ρ w hρ _ hO => by
  have hb : w.heap[b]? = some (.cells cs.toArray e' (0, 0)) := hO _ hp
  have hr := Lib.run_from_unsafe (P := P) w (e := e') (cells := cs.length) ⟨b, off, none⟩ h1 h2 hj (by simp [World.shape?, hb]) hl
  simp only [execOp, ho, hρ _ _ hx, Sem.run_bind, hr, Result.andThen_ok, Sem.run_pure]
/-- A call of a function without a body: the model's own entry. -/
theorem Rd.extern {f : FuncId} {fn : Func} {ef : Array Value → Sem Value} {xs : List Operand} {as : List Value} {ts : Array TypeId} {r : Value} (ho : o.op = .call { callee := .value x, args := xs.toArray, argTypes := ts })
    (hx : ev L x = some (.func (.func f) #[] #[])) (has : Evs L xs as) (hf : P.funcs[f]? = some fn) (hname : (fn.name == "runtime.NumGoroutine") = false) (hb : fn.body.isNone = true) (hn : Extern.findNext fn = none) (he : Extern.find fn = some ef)
    (hr : ∀ w, (ef as.toArray).run P w = .ok r w) : Rd P o L R O r := fun ρ w hρ _ _ => by
  have e2 := has.eval (ρ := ρ) hρ
  have e3 := run_callFunc_extern hf hname hb hn he as.toArray w
  rw [hr, Result.andThen_ok] at e3
  simp [execOp, ho, resolve, hρ _ _ hx, Deferred.ofValue, List.map_toArray, e2, invoke, e3]

/-- The address of a slice's elements (unsafe.SliceData), of a slice of the call's own. -/
theorem OpW.sliceData {α : Type} {enc : α → List Value} {l : List α} {d size : Nat} {te : TypeId} {ts : Array TypeId} (ho : o.op = .call { callee := .builtin .unsafeSliceData, args := #[x], argTypes := ts }) (hT : P.underlying o.type = some (.pointer te)) (hx : ev L x = some v) (hp : accC e size enc v l ∈ O) (hd : o.dst = some d) (hn : Nat.blt d n.n = true)
    (k : ∀ q, (l ≠ [] → q = some (elemAddr v 0)) → K ((d, .pointer q) :: L) R O) : OpW P n o L R O K := by
  intro a w hf hs Q
  have hown := hs.see hp
  unfold Oper.wp
  rcases hown.2 with ⟨rfl, h0⟩ | ⟨g, cap, cur, rfl, _, hg, hnc, hcm, _⟩
  · have hr : (execOp a.eval o).run P w = .ok (.value (.pointer none)) w := by
      simp [execOp, ho, resolve, invoke, builtin, hf.ev hx, Lib.run_unsafeSliceData_nil]
    rw [hr, Oper.upon_value, hd]
    exact ⟨_, _, _, k none (fun h => absurd (List.length_eq_zero_iff.1 h0) h), hf.put hn _, hs⟩
  · rcases Nat.eq_zero_or_pos cap with h0 | h0
    · subst h0
      have hr : (execOp a.eval o).run P w = .ok (.value (.pointer (some ⟨w.heap.size, 0, none⟩))) (w.alloc (.view ⟨g, 0, none⟩ te)) := by
        have := Lib.run_unsafeSliceData_zero (P := P) w ts o.type te hT ⟨g, 0, none⟩ l.length (e, cur.size) (by simp [World.shape?, hg])
        simp [execOp, ho, resolve, invoke, builtin, hf.ev hx, this]
      rw [hr, Oper.upon_value, hd]
      exact ⟨_, _, _, k _ (fun h => absurd (List.length_eq_zero_iff.1 (by omega)) h), hf.put hn _, (hs.alloc _ { blks := [w.heap.size], pred := fun _ => True } rfl (fun _ _ _ => trivial)).drop⟩
    · have hr : (execOp a.eval o).run P w = .ok (.value (.pointer (some ⟨g, 0, none⟩))) w := by
        simp [execOp, ho, resolve, invoke, builtin, hf.ev hx, Lib.run_unsafeSliceData_row w ts o.type ⟨g, 0, none⟩ l.length cap (by omega)]
      rw [hr, Oper.upon_value, hd]
      exact ⟨_, _, _, k _ (fun _ => rfl), hf.put hn _, hs⟩
theorem freeze_size (w : World) (a : Addr) (n : Nat) : (w.freeze a n).heap.size = w.heap.size := by
  unfold World.freeze; split <;> simp
theorem freeze_agree (w : World) (g n : Nat) {S : Nat → Prop} (hS : ∀ j, ¬ S j → j ≠ g) : Agree S w (w.freeze ⟨g, 0, none⟩ n) := by
  unfold World.freeze
  split
  · exact ⟨rfl, rfl, rfl, Nat.le_refl _, fun _ _ _ => rfl⟩
  · exact ⟨rfl, rfl, rfl, by simp, fun j _ hn => by
      simp only [Array.getElem?_modify]
      rw [if_neg (Ne.symm (hS j hn))]⟩
/-- unsafe.String over bytes of the call's own: they are frozen; the chunk is given up. -/
theorem OpW.unsafeStr {d m : Nat} {ti : TypeId} {q : Option Addr} {p : Int} (ho : o.op = .call { callee := .builtin .unsafeString, args := #[x, y], argTypes := #[t, ti] }) (hT : P.underlying t = some (.pointer e)) (hc : P.cellsOf e = 1) (hx : ev L x = some (.pointer q)) (hy : ev L y = some (.int .i64 p)) (hp : p = (m : Int)) (hm : bs.length = m)
    (hO : Take (accC e 1 (one vy) v bs) O O') (hq : bs ≠ [] → q = some (elemAddr v 0)) (hd : o.dst = some d) (hn : Nat.blt d n.n = true)
    (k : K ((d, vs bs) :: L) R O') : OpW P n o L R O K := by
  intro a w hf hs Q
  have hs' := hs.perm hO.perm
  have hown : (accC e 1 (one vy) v bs).pred w := hs'.see List.mem_cons_self
  subst hp; subst hm
  unfold Oper.wp
  rcases Nat.eq_zero_or_pos bs.length with h0 | h0
  · obtain rfl := List.length_eq_zero_iff.1 h0
    have hr : (execOp a.eval o).run P w = .ok (.value (vs [])) w := by
      have := Lib.run_unsafeString_none (P := P) w t ti o.type q
      simp only [execOp, ho, resolve, invoke, builtin, List.map_toArray, List.map_cons, List.map_nil, hf.ev hx, hf.ev hy]
      simp [this]; rfl
    rw [hr, Oper.upon_value, hd]
    exact ⟨_, _, _, k, hf.put hn _, hs'.drop⟩
  · have hne : bs ≠ [] := by intro h; rw [h] at h0; cases h0
    have hcell : ∀ j u, bs[j]? = some u → w.cell? (elemAddr v j) = some (vy u) := fun j u hj => acc_cell hown (by rw [flat_one]; simp [hj])
    rcases hown.2 with ⟨_, h1⟩ | ⟨g, cap, cur, rfl, _, hg, hnc, hcm, hcur, _⟩
    · omega
    · rw [hq hne] at hx
      have hx' : ev L x = some (.pointer (some ⟨g, 0, none⟩)) := hx
      have hsz : bs.length ≤ cur.size := by simp at hcur; omega
      have hr : (execOp a.eval o).run P w = .ok (.value (vs bs)) (w.freeze ⟨g, 0, none⟩ bs.length) := by
        have := Lib.run_unsafeString_row (P := P) w t ti o.type e hT hc g cur.size (by simp [World.shape?, hg]) bs hne hsz (by have : cap ≤ 9223372036854775807 := hcm; omega) (fun j u hj => by rw [add_spot rfl]; exact hcell j u hj)
        simp only [execOp, ho, resolve, invoke, builtin, List.map_toArray, List.map_cons, List.map_nil, hf.ev hx', hf.ev hy]
        simp [this]
      rw [hr, Oper.upon_value, hd]
      have hlt : g < w.heap.size := by
        rcases Nat.lt_or_ge g w.heap.size with h | h
        · exact h
        · rw [Array.getElem?_eq_none h] at hg; cases hg
      refine ⟨_, _, _, k, hf.put hn _, (hs'.update (w' := w.freeze ⟨g, 0, none⟩ bs.length) { blks := [g], pred := fun _ => True } (freeze_agree w g bs.length (fun j hj => by simpa [accC, Value.ownBlock] using hj)) (fun j hj => ?_) (fun j hj => ?_) (by simp) (fun _ _ _ => trivial)).drop⟩
      · simp only [List.mem_singleton] at hj
        subst hj
        exact .inl (by simp [accC, Value.ownBlock])
      · simp only [List.mem_singleton] at hj
        subst hj
        rw [freeze_size]; exact hlt
end bytes
end Go.SL
