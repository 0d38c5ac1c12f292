/-
  What the library's contracts give the walks; results that stand in a row of the call's own; parts of arrays' values; regions of which several operations may come up. No program is in sight.
-/
import Derived.Test.YtfenbhaehkkkeaaArr
import Derived.Below
namespace Go.SL
open Go Go.RowKit

theorem Sat.below {R : List RO} {O : List Own} {w w' : World} (h : Sat R O w) (hb : Below w.heap.size w w') : Sat R O w' := by
  have key : ∀ {S : Nat → Prop} {w'' : World}, Agree S w' w'' → Agree S w w'' := fun {S w''} ha =>
    (show Agree S w w' from ⟨hb.os, hb.tape, hb.output, hb.size, fun k hk _ => hb.block k hk⟩).trans ha
  exact ⟨h.nodup, fun k hk => Nat.lt_of_lt_of_le (h.lt k hk) hb.size, fun p hp w'' ha => h.ro p hp w'' (key ha), fun c hc w'' ha => h.own c hc w'' (key ha)⟩
/-- A contract of the library's: it gives v and touches nothing that was there. -/
theorem Fun.below {P : Program} {f : FuncId} {args : Array Value} {R : List RO} {O : List Own} {post : Value → List RO → List Own → Prop} {v : Value} (h : ∀ w, Calls P f args w fun e w' => e = .returned v ∧ Below w.heap.size w w') (hk : post v R O) : Fun P f args R O post :=
  fun w hs => (h w).mono fun _ _ ⟨he, hb⟩ => ⟨v, R, O, he, hk, hs.below hb⟩
theorem Fun.still {P : Program} {f : FuncId} {args : Array Value} {R : List RO} {O : List Own} {post : Value → List RO → List Own → Prop} {v : Value} (h : ∀ w, Calls P f args w fun e w' => e = .returned v ∧ w' = w) (hk : post v R O) : Fun P f args R O post :=
  fun w hs => (h w).mono fun _ w' ⟨he, hb⟩ => ⟨v, R, O, he, hk, by rw [hb]; exact hs⟩

/-- What a call leaves is thinned out. -/
theorem Fun.thin {P : Program} {f : FuncId} {args : Array Value} {R : List RO} {O : List Own} {post post' : Value → List RO → List Own → Prop} (h : Fun P f args R O post') (hp : ∀ v R' O', post' v R' O' → ∃ R2 O2, post v R2 O2 ∧ ∀ w, Sat R' O' w → Sat R2 O2 w) : Fun P f args R O post :=
  fun w hs => (h w hs).mono fun _ w' ⟨v, R', O', he, hk, hs'⟩ => by
    obtain ⟨R2, O2, h2, h3⟩ := hp v R' O' hk
    exact ⟨v, R2, O2, he, h2, h3 w' hs'⟩
section ret
variable {P : Program} {fn : Func} {n : Sz} {L : Env} {R : List RO} {O : List Own} {post : Value → List RO → List Own → Prop}
theorem run_loadVar_agg {t : TypeId} {size : Nat} (hG : Agg P t size) {b : Nat} {e : TypeId} {cs : List Value} (hl : cs.length = size) {w : World} (h : (rowC b e cs).pred w) : (loadVar t ⟨b, 0, none⟩).run P w = .ok (.agg cs.toArray) w := by
  have h1 := run_loadAgg hG (a := ⟨b, 0, none⟩) rfl hl (w := w) (fun j u hj => by
    have := row_cell h hj
    simpa using this)
  simpa [Instr.loadAt, Instr.sureAddr] using h1
theorem Ret.cellRow {p : Tmp} {ty : TypeId} {size b : Nat} {e : TypeId} {cs : List Value} (hr : fn.results = #[.cell p ty]) (ht : Env.find L p = some (.pointer (some ⟨b, 0, none⟩))) (hp : rowC b e cs ∈ O) (hG : Agg P ty size) (hl : cs.length = size) (h : post (.agg cs.toArray) R O) : retQ P fn n post .ret L R O :=
  ⟨_, fun a w _ hf ⟨_, hs⟩ => by
    have e1 := getD_of hf ht
    have e2 := run_loadVar_agg hG hl (hs.see (List.mem_append_right _ hp))
    simp only [Array.getD_eq_getD_getElem?] at e1
    simp [results, hr, e1, asAddr, e2], h⟩
end ret

section parts
variable {P : Program} {o : Oper} {L : Env} {R : List RO} {O : List Own} {t e : TypeId} {m : Nat} {x y : Operand} {u : Value}
/-- One element of an array's value. -/
theorem Rd.idxAgg {kd : IntKind} {k : Nat} {p : Int} {cs : List Value} (ho : o.op = .index t x y) (hT : ArT P t m e 1) (hc : Cell1 P e) (hx : ev L x = some (.agg cs.toArray)) (hy : ev L y = some (.int kd p)) (hp : p = (k : Int)) (hlt : k < m) (hk : cs[k]? = some u) : Rd P o L R O u := fun ρ w hρ _ _ => by
  subst hp
  have h1 : (0 : Int) ≤ (k : Int) ∧ (k : Int) < (m : Int) := ⟨by omega, by omega⟩
  simp [execOp, ho, hρ _ _ hx, hρ _ _ hy, Instr.index, asIntOf, run_underlying hT.und, h1, hlt, hT.sz, Go.part, hc w, hk]
/-- An array's value out of all of its parts. -/
theorem Rd.buildA {ps : List (Nat × Operand)} {vals cells : List Value} {css : List (List Value)} {i : TypeInfo} {zv : Value} {size : Nat} (ho : o.op = .build t ps.toArray) (hT : ArT P t m e size) (hi : P.info? t = some i) (hz : i.zero = some zv) (hzs : zv.cells.size = m * size)
    (hv : Evs L (ps.map (·.2)) vals) (his : ps.map (·.1) = List.range' 0 m) (hc : CellsOf vals css) (hl : (css.all fun l => Nat.beq l.length size) = true) (hcells : css.flatten = cells) : Rd P o L R O (.agg cells.toArray) := fun ρ w hρ _ _ => by
  subst hcells
  have hlen : vals.length = m := by
    have h1 : (ps.map (·.1)).length = m := by rw [his]; simp
    have h2 : vals.length = (ps.map (·.2)).length := by
      clear his hc ho h1
      generalize ps.map (·.2) = xs at hv
      induction hv with
      | nil => rfl
      | cons _ _ ih => simp [ih]
    rw [h2, List.length_map, ← h1, List.length_map]
  have hcl : css.length = vals.length := by
    clear hv hlen hl
    induction hc with
    | nil => rfl
    | cons _ _ ih => simp [ih]
  have hl' : ∀ l ∈ css, l.length = size := fun l h => Nat.eq_of_beq_eq_true (List.all_eq_true.1 hl l h)
  obtain ⟨r, hr, hrl⟩ := fill_cover vals css 0 zv.cells hc hl' (by rw [hcl, hlen, hzs]; simp)
  have hre : r = css.flatten.toArray := by
    apply Array.ext'
    rw [hrl]
    have : ((0 + css.length) * size) = zv.cells.toList.length := by
      have h1 : zv.cells.toList.length = zv.cells.size := rfl
      rw [h1, hzs, hcl, hlen, Nat.zero_add]
    rw [this, List.drop_length]; simp
  have e1 : (ps.toArray.map fun (i, x) => (i, ρ x)).toList = (ps.map (·.1)).zip vals := by
    have e2 := hv.eval hρ
    rw [← e2]
    simp only [List.map_toArray]
    exact zip_pairs ρ ps
  rw [his, ← hlen] at e1
  simp only [execOp, ho, Sem.run_bind, Instr.build, zeroValue, typeInfo, hi, hz, run_underlying hT.und, hT.sz, Result.andThen_ok, Sem.run_pure, run_program, e1, hr, hre]
/-- The whole of an array as a slice. -/
theorem Rd.sliceArr {b size : Nat} (ho : o.op = .slice t x none none none) (hT : ArT P t m e size) (hx : ev L x = some (.pointer (some ⟨b, 0, none⟩))) (_hm : 0 < m) : Rd P o L R O (.slice (some ⟨b, 0, none⟩) m m) := fun ρ w hρ _ _ => by
  simp [execOp, ho, hρ _ _ hx, Instr.sliceAt, Instr.sliceBounds, Instr.sureAddr, run_underlying hT.und, hT.sz, Addr.add, Result.andThen]
theorem Rd.andS {k : IntKind} {p q : Int} {a c : Nat} {t' : TypeId} (ho : o.op = .binOp .and t x y t') (hx : ev L x = some (.int k p)) (hy : ev L y = some (.int k q)) (hp : p = (a : Int)) (hq : q = (c : Int)) (ha : a < 2 ^ (k.bits - 1)) (hc : c < 2 ^ (k.bits - 1)) : Rd P o L R O (.int k ((a &&& c : Nat) : Int)) := by
  have h := Rd.and (R := R) (O := O) (P := P) ho hx hy
  have h1 : (2 : Nat) ^ (k.bits - 1) ≤ 2 ^ k.bits := Nat.pow_le_pow_right (by omega) (by omega)
  rw [hp, hq, BitVec.toNat_and, ofInt_toNat (Nat.lt_of_lt_of_le ha h1), ofInt_toNat (Nat.lt_of_lt_of_le hc h1), wrap_natS (Nat.lt_of_le_of_lt Nat.and_le_left ha)] at h
  exact h
end parts

theorem NF.refl {α : Type} : ∀ (l : List α), NF l l
  | [] => NF.nil
  | _ :: r => NF.cons (NF.refl r)
theorem NF.of {α : Type} {l l' : List α} (h : l = l') : NF l l' := h ▸ NF.refl l
/-- A row with room for c elements: a slice of none of them, to be appended to. -/
theorem Sat.accCap {α : Type} {enc : α → List Value} {R : List RO} {O O' : List Own} {e : TypeId} {size b c : Nat} {cells : List Value} {w : World} (hT : Take (rowC b e cells) O O') (hl : cells.length = c * size) (hmc : c ≤ maxLen) (h : Sat R O w) : Sat R (accC e size enc (.slice (some ⟨b, 0, none⟩) 0 c) ([] : List α) :: O') w :=
  (h.perm hT.perm).recast _ rfl (fun _ hp _ => ⟨by simp, .inr ⟨b, c, _, rfl, Nat.zero_le _, hp, Nat.zero_le _, hmc, by simpa using hl, by simp⟩⟩)
section whole
variable {P : Program} {n : Sz} {o : Oper} {L : Env} {R : List RO} {O O' : List Own} {K : Env → List RO → List Own → Prop} {t e : TypeId} {size b : Nat} {x y : Operand} {cs : List Value}
/-- A whole row. -/
theorem Rd.rowW (ho : o.op = .load t x) (hG : Agg P t size) (hx : ev L x = some (.pointer (some ⟨b, 0, none⟩))) (hp : rowC b e cs ∈ O) (hl : cs.length = size) : Rd P o L R O (.agg cs.toArray) :=
  Rd.rowS ho hG hx hp (NF.of (by rw [List.drop_zero, List.take_of_length_le (by omega)])) hl
/-- A store into a whole row. -/
theorem OpW.storeW {ds : List Value} (ho : o.op = .store t x y) (hG : Agg P t size) (hx : ev L x = some (.pointer (some ⟨b, 0, none⟩))) (hy : ev L y = some (.agg ds.toArray)) (hT : Take (rowC b e cs) O O') (hl : ds.length = size) (hc : cs.length = size) (h1 : (ds.all Value.oneCell') = true) (hd : o.dst = none)
    (k : K L R (rowC b e ds :: O')) : OpW P n o L R O K :=
  OpW.storeS ho hG hx hy (NF.refl _) hT hl (Nat.ble_eq_true_of_le (by show 0 + ds.length ≤ cs.length; omega)) (NF.of (by rw [spl, List.take_zero, List.nil_append, Nat.zero_add, List.drop_of_length_le (by show cs.length ≤ ds.length; omega), List.append_nil])) hd k h1
theorem Rd.shl32 {k' : IntKind} {a m : Nat} {p q : Int} {t' : TypeId} (ho : o.op = .binOp .shl t x y t') (hx : ev L x = some (.int .u32 p)) (hy : ev L y = some (.int k' q)) (hp : p = (a : Int)) (hq : q = (m : Int)) (hn : m ≤ 32) : Rd P o L R O (.int .u32 ((a * 2 ^ m % 2 ^ 32 : Nat) : Int)) :=
  Rd.shlN (k := .u32) ho hx hy hp hq hn rfl
end whole
/-- The first cells of a row. -/
def prefC (b : Nat) (cs : List Value) : Own := { blks := [b], pred := fun w => ∀ (j : Nat) (u : Value), cs[j]? = some u → w.cell? ⟨b, j, none⟩ = some u }
theorem Rd.pref {P : Program} {o : Oper} {L : Env} {R : List RO} {O : List Own} {t : TypeId} {x : Operand} {b off : Nat} {cs : List Value} {u : Value} (ho : o.op = .load t x) (hc : Cell1 P t) (hx : ev L x = some (.pointer (some ⟨b, off, none⟩))) (hp : prefC b cs ∈ O) (hk : cs[off]? = some u) : Rd P o L R O u := fun ρ w hρ _ hO => by
  have h := run_load1 (P := P) hc (hO _ hp off u hk)
  simp only [execOp, ho, hρ _ _ hx, Sem.run_bind, h, Result.andThen_ok, Sem.run_pure]
theorem row_pref {b : Nat} {e : TypeId} {cs xs : List Value} (h : ∀ (j : Nat) (u : Value), xs[j]? = some u → cs[j]? = some u) : ∀ w, (rowC b e cs).pred w → (prefC b xs).pred w := fun _ hw j u hj => row_cell hw (h j u hj)
theorem pref_app {xs ys : List Value} : ∀ (j : Nat) (u : Value), xs[j]? = some u → (xs ++ ys)[j]? = some u := fun j u h => by
  rw [List.getElem?_append_left (List.getElem?_eq_some_iff.1 h).1, h]
theorem pref_set {xs ys : List Value} {k : Nat} {v : Value} (hk : xs.length ≤ k) : ∀ (j : Nat) (u : Value), xs[j]? = some u → ((xs ++ ys).set k v)[j]? = some u := fun j u h => by
  have hj := (List.getElem?_eq_some_iff.1 h).1
  rw [List.getElem?_set_ne (by omega), pref_app j u h]
/-- Several operations may come up now. -/
theorem WD.some {P : Program} {n : Sz} {ops : Array Oper} {Q : Post} {L : Env} {R : List RO} {O : List Own} {S : List RO} {T : List Own} {fuel : Nat} {listed : Array Bool} (is : List Nat) (hr : Region.ready .any ops listed = is) (hne : is ≠ [])
    (h : ∀ i ∈ is, ∃ o, ops[i]? = some o ∧ o.guard = none ∧ OpW P n o L R O (fun L' R' O' => Held S T R' O' ∧ WD P n ops Q S T fuel (listed.setIfInBounds i true) L' R' O')) : WD P n ops Q S T (fuel + 1) listed L R O := by
  intro a w hf hs
  refine wpAnyH_all hr hne fun x hx => ?_
  obtain ⟨o, ho, hg, hop⟩ := h x hx
  unfold wpOp
  rw [ho]
  simp only [Region.wanted, hg, if_true]
  exact .inl (Oper.wp_mono (fun a' w' ⟨L', R', O', hk, hf', hs'⟩ => ⟨hk.1 w' hs', hk.2 a' w' hf' hs'⟩) (hop a w hf hs _))
end Go.SL
