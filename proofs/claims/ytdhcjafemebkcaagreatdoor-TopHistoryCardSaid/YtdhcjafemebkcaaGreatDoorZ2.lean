/-
  Part 2 of the texts that the law TopHistory is proved with: Lib, Ty, Acc, Rf, Rng, Srt, Shelf, Iter, Gr1, Gr2, Ato, Inv, Hp1, Wde, Gr3, Gr4. No premise.
-/
import Derived.Test.YtdhcjafemebkcaaGreatDoorZ1
import Derived.Below
import Derived.Test.YtdhcjafemebkcaaGreatDoorRows
import Derived.Lib.SliceRun
import Derived.RangeFuncIn
import Derived.RangeFuncRecord
import Derived.RangeFuncSeq
import Derived.TacticsIn
import Derived.OrdersIn
import Derived.Maps.RangeRun
import Derived.Maps.Own
import Derived.Sort.KeysCollected
import Derived.Sort.Row
import Derived.Sort.Grow
import Derived.Lib.SlicesCompact
import Derived.Shelf.Strings.Builder1
import Derived.Shelf.Strings.Builder2
import Derived.Shelf.Strings.OnBuilder
import Derived.Shelf.Small.Bits
import Derived.Shelf.Small.Strs
import Derived.Shelf.Strings.BuilderF
import Derived.Shelf.Utf8.RuneCount
import Derived.Shelf.Strconv.Itoa0
import Derived.Shelf.Strconv.Itoa1
import Derived.Shelf.LaysM
import Derived.Shelf.Strconv.Itoa2
import Derived.Shelf.Strconv.Itoa3
import Derived.Shelf.Strings.Search1
import Derived.Shelf.Strings.Search2
import Derived.Shelf.Strings.Search3
import Derived.Shelf.Strings.Cut
import Derived.Shelf.Strings.Count
import Derived.Shelf.Strings.Shaped
import Derived.Shelf.Sort.Plain
import Derived.Shelf.GgClosure.StringsIndexFunc
import Derived.Ground.GgwProg
import Derived.Shelf.GgClosure.StringsIndexFuncTop
import Derived.Shelf.GgClosure.StringsRunes
import Derived.Shelf.Strings.Prefix
import Derived.Shelf.Strings.Split
import Derived.Shelf.Strings.SplitShaped
import Derived.Shelf.Unicode.Decode
import Derived.Shelf.Strings.RuneCount
import Derived.Shelf.Strings.Explode
import Derived.Shelf.Bits.Mul64
import Derived.Shelf.Strings.Repeat
import Derived.Shelf.Unicode.DecodeSlow
import Derived.Shelf.Unicode.DecodeAny
import Derived.Shelf.Slices.Turned
import Derived.Ground.Names2Prog
import Derived.Shelf.Slices.Clone
import Derived.Shelf.Slices.CompactS
import Derived.Shelf.Slices.SearchI
import Derived.Shelf.Slices.Cells
import Derived.Shelf.Slices.In.SortNone
import Derived.Ground.SlgnProg
import Derived.Shelf.SlicesE.Clone
import Derived.Test.YtdhcjafemebkcaaGreatDoorProg
import Derived.Shelf.SlGeneric
import Derived.Shelf.SlIter.Nil
import Derived.Shelf.SortM.Plain
import Derived.Shelf.SortM.SortNone
import Derived.Ground.GgzProg
import Derived.Ground.SlgmProg
import Derived.Laws.LoneSync
namespace Go.SL
open Go Go.RowKit
theorem Sat.below {R : List RO} {O : List Own} {w w' : World} (h : Sat R O w) (hb : Below w.heap.size w w') : Sat R O w' := by
 have key : ∀ {S : Nat → Prop} {w'' : World}, Agree S w' w'' → Agree S w w'' := fun {S w''} ha =>
  (show Agree S w w' from ⟨hb.os, hb.tape, hb.output, hb.size, fun k hk _ => hb.block k hk⟩).trans ha
 exact ⟨h.nodup, fun k hk => Nat.lt_of_lt_of_le (h.lt k hk) hb.size, fun p hp w'' ha => h.ro p hp w'' (key ha), fun c hc w'' ha => h.own c hc w'' (key ha)⟩
/-- A contract of the library's: it gives v and touches nothing that was there. -/
theorem Fun.below {P : Program} {f : FuncId} {args : Array Value} {R : List RO} {O : List Own} {post : Value → List RO → List Own → Prop} {v : Value} (h : ∀ w, Calls P f args w fun e w' => e = .returned v ∧ Below w.heap.size w w') (hk : post v R O) : Fun P f args R O post :=
 fun w hs => (h w).mono fun _ _ ⟨he, hb⟩ => ⟨v, R, O, he, hk, hs.below hb⟩
theorem Fun.still {P : Program} {f : FuncId} {args : Array Value} {R : List RO} {O : List Own} {post : Value → List RO → List Own → Prop} {v : Value} (h : ∀ w, Calls P f args w fun e w' => e = .returned v ∧ w' = w) (hk : post v R O) : Fun P f args R O post :=
 fun w hs => (h w).mono fun _ w' ⟨he, hb⟩ => ⟨v, R, O, he, hk, by rw [hb]; exact hs⟩
/-- What a call leaves is thinned out. -/
theorem Fun.thin {P : Program} {f : FuncId} {args : Array Value} {R : List RO} {O : List Own} {post post' : Value → List RO → List Own → Prop} (h : Fun P f args R O post') (hp : ∀ v R' O', post' v R' O' → ∃ R2 O2, post v R2 O2 ∧ ∀ w, Sat R' O' w → Sat R2 O2 w) : Fun P f args R O post :=
 fun w hs => (h w hs).mono fun _ w' ⟨v, R', O', he, hk, hs'⟩ => by
  obtain ⟨R2, O2, h2, h3⟩ := hp v R' O' hk
  exact ⟨v, R2, O2, he, h2, h3 w' hs'⟩
section ret
variable {P : Program} {fn : Func} {n : Sz} {L : Env} {R : List RO} {O : List Own} {post : Value → List RO → List Own → Prop}
theorem run_loadVar_agg {t : TypeId} {size : Nat} (hG : Agg P t size) {b : Nat} {e : TypeId} {cs : List Value} (hl : cs.length = size) {w : World} (h : (rowC b e cs).pred w) : (loadVar t ⟨b, 0, none⟩).run P w = .ok (.agg cs.toArray) w := by
 have h1 := run_loadAgg hG (a := ⟨b, 0, none⟩) rfl hl (w := w) (fun j u hj => by
  have := row_cell h hj
  simpa using this)
 simpa [Instr.loadAt, Instr.sureAddr] using h1
theorem Ret.cellRow {p : Tmp} {ty : TypeId} {size b : Nat} {e : TypeId} {cs : List Value} (hr : fn.results = #[.cell p ty]) (ht : Env.find L p = some (.pointer (some ⟨b, 0, none⟩))) (hp : rowC b e cs ∈ O) (hG : Agg P ty size) (hl : cs.length = size) (h : post (.agg cs.toArray) R O) : retQ P fn n post .ret L R O :=
 ⟨_, fun a w _ hf ⟨_, hs⟩ => by
   have e1 := getD_of hf ht
   have e2 := run_loadVar_agg hG hl (hs.see (List.mem_append_right _ hp))
   simp only [Array.getD_eq_getD_getElem?] at e1
   simp [results, hr, e1, asAddr, e2], h⟩
end ret
section parts
variable {P : Program} {o : Oper} {L : Env} {R : List RO} {O : List Own} {t e : TypeId} {m : Nat} {x y : Operand} {u : Value}
/-- One element of an array's value. -/
theorem Rd.idxAgg {kd : IntKind} {k : Nat} {p : Int} {cs : List Value} (ho : o.op = .index t x y) (hT : ArT P t m e 1) (hc : Cell1 P e) (hx : ev L x = some (.agg cs.toArray)) (hy : ev L y = some (.int kd p)) (hp : p = (k : Int)) (hlt : k < m) (hk : cs[k]? = some u) : Rd P o L R O u := fun ρ w hρ _ _ => by
 subst hp
 have h1 : (0 : Int) ≤ (k : Int) ∧ (k : Int) < (m : Int) := ⟨by omega, by omega⟩
 simp [execOp, ho, hρ _ _ hx, hρ _ _ hy, Instr.index, asIntOf, run_underlying hT.und, h1, hlt, hT.sz, Go.part, hc w, hk]
/-- An array's value out of all of its parts. -/
theorem Rd.buildA {ps : List (Nat × Operand)} {vals cells : List Value} {css : List (List Value)} {i : TypeInfo} {zv : Value} {size : Nat} (ho : o.op = .build t ps.toArray) (hT : ArT P t m e size) (hi : P.info? t = some i) (hz : i.zero = some zv) (hzs : zv.cells.size = m * size)
 (hv : Evs L (ps.map (·.2)) vals) (his : ps.map (·.1) = List.range' 0 m) (hc : CellsOf vals css) (hl : (css.all fun l => Nat.beq l.length size) = true) (hcells : css.flatten = cells) : Rd P o L R O (.agg cells.toArray) := fun ρ w hρ _ _ => by
 subst hcells
 have hlen : vals.length = m := by
  have h1 : (ps.map (·.1)).length = m := by rw [his]; simp
  have h2 : vals.length = (ps.map (·.2)).length := by
   clear his hc ho h1
   generalize ps.map (·.2) = xs at hv
   induction hv with
   | nil => rfl
   | cons _ _ ih => simp [ih]
  rw [h2, List.length_map, ← h1, List.length_map]
 have hcl : css.length = vals.length := by
  clear hv hlen hl
  induction hc with
  | nil => rfl
  | cons _ _ ih => simp [ih]
 have hl' : ∀ l ∈ css, l.length = size := fun l h => Nat.eq_of_beq_eq_true (List.all_eq_true.1 hl l h)
 obtain ⟨r, hr, hrl⟩ := fill_cover vals css 0 zv.cells hc hl' (by rw [hcl, hlen, hzs]; simp)
 have hre : r = css.flatten.toArray := by
  apply Array.ext'
  rw [hrl]
  have : ((0 + css.length) * size) = zv.cells.toList.length := by
   have h1 : zv.cells.toList.length = zv.cells.size := rfl
   rw [h1, hzs, hcl, hlen, Nat.zero_add]
  rw [this, List.drop_length]; simp
 have e1 : (ps.toArray.map fun (i, x) => (i, ρ x)).toList = (ps.map (·.1)).zip vals := by
  have e2 := hv.eval hρ
  rw [← e2]
  simp only [List.map_toArray]
  exact zip_pairs ρ ps
 rw [his, ← hlen] at e1
 simp only [execOp, ho, Sem.run_bind, Instr.build, zeroValue, typeInfo, hi, hz, run_underlying hT.und, hT.sz, Result.andThen_ok, Sem.run_pure, run_program, e1, hr, hre]
/-- The whole of an array as a slice. -/
theorem Rd.sliceArr {b size : Nat} (ho : o.op = .slice t x none none none) (hT : ArT P t m e size) (hx : ev L x = some (.pointer (some ⟨b, 0, none⟩))) (_hm : 0 < m) : Rd P o L R O (.slice (some ⟨b, 0, none⟩) m m) := fun ρ w hρ _ _ => by
 simp [execOp, ho, hρ _ _ hx, Instr.sliceAt, Instr.sliceBounds, Instr.sureAddr, run_underlying hT.und, hT.sz, Addr.add, Result.andThen]
theorem Rd.andS {k : IntKind} {p q : Int} {a c : Nat} {t' : TypeId} (ho : o.op = .binOp .and t x y t') (hx : ev L x = some (.int k p)) (hy : ev L y = some (.int k q)) (hp : p = (a : Int)) (hq : q = (c : Int)) (ha : a < 2 ^ (k.bits - 1)) (hc : c < 2 ^ (k.bits - 1)) : Rd P o L R O (.int k ((a &&& c : Nat) : Int)) := by
 have h := Rd.and (R := R) (O := O) (P := P) ho hx hy
 have h1 : (2 : Nat) ^ (k.bits - 1) ≤ 2 ^ k.bits := Nat.pow_le_pow_right Z.W Z.W
 rw [hp, hq, BitVec.toNat_and, ofInt_toNat (Nat.lt_of_lt_of_le ha h1), ofInt_toNat (Nat.lt_of_lt_of_le hc h1), wrap_natS (Nat.lt_of_le_of_lt Nat.and_le_left ha)] at h
 exact h
end parts
theorem NF.refl {α : Type} : ∀ (l : List α), NF l l
 | [] => NF.nil
 | _ :: r => NF.cons (NF.refl r)
theorem NF.of {α : Type} {l l' : List α} (h : l = l') : NF l l' := h ▸ NF.refl l
/-- A row with room for c elements: a slice of none of them, to be appended to. -/
theorem Sat.accCap {α : Type} {enc : α → List Value} {R : List RO} {O O' : List Own} {e : TypeId} {size b c : Nat} {cells : List Value} {w : World} (hT : Take (rowC b e cells) O O') (hl : cells.length = c * size) (hmc : c ≤ maxLen) (h : Sat R O w) : Sat R (accC e size enc (.slice (some ⟨b, 0, none⟩) 0 c) ([] : List α) :: O') w :=
 (h.perm hT.perm).recast _ rfl (fun _ hp _ => ⟨by simp, .inr ⟨b, c, _, rfl, Nat.zero_le _, hp, Nat.zero_le _, hmc, by simpa using hl, by simp⟩⟩)
section whole
variable {P : Program} {n : Sz} {o : Oper} {L : Env} {R : List RO} {O O' : List Own} {K : Env → List RO → List Own → Prop} {t e : TypeId} {size b : Nat} {x y : Operand} {cs : List Value}
/-- A whole row. -/
theorem Rd.rowW (ho : o.op = .load t x) (hG : Agg P t size) (hx : ev L x = some (.pointer (some ⟨b, 0, none⟩))) (hp : rowC b e cs ∈ O) (hl : cs.length = size) : Rd P o L R O (.agg cs.toArray) :=
 Rd.rowS ho hG hx hp (NF.of (by rw [List.drop_zero, List.take_of_length_le Z.W])) hl
/-- A store into a whole row. -/
theorem OpW.storeW {ds : List Value} (ho : o.op = .store t x y) (hG : Agg P t size) (hx : ev L x = some (.pointer (some ⟨b, 0, none⟩))) (hy : ev L y = some (.agg ds.toArray)) (hT : Take (rowC b e cs) O O') (hl : ds.length = size) (hc : cs.length = size) (h1 : (ds.all Value.oneCell') = true) (hd : o.dst = none)
 (k : K L R (rowC b e ds :: O')) : OpW P n o L R O K :=
 OpW.storeS ho hG hx hy (NF.refl _) hT hl (Nat.ble_eq_true_of_le (by show 0 + ds.length ≤ cs.length; omega)) (NF.of (by rw [spl, List.take_zero, List.nil_append, Nat.zero_add, List.drop_of_length_le (by show cs.length ≤ ds.length; omega), List.append_nil])) hd k h1
theorem Rd.shl32 {k' : IntKind} {a m : Nat} {p q : Int} {t' : TypeId} (ho : o.op = .binOp .shl t x y t') (hx : ev L x = some (.int .u32 p)) (hy : ev L y = some (.int k' q)) (hp : p = (a : Int)) (hq : q = (m : Int)) (hn : m ≤ 32) : Rd P o L R O (.int .u32 ((a * 2 ^ m % 2 ^ 32 : Nat) : Int)) :=
 Rd.shlN (k := .u32) ho hx hy hp hq hn rfl
end whole
/-- The first cells of a row. -/
def prefC (b : Nat) (cs : List Value) : Own := { blks := [b], pred := fun w => ∀ (j : Nat) (u : Value), cs[j]? = some u → w.cell? ⟨b, j, none⟩ = some u }
theorem Rd.pref {P : Program} {o : Oper} {L : Env} {R : List RO} {O : List Own} {t : TypeId} {x : Operand} {b off : Nat} {cs : List Value} {u : Value} (ho : o.op = .load t x) (hc : Cell1 P t) (hx : ev L x = some (.pointer (some ⟨b, off, none⟩))) (hp : prefC b cs ∈ O) (hk : cs[off]? = some u) : Rd P o L R O u := fun ρ w hρ _ hO => by
 have h := run_load1 (P := P) hc (hO _ hp off u hk)
 simp only [execOp, ho, hρ _ _ hx, Sem.run_bind, h, Result.andThen_ok, Sem.run_pure]
theorem row_pref {b : Nat} {e : TypeId} {cs xs : List Value} (h : ∀ (j : Nat) (u : Value), xs[j]? = some u → cs[j]? = some u) : ∀ w, (rowC b e cs).pred w → (prefC b xs).pred w := fun _ hw j u hj => row_cell hw (h j u hj)
theorem pref_app {xs ys : List Value} : ∀ (j : Nat) (u : Value), xs[j]? = some u → (xs ++ ys)[j]? = some u := fun j u h => by
 rw [List.getElem?_append_left (List.getElem?_eq_some_iff.1 h).1, h]
theorem pref_set {xs ys : List Value} {k : Nat} {v : Value} (hk : xs.length ≤ k) : ∀ (j : Nat) (u : Value), xs[j]? = some u → ((xs ++ ys).set k v)[j]? = some u := fun j u h => by
 have hj := (List.getElem?_eq_some_iff.1 h).1
 rw [List.getElem?_set_ne Z.W, pref_app j u h]
/-- Several operations may come up now. -/
theorem WD.some {P : Program} {n : Sz} {ops : Array Oper} {Q : Post} {L : Env} {R : List RO} {O : List Own} {S : List RO} {T : List Own} {fuel : Nat} {listed : Array Bool} (is : List Nat) (hr : Region.ready .any ops listed = is) (hne : is ≠ [])
 (h : ∀ i ∈ is, ∃ o, ops[i]? = some o ∧ o.guard = none ∧ OpW P n o L R O (fun L' R' O' => Held S T R' O' ∧ WD P n ops Q S T fuel (listed.setIfInBounds i true) L' R' O')) : WD P n ops Q S T (fuel + 1) listed L R O := by
 intro a w hf hs
 refine wpAnyH_all hr hne fun x hx => ?_
 obtain ⟨o, ho, hg, hop⟩ := h x hx
 unfold wpOp
 rw [ho]
 simp only [Region.wanted, hg, if_true]
 exact .inl (Oper.wp_mono (fun a' w' ⟨L', R', O', hk, hf', hs'⟩ => ⟨hk.1 w' hs', hk.2 a' w' hf' hs'⟩) (hop a w hf hs _))
end Go.SL
namespace Go.Proofs.YtdhcjafemebkcaaGreatDoor
open Go Go.SL
theorem mixed : Tryz.prog.follows .mixedOrders = true := by kernel_rfl
theorem I3 : Tryz.prog.info? 3 = some Tryz.t3 := by kernel_rfl
theorem I4 : Tryz.prog.info? 4 = some Tryz.t4 := by kernel_rfl
theorem I5 : Tryz.prog.info? 5 = some Tryz.t5 := by kernel_rfl
theorem I9 : Tryz.prog.info? 9 = some Tryz.t9 := by kernel_rfl
theorem I23 : Tryz.prog.info? 23 = some Tryz.t23 := by kernel_rfl
theorem I29 : Tryz.prog.info? 29 = some Tryz.t29 := by kernel_rfl
theorem I30 : Tryz.prog.info? 30 = some Tryz.t30 := by kernel_rfl
theorem I37 : Tryz.prog.info? 37 = some Tryz.t37 := by kernel_rfl
theorem I45 : Tryz.prog.info? 45 = some Tryz.t45 := by kernel_rfl
theorem I57 : Tryz.prog.info? 57 = some Tryz.t57 := by kernel_rfl
theorem I64 : Tryz.prog.info? 64 = some Tryz.t64 := by kernel_rfl
theorem I95 : Tryz.prog.info? 95 = some Tryz.t95 := by kernel_rfl
theorem I96 : Tryz.prog.info? 96 = some Tryz.t96 := by kernel_rfl
theorem I176 : Tryz.prog.info? 176 = some Tryz.t176 := by kernel_rfl
theorem I281 : Tryz.prog.info? 281 = some Tryz.t281 := by kernel_rfl
theorem I283 : Tryz.prog.info? 283 = some Tryz.t283 := by kernel_rfl
theorem I350 : Tryz.prog.info? 350 = some Tryz.t350 := by kernel_rfl
theorem I392 : Tryz.prog.info? 392 = some Tryz.t392 := by kernel_rfl
theorem A281 : ArT Tryz.prog 281 8 241 1 := ⟨Tryz.underlying281, Tryz.sizeOf241⟩
theorem A322 : ArT Tryz.prog 322 16 241 1 := ⟨Tryz.underlying322, Tryz.sizeOf241⟩
theorem A350 : ArT Tryz.prog 350 8 5 1 := ⟨Tryz.underlying350, Tryz.sizeOf5⟩
theorem A392 : ArT Tryz.prog 392 64 241 1 := ⟨Tryz.underlying392, Tryz.sizeOf241⟩
theorem Bs29 : FieldPlaces Tryz.prog 29 [(0, 1), (1, 1), (2, 1)] := ⟨_, Tryz.underlying29, fun w => by simp [Tryz.sizeOf27, Tryz.sizeOf3, Tryz.sizeOf9]⟩
theorem Bs45 : FieldPlaces Tryz.prog 45 [(0, 1)] := ⟨_, Tryz.underlying45, fun w => by simp [Tryz.sizeOf43]⟩
theorem Bs64 : FieldPlaces Tryz.prog 64 [(0, 1), (1, 1)] := ⟨_, Tryz.underlying64, fun w => by simp [Tryz.sizeOf3, Tryz.sizeOf9]⟩
theorem C174 : Cell1 Tryz.prog 174 := Tryz.isAgg174
theorem C23 : Cell1 Tryz.prog 23 := Tryz.isAgg23
theorem C241 : Cell1 Tryz.prog 241 := Tryz.isAgg241
theorem C26 : Cell1 Tryz.prog 26 := Tryz.isAgg26
theorem C27 : Cell1 Tryz.prog 27 := Tryz.isAgg27
theorem C3 : Cell1 Tryz.prog 3 := Tryz.isAgg3
theorem C30 : Cell1 Tryz.prog 30 := Tryz.isAgg30
theorem C35 : Cell1 Tryz.prog 35 := Tryz.isAgg35
theorem C37 : Cell1 Tryz.prog 37 := Tryz.isAgg37
theorem C4 : Cell1 Tryz.prog 4 := Tryz.isAgg4
theorem C43 : Cell1 Tryz.prog 43 := Tryz.isAgg43
theorem C5 : Cell1 Tryz.prog 5 := Tryz.isAgg5
theorem C57 : Cell1 Tryz.prog 57 := Tryz.isAgg57
theorem C9 : Cell1 Tryz.prog 9 := Tryz.isAgg9
theorem C95 : Cell1 Tryz.prog 95 := Tryz.isAgg95
theorem C96 : Cell1 Tryz.prog 96 := Tryz.isAgg96
theorem F176_0 : FieldAt Tryz.prog 176 0 0 := ⟨_, _, 0, Tryz.underlying176, rfl, rfl, Tryz.sizeOf174⟩
theorem F176_1 : FieldAt Tryz.prog 176 1 1 := ⟨_, _, 0, Tryz.underlying176, rfl, rfl, Tryz.sizeOf26⟩
theorem F283_0 : FieldAt Tryz.prog 283 0 0 := ⟨_, _, 7, Tryz.underlying283, rfl, rfl, Tryz.sizeOf281⟩
theorem F283_1 : FieldAt Tryz.prog 283 1 8 := ⟨_, _, 0, Tryz.underlying283, rfl, rfl, Tryz.sizeOf4⟩
theorem F283_2 : FieldAt Tryz.prog 283 2 9 := ⟨_, _, 0, Tryz.underlying283, rfl, rfl, Tryz.sizeOf9⟩
theorem F283_3 : FieldAt Tryz.prog 283 3 10 := ⟨_, _, 0, Tryz.underlying283, rfl, rfl, Tryz.sizeOf3⟩
theorem F29_0 : FieldAt Tryz.prog 29 0 0 := ⟨_, _, 0, Tryz.underlying29, rfl, rfl, Tryz.sizeOf9⟩
theorem F29_1 : FieldAt Tryz.prog 29 1 1 := ⟨_, _, 0, Tryz.underlying29, rfl, rfl, Tryz.sizeOf27⟩
theorem F29_2 : FieldAt Tryz.prog 29 2 2 := ⟨_, _, 0, Tryz.underlying29, rfl, rfl, Tryz.sizeOf3⟩
theorem F45_0 : FieldAt Tryz.prog 45 0 0 := ⟨_, _, 0, Tryz.underlying45, rfl, rfl, Tryz.sizeOf43⟩
theorem F64_0 : FieldAt Tryz.prog 64 0 0 := ⟨_, _, 0, Tryz.underlying64, rfl, rfl, Tryz.sizeOf3⟩
theorem F64_1 : FieldAt Tryz.prog 64 1 1 := ⟨_, _, 0, Tryz.underlying64, rfl, rfl, Tryz.sizeOf9⟩
theorem G281 : Agg Tryz.prog 281 8 := ⟨Tryz.isAgg281, Tryz.sizeOf281⟩
theorem G283 : Agg Tryz.prog 283 11 := ⟨Tryz.isAgg283, Tryz.sizeOf283⟩
theorem G29 : Agg Tryz.prog 29 3 := ⟨Tryz.isAgg29, Tryz.sizeOf29⟩
theorem G392 : Agg Tryz.prog 392 64 := ⟨Tryz.isAgg392, Tryz.sizeOf392⟩
theorem G64 : Agg Tryz.prog 64 2 := ⟨Tryz.isAgg64, Tryz.sizeOf64⟩
-- K377 not printed
theorem K9 : KeyT Tryz.prog 9 vs := KeyT.string Tryz.underlying9
theorem M35 : MapT Tryz.prog 35 9 4 (.bool false) := MapT.mk' Tryz.underlying35 I4 rfl
theorem M43 : MapT Tryz.prog 43 9 29 (.agg #[(.string ⟨#[]⟩), (.slice none 0 0), (.int .i64 0)]) := MapT.mk' Tryz.underlying43 I29 rfl
theorem M56 : MapT Tryz.prog 56 9 3 (.int .i64 0) := MapT.mk' Tryz.underlying56 I3 rfl
theorem S22 : SlT Tryz.prog 22 23 1 24 (.slice none 0 0) := ⟨Tryz.underlying22, ⟨_, I23, rfl, rfl, rfl⟩, by kernel_rfl, by decide⟩
theorem S23 : SlT Tryz.prog 23 3 1 8 (.int .i64 0) := ⟨Tryz.underlying23, ⟨_, I3, rfl, rfl, rfl⟩, by kernel_rfl, by decide⟩
theorem S25 : SlT Tryz.prog 25 29 3 48 (.agg #[(.string ⟨#[]⟩), (.slice none 0 0), (.int .i64 0)]) := ⟨Tryz.underlying25, ⟨_, I29, rfl, rfl, rfl⟩, by kernel_rfl, by decide⟩
theorem S26 : SlT Tryz.prog 26 5 1 1 (.int .u8 0) := ⟨Tryz.underlying26, ⟨_, I5, rfl, rfl, rfl⟩, by kernel_rfl, by decide⟩
theorem S27 : SlT Tryz.prog 27 9 1 16 (.string ⟨#[]⟩) := ⟨Tryz.underlying27, ⟨_, I9, rfl, rfl, rfl⟩, by kernel_rfl, by decide⟩
theorem S37 : SlT Tryz.prog 37 64 2 24 (.agg #[(.int .i64 0), (.string ⟨#[]⟩)]) := ⟨Tryz.underlying37, ⟨_, I64, rfl, rfl, rfl⟩, by kernel_rfl, by decide⟩
theorem S57 : SlT Tryz.prog 57 29 3 48 (.agg #[(.string ⟨#[]⟩), (.slice none 0 0), (.int .i64 0)]) := ⟨Tryz.underlying57, ⟨_, I29, rfl, rfl, rfl⟩, by kernel_rfl, by decide⟩
theorem S93 : SlT Tryz.prog 93 96 1 24 (.slice none 0 0) := ⟨Tryz.underlying93, ⟨_, I96, rfl, rfl, rfl⟩, by kernel_rfl, by decide⟩
theorem S96 : SlT Tryz.prog 96 95 1 2 (.int .u16 0) := ⟨Tryz.underlying96, ⟨_, I95, rfl, rfl, rfl⟩, by kernel_rfl, by decide⟩
theorem Z174 : ∀ w, (sizeOf 174).run Tryz.prog w = .ok 1 w := Tryz.sizeOf174
theorem Z241 : ∀ w, (sizeOf 241).run Tryz.prog w = .ok 1 w := Tryz.sizeOf241
theorem Z26 : ∀ w, (sizeOf 26).run Tryz.prog w = .ok 1 w := Tryz.sizeOf26
theorem Z27 : ∀ w, (sizeOf 27).run Tryz.prog w = .ok 1 w := Tryz.sizeOf27
theorem Z3 : ∀ w, (sizeOf 3).run Tryz.prog w = .ok 1 w := Tryz.sizeOf3
theorem Z30 : ∀ w, (sizeOf 30).run Tryz.prog w = .ok 1 w := Tryz.sizeOf30
theorem Z37 : ∀ w, (sizeOf 37).run Tryz.prog w = .ok 1 w := Tryz.sizeOf37
theorem Z4 : ∀ w, (sizeOf 4).run Tryz.prog w = .ok 1 w := Tryz.sizeOf4
theorem Z5 : ∀ w, (sizeOf 5).run Tryz.prog w = .ok 1 w := Tryz.sizeOf5
theorem Z57 : ∀ w, (sizeOf 57).run Tryz.prog w = .ok 1 w := Tryz.sizeOf57
theorem Z9 : ∀ w, (sizeOf 9).run Tryz.prog w = .ok 1 w := Tryz.sizeOf9
theorem Z95 : ∀ w, (sizeOf 95).run Tryz.prog w = .ok 1 w := Tryz.sizeOf95
theorem Z96 : ∀ w, (sizeOf 96).run Tryz.prog w = .ok 1 w := Tryz.sizeOf96
end Go.Proofs.YtdhcjafemebkcaaGreatDoor
namespace Go.SL
open Go
section
variable {P : Program} {n : Sz} {o : Oper} {L : Env} {R : List RO} {O O' : List Own} {K : Env → List RO → List Own → Prop} {t t' e : TypeId} {x y : Operand} {v z : Value} {α : Type} {g : α → Value} {enc : α → List Value} {xs : List α} {size bytes : Nat}
theorem OpW.storeAcc {k : Nat} {a : α} (ho : o.op = .store t x y) (hsz : ∀ w, (sizeOf t).run P w = .ok 1 w) (hx : ev L x = some (.pointer (some (elemAddr v k)))) (hy : ev L y = some (g a)) (h1 : (g a).cells = #[g a]) (h2 : (g a).oneCell' = true)
 (hT : Take (accC e 1 (one g) v xs) O O') (hlt : k < xs.length) (hd : o.dst = none) (kk : K L R (accC e 1 (one g) v (xs.set k a) :: O')) : OpW P n o L R O K := by
 intro ac w hf hs Q
 have hs' := hs.perm hT.perm
 have hp : (accC e 1 (one g) v xs).pred w := hs'.see List.mem_cons_self
 have hcell := acc_cell hp (j := k) (u := g xs[k]) (by rw [flat_one, List.getElem?_map, List.getElem?_eq_getElem hlt]; rfl)
 have hlt' := ownBlock_lt hp
 obtain ⟨hl, hv⟩ := hp
 rcases hv with ⟨rfl, h0⟩ | ⟨b, cap, cur, rfl, hb, hh, hnc, hcm, hcs, ht⟩
 · omega
 simp only [elemAddr, Nat.zero_add] at hx hcell
 have hfree : w.frozen? ⟨b, k, none⟩ = false := by
  simp only [World.frozen?, hh]; simp
 have hr : (execOp ac.eval o).run P w = .ok .skip (w.setCell ⟨b, k, none⟩ (g a)) := by
  simp [execOp, ho, hf.ev hx, hf.ev hy, Instr.storeAt, Instr.sureAddr, storeVar, hsz, h1, storeCells, Addr.add, run_store _ _ _ _ _ h2, hcell, hfree]
 unfold Oper.wp
 rw [hr, Oper.upon_skip, hd]
 have hset : (w.setCell ⟨b, k, none⟩ (g a)).heap[b]? = some (.cells (cur.setIfInBounds k (g a)) e (0, 0)) := by
  show (w.heap.modify b _)[b]? = _
  rw [Array.getElem?_modify, if_pos rfl, hh]; rfl
 have hbl : b < w.heap.size := hlt' b (by simp [Value.ownBlock])
 refine ⟨_, _, _, kk, hf.none _, hs'.update _ ⟨rfl, rfl, rfl, by simp, fun j hj hn => heap_setCell_other w _ _ (g a) (by simpa [accC, Value.ownBlock, eq_comm] using hn)⟩ (by intro j hj; left; simpa [accC, Value.ownBlock] using hj) (by intro j hj; simp [accC, Value.ownBlock] at hj; subst hj; simpa using hbl) (by simp [accC, Value.ownBlock]) (fun w'' ha _ => ?_)⟩
 refine ⟨by rw [flat_one, List.length_map, Nat.mul_one], .inr ⟨b, cap, cur.setIfInBounds k (g a), by rw [List.length_set], Nat.zero_le _, ?_, by rw [List.length_set]; exact hnc, hcm, by simpa using hcs, ?_⟩⟩
 · rw [ha.2.2.2.2 b (by simpa using hbl) (by simp [accC, Value.ownBlock])]
   exact hset
 · rw [Nat.mul_one] at ht ⊢
   rw [Array.toList_setIfInBounds, List.length_set, List.take_set, ht, flat_one, flat_one, List.map_set]
theorem Rd.cutA_l {kl : IntKind} {p : Int} {lo : Nat} {e' : TypeId} {a : Operand} (ho : o.op = .slice t x (some a) none none) (hT : SlT P t e size bytes z) (hx : ev L x = some v) (ha : ev L a = some (.int kl p)) (hp : p = (lo : Int)) (hO : accC e' size enc v xs ∈ O) (h1 : lo ≤ xs.length) : Rd P o L R O (subSl v size lo xs.length) := fun ρ w hρ _ hr => by
 rcases (hr _ hO).2 with ⟨rfl, h0⟩ | ⟨b, c, cur, rfl, _⟩
 · have h := run_cut (P := P) (m := 0) (cp := 0) (ad := none) (lo := lo) (hi := xs.length) hT (some (.int kl p)) none (bound_ok hp h1) (fun _ => by rw [h0]; rfl) w
   simp only [execOp, ho, hρ _ _ hx, hρ _ _ ha, Option.map_some, Option.map_none, Sem.run_bind, h, Result.andThen_ok, Sem.run_pure]
 · have h := run_cut (P := P) (m := xs.length) (cp := c) (ad := some ⟨b, 0, none⟩) (lo := lo) (hi := xs.length) hT (some (.int kl p)) none (bound_ok hp h1) (fun _ => rfl) w
   simp only [execOp, ho, hρ _ _ hx, hρ _ _ ha, Option.map_some, Option.map_none, Sem.run_bind, h, Result.andThen_ok, Sem.run_pure]
theorem Rd.cutA_h {kh : IntKind} {q : Int} {hi : Nat} {e' : TypeId} {b : Operand} (ho : o.op = .slice t x none (some b) none) (hT : SlT P t e size bytes z) (hx : ev L x = some v) (hb : ev L b = some (.int kh q)) (hq : q = (hi : Int)) (hO : accC e' size enc v xs ∈ O) (h2 : hi ≤ xs.length) : Rd P o L R O (subSl v size 0 hi) := fun ρ w hρ _ hr => by
 rcases (hr _ hO).2 with ⟨rfl, h0⟩ | ⟨g, c, cur, rfl, _, _, hnc, _⟩
 · have h := run_cut (P := P) (m := 0) (cp := 0) (ad := none) (lo := 0) (hi := hi) hT none (some (.int kh q)) (fun _ => rfl) (bound_ok hq Z.W) w
   simp only [execOp, ho, hρ _ _ hx, hρ _ _ hb, Option.map_some, Option.map_none, Sem.run_bind, h, Result.andThen_ok, Sem.run_pure]
 · have h := run_cut (P := P) (m := xs.length) (cp := c) (ad := some ⟨g, 0, none⟩) (lo := 0) (hi := hi) hT none (some (.int kh q)) (fun _ => rfl) (bound_ok hq Z.W) w
   simp only [execOp, ho, hρ _ _ hx, hρ _ _ hb, Option.map_some, Option.map_none, Sem.run_bind, h, Result.andThen_ok, Sem.run_pure]
/-- clear(s[lo:]): zero values from there on. -/
theorem run_clear_row (hT : SlT P t e 1 bytes z) (hz : z.cells = #[z]) (h1 : z.oneCell' = true) (ty : TypeId) {w : World} {b lo m c : Nat} {cur : Array Value} (hg : w.heap[b]? = some (.cells cur e (0, 0))) (hn : 0 < m) (hfit : lo + m ≤ cur.size) :
 (Builtin.clear_ #[t] ty #[.slice (some ⟨b, lo, none⟩) m c]).run P w = .ok (.tuple #[]) (w.setRow b (cur.toList.take lo ++ List.replicate m z ++ cur.toList.drop (lo + m)).toArray) := by
 have hzc : (Builtin.zeroCells z.cells m).toList = List.replicate m z := by
  rw [hz]
  simp [Builtin.zeroCells]
  apply List.ext_getElem
  · simp
  · intro i h1 h2
    simp [Nat.mod_one]
 have hst := run_storeCells_at P b lo e (List.replicate m z) 0 cur w hg (by simpa using hfit) (by intro v hv'; rw [List.eq_of_mem_replicate hv']; exact h1)
 simp only [Nat.add_zero, List.length_replicate] at hst
 obtain ⟨k, rfl⟩ : ∃ k, m = k + 1 := ⟨m - 1, by omega⟩
 simp [Builtin.clear_, run_underlying hT.under, hT.zero, hzc, hst]
theorem OpW.clearAcc {lo : Nat} {a0 : α} {u : Value} (ho : o.op = .call { callee := .builtin .clear, args := #[x], argTypes := #[t] }) (hT : SlT P t e 1 bytes z) (hz : z = g a0) (hzc : (g a0).cells = #[g a0]) (h1 : (g a0).oneCell' = true)
 (hx : ev L x = some u) (hu : u = subSl v 1 lo xs.length) (hO : Take (accC e 1 (one g) v xs) O O') (hlo : lo < xs.length) (hd : o.dst = none) (kk : K L R (accC e 1 (one g) v (xs.take lo ++ List.replicate (xs.length - lo) a0) :: O')) : OpW P n o L R O K := by
 intro ac w hf hs Q
 subst hu
 have hs' := hs.perm hO.perm
 have hp : (accC e 1 (one g) v xs).pred w := hs'.see List.mem_cons_self
 have hlt' := ownBlock_lt hp
 obtain ⟨hl, hv⟩ := hp
 rcases hv with ⟨rfl, h0⟩ | ⟨b, cap, cur, rfl, hb, hh, hnc, hcm, hcs, ht⟩
 · omega
 have hsub : subSl (.slice (some ⟨b, 0, none⟩) xs.length cap) 1 lo xs.length = .slice (some ⟨b, lo, none⟩) (xs.length - lo) (cap - lo) := by
  simp only [subSl]
  rw [if_neg Z.W]
  simp [add_spot]
 rw [hsub] at hx
 have hcl := run_clear_row (P := P) hT (by rw [hz]; exact hzc) (by rw [hz]; exact h1) o.type (c := cap - lo) hh (lo := lo) (m := xs.length - lo) Z.W Z.W
 have hr : (execOp ac.eval o).run P w = .ok (.value (.tuple #[])) (w.setRow b (cur.toList.take lo ++ List.replicate (xs.length - lo) z ++ cur.toList.drop (lo + (xs.length - lo))).toArray) := by
  simp only [execOp, ho, resolve, invoke, builtin, hf.ev hx, Sem.run_bind, Sem.run_pure, Result.andThen_ok, List.map_toArray, List.map_cons, List.map_nil, hcl]
 unfold Oper.wp
 rw [hr, Oper.upon_value, hd]
 have hbl : b < w.heap.size := hlt' b (by simp [Value.ownBlock])
 refine ⟨_, _, _, kk, hf.none _, hs'.update _ ⟨rfl, rfl, rfl, by simp, fun j hj hn => setRow_other w b j _ (by simpa [accC, Value.ownBlock, eq_comm] using hn)⟩ (by intro j hj; left; simpa [accC, Value.ownBlock] using hj) (by intro j hj; simp [accC, Value.ownBlock] at hj; subst hj; simpa using hbl) (by simp [accC, Value.ownBlock]) (fun w'' ha _ => ?_)⟩
 have hlen : (xs.take lo ++ List.replicate (xs.length - lo) a0).length = xs.length := by simp; omega
 refine ⟨by rw [flat_one, List.length_map, Nat.mul_one], .inr ⟨b, cap, (cur.toList.take lo ++ List.replicate (xs.length - lo) z ++ cur.toList.drop (lo + (xs.length - lo))).toArray, by rw [hlen], Nat.zero_le _, ?_, by rw [hlen]; exact hnc, hcm, ?_, ?_⟩⟩
 · rw [ha.2.2.2.2 b (by simpa using hbl) (by simp [accC, Value.ownBlock])]
   exact setRow_heap w b cur _ e _ hh
 · simp; omega
 · have hcl2 : cur.toList.length = cap := by rw [Array.length_toList]; omega
   rw [Nat.mul_one, hlen, List.toList_toArray, List.take_append_of_le_length (by simp; omega), List.take_of_length_le (by simp; omega), flat_one, List.map_append, List.map_replicate, hz, List.map_take]
   rw [Nat.mul_one, flat_one] at ht
   rw [← ht, List.take_take, Nat.min_eq_left Z.W]
theorem subSl0 (b m cap size hi : Nat) : subSl (.slice (some ⟨b, 0, none⟩) m cap) size 0 hi = .slice (some ⟨b, 0, none⟩) hi cap := by
 simp only [subSl]
 split <;> simp [add_spot]
/-- An own slice's first elements. -/
theorem Sat.cutAcc {hi : Nat} {w : World} (hT : Take (accC e size enc v xs) O O') (hs : ∀ x, (enc x).length = size) (h2 : hi ≤ xs.length) (h : Sat R O w) : Sat R (accC e size enc (subSl v size 0 hi) (xs.take hi) :: O') w := by
 have hs' := h.perm hT.perm
 have hp : (accC e size enc v xs).pred w := hs'.see List.mem_cons_self
 have hbk : (subSl v size 0 hi).ownBlock = v.ownBlock := by
  rcases hp.2 with ⟨rfl, h0⟩ | ⟨b, cap, cur, rfl, _⟩
  · simp [subSl, Value.ownBlock]
  · rw [subSl0]; rfl
 refine hs'.recast _ (by simp only [accC, hbk]) (fun w' hp' _ => ?_)
 obtain ⟨hl, hv⟩ := hp'
 refine ⟨by rw [flat_len hs, List.length_take], ?_⟩
 rcases hv with ⟨rfl, h0⟩ | ⟨b, cap, cur, rfl, hb, hh, hnc, hcm, hcs, ht⟩
 · left
   obtain rfl : hi = 0 := by omega
   exact ⟨by simp [subSl], by simp⟩
 · right
   refine ⟨b, cap, cur, ?_, Nat.zero_le _, hh, by rw [List.length_take]; omega, hcm, hcs, ?_⟩
   · rw [subSl0, List.length_take, Nat.min_eq_left h2]
   · have h5 : (xs.take hi).flatMap enc = (xs.flatMap enc).take (hi * size) := by
      have h6 := flat_len hs (xs.take hi)
      rw [List.length_take, Nat.min_eq_left h2] at h6
      have h7 : xs.flatMap enc = (xs.take hi).flatMap enc ++ (xs.drop hi).flatMap enc := by rw [← List.flatMap_append, List.take_append_drop]
      rw [h7, List.take_append_of_le_length (Nat.le_of_eq h6.symm)]
      exact (List.take_of_length_le (Nat.le_of_eq h6)).symm
     rw [h5, ← ht, List.take_take, List.length_take, Nat.min_eq_left h2, Nat.min_eq_left (Nat.mul_le_mul_right _ h2)]
end
section maps
variable {κ β : Type} [DecidableEq κ] {P : Program} {n : Sz} {o : Oper} {L : Env} {R : List RO} {O O' : List Own} {K : Env → List RO → List Own → Prop} {t t' kt et : TypeId} {z : Value} {x y : Operand} {kenc : κ → Value} {venc : β → Value} {m : GoMap κ β} {b : Nat} {k : κ} {kv : Value}
theorem OpW.delete (T : MapT P t kt et z) (KT : KeyT P kt kenc) (ho : o.op = .call { callee := .builtin .delete, args := #[x, y], argTypes := #[t, t'] }) (hx : ev L x = some (.map (some b))) (hy : ev L y = some kv) (hT : Take (mapC kenc venc b m) O O') (hk : kenc k = kv) (hd : o.dst = none)
 (c : K L R (mapC kenc venc b (m.del k) :: O')) : OpW P n o L R O K := by
 intro a w hf hs Q
 have hs' := hs.perm hT.perm
 have hp : mapP kenc venc b m w := hs'.see List.mem_cons_self
 unfold Oper.wp
 have hr : (execOp a.eval o).run P w = .ok (.value (.tuple #[])) { w with heap := w.heap.setIfInBounds b (.map ((m.del k).l.map (ent kenc venc)).toArray (m.del k).clock) } := by
  simp only [execOp, ho, resolve, invoke, builtin, Sem.run_bind, Sem.run_pure, hf.ev hx, hf.ev hy, ← hk, List.map_toArray, List.map_cons, List.map_nil, run_delete T KT hp, Result.andThen_ok]
 rw [hr, Oper.upon_value, hd]
 exact ⟨_, _, _, c, hf.none _, map_put hs' _ hp⟩
end maps
end Go.SL
namespace Go.SL
open Go Go.RowKit
def fw (ro : Option Nat) : Fence := { Fence.wide with round := ro }
theorem stepsIn_fw {P : Program} {ro : Option Nat} {m m' : Machine} : StepsIn (Machine.fenced P (fw ro)) P m m' ↔ Steps P m m' := stepsIn_wide
theorem callsIn_fw {P : Program} {ro : Option Nat} {k : Nat} {f : FuncId} {args : Array Value} {w : World} {R : Ending → World → Prop} : CallsIn (fw ro) k P f args w R ↔ Calls P f args w R := callsIn_wide (n := k)
def noDef (l : List Oper) : Bool := l.all fun o => match o.op with
 | .defer _ => false
 | _ => true
theorem noDef_spec {l : List Oper} (h : noDef l = true) {o : Oper} (ho : o ∈ l) : ∀ c, o.op ≠ .defer c := fun c e => by
 have := List.all_eq_true.1 h o ho
 rw [e] at this
 cases this
section
variable {P : Program} {ro : Option Nat} {o : Oper} {a : Act} {w : World} {K : Act → World → Prop} {Q : Exit → Act → World → Prop} {ops : Array Oper} {md : Region.Mode}
theorem wp_in (hd : ∀ c, o.op ≠ .defer c) (h : o.wp P a w K Q) : o.wpIn (fw ro) 0 P a w K Q := by
 refine ⟨fun _ _ => trivial, ?_⟩
 show o.uponIn _ _ _ _ _ _ ((o.semAt ro a.eval).run P w)
 rw [Oper.semAt_eq ro a.eval o hd]
 unfold Oper.wp at h
 generalize (execOp a.eval o).run P w = r at h ⊢
 have dep : (fw ro).depth.isSome = true → 1 ≤ 0 := fun hx => by cases hx
 cases r with
 | ok x w' =>
   cases x with
   | value v => exact h
   | skip => exact h
   | defer d => exact h
   | enter f args => exact ⟨dep, callsIn_fw.2 h⟩
   | row row args => exact ⟨dep, fun c cs _ => let ⟨v, w', r, s⟩ := h c cs; ⟨v, w', r, stepsIn_fw.2 s⟩⟩
   | round l f tmps assign body => exact h.elim
   | _ => exact h.elim
 | halt x w' => cases x <;> exact h
theorem wpOp_in {i : Nat} (hd : ∀ o ∈ ops.toList, ∀ c, o.op ≠ .defer c) (hQ : ¬ LetsOut Q) (h : wpOp P ops Q i K a w) : wpOpIn (fw ro) 0 P ops Q i K a w := by
 unfold wpOp at h
 unfold wpOpIn
 cases e : ops[i]? with
 | none => rw [e] at h; exact h
 | some o =>
   rw [e] at h
   simp only at h ⊢
   have hm : o ∈ ops.toList := Array.mem_toList_iff.2 (Array.mem_of_getElem? e)
   split
   · rename_i hw
     rw [if_pos hw] at h
     rcases h with h | h
     · exact wp_in (hd o hm) h
     · exact absurd h.2 hQ
   · rename_i hw
     rw [if_neg hw] at h
     exact ⟨fun _ _ => trivial, h⟩
theorem wpAny_in (hd : ∀ o ∈ ops.toList, ∀ c, o.op ≠ .defer c) (hQ : ¬ LetsOut Q) : ∀ (fuel : Nat) (listed : Array Bool) (a : Act) (w : World), wpAny P md ops Q fuel listed a w → wpAnyIn (fw ro) 0 P md ops Q fuel listed a w
 | 0, _, _, _, h => h
 | fuel + 1, listed, a, w, h => ⟨h.1, fun i hi => wpOpIn_mono (fun a w => wpAny_in hd hQ fuel _ a w) (wpOp_in hd hQ (h.2 i hi))⟩
theorem wpList_in (hQ : ¬ LetsOut Q) : ∀ (l : List Oper) (a : Act) (w : World), (∀ o ∈ l, ∀ c, o.op ≠ .defer c) → wpList P ops Q l a w → wpListIn (fw ro) 0 P ops Q l a w
 | [], _, _, _, h => h
 | o :: l, a, w, hd, h => by
   unfold wpList at h
   unfold wpListIn
   split
   · rename_i hw
     rw [if_pos hw] at h
     rcases h with h | h
     · exact Oper.wpIn_mono (fun a w => wpList_in hQ l a w (fun o ho => hd o (List.mem_cons_of_mem _ ho))) (wp_in (hd o List.mem_cons_self) h)
     · exact absurd h.2 hQ
   · rename_i hw
     rw [if_neg hw] at h
     exact ⟨fun _ _ => trivial, wpList_in hQ l _ w (fun o ho => hd o (List.mem_cons_of_mem _ ho)) h⟩
end
def WR (ro : Option Nat) (P : Program) (n : Sz) (c : Code) (Q : Post) (L : Env) (R : List RO) (O : List Own) : Prop :=
 ∀ a w, Fr n L a → Sat R O w → c.wpIn (fw ro) 0 P (lift n Q) a w
/-- The operations of a region of a function (not of a round), of which some may call yield. -/
def WY (P : Program) (n : Sz) (ops : Array Oper) (Q : Post) (rest : List Oper) (L : Env) (R : List RO) (O : List Own) : Prop :=
 ∀ a w, Fr n L a → Sat R O w → wpListIn (fw none) 0 P ops (lift n Q) rest a w
theorem lift_out {n : Sz} {Q : Post} : ¬ LetsOut (lift n Q) := fun ⟨_, _, h⟩ => h
section
variable {P : Program} {ro : Option Nat} {n : Sz} {ops : Array Oper} {Q : Post} {rest : List Oper} {o : Oper} {L : Env} {R : List RO} {O O' : List Own}
theorem WR.region {id : Nat} {l : List Oper} (h : WL P n l.toArray Q l L R O) (hd : noDef l = true := by kernel_rfl) : WR ro P n (.region id l.toArray false) Q L R O :=
 fun a w hf hs => wpIn_region_lit (wpList_in lift_out l a w (fun o ho => noDef_spec hd ho) (h a w hf hs))
theorem WR.regionY {id : Nat} {l : List Oper} (h : WY P n l.toArray Q l L R O) : WR none P n (.region id l.toArray false) Q L R O :=
 fun a w hf hs => wpIn_region_lit (h a w hf hs)
theorem WR.drawn {id : Nat} {l : List Oper} (T : List Own) (m : Nat) (hlen : l.length = m) (hm : P.follows .mixedOrders = true) (h : WD P n l.toArray Q R T m (Array.replicate m false) L R O) (hd : noDef l = true := by kernel_rfl) : WR ro P n (.region id l.toArray true) Q L R O := by
 subst hlen
 intro a w hf hs
 exact wpIn_region_any hm (wpAny_in (fun o ho => noDef_spec hd (by simpa using ho)) lift_out _ _ _ _ (wpAny_of_held _ _ _ _ (h a _ hf (hs.drew _))))
theorem WY.nil (h : Q .normal L R O) : WY P n ops Q [] L R O := fun _ _ hf hs => wpListIn_nil (lift_normal h hf hs)
theorem WY.op (hg : o.guard = none) (h : OpW P n o L R O (fun L' R' O' => WY P n ops Q rest L' R' O')) (hd : noDef [o] = true := by kernel_rfl) : WY P n ops Q (o :: rest) L R O := by
 intro a w hf hs
 refine wpListIn_plain hg fun K hK => wp_in (noDef_spec hd List.mem_cons_self) ?_
 exact Oper.wp_mono (fun a' w' ⟨L', R', O', hk, hf', hs'⟩ => hK _ _ (hk a' w' hf' hs')) (h a w hf hs _)
theorem WY.rd {v : Value} {d : Nat} (hg : o.guard = none) (hd : o.dst = some d) (hn : Nat.blt d n.n = true) (h : Rd P o L R O v) (k : WY P n ops Q rest ((d, v) :: L) R O) (hdf : noDef [o] = true := by kernel_rfl) : WY P n ops Q (o :: rest) L R O :=
 WY.op hg (OpW.rd hd hn h k) hdf
theorem WY.say (t : Nat) {v u : Value} (ht : Env.find L t = some v) (e : v = u) (k : WY P n ops Q rest ((t, u) :: L) R O) : WY P n ops Q rest L R O :=
 fun a w hf hs => k a w (hf.known ht e) hs
theorem WY.heap {R' : List RO} {O' : List Own} (hs : ∀ w, Sat R O w → Sat R' O' w) (k : WY P n ops Q rest L R' O') : WY P n ops Q rest L R O := fun a w hf h => k a w hf (hs w h)
def thenR (ro : Option Nat) (P : Program) (n : Sz) (y : Code) (Q : Post) : Post
 | .normal, L, R, O => WR ro P n y Q L R O
 | e, L, R, O => Q e L R O
theorem thenR.normal {y : Code} (h : WR ro P n y Q L R O) : thenR ro P n y Q .normal L R O := h
theorem thenR.exit {y : Code} {id : Nat} (h : Q (.exit id) L R O) : thenR ro P n y Q (.exit id) L R O := h
theorem WR.seq {x y : Code} (h : WR ro P n x (thenR ro P n y Q) L R O) : WR ro P n (.seq x y) Q L R O := by
 intro a w hf hs
 refine wpIn_seq (wpIn_mono (h a w hf hs) fun e a' w' hq => ?_)
 cases e with
 | normal => obtain ⟨L', R', O', hk, hf', hs'⟩ := hq; exact hk a' w' hf' hs'
 | exit id => exact hq
 | goto l => exact hq
 | ret => exact hq
 | panic c => exact hq
 | outgrown => exact hq
theorem WR.skip (h : Q .normal L R O) : WR ro P n .skip Q L R O := fun _ _ hf hs => wpIn_skip (lift_normal h hf hs)
theorem WR.exit {id : Nat} (h : Q (.exit id) L R O) : WR ro P n (.exit id) Q L R O := fun _ _ hf hs => wpIn_exit ⟨_, _, _, h, hf, hs⟩
theorem WR.retO {O' : List Own} (hF : FinO n.ds O O') (h : Q .ret L R O') : WR ro P n .ret Q L R O := fun _ _ hf hs => wpIn_ret ⟨_, _, _, h, hf.own, by rw [hf.defers]; exact hF.fin hs⟩
theorem WR.ret (h : Q .ret L R O) (hF : FinO n.ds O O := by exact FinO.nil) : WR ro P n .ret Q L R O := WR.retO hF h
theorem WR.block {id : Nat} {c : Code} (h : WR ro P n c (blockQ id Q) L R O) : WR ro P n (.block id c) Q L R O := by
 intro a w hf hs
 refine wpIn_block (wpIn_mono (h a w hf hs) fun e a' w' hq => ?_)
 cases e with
 | normal => exact hq
 | exit id' =>
   obtain ⟨L', R', O', hk, hf', hs'⟩ := hq
   by_cases e : id' = id
   · subst e
     simp only [blockQ, Nat.beq_refl] at hk
     simp only [Exit.inBlock, if_true]
     exact ⟨_, _, _, hk, hf', hs'⟩
   · simp only [blockQ, show Nat.beq id' id = false from by rw [← Bool.not_eq_true, Nat.beq_eq]; exact e] at hk
     simp only [Exit.inBlock, e, if_false]
     exact ⟨_, _, _, hk, hf', hs'⟩
 | goto l => exact hq
 | ret => exact hq
 | panic c => exact hq
 | outgrown => exact hq
theorem WR.cond {c : Operand} {x y : Code} {b : Bool} (hc : ev L c = some (.bool b)) (ht : b = true → WR ro P n x Q L R O) (hf : b = false → WR ro P n y Q L R O) : WR ro P n (.cond c x y) Q L R O := by
 intro a w hfr hs
 exact wpIn_cond_split (hfr.ev hc) (fun h => ht h a w hfr hs) (fun h => hf h a w hfr hs)
theorem WR.ite {c : Operand} {x y : Code} {p : Prop} [Decidable p] (hc : ev L c = some (.bool (decide p))) (ht : p → WR ro P n x Q L R O) (hf : ¬ p → WR ro P n y Q L R O) : WR ro P n (.cond c x y) Q L R O :=
 WR.cond hc (fun h => ht (of_decide_eq_true h)) (fun h => hf (of_decide_eq_false h))
theorem WR.no {c : Operand} {x y : Code} (hc : ev L c = some (.bool false)) (hf : WR ro P n y Q L R O) : WR ro P n (.cond c x y) Q L R O :=
 WR.cond hc (fun h => by cases h) (fun _ => hf)
theorem WR.frame {c : Code} {L' : Env} (hs : Sub L' L) (k : WR ro P n c Q L' R O) : WR ro P n c Q L R O := fun a w hf h => k a w (hf.sub hs) h
theorem WR.pick {c : Code} (ks : List Nat) {L' : Env} (hp : Pick L ks L') (k : WR ro P n c Q L' R O) : WR ro P n c Q L R O := WR.frame hp.sub k
theorem WR.heap {c : Code} {R' : List RO} {O' : List Own} (hs : ∀ w, Sat R O w → Sat R' O' w) (k : WR ro P n c Q L R' O') : WR ro P n c Q L R O := fun a w hf h => k a w hf (hs w h)
theorem WR.say {c : Code} (t : Nat) {v u : Value} (ht : Env.find L t = some v) (e : v = u) (k : WR ro P n c Q ((t, u) :: L) R O) : WR ro P n c Q L R O :=
 fun a w hf hs => k a w (hf.known ht e) hs
theorem WR.loop {c : Code} {α : Type} (LF : α → Env) (RF : α → List RO) (OF : α → List Own) (I : α → Prop) (μ : α → Nat) (x0 : α) (h0 : I x0) (hL : Sub (LF x0) L) (hS : ∀ w, Sat R O w → Sat (RF x0) (OF x0) w)
 (round : ∀ x, I x → WR ro P n c (loopQ LF RF OF I μ (μ x) Q) (LF x) (RF x) (OF x)) : WR ro P n (.loop c) Q L R O := by
 intro a0 w0 hf0 hs0
 have hst : ∀ a w, (∃ x, I x ∧ Fr n (LF x) a ∧ Sat (RF x) (OF x) w) → ∃ x, (I x ∧ Fr n (LF x) a ∧ Sat (RF x) (OF x) w) ∧ ∀ y, I y → Fr n (LF y) a → Sat (RF y) (OF y) w → μ x ≤ μ y := fun a w ⟨x, hx⟩ => by
  have : ∀ m x, μ x ≤ m → (I x ∧ Fr n (LF x) a ∧ Sat (RF x) (OF x) w) → ∃ x, (I x ∧ Fr n (LF x) a ∧ Sat (RF x) (OF x) w) ∧ ∀ y, I y → Fr n (LF y) a → Sat (RF y) (OF y) w → μ x ≤ μ y := by
   intro m
   induction m with
   | zero => exact fun x hm hx => ⟨x, hx, fun y _ _ _ => by omega⟩
   | succ m ih =>
     intro x hm hx
     by_cases h : ∃ y, (I y ∧ Fr n (LF y) a ∧ Sat (RF y) (OF y) w) ∧ μ y ≤ m
     · obtain ⟨y, hy, hl⟩ := h; exact ih y hl hy
     · exact ⟨x, hx, fun y h1 h2 h3 => Nat.le_of_not_lt fun hlt => h ⟨y, ⟨h1, h2, h3⟩, by omega⟩⟩
  exact this _ x (Nat.le_refl _) hx
 haveI : ∀ (a : Act) (w : World), Decidable (∃ x, I x ∧ Fr n (LF x) a ∧ Sat (RF x) (OF x) w) := fun _ _ => Classical.propDecidable _
 let M : Act → World → Nat := fun a w => if h : ∃ x, I x ∧ Fr n (LF x) a ∧ Sat (RF x) (OF x) w then μ (hst a w h).choose else 0
 refine wpIn_loop (fun a w => ∃ x, I x ∧ Fr n (LF x) a ∧ Sat (RF x) (OF x) w) M ⟨x0, h0, hf0.sub hL, hS _ hs0⟩ fun a w hI => ?_
 have hM : M a w = μ (hst a w hI).choose := dif_pos hI
 obtain ⟨⟨h1, h2, h3⟩, h4⟩ := (hst a w hI).choose_spec
 refine wpIn_mono (round _ h1 a w h2 h3) fun e a' w' hq => ?_
 cases e with
 | normal =>
   obtain ⟨L', R', O', ⟨y, hy, hlt, hL', hS'⟩, hf', hs'⟩ := hq
   have hJ : ∃ x, I x ∧ Fr n (LF x) a' ∧ Sat (RF x) (OF x) w' := ⟨y, hy, hf'.sub hL', hS' _ hs'⟩
   refine ⟨hJ, ?_⟩
   have hM' : M a' w' = μ (hst a' w' hJ).choose := dif_pos hJ
   rw [hM, hM']
   exact Nat.lt_of_le_of_lt ((hst a' w' hJ).choose_spec.2 y hy (hf'.sub hL') (hS' _ hs')) hlt
 | exit id => exact hq
 | goto l => exact hq
 | ret => exact hq
 | panic c => exact hq
 | outgrown => exact hq
section
variable {c : Code} {α β γ : Type}
theorem WR.loop2 (m : Nat) (ch : α → β → Env) (OF : α → β → List Own) (I : α → β → Prop) (μ : α → β → Nat) (x0 : α) (y0 : β) {pre Lc : Env} (_hs : Split m L pre Lc) (h0 : I x0 y0) (hL : Sub (ch x0 y0 ++ Lc) L) (hS : ∀ w, Sat R O w → Sat R (OF x0 y0) w)
 (round : ∀ x y, I x y → WR ro P n c (loopQ2 ch Lc (fun _ _ => R) OF I μ (μ x y) Q) (ch x y ++ Lc) R (OF x y)) : WR ro P n (.loop c) Q L R O :=
 WR.loop (α := α × β) (fun q => ch q.1 q.2 ++ Lc) (fun _ => R) (fun q => OF q.1 q.2) (fun q => I q.1 q.2) (fun q => μ q.1 q.2) (x0, y0) h0 hL hS (fun q hq => round q.1 q.2 hq)
end
theorem Fun.enterR {f : FuncId} {fn : Func} {n : Nat} {c : Code} {l : List Value} {post : Value → List RO → List Own → Prop} (hf : P.funcs[f]? = some fn) (hb : fn.body = some c) (hn : fn.ntmps = n) (hl : Nat.ble l.length n = true) {L0 : Env} (hL : argsEnv l 0 = L0)
 (h : WR none P ⟨n, []⟩ c (retQ P fn ⟨n, []⟩ post) L0 R O) : Fun P f l.toArray R O post := by
 intro w hs
 refine callsIn_fw.1 (callsIn_of_wp_marks (F := fw none) (n := 0) hf hb trivial ?_)
 have hl' : l.length ≤ n := Nat.le_of_ble_eq_true hl
 refine wpIn_mono (h _ w ⟨?_, rfl, ?_⟩ hs) fun e a' w' hq => ?_
 · simp [hn]; omega
 · intro t v ht
   rw [← hL] at ht
   obtain ⟨_, h2⟩ := argsEnv_find ht
   simp only [Nat.sub_zero] at h2
   have hlt : t < l.length := (List.getElem?_eq_some_iff.1 h2).1
   simp only [Array.getD_eq_getD_getElem?]
   rw [Array.getElem?_append_left (by simpa using hlt)]
   simp [h2]
 · cases e with
   | normal => obtain ⟨L', R', O', ⟨v, hr, hp⟩, hf', hs'⟩ := hq; exact Fin.leaves (f := f) hr hp hf'.own (.inl ⟨hf'.defers, hs'⟩)
   | ret => obtain ⟨L', R', O', ⟨v, hr, hp⟩, hf', hs'⟩ := hq; exact Fin.leaves (f := f) hr hp hf' hs'
   | exit id => obtain ⟨L', R', O', hk, _⟩ := hq; exact hk.elim
   | goto l => obtain ⟨L', R', O', hk, _⟩ := hq; exact hk.elim
   | panic c => exact hq.elim
   | outgrown => exact hq.elim
/-- What one call of yield does. -/
def Yld (P : Program) (l : Nat) (args : List Value) (R : List RO) (O : List Own) (K : Bool → List RO → List Own → Prop) : Prop :=
 ∀ w, Sat R O w → YieldAt (fw none) 0 P l args.toArray w fun e w' => ∃ b R' O', e = .returned (.bool b) ∧ K b R' O' ∧ Sat R' O' w'
theorem WY.yield {l : Nat} {x : Operand} {xs : List Operand} {azs : List Value} {ts : Array TypeId} {d : Nat} (hg : o.guard = none) (ho : o.op = .call { callee := .value x, args := xs.toArray, argTypes := ts })
 (hx : ev L x = some (.func (.yield l) #[] #[])) (has : Evs L xs azs) (hd : o.dst = some d) (hn : Nat.blt d n.n = true)
 (h : Yld P l azs R O (fun b R' O' => WY P n ops Q rest ((d, .bool b) :: L) R' O')) : WY P n ops Q (o :: rest) L R O := by
 intro a w hf hs
 refine wpListIn_plain hg fun K hK => ⟨fun _ _ => trivial, ?_⟩
 have e1 : a.eval x = _ := hf.ev hx
 have e2 := has.eval (ρ := a.eval) (fun x u hx => hf.ev hx)
 obtain ⟨fn, tmps, assign, body, hy, hR⟩ := h w hs
 have hr : (execOp a.eval o).run P w = .ok (.round l fn tmps assign body) w := by
  simp only [execOp, ho, resolve, e1, Deferred.ofValue, List.map_toArray, e2, Sem.run_bind, Sem.run_pure, Result.andThen_ok, invoke]
  simpa using hy
 show o.uponIn _ _ _ _ _ _ ((o.semAt none a.eval).run P w)
 rw [Oper.semAt_none, hr, Oper.uponIn_round]
 refine ⟨fun hx => Bool.noConfusion hx, hR.mono fun e w' hq => ?_⟩
 obtain ⟨b, R', O', he, hk, hs'⟩ := hq
 subst he
 rw [hd]
 exact hK _ _ (hk _ _ (hf.put hn _) hs')
def recC (l : Nat) (n : Sz) (L : Env) (D : Nat) (st : LoopState) (pe : Option Code) (ps : Array Tmp) (assign body : Code) : Own :=
 ⟨[l], fun w => ∃ f tmps, w.heap[l]? = some (.loop { state := st, pending := pe, fn := f, tmps, params := ps, assign, body, defers := D }) ∧ Fr ⟨n.n, []⟩ L { tmps := tmps, defers := [] }⟩
def paramsEnv : List Nat → List Value → Env → Env
 | p :: ps, v :: vs, L => paramsEnv ps vs ((p, v) :: L)
 | _, _, L => L
theorem Fr.params : ∀ (ps : List Nat) (vs : List Value) {L : Env} {m : Nat} {tmps : Array Value}, ps.all (fun p => Nat.blt p m) = true → Fr ⟨m, []⟩ L { tmps := tmps, defers := [] } →
 Fr ⟨m, []⟩ (paramsEnv ps vs L) { tmps := (ps.zip vs).foldl (fun t (p, v) => t.setIfInBounds p v) tmps, defers := [] }
 | [], _, _, _, _, _, h => by simpa [paramsEnv] using h
 | _ :: _, [], _, _, _, _, h => by simpa [paramsEnv] using h
 | p :: ps, v :: vs, L, m, tmps, hp, h => by
   simp only [List.all_cons, Bool.and_eq_true] at hp
   simp only [List.zip_cons_cons, List.foldl_cons, paramsEnv]
   exact Fr.params ps vs hp.2 (h.put hp.1 v)
theorem Sat.loopPut {l : Nat} {n : Sz} {L : Env} {D : Nat} {st st' : LoopState} {pe pe' : Option Code} {ps : Array Tmp} {assign body : Code} {w : World} {f : FuncId} {tmps : Array Value}
 (h : Sat R (recC l n L D st pe ps assign body :: O) w) (hf : Fr ⟨n.n, []⟩ L { tmps := tmps, defers := [] }) :
 Sat R (recC l n L D st' pe' ps assign body :: O) (w.putObj l (.loop { state := st', pending := pe', fn := f, tmps, params := ps, assign, body, defers := D })) := by
 have hlt : l < w.heap.size := h.lt l (by simp [owned, recC])
 refine h.update _ ⟨rfl, rfl, rfl, by simp [World.putObj], fun k _ hn => World.putObj_heap_other (fun e => hn (by rw [e]; exact List.mem_singleton.2 rfl))⟩
  (fun k hk => .inl hk) (fun k hk => by rw [List.mem_singleton.1 hk]; simpa [World.putObj] using hlt) (by simp [recC]) (fun w2 ha _ => ⟨f, tmps, ?_, hf⟩)
 rw [ha.2.2.2.2 l (by simpa [World.putObj] using hlt) (fun hn => hn (by simp [recC]))]
 exact World.putObj_heap_same hlt
/-- How a round may end: off its body's end, or by 'return'. -/
def roundQ (l : Nat) (n : Sz) (L : Env) (D : Nat) (ps : Array Tmp) (assign body : Code) (K : Bool → List RO → List Own → Prop) : Post
 | .normal, _, R, O => ∃ O2, Take (recC l n L D .busy none ps assign body) O O2 ∧ K true R (recC l n L D .ready none ps assign body :: O2)
 | .ret, _, R, O => ∃ O2, Take (recC l n L D .busy none ps assign body) O O2 ∧ K false R (recC l n L D .done (some .ret) ps assign body :: O2)
 | _, _, _, _ => False
def assignQ (l : Nat) (P : Program) (n : Sz) (L : Env) (D : Nat) (ps : Array Tmp) (assign body : Code) (K : Bool → List RO → List Own → Prop) : Post
 | .normal, L', R, O => ∃ O2, Take (recC l n L D .ready none ps assign body) O O2 ∧ WR (some l) P ⟨n.n, []⟩ body (roundQ l n L D ps assign body K) L' R (recC l n L D .busy none ps assign body :: O2)
 | _, _, _, _ => False
theorem assignQ.mk {l : Nat} {Lr L' : Env} {D : Nat} {ps : Array Tmp} {assign body : Code} {K : Bool → List RO → List Own → Prop} {O2 : List Own} (hT : Take (recC l n Lr D .ready none ps assign body) O O2)
 (h : WR (some l) P ⟨n.n, []⟩ body (roundQ l n Lr D ps assign body K) L' R (recC l n Lr D .busy none ps assign body :: O2)) : assignQ l P n Lr D ps assign body K .normal L' R O := ⟨O2, hT, h⟩
theorem roundQ.on {l : Nat} {Lr L' : Env} {D : Nat} {ps : Array Tmp} {assign body : Code} {K : Bool → List RO → List Own → Prop} {O2 : List Own} (hT : Take (recC l n Lr D .busy none ps assign body) O O2)
 (h : K true R (recC l n Lr D .ready none ps assign body :: O2)) : roundQ l n Lr D ps assign body K .normal L' R O := ⟨O2, hT, h⟩
theorem Yld.round {l : Nat} {Lr : Env} {D : Nat} {ps : List Nat} {assign body : Code} {args : List Value} {K : Bool → List RO → List Own → Prop} {L0 : Env}
 (hT : Take (recC l n Lr D .ready none ps.toArray assign body) O O') (hsz : args.length = ps.length) (hps : ps.all (fun p => Nat.blt p n.n) = true) (hL0 : paramsEnv ps args Lr = L0)
 (h : WR (some l) P ⟨n.n, []⟩ assign (assignQ l P n Lr D ps.toArray assign body K) L0 R (recC l n Lr D .ready none ps.toArray assign body :: O')) : Yld P l args R O K := by
 intro w hs
 have hs1 := hs.perm hT.perm
 obtain ⟨f, tmps, hl, hf⟩ := hs1.see List.mem_cons_self
 have hy := run_yield (P := P) (args := args.toArray) hl (by simpa using hsz)
 refine ⟨f, _, assign, body, hy, ?_⟩
 refine roundIn_of_wpIn trivial ?_
 have hzip : (ps.toArray.zip args.toArray).foldl (fun t (p, v) => t.setIfInBounds p v) tmps = (ps.zip args).foldl (fun t (p, v) => t.setIfInBounds p v) tmps := by
  rw [← Array.foldl_toList]; simp
 have hf0 : Fr ⟨n.n, []⟩ L0 { tmps := (ps.toArray.zip args.toArray).foldl (fun t (p, v) => t.setIfInBounds p v) tmps, defers := [] } := by
  rw [hzip, ← hL0]; exact Fr.params ps args hps hf
 refine wpIn_mono (h _ w hf0 hs1) fun e a1 w1 hq => ?_
 cases e with
 | normal =>
   obtain ⟨L1, R1, O1, ⟨O2, hT1, hb⟩, hf1, hs1⟩ := hq
   have hs2 := hs1.perm hT1.perm
   obtain ⟨f1, tmps1, hl1, hfr1⟩ := hs2.see List.mem_cons_self
   refine ⟨_, run_beginRound hl1 rfl, ?_⟩
   refine wpIn_mono (hb a1 _ hf1 (hs2.loopPut hfr1)) fun e a2 w2 hq => ?_
   cases e with
   | normal =>
     obtain ⟨L2, R2, O3, ⟨O4, hT2, hk⟩, _, hs3⟩ := hq
     have hs4 := hs3.perm hT2.perm
     obtain ⟨f2, tmps2, hl2, hfr2⟩ := hs4.see List.mem_cons_self
     exact ⟨_, _, run_endRound none hl2, true, _, _, rfl, hk, hs4.loopPut hfr2⟩
   | ret =>
     obtain ⟨L2, R2, O3, ⟨O4, hT2, hk⟩, hfr, hfin⟩ := hq
     rcases hfin with ⟨_, hs3⟩ | ⟨D', _, hs3⟩
     · have hs4 := hs3.perm hT2.perm
       obtain ⟨f2, tmps2, hl2, hfr2⟩ := hs4.see List.mem_cons_self
       exact ⟨_, _, run_endRound (some .ret) hl2, false, _, _, rfl, hk, hs4.loopPut hfr2⟩
     · have hs4 := hs3.drop.perm hT2.perm
       obtain ⟨f2, tmps2, hl2, hfr2⟩ := hs4.see List.mem_cons_self
       exact ⟨_, _, run_endRound (some .ret) hl2, false, _, _, rfl, hk, hs4.loopPut hfr2⟩
   | exit id => obtain ⟨_, _, _, hk, _⟩ := hq; exact hk.elim
   | goto t => obtain ⟨_, _, _, hk, _⟩ := hq; exact hk.elim
   | panic c => exact hq.elim
   | outgrown => exact hq.elim
 | ret => obtain ⟨_, _, _, hk, _⟩ := hq; exact hk.elim
 | exit id => obtain ⟨_, _, _, hk, _⟩ := hq; exact hk.elim
 | goto t => obtain ⟨_, _, _, hk, _⟩ := hq; exact hk.elim
 | panic c => exact hq.elim
 | outgrown => exact hq.elim
theorem Yld.mono {l : Nat} {args : List Value} {K K' : Bool → List RO → List Own → Prop} (h : Yld P l args R O K) (hk : ∀ b R O, K b R O → K' b R O) : Yld P l args R O K' := fun w hs => by
 obtain ⟨fn, tmps, assign, body, hy, hR⟩ := h w hs
 exact ⟨fn, tmps, assign, body, hy, hR.mono fun e w' ⟨b, R', O', he, hK, hs'⟩ => ⟨b, R', O', he, hk _ _ _ hK, hs'⟩⟩
theorem Yld.heap {l : Nat} {args : List Value} {K : Bool → List RO → List Own → Prop} {R' : List RO} (hs : ∀ w, Sat R O w → Sat R' O' w) (h : Yld P l args R' O' K) : Yld P l args R O K := fun w h0 => h w (hs w h0)
/-- Only a return is taken. -/
def onlyRet (Q : Post) : Post
 | .ret, L, R, O => Q .ret L R O
 | _, _, _, _ => False
theorem onlyRet.mk {Q : Post} (h : Q .ret L R O) : onlyRet Q .ret L R O := h
abbrev markOf (D : Nat) : List Deferred := [{ target := .collected D, args := #[] }]
/-- What the statement asks, with what stands behind it in the function. -/
def RangeOk (P : Program) (n : Sz) (g : Operand) (ps : List Nat) (assign body y : Code) (Q : Post) (L : Env) (R : List RO) (O : List Own) : Prop :=
 ∃ gf lb, ev L g = some (.func (.func gf) #[] (List.toArray lb)) ∧ hasBody P gf = true ∧
  ∀ l D, Fun P gf (.func (.yield l) #[] #[] :: lb).toArray R (recC l n L D .ready none ps.toArray assign body :: dfC D :: O) (fun _ R' O' => ∃ O2, Take (recC l n L D .ready none ps.toArray assign body) O' O2 ∧ WC P ⟨n.n, markOf D⟩ y (onlyRet Q) L R' O2)
theorem RangeOk.mk {g : Operand} {ps : List Nat} {assign body y : Code} {gf : Nat} {lb : List Value} (hg : ev L g = some (.func (.func gf) #[] lb.toArray)) (hb : hasBody P gf = true)
 (h : ∀ l D, Fun P gf (.func (.yield l) #[] #[] :: lb).toArray R (recC l n L D .ready none ps.toArray assign body :: dfC D :: O) (fun _ R' O' => ∃ O2, Take (recC l n L D .ready none ps.toArray assign body) O' O2 ∧ WC P ⟨n.n, markOf D⟩ y (onlyRet Q) L R' O2)) :
 RangeOk P n g ps assign body y Q L R O := ⟨gf, lb, hg, hb, h⟩
theorem RangeOk.core {g : Operand} {ps : List Nat} {assign body y : Code} {id : Nat} {a : Act} {w : World} (hds : n.ds = []) (hr : RangeOk P n g ps assign body y Q L R O) (hf : Fr n L a) (hs : Sat R O w) :
 (Code.block id (.rangeFunc g ps.toArray assign body)).wpIn Fence.wide 0 P (Exit.then (y.wpIn Fence.wide 0 P (lift n Q)) (lift n Q)) a w := by
 obtain ⟨gf, lb, hg, hb, h⟩ := hr
 refine wpIn_block ?_
 refine wpIn_rangeFunc fun fn _ => ?_
 have hsD : Sat R (dfC w.heap.size :: O) (w.alloc (.deferred (some []))) := hs.alloc _ _ rfl (fun w' h _ => h)
 have hsz : (w.alloc (.deferred (some []))).heap.size = w.heap.size + 1 := by simp
 have hfr : Fr ⟨n.n, []⟩ L { tmps := a.tmps, defers := [] } := ⟨hf.size, rfl, fun t v ht => hf.get t v ht⟩
 have hsL : Sat R (recC (w.heap.size + 1) n L w.heap.size .ready none ps.toArray assign body :: dfC w.heap.size :: O) ((w.alloc (.deferred (some []))).alloc (.loop { state := .ready, pending := none, fn, tmps := a.tmps, params := ps.toArray, assign, body, defers := w.heap.size })) :=
  hsD.alloc _ _ (by rw [hsz]; rfl) (fun w' h _ => ⟨fn, a.tmps, by rw [hsz] at h; exact h, hfr⟩)
 have e1 : a.eval g = _ := hf.ev hg
 have hc := h (w.heap.size + 1) w.heap.size _ hsL
 obtain ⟨W1, hW1⟩ : ∃ W1, (w.alloc (.deferred (some []))).alloc (.loop { state := .ready, pending := none, fn, tmps := a.tmps, params := ps.toArray, assign, body, defers := w.heap.size }) = W1 := ⟨_, rfl⟩
 rw [hW1] at hc
 refine ⟨w.heap.size + 1, markOf w.heap.size, W1, { target := .fn (.func gf) lb.toArray, args := #[.func (.yield (w.heap.size + 1)) #[] #[]] }, W1, gf, (.func (.yield (w.heap.size + 1)) #[] #[] :: lb).toArray, W1,
  hW1 ▸ run_enterLoop_outer fn a.tmps ps.toArray assign body, ?_, fun _ _ => trivial, ?_, fun hx => Bool.noConfusion hx, (callsIn_wide (n := 0)).2 (hc.mono ?_)⟩
 · simp only [resolve, e1]
   simp [go_sem, Deferred.ofValue]
 · simp [invoke, go_sem, run_callFunc hb]
 · rintro e w2 ⟨v, R', O', rfl, ⟨O2, hT, hy⟩, hs2⟩
   have hs3 := hs2.perm hT.perm
   obtain ⟨f2, tmps2, hl2, hfr2⟩ := hs3.see List.mem_cons_self
   refine ⟨none, _, run_endLoop hl2 (by simp), ?_⟩
   have hs4 := (hs3.loopPut (st' := .exhausted) (pe' := none) (f := f2) hfr2).drop
   have hf2 : Fr ⟨n.n, markOf w.heap.size⟩ L { a with defers := markOf w.heap.size ++ a.defers } := ⟨hf.size, by show _ ++ a.defers = _; rw [hf.defers, hds]; rfl, fun t v ht => hf.get t v ht⟩
   have hy' := hy _ _ hf2 hs4
   show Code.wpIn Fence.wide 0 P y (lift n Q) _ _
   refine wpIn_wide.2 (wp_mono hy' fun e a' w' hq => ?_)
   cases e with
   | ret => obtain ⟨L', R', O', h1, h2, h3⟩ := hq; exact ⟨L', R', O', h1, h2, h3⟩
   | normal => obtain ⟨_, _, _, hk, _⟩ := hq; exact hk.elim
   | exit id => obtain ⟨_, _, _, hk, _⟩ := hq; exact hk.elim
   | goto t => obtain ⟨_, _, _, hk, _⟩ := hq; exact hk.elim
   | panic c => exact hq.elim
   | outgrown => exact hq.elim
def rangeQ (P : Program) (n : Sz) (g : Operand) (ps : List Nat) (assign body y : Code) (Q : Post) : Post
 | .normal, L, R, O => RangeOk P n g ps assign body y Q L R O
 | e, L, R, O => Q e L R O
theorem rangeQ.normal {g : Operand} {ps : List Nat} {assign body y : Code} (h : RangeOk P n g ps assign body y Q L R O) : rangeQ P n g ps assign body y Q .normal L R O := h
theorem WC.rangeSeq {g : Operand} {ps : List Nat} {assign body x y : Code} {id : Nat} (hds : n.ds = []) (h : WC P n x (rangeQ P n g ps assign body y Q) L R O) :
 WC P n (.seq (.seq x (.block id (.rangeFunc g ps.toArray assign body))) y) Q L R O := by
 intro a w hf hs
 refine wpIn_wide.1 (wpIn_seq (F := Fence.wide) (n := 0) (wpIn_seq (wpIn_wide.2 (wp_mono (h a w hf hs) fun e a' w' hq => ?_))))
 cases e with
 | normal => obtain ⟨L', R', O', hk, hf', hs'⟩ := hq; exact RangeOk.core hds hk hf' hs'
 | exit id => exact hq
 | goto l => exact hq
 | ret => exact hq
 | panic c => exact hq
 | outgrown => exact hq
end
end Go.SL
namespace Go.SL
open Go Go.RowKit Go.MapKept Go.ChangeMaps
/-- An iterator over a map that is not written meanwhile: which stamps have come. -/
def iterC (it b c : Nat) (seen : List Nat) : Own := { blks := [it], pred := fun w => w.heap[it]? = some (.mapIter (some b) c seen.toArray c) }
section
variable {κ β : Type} {kenc : κ → Value} {venc : β → Value}
/-- What a step gives. -/
def stepV (kenc : κ → Value) (venc : β → Value) : Option (κ × β × Nat) → Value
 | none => .tuple #[.bool false]
 | some x => .tuple #[.bool true, kenc x.1, venc x.2.1]
def StepOk (m : GoMap κ β) (seen : List Nat) : Option (κ × β × Nat) → Prop
 | none => ∀ x ∈ m.l, x.2.2 ∈ seen
 | some x => x ∈ m.l ∧ x.2.2 ∉ seen
def seenOf (seen : List Nat) : Option (κ × β × Nat) → List Nat
 | none => seen
 | some x => seen ++ [x.2.2]
variable {P : Program} {n : Sz} {o : Oper} {L : Env} {R : List RO} {O O' : List Own} {K : Env → List RO → List Own → Prop} {t kt et : TypeId} {z : Value} {x y : Operand} {m : GoMap κ β} {b d it : Nat} {seen seen1 : List Nat}
theorem OpW.rangeM (T : MapT P t kt et z) (ho : o.op = .range t x) (hx : ev L x = some (.map (some b))) (hp : mapP kenc venc b m ∈ R) (hd : o.dst = some d) (hn : Nat.blt d n.n = true)
 (k : ∀ it, K ((d, .pointer (some ⟨it, 0, none⟩)) :: L) R (iterC it b m.clock [] :: O)) : OpW P n o L R O K := by
 intro a w hf hs Q
 have h : mapP kenc venc b m w := hs.read hp
 unfold Oper.wp
 have hr : (execOp a.eval o).run P w = .ok (.value (.pointer (some ⟨w.heap.size, 0, none⟩))) (w.alloc (.mapIter (some b) m.clock #[] m.clock)) := by
  simp only [execOp, ho, Sem.run_bind, hf.ev hx, run_range_map w t kt et b _ _ T.und h, Result.andThen_ok, Sem.run_pure]
 rw [hr, Oper.upon_value, hd]
 exact ⟨_, _, _, k _, hf.put hn _, hs.alloc _ _ rfl fun w' h _ => h⟩
theorem ent_born (m : GoMap κ β) : (m.l.map (ent kenc venc)).map (·.born) = m.l.map (·.2.2) := by
 rw [List.map_map]; rfl
theorem OpW.nextM (ho : o.op = .next x false) (hx : ev L x = some (.pointer (some ⟨it, 0, none⟩))) (hp : mapP kenc venc b m ∈ R) (hT : Take (iterC it b m.clock seen) O O') (hd : o.dst = some d) (hn : Nat.blt d n.n = true)
 (k : ∀ r, StepOk m seen r → K ((d, stepV kenc venc r) :: L) R (iterC it b m.clock (seenOf seen r) :: O')) : OpW P n o L R O K := by
 intro a w hf hs Q
 have h : mapP kenc venc b m w := hs.read hp
 have hs' := hs.perm hT.perm
 have hi : w.heap[it]? = some (.mapIter (some b) m.clock seen.toArray m.clock) := hs'.see List.mem_cons_self
 unfold Oper.wp
 rcases run_next_at (P := P) w o.type it b m.clock m.clock seen.toArray _ _ hi h (by
  intro e he
  simp only [List.mem_map] at he
  obtain ⟨q, hq, rfl⟩ := he
  exact m.lt q hq) (Nat.le_refl _) with ⟨h0, hr⟩ | ⟨e, he, w1, hw1, hr⟩
 · have hr' : (execOp a.eval o).run P w = .ok (.value (.tuple #[.bool false])) w := by
    simp only [execOp, ho, Sem.run_bind, hf.ev hx, hr, Result.andThen_ok, Sem.run_pure]
   rw [hr', Oper.upon_value, hd]
   refine ⟨_, _, _, k none ?_, hf.put hn _, hs'⟩
   intro q hq
   have h1 : leftOf (m.l.map (ent kenc venc)).toArray seen.toArray = #[] := Array.eq_empty_of_size_eq_zero h0
   unfold leftOf at h1
   rw [Array.filter_eq_empty_iff] at h1
   have := h1 (ent kenc venc q) (by simpa using ⟨q.1, q.2.1, q.2.2, hq, rfl⟩)
   simpa [ent] using this
 · have hr' : (execOp a.eval o).run P w = .ok (.value (.tuple #[.bool true, e.key, e.val])) (setBlock w1 it (.mapIter (some b) m.clock (seen.toArray.push e.born) m.clock)) := by
    simp only [execOp, ho, Sem.run_bind, hf.ev hx, hr, Result.andThen_ok, Sem.run_pure]
   rw [hr', Oper.upon_value, hd]
   simp only [leftOf, Array.toList_filter, List.mem_filter, List.mem_map] at he
   obtain ⟨⟨q, hq, rfl⟩, hns⟩ := he
   have hs1 : Sat R (iterC it b m.clock seen :: O') w1 := by
    rcases hw1 with rfl | rfl
    · exact hs'
    · exact hs'.drew _
   have hi1 : w1.heap[it]? = some (.mapIter (some b) m.clock seen.toArray m.clock) := hs1.see List.mem_cons_self
   have hlt : it < w1.heap.size := (Array.getElem?_eq_some_iff.1 hi1).1
   refine ⟨_, _, _, k (some q) ⟨hq, by simpa [ent] using hns⟩, hf.put hn _, ?_⟩
   refine hs1.update (iterC it b m.clock (seen ++ [q.2.2])) ⟨rfl, rfl, rfl, by simp [setBlock], fun j hj hn => ?_⟩ (fun j hj => .inl hj) (fun j hj => ?_) (by simp [iterC]) (fun w'' ha _ => ?_)
   · have : j ≠ it := fun e => hn (by simp [iterC, e])
     exact (heap_set hi1).2 j this
   · simp only [iterC, List.mem_singleton] at hj; subst hj; simpa [setBlock] using hlt
   · show w''.heap[it]? = _
     rw [ha.2.2.2.2 it (by simpa [setBlock] using hlt) (fun h => h (by simp [iterC]))]
     refine (heap_set hi1).1.trans ?_
     simp [ent]
theorem Rd.stepOn {r : Option (κ × β × Nat)} (ho : o.op = .extract x 0) (hx : ev L x = some (stepV kenc venc r)) : Rd P o L R O (.bool (decide (r.isSome = true))) := fun ρ w hρ _ _ => by
 cases r <;> simp [execOp, ho, hρ _ _ hx, stepV, Instr.extract]
theorem Rd.entryM {q : κ × β × Nat} (ho : o.op = .entry x) (hx : ev L x = some (.pointer (some ⟨it, 0, none⟩))) (hp : mapP kenc venc b m ∈ R) (hi : iterC it b m.clock seen1 ∈ O) (hq : q ∈ m.l) (hs : seen1 = seen ++ [q.2.2]) : Rd P o L R O (.tuple #[kenc q.1, venc q.2.1]) := fun ρ w hρ hR hO => by
 have h : w.heap[b]? = _ := hR _ hp
 have h2 : w.heap[it]? = _ := hO _ hi
 subst hs
 have h3 : w.heap[it]? = some (.mapIter (some b) m.clock (seen.toArray.push (ent kenc venc q).born) m.clock) := h2.trans (by simp [ent])
 have := run_entry_at (P := P) w it b m.clock seen.toArray _ _ (ent kenc venc q) h3 h (by simpa using ⟨q.1, q.2.1, q.2.2, hq, rfl⟩) (by
  show ((m.l.map (ent kenc venc)).map (·.born)).Nodup
  rw [ent_born]; exact m.born)
 simp only [execOp, ho, Sem.run_bind, hρ _ _ hx, this, Result.andThen_ok, Sem.run_pure]
 rfl
end
theorem nodup_len {α : Type} [DecidableEq α] : ∀ {l l' : List α}, l.Nodup → (∀ x ∈ l, x ∈ l') → l.length ≤ l'.length
 | [], _, _, _ => Nat.zero_le _
 | a :: l, l', hn, hs => by
   rw [List.nodup_cons] at hn
   have h1 := nodup_len (l := l) (l' := l'.erase a) hn.2 fun x hx => (List.mem_erase_of_ne (fun e => hn.1 (by rwa [e] at hx))).2 (hs x (List.mem_cons_of_mem _ hx))
   have ha := hs a List.mem_cons_self
   rw [List.length_erase_of_mem ha] at h1
   have := List.length_pos_of_mem ha
   rw [List.length_cons]; omega
theorem bless_eq : ∀ (x y : List UInt8), Op.bytesLess x y = decide (x < y)
 | [], [] => by simp [Op.bytesLess]
 | [], _ :: _ => by simp [Op.bytesLess]
 | _ :: _, [] => by simp [Op.bytesLess]
 | a :: x, b :: y => by
   rw [Op.bytesLess, bless_eq x y]
   simp only [List.cons_lt_cons_iff]
   by_cases h : a < b
   · simp [h]
   · by_cases h2 : b < a
     · have h3 : ¬ a = b := fun e => by subst e; exact absurd h2 (by simp)
       simp [h, h2, h3]
     · have h3 : a = b := UInt8.toNat_inj.1 (by simp only [UInt8.lt_iff_toNat_lt] at h h2; omega)
       subst h3
       simp
/-- Rising, none twice. -/
def Asc (l : List (List UInt8)) : Prop := l.Pairwise fun a b => Op.bytesLess a b = true
section
variable {β : Type} {venc : β → Value} {P : Program} {kt : TypeId} {m : GoMap (List UInt8) β} {b : Nat}
theorem sort_asc {l : List (List UInt8)} (hn : l.Nodup) : Asc (l.mergeSort leB) ∧ (l.mergeSort leB).Perm l := by
 have tr : ∀ a b c : List UInt8, leB a b = true → leB b c = true → leB a c = true := fun a b c h1 h2 => by simp only [leB, decide_eq_true_eq] at *; exact List.le_trans h1 h2
 have tot : ∀ a b : List UInt8, (leB a b || leB b a) = true := fun a b => by simp only [leB, Bool.or_eq_true, decide_eq_true_eq]; exact List.le_total a b
 have hp := List.mergeSort_perm l leB
 refine ⟨?_, hp⟩
 have h1 := List.pairwise_mergeSort tr tot l
 have h2 : (l.mergeSort leB).Nodup := hp.nodup_iff.2 hn
 refine (h1.and h2).imp fun {a b} ⟨h3, h4⟩ => ?_
 rw [bless_eq, decide_eq_true_eq]
 simp only [leB, decide_eq_true_eq] at h3
 rcases Classical.em (a < b) with h5 | h5
 · exact h5
 · exact absurd (List.le_antisymm h3 (List.not_lt.1 h5)) h4
end
/-- The order of strings. -/
abbrev Lt (a b : List UInt8) : Prop := Op.bytesLess a b = true
theorem Lt.iff {a b : List UInt8} : Lt a b ↔ a < b := by show Op.bytesLess a b = true ↔ _; rw [bless_eq, decide_eq_true_eq]
theorem Lt.irrefl {a : List UInt8} : ¬ Lt a a := fun h => List.lt_irrefl _ (Lt.iff.1 h)
theorem Lt.trans {a b c : List UInt8} (h : Lt a b) (h' : Lt b c) : Lt a c := Lt.iff.2 (List.lt_trans (Lt.iff.1 h) (Lt.iff.1 h'))
theorem Lt.asymm {a b : List UInt8} (h : Lt a b) (h' : Lt b a) : False := Lt.irrefl (h.trans h')
theorem Lt.total {a b : List UInt8} (h : ¬ Lt a b) (hne : a ≠ b) : Lt b a := by
 rw [Lt.iff] at h ⊢
 rcases Classical.em (b < a) with h5 | h5
 · exact h5
 · exact absurd (List.le_antisymm (List.not_lt.1 h5) (List.not_lt.1 h)) hne
theorem Lt.flip (a b : List UInt8) : (Op.bytesLess a b || a == b) = decide (¬ Lt b a) := by
 by_cases h : Lt b a
 · rw [decide_eq_false (by simpa using h)]
   have h1 : ¬ Lt a b := fun h' => h'.asymm h
   have h2 : a ≠ b := fun e => by subst e; exact h.irrefl
   simp [show Op.bytesLess a b = false from Bool.eq_false_iff.2 h1, h2]
 · rw [decide_eq_true h]
   by_cases e : a = b
   · simp [e]
   · rw [show Op.bytesLess a b = true from Lt.total h (fun h => e h.symm)]; rfl
/-- Two rising lists with the same members are one. -/
theorem Asc.uniq : ∀ {l l' : List (List UInt8)}, Asc l → Asc l' → (∀ x, x ∈ l ↔ x ∈ l') → l = l'
 | [], [], _, _, _ => rfl
 | [], b :: _, _, _, h => absurd ((h b).2 List.mem_cons_self) (by simp)
 | a :: _, [], _, _, h => absurd ((h a).1 List.mem_cons_self) (by simp)
 | a :: l, b :: l', h1, h2, h => by
   rw [Asc, List.pairwise_cons] at h1 h2
   have e : a = b := by
    rcases List.mem_cons.1 ((h a).1 List.mem_cons_self) with e | e
    · exact e
    · rcases List.mem_cons.1 ((h b).2 List.mem_cons_self) with e' | e'
      · exact e'.symm
      · exact (Lt.asymm (h2.1 a e) (h1.1 b e')).elim
   subst e
   rw [Asc.uniq (l := l) (l' := l') h1.2 h2.2 fun x => ?_]
   constructor
   · intro hx
     rcases List.mem_cons.1 ((h x).1 (List.mem_cons_of_mem _ hx)) with e | e
     · subst e; exact (Lt.irrefl (h1.1 _ hx)).elim
     · exact e
   · intro hx
     rcases List.mem_cons.1 ((h x).2 (List.mem_cons_of_mem _ hx)) with e | e
     · subst e; exact (Lt.irrefl (h2.1 _ hx)).elim
     · exact e
theorem Asc.nodup {l : List (List UInt8)} (h : Asc l) : l.Nodup := List.Pairwise.imp (fun h e => by subst e; exact Lt.irrefl h) h
theorem Asc.steps {l : List (List UInt8)} (h : Asc l) {i : Nat} (hi : i + 1 < l.length) : Lt l[i]! l[i + 1]! := by
 rw [getElem!_pos l i Z.W, getElem!_pos l (i + 1) hi]
 exact List.pairwise_iff_getElem.1 h i (i + 1) Z.W hi Z.W
end Go.SL
namespace Go.SL
open Go Go.RowKit Go.Sort
section
variable {R : List RO} {O O' : List Own} {e : TypeId} {xs ys : List (List UInt8)} {b cap : Nat}
theorem acc_holds {w : World} (h : (accC e 1 (SL.one vs) (.slice (some ⟨b, 0, none⟩) xs.length cap) xs).pred w) : Holds Go.Proofs.encStr w b 0 xs.toArray := by
 obtain ⟨hl, hv⟩ := h
 rcases hv with ⟨h0, _⟩ | ⟨g, c, cur, hv, _, hg, hn, hc, hs, ht⟩
 · cases h0
 · simp only [Value.slice.injEq, Option.some.injEq, Addr.mk.injEq, and_true, true_and] at hv
   obtain ⟨rfl, rfl⟩ := hv
   intro j hj
   have hj' : j < xs.length := by simpa using hj
   rw [flat_one, Nat.mul_one] at ht
   have h1 : (cur.toList.take xs.length)[j]? = some (vs xs[j]!) := by rw [ht, List.getElem?_map, get!_of_lt hj']; rfl
   rw [List.getElem?_take_of_lt hj', Array.getElem?_toList] at h1
   refine ⟨?_, ?_⟩
   · simp only [World.cell?, hg, Nat.zero_add, h1]
     congr 1
     rw [show (xs.toArray)[j]! = xs[j]! from by simp]
     rfl
   · simp [World.frozen?, hg]
theorem acc_put {w : World} {k : Nat} {os : Array Obj} (hl : ys.length = xs.length) (h : Sat R (accC e 1 (SL.one vs) (.slice (some ⟨b, 0, none⟩) xs.length cap) xs :: O) w) :
 Sat R (accC e 1 (SL.one vs) (.slice (some ⟨b, 0, none⟩) xs.length cap) ys :: O) (grow (putRow Go.Proofs.encStr (Go.Sort.ahead w k) b 0 ys.toArray) os) := by
 have hp := h.see List.mem_cons_self
 have hlt := ownBlock_lt hp b (by simp [Value.ownBlock])
 obtain ⟨hll, hv⟩ := hp
 rcases hv with ⟨h0, _⟩ | ⟨g, c, cur, hv, _, hg, hn, hc, hs, ht⟩
 · cases h0
 simp only [Value.slice.injEq, Option.some.injEq, Addr.mk.injEq, and_true, true_and] at hv
 obtain ⟨rfl, rfl⟩ := hv
 have hsz : (putRow Go.Proofs.encStr (Go.Sort.ahead w k) b 0 ys.toArray).heap.size = w.heap.size := by rw [size_putRow]; rfl
 have hheap : ∀ j, j < w.heap.size → (grow (putRow Go.Proofs.encStr (Go.Sort.ahead w k) b 0 ys.toArray) os).heap[j]? = if b = j then (w.heap[j]?).map (onCells (putCells Go.Proofs.encStr 0 ys.toArray)) else w.heap[j]? := fun j hj => by
  show ((putRow Go.Proofs.encStr (Go.Sort.ahead w k) b 0 ys.toArray).heap ++ os)[j]? = _
  rw [Array.getElem?_append_left (by rw [hsz]; exact hj)]
  show ((w.heap.modify b (onCells (putCells Go.Proofs.encStr 0 ys.toArray))))[j]? = _
  rw [Array.getElem?_modify]
 refine h.update _ ⟨rfl, rfl, rfl, ?_, fun j hj hn => ?_⟩ (fun j hj => .inl hj) (fun j hj => ?_) (by simp [accC, Value.ownBlock]) (fun w2 ha _ => ?_)
 · show w.heap.size ≤ ((putRow Go.Proofs.encStr (Go.Sort.ahead w k) b 0 ys.toArray).heap ++ os).size
   rw [Array.size_append, hsz]; omega
 · rw [hheap j hj, if_neg (fun e => hn (by simp [accC, Value.ownBlock, e]))]
 · have e : j = b := by simpa [accC, Value.ownBlock] using hj
   subst e
   show j < ((putRow Go.Proofs.encStr (Go.Sort.ahead w k) j 0 ys.toArray).heap ++ os).size
   rw [Array.size_append, hsz]; omega
 · have h2 := ha.2.2.2.2 b (by
    show b < ((putRow Go.Proofs.encStr (Go.Sort.ahead w k) b 0 ys.toArray).heap ++ os).size
    rw [Array.size_append, hsz]; omega) (fun hn => hn (by simp [accC, Value.ownBlock]))
   rw [hheap b hlt, if_pos rfl, hg] at h2
   refine ⟨by rw [flat_one, List.length_map, Nat.mul_one], .inr ⟨b, cap, putCells Go.Proofs.encStr 0 ys.toArray cur, by rw [hl], Nat.zero_le _, h2, by rw [hl]; exact hn, hc, by simp [putCells, hs], ?_⟩⟩
   rw [flat_one, Nat.mul_one]
   apply List.ext_getElem?
   intro j
   have hcs : cur.size = cap := by omega
   by_cases hj : j < ys.length
   · rw [List.getElem?_take_of_lt hj, Array.getElem?_toList, List.getElem?_map, get!_of_lt hj]
     simp only [putCells, Array.getElem?_mapIdx, Option.map_some]
     rw [Array.getElem?_eq_getElem Z.W]
     simp only [Option.map_some, Nat.zero_le, true_and, Nat.sub_zero]
     rw [if_pos (by simpa using hj)]
     congr 1
     rw [show (ys.toArray)[j]! = ys[j]! from by simp]
   · rw [List.getElem?_eq_none (by rw [List.length_take]; omega), List.getElem?_eq_none (by rw [List.length_map]; omega)]
/-- slices.Sort. -/
theorem Fun.sorts {P : Program} {f : FuncId} {v : Value} {POST : Value → List RO → List Own → Prop}
 (hc : ∀ (blk off cap : Nat) (ss : List (List UInt8)) (w : World), Holds Go.Proofs.encStr w blk off ss.toArray → blk < w.heap.size → ss.length < 4611686018427387904 →
   Calls P f #[.slice (some ⟨blk, off, none⟩) ss.length cap] w fun e w' => e = .returned (.tuple #[]) ∧ ∃ n os, w' = grow (putRow Go.Proofs.encStr (Go.Sort.ahead w n) blk off (ss.mergeSort fun x y => decide (x ≤ y)).toArray) os)
 (hn : ∀ (p : Option Addr) (cap : Nat) (w : World), Calls P f #[.slice p 0 cap] w fun e w' => e = .returned (.tuple #[]) ∧ w' = w)
 (hl : xs.length < 4611686018427387904) (hk : POST (.tuple #[]) R (accC e 1 (SL.one vs) v (xs.mergeSort fun x y => decide (x ≤ y)) :: O)) : Fun P f #[v] R (accC e 1 (SL.one vs) v xs :: O) POST := by
 intro w hs
 have hp := hs.see List.mem_cons_self
 obtain ⟨_, hv⟩ := hp
 rcases hv with ⟨rfl, h0⟩ | ⟨g, c, cur, rfl, _⟩
 · refine (hn none 0 w).mono fun e' w' ⟨he, hw⟩ => ⟨_, R, _, he, hk, ?_⟩
   obtain rfl := List.length_eq_zero_iff.1 h0
   rw [hw]; simpa using hs
 · have hp := hs.see List.mem_cons_self
   refine (hc g 0 c xs w (acc_holds hp) (ownBlock_lt hp g (by simp [Value.ownBlock])) hl).mono fun e' w' ⟨he, k, os, hw⟩ => ⟨_, R, _, he, hk, ?_⟩
   rw [hw]
   exact acc_put (List.length_mergeSort _) hs
/-- slices.Compact. -/
theorem Fun.compacts {P : Program} {f : FuncId} {v : Value} {POST : Value → List RO → List Own → Prop}
 (hc : ∀ (blk off cap : Nat) (zs : List (List UInt8)) (w : World), Holds Go.Proofs.encStr w blk off zs.toArray → zs.length ≤ 9223372036854775807 → zs.length ≤ cap →
   Calls P f #[.slice (some ⟨blk, off, none⟩) zs.length cap] w fun e w' => e = .returned (.slice (some ⟨blk, off, none⟩) (Go.Lib.compact zs).length cap) ∧ ∃ q, w' = putRow Go.Proofs.encStr (Go.Sort.ahead w q) blk off (Go.Lib.compact zs ++ List.replicate (zs.length - (Go.Lib.compact zs).length) []).toArray)
 (hn : ∀ (a : Option Addr) (cap : Nat) (w : World), Calls P f #[.slice a 0 cap] w fun e w' => e = .returned (.slice a 0 cap) ∧ w' = w)
 (hcl : (Go.Lib.compact xs).length ≤ xs.length) (hl : xs.length ≤ 9223372036854775807) (hk : ∀ v', POST v' R (accC e 1 (SL.one vs) v' (Go.Lib.compact xs) :: O)) : Fun P f #[v] R (accC e 1 (SL.one vs) v xs :: O) POST := by
 intro w hs
 have hp := hs.see List.mem_cons_self
 have hp2 := hp
 obtain ⟨_, hv⟩ := hp2
 rcases hv with ⟨rfl, h0⟩ | ⟨g, c, cur, rfl, _, _, hnc, _⟩
 · refine (hn none 0 w).mono fun e' w' ⟨he, hw⟩ => ⟨_, R, _, he, hk _, ?_⟩
   obtain rfl := List.length_eq_zero_iff.1 h0
   rw [hw]; exact hs
 · refine (hc g 0 c xs w (acc_holds hp) hl hnc).mono fun e' w' ⟨he, q, hw⟩ => ⟨_, R, _, he, hk _, ?_⟩
   have h2 : Sat R (accC e 1 (SL.one vs) (.slice (some ⟨g, 0, none⟩) xs.length c) (Go.Lib.compact xs ++ List.replicate (xs.length - (Go.Lib.compact xs).length) []) :: O) w' := by
    have := acc_put (k := q) (os := #[]) (ys := Go.Lib.compact xs ++ List.replicate (xs.length - (Go.Lib.compact xs).length) []) (by rw [List.length_append, List.length_replicate]; omega) hs
    rw [grow_empty] at this
    rw [hw]
    exact this
   have el : xs.length = (Go.Lib.compact xs ++ List.replicate (xs.length - (Go.Lib.compact xs).length) []).length := by rw [List.length_append, List.length_replicate]; omega
   generalize hz : Go.Lib.compact xs ++ List.replicate (xs.length - (Go.Lib.compact xs).length) [] = zs at h2 el
   have h3 := Sat.cutAcc (e := e) (enc := SL.one vs) (size := 1) (hi := (Go.Lib.compact xs).length) (Take.head _) (fun _ => rfl) (by rw [← el]; exact hcl) (by rw [el] at h2; exact h2)
   rw [subSl0, ← hz, List.take_append_of_le_length (Nat.le_refl _), List.take_length] at h3
   exact h3
end
end Go.SL
namespace Go.Proofs
open Go.Shelf
def Tryz.lays219_ren : Go.Shelf.Ren := ⟨fun | 219 => 254 | 217 => 267 | 225 => 303 | 224 => 304 | 267 => 305 | 266 => 311 | 314 => 333 | n => n, fun | 9 => 9 | 3 => 3 | 4 => 4 | 5 => 5 | 46 => 114 | 146 => 244 | 51 => 241 | n => n, fun | 1 => 1 | n => n⟩
def Tryz.lays143_ren : Go.Shelf.Ren := ⟨fun | 143 => 189 | 219 => 254 | 217 => 267 | 225 => 303 | 224 => 304 | 267 => 305 | 266 => 311 | 314 => 333 | n => n, fun | 9 => 9 | 3 => 3 | 4 => 4 | 5 => 5 | 46 => 114 | 146 => 244 | 51 => 241 | n => n, fun | 1 => 1 | n => n⟩
theorem Tryz.lays143 : Go.Proofs.Lays.n143 Tryz.prog Tryz.lays143_ren := {
 mixed := by kernel_rfl
 f143 := Tryz.func189.trans (congrArg some (by kernel_rfl))
 f217 := Tryz.func267.trans (congrArg some (by kernel_rfl))
 f219 := Tryz.func254.trans (congrArg some (by kernel_rfl))
 f224 := Tryz.func304.trans (congrArg some (by kernel_rfl))
 f225 := Tryz.func303.trans (congrArg some (by kernel_rfl))
 f266 := Tryz.func311.trans (congrArg some (by kernel_rfl))
 f267 := Tryz.func305.trans (congrArg some (by kernel_rfl))
 f314 := Tryz.func333.trans (congrArg some (by kernel_rfl))
 t3 := Tryz.underlying3
 a3 := Tryz.isAgg3
 z3 := Tryz.sizeOf3
 v3 := Tryz.zeroValue3
 t4 := Tryz.underlying4
 a4 := Tryz.isAgg4
 z4 := Tryz.sizeOf4
 v4 := Tryz.zeroValue4
 t5 := Tryz.underlying5
 a5 := Tryz.isAgg5
 z5 := Tryz.sizeOf5
 v5 := Tryz.zeroValue5
 t9 := Tryz.underlying9
 a9 := Tryz.isAgg9
 z9 := Tryz.sizeOf9
 v9 := Tryz.zeroValue9
 t46 := Tryz.underlying114
 a46 := Tryz.isAgg114
 z46 := Tryz.sizeOf114
 v46 := Tryz.zeroValue114
 t51 := Tryz.underlying241
 a51 := Tryz.isAgg241
 z51 := Tryz.sizeOf241
 v51 := Tryz.zeroValue241
 t146 := Tryz.underlying244
 a146 := Tryz.isAgg244
 z146 := Tryz.sizeOf244
 v146 := Tryz.zeroValue244
 g1 := by kernel_rfl }
open Go.RowKit Go.Lib in
/-- strings.Index: "Index returns the index of the first instance of substr in s, or -1 if substr is not present in s.": IT RETURNS 'Lib.index s substr'; the world is as it was. (LAID: no walk: one application.) -/
theorem Tryz.strings_Index (s sub : ByteArray) (m : Int) (w : World) (hs : s.size < 4294967281) (hm : w.cell? ⟨1, 0, none⟩ = some (.int .i64 m)) :
 Calls Tryz.prog 189 #[.string s, .string sub] w fun e w' => e = .returned (.int .i64 (Lib.index s.data.toList sub.data.toList)) ∧ w' = w := Any.strings_Index Tryz.lays143 s sub m w hs hm
def Tryz.lays144_ren : Go.Shelf.Ren := ⟨fun | 144 => 222 | 143 => 189 | 219 => 254 | 217 => 267 | 225 => 303 | 224 => 304 | 267 => 305 | 266 => 311 | 314 => 333 | n => n, fun | 9 => 9 | 4 => 4 | 3 => 3 | 5 => 5 | 46 => 114 | 146 => 244 | 51 => 241 | n => n, fun | 1 => 1 | n => n⟩
theorem Tryz.lays144 : Go.Proofs.Lays.n144 Tryz.prog Tryz.lays144_ren := {
 mixed := by kernel_rfl
 f143 := Tryz.func189.trans (congrArg some (by kernel_rfl))
 f144 := Tryz.func222.trans (congrArg some (by kernel_rfl))
 f217 := Tryz.func267.trans (congrArg some (by kernel_rfl))
 f219 := Tryz.func254.trans (congrArg some (by kernel_rfl))
 f224 := Tryz.func304.trans (congrArg some (by kernel_rfl))
 f225 := Tryz.func303.trans (congrArg some (by kernel_rfl))
 f266 := Tryz.func311.trans (congrArg some (by kernel_rfl))
 f267 := Tryz.func305.trans (congrArg some (by kernel_rfl))
 f314 := Tryz.func333.trans (congrArg some (by kernel_rfl))
 t3 := Tryz.underlying3
 a3 := Tryz.isAgg3
 z3 := Tryz.sizeOf3
 v3 := Tryz.zeroValue3
 t4 := Tryz.underlying4
 a4 := Tryz.isAgg4
 z4 := Tryz.sizeOf4
 v4 := Tryz.zeroValue4
 t5 := Tryz.underlying5
 a5 := Tryz.isAgg5
 z5 := Tryz.sizeOf5
 v5 := Tryz.zeroValue5
 t9 := Tryz.underlying9
 a9 := Tryz.isAgg9
 z9 := Tryz.sizeOf9
 v9 := Tryz.zeroValue9
 t46 := Tryz.underlying114
 a46 := Tryz.isAgg114
 z46 := Tryz.sizeOf114
 v46 := Tryz.zeroValue114
 t51 := Tryz.underlying241
 a51 := Tryz.isAgg241
 z51 := Tryz.sizeOf241
 v51 := Tryz.zeroValue241
 t146 := Tryz.underlying244
 a146 := Tryz.isAgg244
 z146 := Tryz.sizeOf244
 v146 := Tryz.zeroValue244
 g1 := by kernel_rfl }
open Go.RowKit Go.Lib in
/-- strings.Contains: "Contains reports whether substr is within s.": IT RETURNS 'Lib.contains s substr'; the world is as it was. (LAID: no walk: one application.) -/
theorem Tryz.strings_Contains (s sub : ByteArray) (m : Int) (w : World) (hs : s.size < 4294967281) (hm : w.cell? ⟨1, 0, none⟩ = some (.int .i64 m)) :
 Calls Tryz.prog 222 #[.string s, .string sub] w fun e w' => e = .returned (.bool (Lib.contains s.data.toList sub.data.toList)) ∧ w' = w := Any.strings_Contains Tryz.lays144 s sub m w hs hm
def Tryz.lays190_ren : Go.Shelf.Ren := ⟨fun | 190 => 33 | 125 => 72 | 258 => 71 | 128 => 137 | 129 => 138 | 302 => 128 | 303 => 129 | 304 => 130 | 305 => 131 | 306 => 132 | 307 => 133 | 308 => 134 | 309 => 135 | 310 => 136 | 333 => 203 | 329 => 204 | 330 => 205 | 334 => 206 | 335 => 207 | 336 => 208 | 344 => 260 | n => n, fun | 31 => 27 | 9 => 9 | 3 => 3 | 46 => 114 | 0 => 0 | 51 => 241 | 53 => 243 | 4 => 4 | 183 => 235 | 182 => 234 | 131 => 187 | 5 => 5 | 218 => 306 | 222 => 310 | 228 => 386 | 229 => 387 | n => n, fun | n => n⟩
theorem Tryz.lays190 : Go.Proofs.Lays.n190 Tryz.prog Tryz.lays190_ren := {
 mixed := by kernel_rfl
 f125 := Tryz.func72.trans (congrArg some (by kernel_rfl))
 f128 := Tryz.func137.trans (congrArg some (by kernel_rfl))
 f129 := Tryz.func138.trans (congrArg some (by kernel_rfl))
 f190 := Tryz.func33.trans (congrArg some (by kernel_rfl))
 f258 := Tryz.func71.trans (congrArg some (by kernel_rfl))
 f302 := Tryz.func128.trans (congrArg some (by kernel_rfl))
 f303 := Tryz.func129.trans (congrArg some (by kernel_rfl))
 f304 := Tryz.func130.trans (congrArg some (by kernel_rfl))
 f305 := Tryz.func131.trans (congrArg some (by kernel_rfl))
 f306 := Tryz.func132.trans (congrArg some (by kernel_rfl))
 f307 := Tryz.func133.trans (congrArg some (by kernel_rfl))
 f308 := Tryz.func134.trans (congrArg some (by kernel_rfl))
 f309 := Tryz.func135.trans (congrArg some (by kernel_rfl))
 f310 := Tryz.func136.trans (congrArg some (by kernel_rfl))
 f329 := Tryz.func204.trans (congrArg some (by kernel_rfl))
 f330 := Tryz.func205.trans (congrArg some (by kernel_rfl))
 f333 := Tryz.func203.trans (congrArg some (by kernel_rfl))
 f334 := Tryz.func206.trans (congrArg some (by kernel_rfl))
 f335 := Tryz.func207.trans (congrArg some (by kernel_rfl))
 f336 := Tryz.func208.trans (congrArg some (by kernel_rfl))
 f344 := Tryz.func260.trans (congrArg some (by kernel_rfl))
 t0 := Tryz.underlying0
 a0 := Tryz.isAgg0
 z0 := Tryz.sizeOf0
 v0 := Tryz.zeroValue0
 t3 := Tryz.underlying3
 a3 := Tryz.isAgg3
 z3 := Tryz.sizeOf3
 v3 := Tryz.zeroValue3
 t4 := Tryz.underlying4
 a4 := Tryz.isAgg4
 z4 := Tryz.sizeOf4
 v4 := Tryz.zeroValue4
 t5 := Tryz.underlying5
 a5 := Tryz.isAgg5
 z5 := Tryz.sizeOf5
 v5 := Tryz.zeroValue5
 t9 := Tryz.underlying9
 a9 := Tryz.isAgg9
 z9 := Tryz.sizeOf9
 v9 := Tryz.zeroValue9
 t31 := Tryz.underlying27
 a31 := Tryz.isAgg27
 z31 := Tryz.sizeOf27
 v31 := Tryz.zeroValue27
 t46 := Tryz.underlying114
 a46 := Tryz.isAgg114
 z46 := Tryz.sizeOf114
 v46 := Tryz.zeroValue114
 t51 := Tryz.underlying241
 a51 := Tryz.isAgg241
 z51 := Tryz.sizeOf241
 v51 := Tryz.zeroValue241
 t53 := Tryz.underlying243
 a53 := Tryz.isAgg243
 z53 := Tryz.sizeOf243
 v53 := Tryz.zeroValue243
 t131 := Tryz.underlying187
 a131 := Tryz.isAgg187
 z131 := Tryz.sizeOf187
 v131 := Tryz.zeroValue187
 t182 := Tryz.underlying234
 a182 := Tryz.isAgg234
 z182 := Tryz.sizeOf234
 v182 := Tryz.zeroValue234
 t183 := Tryz.underlying235
 a183 := Tryz.isAgg235
 z183 := Tryz.sizeOf235
 v183 := Tryz.zeroValue235
 t218 := Tryz.underlying306
 a218 := Tryz.isAgg306
 z218 := Tryz.sizeOf306
 v218 := Tryz.zeroValue306
 t222 := Tryz.underlying310
 a222 := Tryz.isAgg310
 z222 := Tryz.sizeOf310
 v222 := Tryz.zeroValue310
 t228 := Tryz.underlying386
 a228 := Tryz.isAgg386
 z228 := Tryz.sizeOf386
 v228 := Tryz.zeroValue386
 t229 := Tryz.underlying387
 a229 := Tryz.isAgg387
 z229 := Tryz.sizeOf387
 v229 := Tryz.zeroValue387 }
open Go.Sort Go.RowKit in
theorem Tryz.slices_Sort_string (blk off cap : Nat) (ss : List (List UInt8)) (w : World) (hH : Holds encStr w blk off ss.toArray) (hblk : blk < w.heap.size) (hsz : ss.length < 4611686018427387904) :
 Calls Tryz.prog 33 #[.slice (some ⟨blk, off, none⟩) ss.length cap] w fun e w' =>
  e = .returned (.tuple #[]) ∧ ∃ n os, w' = grow (putRow encStr (Sort.ahead w n) blk off (ss.mergeSort fun x y => decide (x ≤ y)).toArray) os := Any.slices_Sort_string Tryz.lays190 blk off cap ss w hH hblk hsz
def Tryz.lays105_ren : Go.Shelf.Ren := ⟨fun | 105 => 74 | 212 => 73 | 99 => 96 | 165 => 141 | 166 => 89 | 170 => 142 | 169 => 90 | 263 => 139 | 264 => 140 | 206 => 163 | 240 => 155 | 241 => 209 | 276 => 217 | 277 => 261 | n => n, fun | 9 => 9 | 3 => 3 | 4 => 4 | 20 => 20 | 0 => 0 | 46 => 114 | 109 => 147 | 5 => 5 | 72 => 176 | 76 => 180 | 51 => 241 | 146 => 244 | 53 => 243 | 148 => 246 | 70 => 174 | 37 => 26 | 75 => 179 | 127 => 261 | 164 => 320 | 80 => 98 | n => n, fun | n => n⟩
theorem Tryz.lays105 : Go.Proofs.Lays.n105 Tryz.prog Tryz.lays105_ren := {
 mixed := by kernel_rfl
 f99 := Tryz.func96.trans (congrArg some (by kernel_rfl))
 f105 := Tryz.func74.trans (congrArg some (by kernel_rfl))
 f165 := Tryz.func141.trans (congrArg some (by kernel_rfl))
 f166 := Tryz.func89.trans (congrArg some (by kernel_rfl))
 f169 := Tryz.func90.trans (congrArg some (by kernel_rfl))
 f170 := Tryz.func142.trans (congrArg some (by kernel_rfl))
 f206 := Tryz.func163.trans (congrArg some (by kernel_rfl))
 f212 := Tryz.func73.trans (congrArg some (by kernel_rfl))
 f240 := Tryz.func155.trans (congrArg some (by kernel_rfl))
 f241 := Tryz.func209.trans (congrArg some (by kernel_rfl))
 f263 := Tryz.func139.trans (congrArg some (by kernel_rfl))
 f264 := Tryz.func140.trans (congrArg some (by kernel_rfl))
 f276 := Tryz.func217.trans (congrArg some (by kernel_rfl))
 f277 := Tryz.func261.trans (congrArg some (by kernel_rfl))
 t0 := Tryz.underlying0
 a0 := Tryz.isAgg0
 z0 := Tryz.sizeOf0
 v0 := Tryz.zeroValue0
 t3 := Tryz.underlying3
 a3 := Tryz.isAgg3
 z3 := Tryz.sizeOf3
 v3 := Tryz.zeroValue3
 t4 := Tryz.underlying4
 a4 := Tryz.isAgg4
 z4 := Tryz.sizeOf4
 v4 := Tryz.zeroValue4
 t5 := Tryz.underlying5
 a5 := Tryz.isAgg5
 z5 := Tryz.sizeOf5
 v5 := Tryz.zeroValue5
 t9 := Tryz.underlying9
 a9 := Tryz.isAgg9
 z9 := Tryz.sizeOf9
 v9 := Tryz.zeroValue9
 t20 := Tryz.underlying20
 a20 := Tryz.isAgg20
 z20 := Tryz.sizeOf20
 v20 := Tryz.zeroValue20
 t37 := Tryz.underlying26
 a37 := Tryz.isAgg26
 z37 := Tryz.sizeOf26
 v37 := Tryz.zeroValue26
 t46 := Tryz.underlying114
 a46 := Tryz.isAgg114
 z46 := Tryz.sizeOf114
 v46 := Tryz.zeroValue114
 t51 := Tryz.underlying241
 a51 := Tryz.isAgg241
 z51 := Tryz.sizeOf241
 v51 := Tryz.zeroValue241
 t53 := Tryz.underlying243
 a53 := Tryz.isAgg243
 z53 := Tryz.sizeOf243
 v53 := Tryz.zeroValue243
 t70 := Tryz.underlying174
 a70 := Tryz.isAgg174
 z70 := Tryz.sizeOf174
 v70 := Tryz.zeroValue174
 t72 := Tryz.underlying176
 a72 := Tryz.isAgg176
 z72 := Tryz.sizeOf176
 v72 := Tryz.zeroValue176
 t75 := Tryz.underlying179
 a75 := Tryz.isAgg179
 z75 := Tryz.sizeOf179
 v75 := Tryz.zeroValue179
 t76 := Tryz.underlying180
 a76 := Tryz.isAgg180
 z76 := Tryz.sizeOf180
 v76 := Tryz.zeroValue180
 t109 := Tryz.underlying147
 a109 := Tryz.isAgg147
 z109 := Tryz.sizeOf147
 v109 := Tryz.zeroValue147
 t127 := Tryz.underlying261
 a127 := Tryz.isAgg261
 z127 := Tryz.sizeOf261
 v127 := Tryz.zeroValue261
 t146 := Tryz.underlying244
 a146 := Tryz.isAgg244
 z146 := Tryz.sizeOf244
 v146 := Tryz.zeroValue244
 t148 := Tryz.underlying246
 a148 := Tryz.isAgg246
 z148 := Tryz.sizeOf246
 v148 := Tryz.zeroValue246
 t164 := Tryz.underlying320
 a164 := Tryz.isAgg320
 z164 := Tryz.sizeOf320
 v164 := Tryz.zeroValue320 }
theorem Tryz.Builder_Extra_105 : Builder.Extra Tryz.prog Tryz.lays105_ren := {
 sizeBuilder := by kernel_rfl
 liesBuilder := by kernel_rfl
 t5 := Tryz.underlying5
 a5 := Tryz.isAgg5
 z5 := Tryz.sizeOf5
 v5 := Tryz.zeroValue5
 infoByte := by kernel_rfl
 cellsByte := by kernel_rfl
 sizeByte := by kernel_rfl
 neB5 := by decide }
open Go.RowKit Go.Lib in
/-- **strings.Repeat: count ≥ 0, the result within one allocation: count copies of s.** (LAID: no walk: one application.) -/
theorem Tryz.strings_Repeat (s : ByteArray) (c : Nat) (w : World) (hc : c ≤ 9223372036854775807) (hlen : s.size * c ≤ 140737488355328) :
 Calls Tryz.prog 74 #[.string s, .int .i64 c] w fun e w' => e = .returned (.string ⟨(Lib.repeatL s.data.toList c).toArray⟩) ∧ Below w.heap.size w w' := Any.strings_Repeat Tryz.lays105 Tryz.Builder_Extra_105 s c w hc hlen
def Tryz.lays194_ren : Go.Shelf.Ren := ⟨fun | 194 => 12 | n => n, fun | 31 => 27 | 9 => 9 | 3 => 3 | 4 => 4 | 0 => 0 | n => n, fun | n => n⟩
theorem Tryz.lays194 : Go.Proofs.Lays.n194 Tryz.prog Tryz.lays194_ren := {
 mixed := by kernel_rfl
 f194 := Tryz.func12.trans (congrArg some (by kernel_rfl))
 t0 := Tryz.underlying0
 a0 := Tryz.isAgg0
 z0 := Tryz.sizeOf0
 v0 := Tryz.zeroValue0
 t3 := Tryz.underlying3
 a3 := Tryz.isAgg3
 z3 := Tryz.sizeOf3
 v3 := Tryz.zeroValue3
 t4 := Tryz.underlying4
 a4 := Tryz.isAgg4
 z4 := Tryz.sizeOf4
 v4 := Tryz.zeroValue4
 t9 := Tryz.underlying9
 a9 := Tryz.isAgg9
 z9 := Tryz.sizeOf9
 v9 := Tryz.zeroValue9
 t31 := Tryz.underlying27
 a31 := Tryz.isAgg27
 z31 := Tryz.sizeOf27
 v31 := Tryz.zeroValue27 }
open Go.RowKit Go.Lib Go.Sort in
/-- slices.Compact at []string: "Compact replaces consecutive runs of equal elements with a single copy. This is like the uniq command found on Unix. Compact modifies the contents of the slice s and returns the modified slice, which may have a smaller length. Compact zeroes the elements between the new length and the original length. The result preserves the nilness of s.": IT RETURNS THE SLICE CUT TO 'Lib.compact zs'; ITS CELLS HOLD 'Lib.compact zs', THEN ZERO VALUES up to the old length; all else is as it was, but for the count of draws. IN THE WORDS OF slices.Sort's CONTRACT ('Holds', 'putRow'): so the everyday 'slices.Sort(xs); xs = slices.Compact(xs)' goes from the one contract to the other. It asks 'zs.length ≤ cap' (every slice's: the reslicing 's[:k]' looks at it). Length 0, nil: '.._empty'. (LAID: no walk: one application.) -/
theorem Tryz.slices_Compact_string (blk off cap : Nat) (zs : List (List UInt8)) (w : World) (hH : Holds encStr w blk off zs.toArray) (hsz : zs.length ≤ 9223372036854775807) (hcap : zs.length ≤ cap) :
 Calls Tryz.prog 12 #[.slice (some ⟨blk, off, none⟩) zs.length cap] w fun e w' => e = .returned (.slice (some ⟨blk, off, none⟩) (Lib.compact zs).length cap) ∧ ∃ q, w' = putRow encStr (Sort.ahead w q) blk off (Lib.compact zs ++ List.replicate (zs.length - (Lib.compact zs).length) []).toArray := Any.slices_Compact_string Tryz.lays194 blk off cap zs w hH hsz hcap
open Go.RowKit Go.Lib Go.Sort in
/-- The same at a slice of length 0, a nil one too: it comes back as it is. (LAID: no walk: one application.) -/
theorem Tryz.slices_Compact_string_empty (a : Option Addr) (cap : Nat) (w : World) :
 Calls Tryz.prog 12 #[.slice a 0 cap] w fun e w' => e = .returned (.slice a 0 cap) ∧ w' = w := Any.slices_Compact_string_empty Tryz.lays194 a cap w
open Go.RowKit Go.Sort in
/-- .. and plain. (LAID: no walk: one application.) -/
theorem Tryz.slices_Sort_string_none (p : Option Addr) (cap : Nat) (w : World) :
 Calls Tryz.prog 33 #[.slice p 0 cap] w fun e w' => e = .returned (.tuple #[]) ∧ w' = w := Any.slices_Sort_string_none Tryz.lays190 p cap w
end Go.Proofs
namespace Go.SL
open Go
theorem WR.loop3 {P : Program} {ro : Option Nat} {n : Sz} {Q : Post} {L : Env} {R : List RO} {O : List Own} {c : Code} {α β γ : Type} (m : Nat) (ch : α → β → γ → Env) (OF : α → β → γ → List Own) (I : α → β → γ → Prop) (μ : α → β → γ → Nat) (x0 : α) (y0 : β) (z0 : γ) {pre Lc : Env} (_hs : Split m L pre Lc) (h0 : I x0 y0 z0) (hL : Sub (ch x0 y0 z0 ++ Lc) L) (hS : ∀ w, Sat R O w → Sat R (OF x0 y0 z0) w)
 (round : ∀ x y z, I x y z → WR ro P n c (loopQ3 ch Lc (fun _ _ _ => R) OF I μ (μ x y z) Q) (ch x y z ++ Lc) R (OF x y z)) : WR ro P n (.loop c) Q L R O :=
 WR.loop (α := α × β × γ) (fun q => ch q.1 q.2.1 q.2.2 ++ Lc) (fun _ => R) (fun q => OF q.1 q.2.1 q.2.2) (fun q => I q.1 q.2.1 q.2.2) (fun q => μ q.1 q.2.1 q.2.2) (x0, y0, z0) h0 hL hS (fun q hq => round q.1 q.2.1 q.2.2 hq)
end Go.SL
namespace Go.Proofs.YtdhcjafemebkcaaGreatDoor.Gr
open Go Go.SL
abbrev T := List UInt8
abbrev accT (v : Value) (xs : List T) : Own := accC 9 1 (SL.one vs) v xs
abbrev nilS : Value := .slice none 0 0
theorem get!_mem {β : Type} [Inhabited β] {l : List β} {i : Nat} (hi : i < l.length) : l[i]! ∈ l := by rw [getElem!_pos l i hi]; exact List.getElem_mem _
theorem take_snoc' {α : Type} [Inhabited α] {l : List α} {i : Nat} (h : i < l.length) : l.take (i + 1) = l.take i ++ [l[i]!] := by
 rw [List.take_add_one, List.getElem?_eq_getElem h, getElem!_pos l i h]; rfl
/-- What an iterator does, whatever the rounds do: 'I' is what the loop's caller holds when so much has come. -/
def ItOk (gf : Nat) (lb : List Value) (R : List RO) (C : List Own) (S : List T → Prop) (N : Nat) : Prop :=
 ∀ (γ : Type) (l : Nat) (c1 : Own) (I : List T → γ → List Own → List Own) (g0 : γ) (X : List Own) (POST : Value → List RO → List Own → Prop),
  (∀ c ∈ C, c ∈ X) → (∀ xs g c X, (I xs g (c :: X)).Perm (c :: I xs g X)) →
  (∀ xs g X x, xs.length < N → Yld Tryz.prog l [vs x] R (c1 :: I xs g X) (fun b R' O' => b = true ∧ ∃ g', ∀ w, Sat R' O' w → Sat R (c1 :: I (xs ++ [x]) g' X) w)) →
  (∀ xs g, S xs → POST (.tuple #[]) R (c1 :: I xs g X)) → Fun Tryz.prog gf (.func (.yield l) #[] #[] :: lb).toArray R (c1 :: I [] g0 X) POST
theorem it_mem {γ : Type} {I : List T → γ → List Own → List Own} (hP : ∀ xs g c X, (I xs g (c :: X)).Perm (c :: I xs g X)) {xs : List T} {g : γ} {c : Own} : ∀ {X : List Own}, c ∈ X → c ∈ I xs g X
 | [], h => by cases h
 | d :: X, h => by
   refine (hP xs g d X).mem_iff.2 ?_
   rcases List.mem_cons.1 h with rfl | h
   · exact List.mem_cons_self
   · exact List.mem_cons_of_mem _ (it_mem hP h)
section
variable {R : List RO} {O O' : List Own} {POST : Value → List RO → List Own → Prop}
set_option maxRecDepth 20000 in
theorem values_spec {v : Value} (hv : OneV v) (hk : ∀ b, POST (.func (.func 34) #[] #[.pointer (some ⟨b, 0, none⟩)]) R (rowC b 27 [v] :: O)) : Fun Tryz.prog 14 #[v] R O POST := by
 refine Fun.enter (l := [_]) Tryz.func14 rfl Tryz.ntmps14 rfl (L0 := [(0, _)]) rfl ?_
 refine Z.s1 ?_
 refine WL.op rfl ?_
 refine OpW.box1 rfl rfl (by assumption) rfl rfl ?_; intro b1
 refine Z.a1 rfl <| Z.q1 <| Z.r1 rfl (Rd.func rfl Z.E Z.E ⟨_, rfl⟩) ?_
 refine Z.a1 rfl <| Z.n1 ?_
 refine WC.ret (Ret.one Tryz.results14 rfl ?_)
 exact hk _
set_option maxRecDepth 20000 in
theorem values_it {v : Value} {xs : List T} {b : Nat} (hx : SlE (SL.one vs) v xs ∈ R) (hl : xs.length ≤ 9000000000000000000) : ItOk 34 [.pointer (some ⟨b, 0, none⟩)] R [rowC b 27 [v]] (fun ys => ys = xs) xs.length := by
 intro γ l c1 I g0 X POST hC hP hY hk
 have hb : ∀ {ys g}, rowC b 27 [v] ∈ c1 :: I ys g X := List.mem_cons_of_mem _ (it_mem hP (hC _ List.mem_cons_self))
 refine Fun.enterR (l := [_, _]) Tryz.func34 rfl Tryz.ntmps34 rfl (L0 := [(0, _), (1, _)]) rfl ?_
 refine WR.seq ?_
 refine WR.region ?_
 refine Z.r1 rfl (Rd.row1 (off := 0) (u := v) rfl C27 rfl hb rfl) ?_
 refine Z.r1 rfl (Rd.lenE (enc := SL.one vs) (xs := xs) rfl rfl Tryz.underlying27 hx) ?_
 refine Z.m1 rfl ?_
 refine WL.nil ?_
 refine thenR.normal ?_
 refine WR.block ?_
 refine WR.pick [7, 0, 5, 6] Z.P ?_
 refine WR.loop2 1 (fun (i : Nat) (g : γ) => [(7, vi i)]) (fun (i : Nat) (g : γ) => c1 :: I (xs.take i) g X) (fun (i : Nat) (g : γ) => i ≤ xs.length) (fun (i : Nat) (g : γ) => xs.length - i) (0) (g0) Z.L ?hinv1 (by repeat (first | exact Sub.nil | refine Sub.cons rfl (by rfl) ?_)) (fun _ h => h) ?_
 case hinv1 =>
  exact Nat.zero_le _
 intro i g
 rintro i1
 refine WR.seq ?_
 refine WR.region ?_
 refine Z.r1 rfl (Rd.lss rfl rfl rfl) ?_
 refine WL.nil ?_
 refine thenR.normal ?_
 refine WR.seq ?_
 refine WR.ite rfl (fun hc1 => ?_) (fun hc1 => ?_)
 ·
  refine WR.skip ?_
  refine thenR.normal ?_
  refine WR.seq ?_
  refine WR.block ?_
  refine WR.seq ?_
  refine WR.region ?_
  refine Z.r1 rfl (Rd.idx1 (enc := SL.one vs) (xs := xs) (k := i) rfl S27 rfl rfl rfl hx Z.W) ?_
  refine Z.r1 rfl (Rd.get (g := vs) (xs := xs) (k := i) (a := xs[i]!) rfl C9 rfl hx (get!_of_lt Z.W)) ?_
  refine Z.a1 rfl ?_
  refine WL.nil ?_
  refine thenR.normal ?_
  refine WR.seq ?_
  refine WR.regionY ?_
  refine WY.rd rfl rfl rfl (Rd.move rfl rfl) ?_
  refine WY.rd rfl rfl rfl (Rd.move rfl rfl) ?_
  refine WY.yield rfl rfl rfl Z.E rfl rfl ?_
  refine (hY (xs.take i) g X xs[i]! (by rw [List.length_take]; omega)).mono ?_; rintro b' R' O' ⟨rfl, g', hS⟩; refine WY.heap hS ?_
  refine WY.rd rfl rfl rfl ((by exact Rd.not rfl rfl)) ?_
  refine WY.nil ?_
  refine thenR.normal ?_
  refine WR.cond rfl (fun hc2 => ?_) (fun hc2 => ?_)
  ·
   cases hc2
  ·
   refine WR.skip ?_
   refine blockQ.normal ?_
   refine thenR.normal ?_
   refine WR.region ?_
   refine Z.r1 rfl (Rd.add rfl rfl rfl Z.W) ?_
   refine Z.m1 rfl ?_
   refine WL.nil ?_
   exact loopQ2.mk (i + 1) g' Z.W Z.W (by repeat (first | exact Sub.nil | refine Sub.cons rfl (by rfl) ?_)) (fun w h => by rw [take_snoc' Z.W]; exact h)
 ·
  refine WR.exit ?_
  refine thenR.exit ?_
  refine loopQ2.exit ?_
  refine blockQ.exit ?_
  refine Ret.normal (Ret.zero Tryz.results34 ?_)
  exact hk _ g (by rw [show i = xs.length by omega, List.take_length])
/-- A node as a map has it: its ID, its parents' slice, its time. -/
abbrev Nv := T × (Option Addr × Nat × Nat) × Int
abbrev slv (d : Option Addr × Nat × Nat) : Value := .slice d.1 d.2.1 d.2.2
def encN (x : Nv) : List Value := [vs x.1, slv x.2.1, vi x.2.2]
def ndV (x : Nv) : Value := .agg (encN x).toArray
/-- What has come of a map. -/
structure Came {β : Type} (m : GoMap T β) (xs : List T) (seen : List Nat) : Prop where
 ex : ∃ ys : List (T × β × Nat), ys.Nodup ∧ (∀ y ∈ ys, y ∈ m.l) ∧ seen = ys.map (·.2.2) ∧ xs = ys.map (·.1)
theorem mapl_nodup {β : Type} (m : GoMap T β) : m.l.Nodup := List.Pairwise.of_map (S := fun a b => a ≠ b) (fun x : T × β × Nat => x.1) (fun a b h e => h (by rw [e])) m.keys
theorem Came.start {β : Type} (m : GoMap T β) : Came m [] [] := ⟨[], List.nodup_nil, fun _ h => absurd h List.not_mem_nil, rfl, rfl⟩
theorem Came.step {β : Type} {m : GoMap T β} {xs : List T} {seen : List Nat} {x : T × β × Nat} (h : Came m xs seen) (h1 : x ∈ m.l) (h2 : x.2.2 ∉ seen) : Came m (xs ++ [x.1]) (seen ++ [x.2.2]) := by
 obtain ⟨ys, g1, g2, rfl, rfl⟩ := h.ex
 refine ⟨ys ++ [x], ?_, fun y hy => ?_, by simp, by simp⟩
 · rw [List.nodup_append]
   refine ⟨g1, by simp, fun a ha b hb => ?_⟩
   rw [List.mem_singleton.1 hb]
   rintro rfl
   exact h2 (List.mem_map_of_mem ha)
 · rcases List.mem_append.1 hy with h | h
   · exact g2 y h
   · rw [List.mem_singleton.1 h]; exact h1
theorem Came.len {β : Type} {m : GoMap T β} {xs : List T} {seen : List Nat} (h : Came m xs seen) : xs.length ≤ m.l.length ∧ seen.length = xs.length := by
 obtain ⟨ys, g1, g2, rfl, rfl⟩ := h.ex
 rw [List.length_map, List.length_map]
 haveI : DecidableEq (T × β × Nat) := fun a b => Classical.propDecidable (a = b)
 exact ⟨nodup_len g1 g2, rfl⟩
theorem Came.lt {β : Type} {m : GoMap T β} {xs : List T} {seen : List Nat} {x : T × β × Nat} (h : Came m xs seen) (h1 : x ∈ m.l) (h2 : x.2.2 ∉ seen) : xs.length < m.l.length := by
 have := (h.step h1 h2).len.1
 rw [List.length_append] at this
 simp at this; omega
theorem Came.all {β : Type} {m : GoMap T β} {xs : List T} {seen : List Nat} (h : Came m xs seen) (ha : ∀ x ∈ m.l, x.2.2 ∈ seen) : xs.Perm m.ks := by
 obtain ⟨ys, g1, g2, rfl, rfl⟩ := h.ex
 have hb : (m.l.map (·.2.2)).Nodup := m.born
 have : ys.Perm m.l := by
  rw [List.perm_ext_iff_of_nodup g1 (mapl_nodup m)]
  refine fun a => ⟨g2 a, fun hm => ?_⟩
  obtain ⟨y, hy, e⟩ := List.mem_map.1 (ha a hm)
  have := GoMap.nodup_inj (f := fun x : T × β × Nat => x.2.2) hb (g2 y hy) hm e
  exact this ▸ hy
 exact this.map _
set_option maxRecDepth 20000 in
theorem keysB_spec {b : Nat} (hk : ∀ cb, POST (.func (.func 43) #[] #[.pointer (some ⟨cb, 0, none⟩)]) R (rowC cb 35 [.map (some b)] :: O)) : Fun Tryz.prog 23 #[.map (some b)] R O POST := by
 refine Fun.enter (l := [_]) Tryz.func23 rfl Tryz.ntmps23 rfl (L0 := [(0, _)]) rfl ?_
 refine Z.s1 ?_
 refine WL.op rfl ?_
 refine OpW.box1 rfl rfl (by exact ⟨rfl, rfl⟩) rfl rfl ?_; intro b1
 refine Z.a1 rfl <| Z.q1 <| Z.r1 rfl (Rd.func rfl Z.E Z.E ⟨_, rfl⟩) ?_
 refine Z.a1 rfl <| Z.n1 ?_
 refine WC.ret (Ret.one Tryz.results23 rfl ?_)
 exact hk _
set_option maxRecDepth 20000 in
theorem keysB_it {m : GoMap T Bool} {b cb : Nat} (hm : mapP vs vbl b m ∈ R) : ItOk 43 [.pointer (some ⟨cb, 0, none⟩)] R [rowC cb 35 [.map (some b)]] (fun ys => ys.Perm m.ks) m.l.length := by
 intro γ l c1 I g0 X POST hC hP hY hk
 have hb : ∀ {ys g c}, rowC cb 35 [.map (some b)] ∈ c :: c1 :: I ys g X := List.mem_cons_of_mem _ (List.mem_cons_of_mem _ (it_mem hP (hC _ List.mem_cons_self)))
 have hb0 : ∀ {ys g}, rowC cb 35 [.map (some b)] ∈ c1 :: I ys g X := List.mem_cons_of_mem _ (it_mem hP (hC _ List.mem_cons_self))
 refine Fun.enterR (l := [_, _]) Tryz.func43 rfl Tryz.ntmps43 rfl (L0 := [(0, _), (1, _)]) rfl ?_
 refine WR.seq ?_
 refine WR.regionY ?_
 refine WY.rd rfl rfl rfl (Rd.row1 (off := 0) (u := .map (some b)) rfl C35 rfl hb0 rfl) ?_
 refine WY.op rfl ?_
 refine OpW.rangeM (kenc := vs) (venc := vbl) (m := m) M35 rfl rfl hm rfl rfl ?_; intro it
 refine WY.nil ?_
 refine thenR.normal ?_
 refine WR.block ?_
 refine WR.pick [0, 5] Z.P ?_
 refine WR.loop3 0 (fun (xs : List T) (seen : List Nat) (g : γ) => []) (fun (xs : List T) (seen : List Nat) (g : γ) => iterC it b m.clock seen :: c1 :: I xs g X) (fun (xs : List T) (seen : List Nat) (g : γ) => Came m xs seen) (fun (xs : List T) (seen : List Nat) (g : γ) => m.l.length - xs.length) ([]) ([]) (g0) Z.L ?hinv1 (by repeat (first | exact Sub.nil | refine Sub.cons rfl (by rfl) ?_)) (fun _ h => h) ?_
 case hinv1 =>
  exact Came.start m
 intro xs seen g
 rintro i1
 refine WR.seq ?_
 refine WR.region ?_
 refine WL.op rfl ?_
 refine OpW.nextM (kenc := vs) (venc := vbl) (m := m) (seen := seen) rfl rfl hm Z.T rfl rfl ?_; intro r hr
 refine Z.r1 rfl (Rd.stepOn rfl rfl) ?_
 refine WL.nil ?_
 refine thenR.normal ?_
 refine WR.seq ?_
 refine WR.ite rfl (fun hc1 => ?_) (fun hc1 => ?_)
 ·
  obtain ⟨x, rfl⟩ := Option.isSome_iff_exists.1 hc1
  refine WR.skip ?_
  refine thenR.normal ?_
  refine WR.block ?_
  refine WR.seq ?_
  refine WR.region ?_
  refine WL.op rfl ?_
  refine OpW.rd rfl rfl (Rd.entryM (kenc := vs) (venc := vbl) (m := m) (q := x) (seen := seen) rfl rfl hm Z.M hr.1 rfl) ?_
  refine Z.x1 rfl <| Z.a1 rfl ?_
  refine WL.nil ?_
  refine thenR.normal ?_
  refine WR.seq ?_
  refine WR.regionY ?_
  refine WY.rd rfl rfl rfl (Rd.move rfl rfl) ?_
  refine WY.rd rfl rfl rfl (Rd.move rfl rfl) ?_
  refine WY.yield rfl rfl rfl Z.E rfl rfl ?_
  refine Yld.heap (R' := R) (O' := c1 :: I xs g (iterC it b m.clock (seen ++ [x.2.2]) :: X)) (fun w h => h.perm ?_) ?_
  · exact (List.Perm.swap _ _ _).trans (List.Perm.cons _ (hP _ _ _ _).symm)
  refine (hY xs g (iterC it b m.clock (seen ++ [x.2.2]) :: X) x.1 (i1.lt hr.1 hr.2)).mono ?_
  rintro b' R' O' ⟨rfl, g', hS⟩
  refine WY.heap (R' := R) (O' := iterC it b m.clock (seen ++ [x.2.2]) :: c1 :: I (xs ++ [x.1]) g' X) (fun w h => (hS w h).perm ?_) ?_
  · exact (List.Perm.cons _ (hP _ _ _ _)).trans (List.Perm.swap _ _ _)
  refine WY.rd rfl rfl rfl ((by exact Rd.not rfl rfl)) ?_
  refine WY.nil ?_
  refine thenR.normal ?_
  refine WR.cond rfl (fun hc2 => ?_) (fun hc2 => ?_)
  ·
   cases hc2
  ·
   refine WR.skip ?_
   refine blockQ.normal ?_
   exact loopQ3.mk (xs ++ [x.1]) (seen ++ [x.2.2]) g' (i1.step hr.1 hr.2) (by have := i1.lt hr.1 hr.2; rw [List.length_append]; simp; omega) (by repeat (first | exact Sub.nil | refine Sub.cons rfl (by rfl) ?_)) Z.F
 ·
  obtain rfl : r = none := by
   cases r with
   | some x => exact absurd rfl hc1
   | none => rfl
  refine WR.heap (R' := R) (O' := c1 :: I xs g X) Z.F ?_
  refine WR.exit ?_
  refine thenR.exit ?_
  refine loopQ3.exit ?_
  refine blockQ.exit ?_
  refine Ret.normal (Ret.zero Tryz.results43 ?_)
  exact hk xs g (i1.all hr)
set_option maxRecDepth 20000 in
theorem keysN_spec {b : Nat} (hk : ∀ cb, POST (.func (.func 37) #[] #[.pointer (some ⟨cb, 0, none⟩)]) R (rowC cb 43 [.map (some b)] :: O)) : Fun Tryz.prog 19 #[.map (some b)] R O POST := by
 refine Fun.enter (l := [_]) Tryz.func19 rfl Tryz.ntmps19 rfl (L0 := [(0, _)]) rfl ?_
 refine Z.s1 ?_
 refine WL.op rfl ?_
 refine OpW.box1 rfl rfl (by exact ⟨rfl, rfl⟩) rfl rfl ?_; intro b1
 refine Z.a1 rfl <| Z.q1 <| Z.r1 rfl (Rd.func rfl Z.E Z.E ⟨_, rfl⟩) ?_
 refine Z.a1 rfl <| Z.n1 ?_
 refine WC.ret (Ret.one Tryz.results19 rfl ?_)
 exact hk _
set_option maxRecDepth 20000 in
theorem keysN_it {m : GoMap T Nv} {b cb : Nat} (hm : mapP vs ndV b m ∈ R) : ItOk 37 [.pointer (some ⟨cb, 0, none⟩)] R [rowC cb 43 [.map (some b)]] (fun ys => ys.Perm m.ks) m.l.length := by
 intro γ l c1 I g0 X POST hC hP hY hk
 have hb : ∀ {ys g c}, rowC cb 43 [.map (some b)] ∈ c :: c1 :: I ys g X := List.mem_cons_of_mem _ (List.mem_cons_of_mem _ (it_mem hP (hC _ List.mem_cons_self)))
 have hb0 : ∀ {ys g}, rowC cb 43 [.map (some b)] ∈ c1 :: I ys g X := List.mem_cons_of_mem _ (it_mem hP (hC _ List.mem_cons_self))
 refine Fun.enterR (l := [_, _]) Tryz.func37 rfl Tryz.ntmps37 rfl (L0 := [(0, _), (1, _)]) rfl ?_
 refine WR.seq ?_
 refine WR.regionY ?_
 refine WY.rd rfl rfl rfl (Rd.row1 (off := 0) (u := .map (some b)) rfl C43 rfl hb0 rfl) ?_
 refine WY.op rfl ?_
 refine OpW.rangeM (kenc := vs) (venc := ndV) (m := m) M43 rfl rfl hm rfl rfl ?_; intro it
 refine WY.nil ?_
 refine thenR.normal ?_
 refine WR.block ?_
 refine WR.pick [0, 5] Z.P ?_
 refine WR.loop3 0 (fun (xs : List T) (seen : List Nat) (g : γ) => []) (fun (xs : List T) (seen : List Nat) (g : γ) => iterC it b m.clock seen :: c1 :: I xs g X) (fun (xs : List T) (seen : List Nat) (g : γ) => Came m xs seen) (fun (xs : List T) (seen : List Nat) (g : γ) => m.l.length - xs.length) ([]) ([]) (g0) Z.L ?hinv1 (by repeat (first | exact Sub.nil | refine Sub.cons rfl (by rfl) ?_)) (fun _ h => h) ?_
 case hinv1 =>
  exact Came.start m
 intro xs seen g
 rintro i1
 refine WR.seq ?_
 refine WR.region ?_
 refine WL.op rfl ?_
 refine OpW.nextM (kenc := vs) (venc := ndV) (m := m) (seen := seen) rfl rfl hm Z.T rfl rfl ?_; intro r hr
 refine Z.r1 rfl (Rd.stepOn rfl rfl) ?_
 refine WL.nil ?_
 refine thenR.normal ?_
 refine WR.seq ?_
 refine WR.ite rfl (fun hc1 => ?_) (fun hc1 => ?_)
 ·
  obtain ⟨x, rfl⟩ := Option.isSome_iff_exists.1 hc1
  refine WR.skip ?_
  refine thenR.normal ?_
  refine WR.block ?_
  refine WR.seq ?_
  refine WR.region ?_
  refine WL.op rfl ?_
  refine OpW.rd rfl rfl (Rd.entryM (kenc := vs) (venc := ndV) (m := m) (q := x) (seen := seen) rfl rfl hm Z.M hr.1 rfl) ?_
  refine Z.x1 rfl <| Z.a1 rfl ?_
  refine WL.nil ?_
  refine thenR.normal ?_
  refine WR.seq ?_
  refine WR.regionY ?_
  refine WY.rd rfl rfl rfl (Rd.move rfl rfl) ?_
  refine WY.rd rfl rfl rfl (Rd.move rfl rfl) ?_
  refine WY.yield rfl rfl rfl Z.E rfl rfl ?_
  refine Yld.heap (R' := R) (O' := c1 :: I xs g (iterC it b m.clock (seen ++ [x.2.2]) :: X)) (fun w h => h.perm ?_) ?_
  · exact (List.Perm.swap _ _ _).trans (List.Perm.cons _ (hP _ _ _ _).symm)
  refine (hY xs g (iterC it b m.clock (seen ++ [x.2.2]) :: X) x.1 (i1.lt hr.1 hr.2)).mono ?_
  rintro b' R' O' ⟨rfl, g', hS⟩
  refine WY.heap (R' := R) (O' := iterC it b m.clock (seen ++ [x.2.2]) :: c1 :: I (xs ++ [x.1]) g' X) (fun w h => (hS w h).perm ?_) ?_
  · exact (List.Perm.cons _ (hP _ _ _ _)).trans (List.Perm.swap _ _ _)
  refine WY.rd rfl rfl rfl ((by exact Rd.not rfl rfl)) ?_
  refine WY.nil ?_
  refine thenR.normal ?_
  refine WR.cond rfl (fun hc2 => ?_) (fun hc2 => ?_)
  ·
   cases hc2
  ·
   refine WR.skip ?_
   refine blockQ.normal ?_
   exact loopQ3.mk (xs ++ [x.1]) (seen ++ [x.2.2]) g' (i1.step hr.1 hr.2) (by have := i1.lt hr.1 hr.2; rw [List.length_append]; simp; omega) (by repeat (first | exact Sub.nil | refine Sub.cons rfl (by rfl) ?_)) Z.F
 ·
  obtain rfl : r = none := by
   cases r with
   | some x => exact absurd rfl hc1
   | none => rfl
  refine WR.heap (R' := R) (O' := c1 :: I xs g X) Z.F ?_
  refine WR.exit ?_
  refine thenR.exit ?_
  refine loopQ3.exit ?_
  refine blockQ.exit ?_
  refine Ret.normal (Ret.zero Tryz.results37 ?_)
  exact hk xs g (i1.all hr)
set_option maxRecDepth 20000 in
theorem append_it {gf : Nat} {lb : List Value} {C : List Own} {S : List T → Prop} {N : Nat} (it : ItOk gf lb R C S N) (hb : hasBody Tryz.prog gf = true) (hN : N ≤ 1000000) (hC : ∀ c ∈ C, c ∈ O) (hk : ∀ v xs, S xs → POST v R (accT v xs :: O)) :
 Fun Tryz.prog 36 #[nilS, .func (.func gf) #[] lb.toArray] R O POST := by
 refine Fun.enter (l := [_, _]) Tryz.func36 rfl Tryz.ntmps36 rfl (L0 := [(0, _), (1, _)]) rfl ?_
 refine Z.s1 ?_
 refine WL.op rfl ?_
 refine OpW.box1 rfl rfl (by exact ⟨rfl, rfl⟩) rfl rfl ?_; intro b2
 refine WL.heap (fun w h => Sat.accNil (e := 9) (size := 1) (enc := SL.one vs) h) ?_
 refine Z.a1 rfl <| Z.n1 ?_
 refine WC.rangeSeq rfl ?_
 refine WC.region ?_
 refine Z.m1 rfl ?_
 refine WL.nil ?_
 refine rangeQ.normal ?_
 refine RangeOk.mk rfl (hb) ?_
 intro l0 D0
 refine Fun.heap (R' := R) (O' := recC l0 _ _ D0 .ready none _ _ _ :: rowC b2 27 [nilS] :: accT nilS [] :: dfC D0 :: O) Z.F ?_
 refine it Value l0 _ (fun xs v X => rowC b2 27 [v] :: accT v xs :: X) nilS (dfC D0 :: O) _ (fun c hc => List.mem_cons_of_mem _ (hC c hc)) (fun xs v c X => (List.Perm.cons _ (List.Perm.swap _ _ _)).trans (List.Perm.swap _ _ _)) ?round ?after
 case round =>
  intro xs v X x hlen
  refine Yld.round Z.T rfl rfl rfl ?_
  refine WR.region ?_
  refine Z.a1 rfl ?_
  refine WL.nil ?_
  refine assignQ.mk Z.T ?_
  refine WR.block ?_
  refine WR.region ?_
  refine Z.r1 rfl (Rd.row1 (b := b2) (off := 0) (u := v) rfl C27 rfl Z.M rfl) ?_
  refine Z.m1 rfl ?_
  refine WL.op rfl ?_
  refine OpW.buildSl (ps := [(0, _)]) rfl S27 Z.E rfl rfl Z.C Z.K rfl rfl rfl ?_; intro b10
  refine WL.op rfl ?_
  refine OpW.appendRow (enc := SL.one vs) rfl S27 rfl rfl Z.T Z.T [x] rfl (by rfl) rfl (by intro x; rfl) (by intro x; rfl) (by exact ⟨by simp only [maxLen, List.length_append, List.length_nil, List.length_cons, List.length_drop, List.length_take, List.length_map]; omega, by omega⟩) rfl rfl ?_; intro v11 hv11
  refine WL.op rfl ?_
  refine OpW.store1 rfl Z27 rfl rfl (by assumption) Z.T (by (simp; done)) rfl ?_
  refine WL.nil ?_
  refine blockQ.normal ?_
  refine roundQ.on Z.T ?_
  exact ⟨rfl, v11, Z.F⟩
 case after =>
  intro xs v hS
  refine ⟨_, Z.T, ?_⟩
  refine Z.s1 <| Z.r1 rfl (Rd.row1 (b := b2) (off := 0) (u := v) rfl C27 rfl Z.M rfl) ?_
  refine Z.a1 rfl <| Z.n1 ?_
  refine WC.heap (R' := R) (O' := dfC D0 :: accT v xs :: O) Z.F ?_
  refine WC.retO (FinO.mark Z.T) (onlyRet.mk (Ret.one Tryz.results36 rfl ?_))
  exact hk v xs hS
set_option maxRecDepth 20000 in
theorem collect_it {gf : Nat} {lb : List Value} {C : List Own} {S : List T → Prop} {N : Nat} (it : ItOk gf lb R C S N) (hb : hasBody Tryz.prog gf = true) (hN : N ≤ 1000000) (hC : ∀ c ∈ C, c ∈ O) (hk : ∀ v xs, S xs → POST v R (accT v xs :: O)) :
 Fun Tryz.prog 18 #[.func (.func gf) #[] lb.toArray] R O POST := by
 refine Fun.enter (l := [_]) Tryz.func18 rfl Tryz.ntmps18 rfl (L0 := [(0, _)]) rfl ?_
 refine Z.s1 <| Z.a1 rfl <| Z.q1 <| Z.m1 rfl ?_
 refine WL.op rfl ?_
 refine OpW.call rfl rfl Z.E Z.K rfl rfl rfl ?_
 refine append_it it hb hN hC ?_; intro v4 xs hS
 refine Z.a1 rfl <| Z.n1 ?_
 refine WC.ret (Ret.one Tryz.results18 rfl ?_)
 exact hk _ _ hS
def srt (xs : List T) : List T := xs.mergeSort fun x y => decide (x ≤ y)
theorem sort_spec {v : Value} {xs : List T} (hl : xs.length ≤ 1000000) (hk : POST (.tuple #[]) R (accT v (srt xs) :: O)) : Fun Tryz.prog 33 #[v] R (accT v xs :: O) POST :=
 Fun.sorts (fun blk off cap ss w h1 h2 h3 => Tryz.slices_Sort_string blk off cap ss w h1 h2 h3) (fun p cap w => Tryz.slices_Sort_string_none p cap w) Z.W hk
set_option maxRecDepth 20000 in
theorem sorted_it {gf : Nat} {lb : List Value} {C : List Own} {S : List T → Prop} {N : Nat} (it : ItOk gf lb R C S N) (hb : hasBody Tryz.prog gf = true) (hN : N ≤ 1000000) (hSN : ∀ xs, S xs → xs.length ≤ 1000000) (hC : ∀ c ∈ C, c ∈ O) (hk : ∀ v xs, S xs → POST v R (accT v (srt xs) :: O)) :
 Fun Tryz.prog 13 #[.func (.func gf) #[] lb.toArray] R O POST := by
 refine Fun.enter (l := [_]) Tryz.func13 rfl Tryz.ntmps13 rfl (L0 := [(0, _)]) rfl ?_
 refine Z.s1 <| Z.a1 rfl <| Z.q1 <| Z.m1 rfl ?_
 refine WL.op rfl ?_
 refine OpW.call rfl rfl Z.E Z.K rfl rfl rfl ?_
 refine collect_it it hb hN hC ?_; intro v5 xs hS
 refine Z.a1 rfl <| Z.q1 <| Z.m1 rfl ?_
 refine WL.op rfl ?_
 refine OpW.call rfl rfl Z.E Z.K rfl rfl rfl ?_
 refine sort_spec (xs := xs) (hSN _ hS) ?_
 refine Z.q1 <| Z.m1 rfl <| Z.a1 rfl <| Z.n1 ?_
 refine WC.ret (Ret.one Tryz.results13 rfl ?_)
 exact hk _ _ hS
theorem srt_perm (xs : List T) : (srt xs).Perm xs := List.mergeSort_perm _ _
end
end Go.Proofs.YtdhcjafemebkcaaGreatDoor.Gr
namespace Go.Proofs.YtdhcjafemebkcaaGreatDoor.Gr
open Go Go.SL
structure PG where
 ks : List T
 pars : T → List T
 time : T → Int
inductive Path (G : PG) : T → T → Prop
 | refl (x : T) : Path G x x
 | step {x p y : T} (hx : x ∈ G.ks) (hp : p ∈ G.pars x) (h : Path G p y) : Path G x y
def Closed (G : PG) : Prop := ∀ x ∈ G.ks, ∀ p ∈ G.pars x, p ∈ G.ks
def Come (G : PG) (fs : List T) (y : T) : Prop := ∃ f ∈ fs, f ∈ G.ks ∧ Path G f y
theorem Path.trans {G : PG} {x y z : T} (h : Path G x y) (k : Path G y z) : Path G x z := by
 induction h with
 | refl => exact k
 | step hx hp _ ih => exact .step hx hp (ih k)
theorem Path.last {G : PG} {x y : T} (h : Path G x y) : x = y ∨ ∃ c, Path G x c ∧ c ∈ G.ks ∧ y ∈ G.pars c := by
 induction h with
 | refl => exact .inl rfl
 | step hx hp k ih =>
   rcases ih with rfl | ⟨c, h1, h2, h3⟩
   · exact .inr ⟨_, .refl _, hx, hp⟩
   · exact .inr ⟨c, .step hx hp h1, h2, h3⟩
theorem Path.first {G : PG} {x y : T} (h : Path G x y) : x = y ∨ ∃ p, x ∈ G.ks ∧ p ∈ G.pars x ∧ Path G p y := by
 cases h with
 | refl => exact .inl rfl
 | step hx hp k => exact .inr ⟨_, hx, hp, k⟩
theorem Path.mem {G : PG} (hc : Closed G) {x y : T} (h : Path G x y) : x ∈ G.ks → y ∈ G.ks := by
 induction h with
 | refl => exact id
 | step hx hp _ ih => exact fun _ => ih (hc _ hx _ hp)
theorem Come.mem {G : PG} (hc : Closed G) {fs : List T} {y : T} (h : Come G fs y) : y ∈ G.ks := by
 obtain ⟨f, _, h1, h2⟩ := h
 exact h2.mem hc h1
theorem Come.path {G : PG} {fs : List T} {x y : T} (h : Come G fs x) (k : Path G x y) : Come G fs y := by
 obtain ⟨f, h0, h1, h2⟩ := h
 exact ⟨f, h0, h1, h2.trans k⟩
/-- What holds of the beginnings and goes on to parents holds of all that is come to. -/
theorem Come.all {G : PG} {fs : List T} {M : T → Prop} (h0 : ∀ f ∈ fs, f ∈ G.ks → M f) (h1 : ∀ x, x ∈ G.ks → M x → ∀ p ∈ G.pars x, M p) {y : T} (h : Come G fs y) : M y := by
 obtain ⟨f, hf, hk, hp⟩ := h
 have key : ∀ {x y : T}, Path G x y → M x → M y := fun h => by
  induction h with
  | refl => exact id
  | step hx hp _ ih => exact fun hm => ih (h1 _ hx hm _ hp)
 exact key hp (h0 f hf hk)
def Cyc (G : PG) (z : T) : Prop := z ∈ G.ks ∧ ∃ p ∈ G.pars z, Path G p z
def Free (G : PG) (A : T → Prop) (done : List T) (x : T) : Prop := A x ∧ x ∉ done ∧ ∀ c, A c → c ∉ done → x ∉ G.pars c
def Ahead (G : PG) (x y : T) : Prop := G.time y < G.time x ∨ (G.time x = G.time y ∧ x < y)
def First (G : PG) (A : T → Prop) (done : List T) (x : T) : Prop := Free G A done x ∧ ∀ y, Free G A done y → y = x ∨ Ahead G x y
inductive Kahn (G : PG) (A : T → Prop) : List T → List T → Prop
 | stop {done : List T} (h : ∀ x, ¬ Free G A done x) : Kahn G A done done
 | step {done out : List T} {x : T} (h : First G A done x) (k : Kahn G A (done ++ [x]) out) : Kahn G A done out
theorem Ahead.asymm {G : PG} {x y : T} (h : Ahead G x y) (h' : Ahead G y x) : False := by
 rcases h with h | ⟨h1, h2⟩ <;> rcases h' with g | ⟨g1, g2⟩
 · omega
 · omega
 · omega
 · exact List.lt_irrefl _ (List.lt_trans h2 g2)
theorem First.uniq {G : PG} {A : T → Prop} {done : List T} {x y : T} (h : First G A done x) (h' : First G A done y) : x = y := by
 rcases h.2 y h'.1 with e | g
 · exact e.symm
 · rcases h'.2 x h.1 with e | g'
   · exact e
   · exact (g.asymm g').elim
theorem Kahn.uniq {G : PG} {A : T → Prop} {done a b : List T} (h : Kahn G A done a) (h' : Kahn G A done b) : a = b := by
 induction h with
 | stop hn =>
   cases h' with
   | stop => rfl
   | step g => exact absurd g.1 (hn _)
 | step g k ih =>
   cases h' with
   | stop hn => exact absurd g.1 (hn _)
   | step g' k' =>
     have e := g.uniq g'
     subst e
     exact ih k'
/-- What holds at each step of a log. -/
theorem Kahn.inv {G : PG} {A : T → Prop} {J : List T → Prop} (hs : ∀ done x, J done → Free G A done x → J (done ++ [x])) {done out : List T} (h : Kahn G A done out) : J done → J out ∧ ∀ x, ¬ Free G A out x := by
 induction h with
 | stop hn => exact fun h => ⟨h, hn⟩
 | step g k ih => exact fun h => ih (hs _ _ h g.1)
theorem Kahn.nodup {G : PG} {A : T → Prop} {out : List T} (h : Kahn G A [] out) : out.Nodup ∧ ∀ x ∈ out, A x := by
 refine (h.inv (J := fun d => d.Nodup ∧ ∀ x ∈ d, A x) (fun d x hd hf => ⟨?_, fun y hy => ?_⟩) ⟨List.nodup_nil, fun x hx => by cases hx⟩).1
 · rw [List.nodup_append]
   refine ⟨hd.1, by simp, fun a ha b hb => ?_⟩
   rw [List.mem_singleton.1 hb]
   rintro rfl
   exact hf.2.1 ha
 · rcases List.mem_append.1 hy with g | g
   · exact hd.2 y g
   · rw [List.mem_singleton.1 g]; exact hf.1
theorem nodup_len' {l l' : List T} (h : l.Nodup) (hs : ∀ x ∈ l, x ∈ l') : l.length ≤ l'.length := nodup_len h hs
/-- Where there is no cycle, all stand in the log. -/
theorem kahn_all {G : PG} {A : T → Prop} (hA : ∀ x, A x → x ∈ G.ks) (hn : ∀ z, ¬ Cyc G z) {done : List T} (hs : ∀ x, ¬ Free G A done x) : ∀ x, A x → x ∈ done := by
 intro x hx
 refine Decidable.byContradiction fun hd => ?_
 have key : ∀ n, ∃ h t, (h :: t).length = n + 1 ∧ (h :: t).Nodup ∧ (∀ y ∈ h :: t, A y ∧ y ∉ done ∧ Path G h y) := by
  intro n
  induction n with
  | zero => exact ⟨x, [], rfl, by simp, fun y hy => by rw [List.mem_singleton.1 hy]; exact ⟨hx, hd, .refl _⟩⟩
  | succ n ih =>
    obtain ⟨h, t, h1, h2, h3⟩ := ih
    have hh := h3 h List.mem_cons_self
    obtain ⟨c, c1, c2, c3⟩ : ∃ c, A c ∧ c ∉ done ∧ h ∈ G.pars c := Classical.byContradiction fun g => hs h ⟨hh.1, hh.2.1, fun c c1 c2 c3 => g ⟨c, c1, c2, c3⟩⟩
    have hck := hA c c1
    refine ⟨c, h :: t, by rw [List.length_cons, h1], List.nodup_cons.2 ⟨fun hm => ?_, h2⟩, fun y hy => ?_⟩
    · exact hn c ⟨hck, h, c3, (h3 c hm).2.2⟩
    · rcases List.mem_cons.1 hy with rfl | hy
      · exact ⟨c1, c2, .refl _⟩
      · exact ⟨(h3 y hy).1, (h3 y hy).2.1, .step hck c3 (h3 y hy).2.2⟩
 obtain ⟨h, t, h1, h2, h3⟩ := key G.ks.length
 have := nodup_len' h2 (fun y hy => hA y (h3 y hy).1)
 omega
/-- What stands on a cycle stands in no log. -/
theorem kahn_cyc {G : PG} {A : T → Prop} (hA : ∀ x y, A x → Path G x y → A y) {out : List T} (h : Kahn G A [] out) {z : T} (hz : Cyc G z) : z ∉ out := by
 have hcyc : ∀ z, Cyc G z → ∃ c, Cyc G c ∧ z ∈ G.pars c ∧ Path G z c := fun z ⟨h1, p, hp, hpz⟩ => by
  rcases hpz.last with rfl | ⟨c, g1, g2, g3⟩
  · exact ⟨p, ⟨h1, p, hp, .refl _⟩, hp, .refl _⟩
  · exact ⟨c, ⟨g2, z, g3, .step h1 hp g1⟩, g3, .step h1 hp g1⟩
 refine (h.inv (J := fun d => ∀ z, Cyc G z → z ∉ d) (fun d x hd hf z hz hm => ?_) (fun z _ h => by cases h)).1 z hz
 rcases List.mem_append.1 hm with g | g
 · exact hd z hz g
 · rw [List.mem_singleton.1 g] at hz
   obtain ⟨c, c1, c2, c3⟩ := hcyc x hz
   exact hf.2.2 c (hA x c hf.1 c3) (hd c c1) c2
def restSum (G : PG) (out : T → Bool) : Nat := ((G.ks.filter fun x => !out x).map fun x => (G.pars x).length).sum
theorem sum_le {f : T → Nat} : ∀ {l : List T} {p q : T → Bool}, (∀ x, p x = true → q x = true) → ((l.filter p).map f).sum ≤ ((l.filter q).map f).sum
 | [], _, _, _ => Nat.le_refl _
 | a :: l, p, q, h => by
   have ih := sum_le (l := l) h (f := f)
   rw [List.filter_cons, List.filter_cons]
   by_cases hp : p a = true
   · rw [if_pos hp, if_pos (h a hp)]; simp only [List.map_cons, List.sum_cons]; omega
   · rw [if_neg hp]
     split
     · simp only [List.map_cons, List.sum_cons]; omega
     · exact ih
theorem sum_drop {f : T → Nat} : ∀ {l : List T} {p q : T → Bool} {z : T}, z ∈ l → (∀ x, p x = true → q x = true) → p z = false → q z = true → ((l.filter p).map f).sum + f z ≤ ((l.filter q).map f).sum
 | a :: l, p, q, z, hz, h, hp, hq => by
   rw [List.filter_cons, List.filter_cons]
   rcases List.mem_cons.1 hz with rfl | hz
   · rw [if_neg (by simp [hp]), if_pos hq]
     have := sum_le (l := l) h (f := f)
     simp only [List.map_cons, List.sum_cons]; omega
   · have ih := sum_drop (l := l) hz h hp hq (f := f)
     by_cases hpa : p a = true
     · rw [if_pos hpa, if_pos (h a hpa)]; simp only [List.map_cons, List.sum_cons]; omega
     · rw [if_neg hpa]
       split
       · simp only [List.map_cons, List.sum_cons]; omega
       · exact ih
end Go.Proofs.YtdhcjafemebkcaaGreatDoor.Gr
namespace Go.SL
open Go
section
variable {P : Program} {n : Sz} {o : Oper} {L : Env} {R : List RO} {O O' : List Own} {K : Env → List RO → List Own → Prop} {t t' e te : TypeId} {x y u : Operand} {v z : Value}
theorem Rd.pneqN {ad : Option Addr} (ho : o.op = .binOp .neq t x y t') (hT : P.underlying t = some (.pointer te)) (hx : ev L x = some (.pointer ad)) (hy : ev L y = some (.pointer none)) : Rd P o L R O (.bool ad.isSome) :=
 run_pbin ho hx hy fun w _ _ => by
  have h : ∀ d : Nat, (Op.equalIn (d + 1) t (.pointer ad) (.pointer none)).run P w = .ok ad.isNone w := fun d => by
   cases ad <;> simp [Op.equalIn, run_underlying hT]
  simp only [binOp]
  simp [Op.equal, Op.maxDepth, h 9999]
theorem Rd.peqN {ad : Option Addr} (ho : o.op = .binOp .eql t x y t') (hT : P.underlying t = some (.pointer te)) (hx : ev L x = some (.pointer ad)) (hy : ev L y = some (.pointer none)) : Rd P o L R O (.bool ad.isNone) :=
 run_pbin ho hx hy fun w _ _ => by
  have h : ∀ d : Nat, (Op.equalIn (d + 1) t (.pointer ad) (.pointer none)).run P w = .ok ad.isNone w := fun d => by
   cases ad <;> simp [Op.equalIn, run_underlying hT]
  simp only [binOp]
  simp [Op.equal, Op.maxDepth, h 9999]
/-- s == nil -/
theorem Rd.eqNil' {a : Option Addr} {m c : Nat} (ho : o.op = .binOp .eql t x y t') (hT : P.underlying t = some (.slice e)) (hx : ev L x = some (.slice a m c)) (hy : ev L y = some (.slice none 0 0)) : Rd P o L R O (.bool a.isNone) := fun ρ w hρ _ _ => by
 have e0 : (eqGuard .eql t x y (.slice a m c) (.slice none 0 0)).run P w = .ok () w := by
  unfold eqGuard
  split <;> rfl
 simp only [execOp, ho, hρ _ _ hx, hρ _ _ hy, Sem.run_bind, e0, Result.andThen_ok, Lib.run_eql_slice_nil w t e a m c 0 0 hT, Sem.run_pure]
end
section acc
variable {P : Program} {n : Sz} {o : Oper} {L : Env} {R : List RO} {O O' : List Own} {K : Env → List RO → List Own → Prop} {t t' e : TypeId} {x y : Operand} {v z : Value} {α : Type} {enc : α → List Value} {xs : List α} {size bytes : Nat}
theorem flat_take (hs : ∀ x, (enc x).length = size) : ∀ (xs : List α) (k : Nat), (xs.flatMap enc).take (k * size) = (xs.take k).flatMap enc
 | [], k => by simp
 | a :: xs, 0 => by simp
 | a :: xs, k + 1 => by
   rw [List.flatMap_cons, List.take_succ_cons, List.flatMap_cons, List.take_append, hs, List.take_of_length_le (by rw [hs, Nat.add_mul, Nat.one_mul]; omega)]
   rw [show (k + 1) * size - size = k * size from by rw [Nat.add_mul, Nat.one_mul]; omega, flat_take hs xs k]
theorem flat_drop (hs : ∀ x, (enc x).length = size) (xs : List α) (k : Nat) (hk : k ≤ xs.length) : (xs.flatMap enc).drop (k * size) = (xs.drop k).flatMap enc := by
 have h1 : xs.flatMap enc = (xs.take k).flatMap enc ++ (xs.drop k).flatMap enc := by rw [← List.flatMap_append, List.take_append_drop]
 rw [h1, List.drop_append, flat_len hs, List.length_take, Nat.min_eq_left hk, List.drop_eq_nil_of_le (by rw [flat_len hs, List.length_take, Nat.min_eq_left hk]; exact Nat.le_refl _)]
 simp
/-- Elements of an own slice are written. -/
theorem acc_write {b cap k : Nat} {cur : Array Value} {ys : List α} {w : World} (hsz : ∀ x, (enc x).length = size) (hs : Sat R (accC e size enc (.slice (some ⟨b, 0, none⟩) xs.length cap) xs :: O) w) (hh : w.heap[b]? = some (.cells cur e (0, 0))) (hfit : k + ys.length ≤ xs.length) :
 Sat R (accC e size enc (.slice (some ⟨b, 0, none⟩) xs.length cap) (xs.take k ++ ys ++ xs.drop (k + ys.length)) :: O) (w.setRow b (cur.toList.take (k * size) ++ ys.flatMap enc ++ cur.toList.drop (k * size + (ys.flatMap enc).length)).toArray) := by
 have hp : (accC e size enc (.slice (some ⟨b, 0, none⟩) xs.length cap) xs).pred w := hs.see List.mem_cons_self
 have hlt' := ownBlock_lt hp
 obtain ⟨hl, hv⟩ := hp
 rcases hv with ⟨hc, _⟩ | ⟨b', cap', cur', hc, hb, hh', hnc, hcm, hcs, ht⟩
 · cases hc
 · simp only [Value.slice.injEq, Option.some.injEq, Addr.mk.injEq, and_true, true_and] at hc
   obtain ⟨rfl, rfl⟩ := hc
   rw [hh] at hh'
   simp only [Option.some.injEq, Obj.cells.injEq, and_true] at hh'
   subst hh'
   have hbl : b < w.heap.size := hlt' b (by simp [Value.ownBlock])
   have hyl := flat_len hsz ys
   have hlen : (xs.take k ++ ys ++ xs.drop (k + ys.length)).length = xs.length := by simp; omega
   have hk : k * size + ys.length * size ≤ xs.length * size := by rw [← Nat.add_mul]; exact Nat.mul_le_mul_right _ hfit
   refine hs.update _ ⟨rfl, rfl, rfl, by simp, fun j hj hne => setRow_other w b j _ (fun e' => hne (by simp [accC, Value.ownBlock, e']))⟩ (by intro j hj; left; simpa [accC, Value.ownBlock] using hj) (by intro j hj; simp [accC, Value.ownBlock] at hj; subst hj; simpa using hbl) (by simp [accC, Value.ownBlock]) (fun w'' ha _ => ?_)
   refine ⟨by rw [flat_len hsz, hlen], .inr ⟨b, cap, (cur.toList.take (k * size) ++ ys.flatMap enc ++ cur.toList.drop (k * size + (ys.flatMap enc).length)).toArray, by rw [hlen], hb, ?_, by rw [hlen]; exact hnc, hcm, ?_, ?_⟩⟩
   · rw [ha.2.2.2.2 b (by simpa using hbl) (by simp [accC, Value.ownBlock])]
     exact setRow_heap w b cur _ e _ hh
   · have h5 : cur.toList.length = cap * size := by rw [Array.length_toList]; exact hcs
     have h6 : xs.length * size ≤ cap * size := Nat.mul_le_mul_right _ hnc
     simp only [List.size_toArray, List.length_append, List.length_take, List.length_drop, h5, hyl]
     omega
   · have h5 : cur.toList.length = cap * size := by rw [Array.length_toList]; exact hcs
     have h6 : xs.length * size ≤ cap * size := Nat.mul_le_mul_right _ hnc
     rw [hlen, List.toList_toArray, List.flatMap_append, List.flatMap_append]
     have e1 : cur.toList.take (k * size) = (xs.take k).flatMap enc := by
      rw [← flat_take hsz xs k, ← ht, List.take_take, Nat.min_eq_left Z.W]
     have e2 : (cur.toList.drop (k * size + (ys.flatMap enc).length)).take (xs.length * size - (k * size + (ys.flatMap enc).length)) = (xs.drop (k + ys.length)).flatMap enc := by
      rw [← flat_drop hsz xs _ hfit, ← ht, List.drop_take, hyl, Nat.add_mul]
     rw [List.take_append, List.take_of_length_le (by rw [List.length_append, List.length_take, hyl]; omega), e1, List.length_append, hyl]
     congr 1
     rw [show ((xs.take k).flatMap enc).length = k * size from by rw [flat_len hsz, List.length_take, Nat.min_eq_left Z.W]]
     rw [hyl] at e2
     exact e2
/-- s[k] = v of a struct's type. -/
theorem OpW.storeAccS {k : Nat} {a : α} {va : Array Value} (ho : o.op = .store t x y) (hG : Agg P t size) (hx : ev L x = some (.pointer (some (elemAddr v (k * size))))) (hy : ev L y = some (.agg va)) (hva : va.toList = enc a) (hsz : ∀ x, (enc x).length = size) (h1 : ((enc a).all Value.oneCell') = true)
 (hT : Take (accC e size enc v xs) O O') (hlt : k < xs.length) (hd : o.dst = none) (kk : K L R (accC e size enc v (xs.set k a) :: O')) : OpW P n o L R O K := by
 intro ac w hf hs Q
 have hs' := hs.perm hT.perm
 have hp : (accC e size enc v xs).pred w := hs'.see List.mem_cons_self
 obtain ⟨hl, hv⟩ := hp
 rcases hv with ⟨rfl, h0⟩ | ⟨b, cap, cur, rfl, hb, hh, hnc, hcm, hcs, ht⟩
 · omega
 simp only [elemAddr, Nat.zero_add] at hx
 have hk : k * size + size ≤ cap * size := by
  have h1 : (k + 1) * size ≤ cap * size := Nat.mul_le_mul_right _ Z.W
  rw [Nat.add_mul, Nat.one_mul] at h1; exact h1
 have hvl : va.toList.length = size := by rw [hva, hsz]
 have hst := run_storeCells_at P b (k * size) e va.toList 0 cur w hh (by rw [hvl, hcs]; omega) (fun u hu => List.all_eq_true.1 h1 u (hva ▸ hu))
 simp only [Nat.add_zero] at hst
 have hvs : va.size = size := by simpa using hvl
 have hsz2 : ∀ w, (sizeOf t).run P w = .ok va.size w := fun w => by rw [hvs]; exact hG.2 w
 have hr : (execOp ac.eval o).run P w = .ok .skip (w.setRow b (cur.toList.take (k * size) ++ va.toList ++ cur.toList.drop (k * size + va.toList.length)).toArray) := by
  simp only [execOp, ho, hf.ev hx, hf.ev hy, Instr.storeAt, Instr.sureAddr, storeVar, Value.cells, hsz2, Sem.run_bind, Result.andThen_ok, Sem.run_pure, Sem.run_ite, ne_eq, not_true_eq_false, if_false, hst]
 unfold Oper.wp
 rw [hr, Oper.upon_skip, hd]
 have hw := acc_write (k := k) (ys := [a]) hsz hs' hh (by show k + 1 ≤ _; omega)
 have e1 : xs.take k ++ [a] ++ xs.drop (k + [a].length) = xs.set k a := by
  rw [List.set_eq_take_append_cons_drop, if_pos hlt]; simp
 have e2 : [a].flatMap enc = va.toList := by simp [hva]
 rw [e1, e2] at hw
 exact ⟨_, _, _, kk, hf.none _, hw⟩
theorem rep_at (l : List Value) : ∀ m i, i < m * l.length → (List.replicate m l).flatten[i]? = some l[i % l.length]!
 | 0, i, h => by simp at h
 | m + 1, i, h => by
   rw [List.replicate_succ, List.flatten_cons]
   by_cases hi : i < l.length
   · rw [List.getElem?_append_left hi, Nat.mod_eq_of_lt hi, get!_of_lt hi]
   · rw [List.getElem?_append_right Z.W, rep_at l m (i - l.length) (by rw [Nat.add_mul, Nat.one_mul] at h; omega), ← Nat.mod_eq_sub_mod Z.W]
theorem zeroCells_flat (l : Array Value) (m : Nat) : (Builtin.zeroCells l m).toList = (List.replicate m l.toList).flatten := by
 apply List.ext_getElem?
 intro i
 have hlen : ((List.replicate m l.toList).flatten).length = m * l.size := by simp
 by_cases h : i < m * l.size
 · rw [rep_at l.toList m i (by simpa using h)]
   simp only [Builtin.zeroCells, Array.toList_map, Array.toList_range, List.getElem?_map, List.getElem?_range h, Option.map_some, Array.length_toList]
   congr 1
   have h0 : i % l.size < l.size := Nat.mod_lt _ (Nat.pos_of_ne_zero fun h1 => by rw [h1] at h; simp at h)
   rw [getElem!_pos l _ h0, getElem!_pos l.toList _ (by simpa using h0), Array.getElem_toList]
 · rw [List.getElem?_eq_none (by simp [Builtin.zeroCells]; omega), List.getElem?_eq_none Z.W]
end acc
end Go.SL
namespace Go.SL
open Go Go.RowKit
section
variable {P : Program} {n : Sz} {o : Oper} {L : Env} {R : List RO} {O O' : List Own} {K : Env → List RO → List Own → Prop} {t t' e te : TypeId} {x y u : Operand} {v z : Value}
/-- What a method's name means for a value's type and the heap that is known. -/
def Meth (P : Program) (R : List RO) (O : List Own) (ty : TypeId) (rv : Value) (name : String) (f : FuncId) (recv : Value) : Prop :=
 ∀ w, (∀ p ∈ R, p w) → (∀ c ∈ O, c.pred w) → (method (P.types.size + Made.depth) ty rv name).run P w = .ok (f, recv) w
theorem OpW.invoke {f : FuncId} {ty : TypeId} {rv recv : Value} {name : String} {xs : List Operand} {azs : List Value} {ts : Array TypeId} {d : Nat} (ho : o.op = .call { callee := .invoke x name, args := xs.toArray, argTypes := ts })
 (hx : ev L x = some (.iface ty rv)) (has : Evs L xs azs) (hm : Meth P R O ty rv name f recv) (hb : hasBody P f = true) (hd : o.dst = some d) (hn : Nat.blt d n.n = true)
 (h : Fun P f (recv :: azs).toArray R O (fun v R' O' => K ((d, v) :: L) R' O')) : OpW P n o L R O K := by
 intro a w hf hs Q
 have e1 : a.eval x = _ := hf.ev hx
 have e2 := has.eval (ρ := a.eval) (fun x u hx => hf.ev hx)
 have e3 := hm w (fun p hp => hs.read hp) (fun c hc => hs.see hc)
 unfold Oper.wp
 have hr : (execOp a.eval o).run P w = .ok (.enter f (recv :: azs).toArray) w := by
  have e4 : (#[Value.iface ty rv] ++ azs.toArray).extract 1 (#[Value.iface ty rv] ++ azs.toArray).size = azs.toArray := by
   apply Array.ext'; simp
  have e5 : (#[Value.iface ty rv] ++ azs.toArray)[0]? = some (Value.iface ty rv) := by simp
  have e6 : #[recv] ++ azs.toArray = (recv :: azs).toArray := by simp
  have ep : ∀ w, (program : Sem Program).run P w = .ok P w := fun w => by simp
  simp only [execOp, ho, resolve, e1, List.map_toArray, e2, Sem.run_bind, Sem.run_pure, Result.andThen_ok, Go.invoke, e5, callMethod, e4, ep, e3, e6, run_callFunc hb]
 rw [hr, Oper.upon_enter]
 exact (h w hs).mono fun e w' ⟨v, R', O', he, hk, hs'⟩ => by
  subst he
  rw [hd]
  exact ⟨_, _, _, hk, hf.put hn v, hs'⟩
end
section
variable {P : Program} {o : Oper} {L : Env} {R : List RO} {O : List Own} {t t' e te : TypeId} {x y : Operand} {v z : Value}
/-- A pointer's own method. -/
theorem Meth.ptr {ty : TypeId} {ad : Addr} {name : String} {f : FuncId} {d : TypeId} (hm' : ((P.info? ty).bind (fun i => i.methods.find? (·.name == name))).map (fun m => (m.path, m.func)) = some (#[], some (f, true))) (hU : P.underlying ty = some (.pointer d)) :
 Meth P R O ty (.pointer (some ad)) name f (.pointer (some ad)) := fun w _ _ => by
 obtain ⟨m, hm, hpf⟩ := Option.map_eq_some_iff.1 hm'
 simp only [Prod.mk.injEq] at hpf
 obtain ⟨hp, hf⟩ := hpf
 obtain ⟨i, hi, hfi⟩ := Option.bind_eq_some_iff.1 hm
 rw [show P.types.size + Made.depth = (P.types.size + (Made.depth - 1)) + 1 from rfl, method]
 simp [typeInfo, hi, hfi, hp, hf, follow, receiverAt, run_underlying hU, Place.get]
theorem run_wrapnil {P : Program} {ts : Array TypeId} {ty : TypeId} {ad : Addr} {s m : ByteArray} (w : World) : (Builtin.ssaWrapNilChk_ ts ty #[.pointer (some ad), .string s, .string m]).run P w = .ok (.pointer (some ad)) w := rfl
/-- A value's method through a pointer to it. -/
theorem Meth.val {ty : TypeId} {ad : Addr} {name : String} {f : FuncId} {d : TypeId} (hm' : ((P.info? ty).bind (fun i => i.methods.find? (·.name == name))).map (fun m => (m.path, m.func)) = some (#[], some (f, false))) (hU : P.underlying ty = some (.pointer d))
 (hv : ∀ w, (∀ p ∈ R, p w) → (∀ c ∈ O, c.pred w) → (loadVar d ad).run P w = .ok v w) : Meth P R O ty (.pointer (some ad)) name f v := fun w hR hO => by
 obtain ⟨m, hm, hpf⟩ := Option.map_eq_some_iff.1 hm'
 simp only [Prod.mk.injEq] at hpf
 obtain ⟨hp, hf⟩ := hpf
 obtain ⟨i, hi, hfi⟩ := Option.bind_eq_some_iff.1 hm
 rw [show P.types.size + Made.depth = (P.types.size + (Made.depth - 1)) + 1 from rfl, method]
 simp [typeInfo, hi, hfi, hp, hf, follow, receiverAt, run_underlying hU, Place.get, strVal, run_wrapnil, asAddr, hv w hR hO]
theorem Meth.row {ty : TypeId} {name : String} {f : FuncId} {d : TypeId} {b off : Nat} {cs : List Value} (hm' : ((P.info? ty).bind (fun i => i.methods.find? (·.name == name))).map (fun m => (m.path, m.func)) = some (#[], some (f, false))) (hU : P.underlying ty = some (.pointer d))
 (hc : Cell1 P d) (hO : rowC b e cs ∈ O) (hk : cs[off]? = some v) : Meth P R O ty (.pointer (some ⟨b, off, none⟩)) name f v :=
 Meth.val hm' hU (fun w _ h => by
  have := run_load1 (P := P) hc (row_cell (h _ hO) hk)
  simpa [Instr.loadAt, Instr.sureAddr] using this)
theorem Rd.iface {d : TypeDesc} (ho : o.op = .makeInterface t x) (hU : P.underlying t = some d) (hd : (match d with | .interface _ => true | _ => false) = false) (hx : ev L x = some v) : Rd P o L R O (.iface t v) := fun ρ w hρ _ _ => by
 simp only [execOp, ho, hρ _ _ hx, Instr.makeInterface, Sem.run_bind, run_underlying hU, Result.andThen_ok]
 cases d <;> simp_all
theorem Rd.assertT {d : TypeDesc} (ho : o.op = .typeAssert x t' t false) (hU : P.underlying t = some d) (hd : (match d with | .interface _ => true | _ => false) = false) (hx : ev L x = some (.iface t v)) : Rd P o L R O v := fun ρ w hρ _ _ => by
 simp only [execOp, ho, hρ _ _ hx, Instr.typeAssert, Sem.run_bind, run_underlying hU, Result.andThen_ok]
 cases d <;> simp_all
end
end Go.SL
namespace Go.Proofs.YtdhcjafemebkcaaGreatDoor
open Go
/-- A strict order, of which what is not below either way round is alike. -/
structure Ord {α : Type} (lt : α → α → Prop) : Prop where
 irrefl : ∀ a, ¬ lt a a
 asymm : ∀ a b, lt a b → ¬ lt b a
 le_trans : ∀ a b c, ¬ lt b a → ¬ lt c b → ¬ lt c a
 lt_le : ∀ a b c, lt a b → ¬ lt c b → ¬ lt c a
section
variable {α : Type} [Inhabited α] {lt : α → α → Prop}
def swapL (l : List α) (i j : Nat) : List α := (l.set i l[j]!).set j l[i]!
theorem swapL_len (l : List α) (i j : Nat) : (swapL l i j).length = l.length := by simp [swapL]
theorem set_get! {l : List α} {i : Nat} {a : α} {k : Nat} (hi : i < l.length) : (l.set i a)[k]! = if k = i then a else l[k]! := by
 by_cases hk : k < l.length
 · rw [getElem!_pos (l.set i a) k (by simpa using hk), getElem!_pos l k hk, List.getElem_set]
   by_cases e : i = k
   · rw [if_pos e, if_pos e.symm]
   · rw [if_neg e, if_neg (fun h => e h.symm)]
 · rw [if_neg (by omega), getElem!_neg (l.set i a) k (by simpa using hk), getElem!_neg l k hk]
theorem swapL_get {l : List α} {i j : Nat} (hi : i < l.length) (hj : j < l.length) (k : Nat) : (swapL l i j)[k]! = if k = j then l[i]! else if k = i then l[j]! else l[k]! := by
 unfold swapL
 rw [set_get! (by simpa using hj)]
 by_cases e : k = j
 · rw [if_pos e, if_pos e]
 · rw [if_neg e, if_neg e, set_get! hi]
theorem swapL_perm {l : List α} {i j : Nat} (hi : i < l.length) (hj : j < l.length) : (swapL l i j).Perm l := by
 unfold swapL
 rw [getElem!_pos l i hi, getElem!_pos l j hj]
 exact List.set_set_perm hi hj
theorem swapL_take {l : List α} {i j n : Nat} (hi : i < n) (hj : j < n) (hn : n ≤ l.length) : (swapL l i j).drop n = l.drop n := by
 unfold swapL
 rw [List.drop_set_of_lt hj, List.drop_set_of_lt hi]
def Hp (lt : α → α → Prop) (l : List α) : Prop := ∀ k, 0 < k → k < l.length → ¬ lt l[k]! l[(k - 1) / 2]!
/-- Sifting up: at j alone there may be a fault. -/
def Up (lt : α → α → Prop) (l : List α) (j : Nat) : Prop := j < l.length ∧ (∀ k, 0 < k → k < l.length → k ≠ j → ¬ lt l[k]! l[(k - 1) / 2]!) ∧ (∀ c, 0 < c → c < l.length → (c - 1) / 2 = j → 0 < j → ¬ lt l[c]! l[(j - 1) / 2]!)
theorem Up.push {l : List α} (h : Hp lt l) (x : α) : Up lt (l ++ [x]) l.length := by
 refine ⟨by simp, fun k h0 hk hne => ?_, fun c h0 hc he => ?_⟩
 · rw [List.length_append, List.length_singleton] at hk
   have h1 := h k h0 (by omega)
   rw [getElem!_pos l k (by omega), getElem!_pos l ((k - 1) / 2) (by omega)] at h1
   rw [getElem!_pos (l ++ [x]) k (by simp; omega), getElem!_pos (l ++ [x]) ((k - 1) / 2) (by simp; omega), List.getElem_append_left (by omega), List.getElem_append_left (by omega)]
   exact h1
 · rw [List.length_append, List.length_singleton] at hc; omega
theorem Up.done {l : List α} {j : Nat} (h : Up lt l j) (hd : j = 0 ∨ ¬ lt l[j]! l[(j - 1) / 2]!) : Hp lt l := fun k h0 hk => by
 by_cases e : k = j
 · subst e; rcases hd with hd | hd
   · omega
   · exact hd
 · exact h.2.1 k h0 hk e
theorem Up.step (ho : Ord lt) {l : List α} {j : Nat} (h : Up lt l j) (h0 : 0 < j) (hl : lt l[j]! l[(j - 1) / 2]!) : Up lt (swapL l ((j - 1) / 2) j) ((j - 1) / 2) := by
 obtain ⟨hj, h1, h2⟩ := h
 have hi : (j - 1) / 2 < l.length := by omega
 refine ⟨by rw [swapL_len]; exact hi, fun k k0 hk hne => ?_, fun c c0 hc he g0 => ?_⟩
 · rw [swapL_len] at hk
   rw [swapL_get hi hj, swapL_get hi hj]
   by_cases e : k = j
   · subst e
     rw [if_pos rfl, if_neg (by omega), if_pos rfl]
     exact ho.asymm _ _ hl
   · rw [if_neg e, if_neg hne]
     by_cases e2 : (k - 1) / 2 = j
     · rw [if_pos e2]; exact h2 k k0 hk e2 h0
     · rw [if_neg e2]
       by_cases e3 : (k - 1) / 2 = (j - 1) / 2
       · rw [if_pos e3]
         have := h1 k k0 hk e
         rw [e3] at this
         exact ho.lt_le _ _ _ hl this
       · rw [if_neg e3]; exact h1 k k0 hk e
 · rw [swapL_len] at hc
   rw [swapL_get hi hj, swapL_get hi hj]
   have hg := h1 ((j - 1) / 2) g0 hi (by omega)
   rw [if_neg (c := ((j - 1) / 2 - 1) / 2 = j) (by omega), if_neg (c := ((j - 1) / 2 - 1) / 2 = (j - 1) / 2) (by omega)]
   by_cases e : c = j
   · rw [if_pos e]; exact hg
   · rw [if_neg e, if_neg (by omega)]
     have := h1 c c0 hc e
     rw [he] at this
     exact ho.le_trans _ _ _ hg this
/-- Sifting down among the first n: at i's children alone there may be a fault. -/
def Dn (lt : α → α → Prop) (l : List α) (i n : Nat) : Prop := n ≤ l.length ∧ (∀ k, 0 < k → k < n → (k - 1) / 2 ≠ i → ¬ lt l[k]! l[(k - 1) / 2]!) ∧ (∀ c, 0 < c → c < n → (c - 1) / 2 = i → 0 < i → ¬ lt l[c]! l[(i - 1) / 2]!)
theorem Dn.done {l : List α} {i n : Nat} (h : Dn lt l i n) (hd : ∀ c, 0 < c → c < n → (c - 1) / 2 = i → ¬ lt l[c]! l[i]!) : Hp lt (l.take n) := fun k h0 hk => by
 have hn := h.1
 rw [List.length_take] at hk
 rw [getElem!_pos (l.take n) k (by rw [List.length_take]; omega), getElem!_pos (l.take n) ((k - 1) / 2) (by rw [List.length_take]; omega), List.getElem_take, List.getElem_take]
 rw [← getElem!_pos l k (by omega), ← getElem!_pos l ((k - 1) / 2) (by omega)]
 by_cases e : (k - 1) / 2 = i
 · rw [e]; exact hd k h0 (by omega) e
 · exact h.2.1 k h0 (by omega) e
/-- j is the child of i that is not above the other one. -/
theorem Dn.step (ho : Ord lt) {l : List α} {i j n : Nat} (h : Dn lt l i n) (hj : j < n) (hji : (j - 1) / 2 = i) (j0 : 0 < j) (hmin : ∀ c, 0 < c → c < n → (c - 1) / 2 = i → ¬ lt l[c]! l[j]!) (hl : lt l[j]! l[i]!) : Dn lt (swapL l i j) j n := by
 obtain ⟨hn, h1, h2⟩ := h
 have hi : i < l.length := by omega
 have hj' : j < l.length := by omega
 refine ⟨by rw [swapL_len]; exact hn, fun k k0 hk hne => ?_, fun c c0 hc he _ => ?_⟩
 · rw [swapL_get hi hj', swapL_get hi hj']
   by_cases e : k = j
   · subst e
     rw [if_pos rfl, if_neg hne, if_pos hji]
     exact ho.asymm _ _ hl
   · rw [if_neg e, if_neg hne]
     by_cases e2 : k = i
     · subst e2
       rw [if_pos rfl, if_neg (by omega)]
       exact h2 j j0 hj hji k0
     · rw [if_neg e2]
       by_cases e3 : (k - 1) / 2 = i
       · rw [if_pos e3]; exact hmin k k0 hk e3
       · rw [if_neg e3]; exact h1 k k0 hk e3
 · rw [swapL_get hi hj', swapL_get hi hj', if_neg (by omega), if_neg (by omega), if_neg (by omega), if_pos hji]
   have := h1 c c0 hc (by omega)
   rwa [he] at this
theorem Hp.first (ho : Ord lt) {l : List α} (h : Hp lt l) : ∀ k, k < l.length → ¬ lt l[k]! l[0]! := by
 intro k
 induction k using Nat.strongRecOn with
 | _ k ih =>
   intro hk
   by_cases e : k = 0
   · subst e; exact ho.irrefl _
   · exact ho.le_trans _ _ _ (ih ((k - 1) / 2) (by omega) (by omega)) (h k (by omega) hk)
theorem Hp.least (ho : Ord lt) {l : List α} (h : Hp lt l) {x : α} (hx : x ∈ l) : ¬ lt x l[0]! := by
 obtain ⟨k, hk, rfl⟩ := List.getElem_of_mem hx
 rw [← getElem!_pos l k hk]
 exact h.first ho k hk
/-- The first goes to the end; what comes ahead of it is to be sifted down. -/
theorem Dn.start {l : List α} {m : Nat} (h : Hp lt l) (hm : l.length = m + 1) : Dn lt (swapL l 0 m) 0 m := by
 refine ⟨by rw [swapL_len]; omega, fun k k0 hk hne => ?_, fun c _ _ _ h0 => absurd h0 (Nat.lt_irrefl 0)⟩
 rw [swapL_get (by omega) (by omega), swapL_get (by omega) (by omega), if_neg (by omega), if_neg (by omega), if_neg (by omega), if_neg hne]
 exact h k k0 (by omega)
theorem hp_nil : Hp lt ([] : List α) := fun k _ hk => absurd hk (Nat.not_lt_zero _)
end
end Go.Proofs.YtdhcjafemebkcaaGreatDoor
namespace Go.SL
open Go Go.RowKit
section
variable {P : Program} {ops : Array Oper} {Q : Exit → Act → World → Prop} {md : Region.Mode} {S : Array Bool → World → Prop}
/-- Whatever order is picked from here on, and S, at what has come up, holds behind each operation. -/
def wpAnyL (P : Program) (md : Region.Mode) (ops : Array Oper) (Q : Exit → Act → World → Prop) (S : Array Bool → World → Prop) : Nat → Array Bool → Act → World → Prop
 | 0, listed, a, w => Region.ready md ops listed = [] ∧ Q .normal a w
 | fuel + 1, listed, a, w =>
   (Region.ready md ops listed = [] → Q .normal a w) ∧
   ∀ i ∈ Region.ready md ops listed, wpOp P ops Q i (fun a' w' => S (listed.setIfInBounds i true) w' ∧ wpAnyL P md ops Q S fuel (listed.setIfInBounds i true) a' w') a w
theorem wpAny_of_L : ∀ (fuel : Nat) (listed : Array Bool) (a : Act) (w : World), wpAnyL P md ops Q S fuel listed a w → wpAny P md ops Q fuel listed a w
 | 0, _, _, _, h => h
 | fuel + 1, _, _, _, h => ⟨h.1, fun i hi => wpOp_mono (fun a' w' h' => wpAny_of_L fuel _ a' w' h'.2) (h.2 i hi)⟩
/-- Operation j waits for i. -/
def Waits (md : Region.Mode) (ops : Array Oper) (i j : Nat) : Prop := ∃ oj, ops[j]? = some oj ∧ ∃ e ∈ oj.after, Region.binds md e = true ∧ e.on = i
def Early (md : Region.Mode) (ops : Array Oper) (i : Nat) (l : Array Bool) : Prop := ∀ j, Waits md ops i j → l.getD j true = false
theorem wpAnyL_first {i : Nat} {oi : Oper} {v : Value} (hi : ops[i]? = some oi) (hsel : ∀ (j : Nat) (o : Oper) cs b, ops[j]? = some o → o.op ≠ .select cs b)
 (hQ : ∀ c a w, Q (.panic c) (a.put oi.dst v) w → Q (.panic c) a w)
 (hmono : ∀ l w, S l w → S (l.setIfInBounds i true) w) (hback : ∀ l w, S (l.setIfInBounds i true) w → S l w) :
 ∀ (fuel : Nat) (listed : Array Bool) (a : Act) (w : World),
  (∀ j oj, ops[j]? = some oj → j ≠ i → listed.getD j true = false → (∀ e ∈ oj.after, Region.binds md e = true → e.on ≠ i) → oi.apart ops oj = true) →
  i ∈ Region.ready md ops listed → Early md ops i listed → YieldsIf P ops (fun w => ∃ l, Early md ops i l ∧ S l w) oi v a → S listed w →
  wpAnyL P md ops Q S fuel (listed.setIfInBounds i true) (a.put oi.dst v) w → wpAnyL P md ops Q S (fuel + 1) listed a w := by
 intro fuel
 induction fuel with
 | zero =>
   intro listed a w _ hr hE hy hS H
   refine ⟨fun h => (by rw [h] at hr; cases hr), fun j hj => ?_⟩
   by_cases hji : j = i
   · subst hji; exact hy.wpOp hi ⟨listed, hE, hS⟩ ⟨hmono _ _ hS, H⟩
   · have := ready_mono hj hji
     rw [H.1] at this
     cases this
 | succ fuel ih =>
   intro listed a w hfree hr hE hy hS H
   refine ⟨fun h => (by rw [h] at hr; cases hr), fun j hj => ?_⟩
   by_cases hji : j = i
   · subst hji; exact hy.wpOp hi ⟨listed, hE, hS⟩ ⟨hmono _ _ hS, H⟩
   · have h1 := H.2 j (ready_mono hj hji)
     obtain ⟨hjun, oj, hoj, hall⟩ := mem_ready.1 hj
     have hnot : ∀ e ∈ oj.after, Region.binds md e = true → e.on ≠ i := fun e he hb heq => by
      have h1 := hall e he hb
      have h0 := (mem_ready.1 hr).1
      rw [heq] at h1
      rcases Nat.lt_or_ge i listed.size with h' | h'
      · simp [h'] at h0 h1; rw [h0] at h1; cases h1
      · simp [Array.getElem?_eq_none h'] at h1
     have h2 := wpOp_putIf hoj (hfree j oj hoj hji hjun hnot) (fun cs b => hsel i oi cs b hi) (fun cs b => hsel j oj cs b hoj) hQ hy h1
     have hfree' : ∀ k ok, ops[k]? = some ok → k ≠ i → (listed.setIfInBounds j true).getD k true = false →
      (∀ e ∈ ok.after, Region.binds md e = true → e.on ≠ i) → oi.apart ops ok = true := fun k ok hk hki hun hno => by
      refine hfree k ok hk hki ?_ hno
      by_cases hjk : j = k
      · subst hjk; exact hjun
      · rw [getD_set_ne true hjk] at hun; exact hun
     have hE' : Early md ops i (listed.setIfInBounds j true) := fun k hk => by
      have hjk : j ≠ k := by
       rintro rfl
       obtain ⟨ok, hok, e, he, hb, heq⟩ := hk
       rw [hoj] at hok
       cases hok
       exact hnot e he hb heq
      rw [getD_set_ne true hjk]; exact hE k hk
     refine wpOp_mono (fun a' w' h3 => ?_) h2
     have hS' : S (listed.setIfInBounds j true) w' := hback _ _ (by rw [Array.setIfInBounds_comm _ _ hji]; exact h3.2.1)
     refine ⟨hS', ih (listed.setIfInBounds j true) a' w' hfree' (ready_mono hr (Ne.symm hji)) hE' h3.1 hS' ?_⟩
     rw [Array.setIfInBounds_comm _ _ hji]
     exact h3.2.2
end
section draw
variable {P : Program} {n : Sz} {ops : Array Oper} {Q : Post} {S : List RO} {T : List Own} {U : List (Nat × Own)} {fuel : Nat} {listed : Array Bool} {L : Env} {R : List RO} {O : List Own} {o : Oper}
/-- What readers lean on: S, T to the end; each of U until its store has come up. -/
def FactsL (S : List RO) (T : List Own) (U : List (Nat × Own)) (l : Array Bool) (w : World) : Prop := (∀ p ∈ S, p w) ∧ (∀ c ∈ T, c.pred w) ∧ ∀ u ∈ U, l.getD u.1 true = false → u.2.pred w
def WE (P : Program) (n : Sz) (ops : Array Oper) (Q : Post) (S : List RO) (T : List Own) (U : List (Nat × Own)) (fuel : Nat) (listed : Array Bool) (L : Env) (R : List RO) (O : List Own) : Prop :=
 ∀ a w, Fr n L a → Sat R O w → wpAnyL P .any ops (lift n Q) (FactsL S T U) fuel listed a w
def HeldL (S : List RO) (T : List Own) (U : List (Nat × Own)) (l : Array Bool) (R : List RO) (O : List Own) : Prop := ∀ w, Sat R O w → FactsL S T U l w
/-- Those of U whose store hasn't come up. -/
def live (U : List (Nat × Own)) (l : Array Bool) : List Own := (U.filter fun u => l.getD u.1 true == false).map (·.2)
inductive Mems (O : List Own) : List Own → Prop
 | nil : Mems O []
 | cons {c : Own} {V : List Own} (h : c ∈ O) (k : Mems O V) : Mems O (c :: V)
theorem Mems.mem {V : List Own} (h : Mems O V) : ∀ c ∈ V, c ∈ O := by
 induction h with
 | nil => exact fun c hc => absurd hc List.not_mem_nil
 | cons h _ ih =>
   intro c hc
   rcases List.mem_cons.1 hc with rfl | hc
   · exact h
   · exact ih c hc
theorem HeldL.mk2 {l : Array Bool} (V : List Own) (hV : live U l = V) (hS : SubL S R) (hT : OwnL O T) (hU : Mems O V) : HeldL S T U l R O := fun _ h =>
 ⟨fun p hp => h.read (hS.mem p hp), fun c hc => h.see (hT.mem.1 c hc), fun u hu hl => h.see (hU.mem u.2 (by rw [← hV]; exact List.mem_map.2 ⟨u, List.mem_filter.2 ⟨hu, by rw [hl]; rfl⟩, rfl⟩))⟩
/-- Each store of U waits for i, and is not i. -/
def behindOk (ops : Array Oper) (U : List (Nat × Own)) (i : Nat) : Bool := U.all fun u => u.1 != i && (match ops[u.1]? with
 | some o => o.after.any fun e => Region.binds .any e && e.on == i
 | none => false)
theorem take_auxL {V : List (Nat × Own)} {i : Nat} {v : Value} {dst : Option Nat} {L' : Env} (hi : ops[i]? = some o) (hok : takeOk ops listed i = true) (hne : (U.all fun u => u.1 != i) = true) (hVU : V.Sublist U) (hb : behindOk ops V i = true) (hS : HeldL S T U listed R O) (hE : Early .any ops i listed) (hd : o.dst = dst) (hL : ∀ a, Fr n L a → Fr n L' (a.put dst v))
 (hy : ∀ a, Fr n L a → YieldsIf P ops (fun w => (∀ p ∈ S, p w) ∧ ∀ c ∈ V.map (·.2) ++ T, c.pred w) o v a) (k : WE P n ops Q S T U fuel (listed.setIfInBounds i true) L' R O) : WE P n ops Q S T U (fuel + 1) listed L R O := by
 intro a w hf hs
 simp only [takeOk, Bool.and_eq_true] at hok
 have hne2 : ∀ u ∈ U, u.1 ≠ i := fun u hu => by simpa using List.all_eq_true.1 hne u hu
 have hbw : ∀ u ∈ V, u.1 ≠ i ∧ Waits .any ops i u.1 := fun u hu => by
  have h := List.all_eq_true.1 hb u hu
  rw [Bool.and_eq_true] at h
  refine ⟨by simpa using h.1, ?_⟩
  have h2 := h.2
  cases ho : ops[u.1]? with
  | none => rw [ho] at h2; cases h2
  | some oj =>
    rw [ho] at h2
    obtain ⟨e, he, hee⟩ := Array.any_eq_true'.1 h2
    rw [Bool.and_eq_true] at hee
    exact ⟨oj, ho, e, he, hee.1, by simpa using hee.2⟩
 refine wpAnyL_first (v := v) hi (Region.noSelect_spec hok.1.1) (fun c a w h => h) ?_ ?_ fuel listed a w (Region.free_spec hi hok.1.2) (by simpa using hok.2) hE ?_ (hS w hs) ?_
 · rintro l w ⟨h1, h2, h3⟩
   exact ⟨h1, h2, fun u hu hl => h3 u hu (by rw [getD_set_ne true (Ne.symm (hne2 u hu))] at hl; exact hl)⟩
 · rintro l w ⟨h1, h2, h3⟩
   exact ⟨h1, h2, fun u hu hl => h3 u hu (by rw [getD_set_ne true (Ne.symm (hne2 u hu))]; exact hl)⟩
 · rcases hy a hf with ⟨h1, h2⟩ | h
   · refine .inl ⟨h1, fun w hw => h2 w ?_⟩
     obtain ⟨l, hEl, g1, g2, g3⟩ := hw
     refine ⟨g1, fun c hc => ?_⟩
     rcases List.mem_append.1 hc with hc | hc
     · obtain ⟨u, hu, rfl⟩ := List.mem_map.1 hc
       exact g3 u (hVU.subset hu) (hEl u.1 (hbw u hu).2)
     · exact g2 c hc
   · exact .inr h
 · rw [hd]
   exact k _ _ (hL a hf) hs
/-- No operation that waits for i has come up. -/
def earlyOk (ops : Array Oper) (listed : Array Bool) (i : Nat) : Bool := (List.range ops.size).all fun j => match ops[j]? with
 | some o => !(o.after.any fun e => Region.binds .any e && e.on == i) || (listed.getD j true == false)
 | none => true
theorem early_of {i : Nat} (h : earlyOk ops listed i = true) : Early .any ops i listed := by
 rintro j ⟨oj, hoj, e, he, hb, heq⟩
 have hj : j < ops.size := (Array.getElem?_eq_some_iff.1 hoj).1
 have h1 := List.all_eq_true.1 h j (List.mem_range.2 hj)
 rw [hoj] at h1
 simp only [Bool.or_eq_true, Bool.not_eq_true'] at h1
 rcases h1 with h1 | h1
 · have : (oj.after.any fun e => Region.binds .any e && e.on == i) = true := Array.any_eq_true'.2 ⟨e, he, by rw [hb, heq]; simp⟩
   rw [this] at h1; cases h1
 · simpa using h1
def readOk (ops : Array Oper) (listed : Array Bool) (U V : List (Nat × Own)) (i : Nat) : Bool := takeOk ops listed i && (behindOk ops V i && (earlyOk ops listed i && U.all fun u => u.1 != i))
theorem readOk_parts {V : List (Nat × Own)} {i : Nat} (h : readOk ops listed U V i = true) : takeOk ops listed i = true ∧ behindOk ops V i = true ∧ earlyOk ops listed i = true ∧ (U.all fun u => u.1 != i) = true := by
 unfold readOk at h
 rw [Bool.and_eq_true, Bool.and_eq_true, Bool.and_eq_true] at h
 exact ⟨h.1, h.2.1, h.2.2.1, h.2.2.2⟩
theorem WE.take (i : Nat) (V : List (Nat × Own)) {d : Nat} {v : Value} (hi : ops[i]? = some o) (hok : readOk ops listed U V i = true) (hVU : V.Sublist U) (hS : HeldL S T U listed R O) (hg : o.guard = none) (hd : o.dst = some d) (hn : Nat.blt d n.n = true) (h : Rd P o L S (V.map (·.2) ++ T) v)
 (k : WE P n ops Q S T U fuel (listed.setIfInBounds i true) ((d, v) :: L) R O) : WE P n ops Q S T U (fuel + 1) listed L R O :=
 take_auxL hi (readOk_parts hok).1 (readOk_parts hok).2.2.2 hVU (readOk_parts hok).2.1 hS (early_of (readOk_parts hok).2.2.1) hd (fun _ hf => hf.put hn v) (fun a hf => .inl ⟨by simp [Region.wanted, hg], fun w hw => h a.eval w (fun x u hx => hf.ev hx) hw.1 hw.2⟩) k
/-- The only operation that may come up now. -/
theorem WE.one (i : Nat) (hi : ops[i]? = some o) (hr : Region.ready .any ops listed = [i]) (hg : o.guard = none)
 (h : OpW P n o L R O (fun L' R' O' => HeldL S T U (listed.setIfInBounds i true) R' O' ∧ WE P n ops Q S T U fuel (listed.setIfInBounds i true) L' R' O')) : WE P n ops Q S T U (fuel + 1) listed L R O := by
 intro a w hf hs
 refine ⟨fun h0 => (by rw [hr] at h0; cases h0), fun j hj => ?_⟩
 rw [hr] at hj
 simp only [List.mem_singleton] at hj
 subst hj
 unfold wpOp
 rw [hi]
 simp only [Region.wanted, hg, if_true]
 exact .inl (Oper.wp_mono (fun a' w' ⟨L', R', O', hk, hf', hs'⟩ => ⟨hk.1 w' hs', hk.2 a' w' hf' hs'⟩) (h a w hf hs _))
/-- Several operations may come up now. -/
theorem WE.many (is : List Nat) (hr : Region.ready .any ops listed = is) (hne : is ≠ [])
 (h : ∀ i ∈ is, ∃ o, ops[i]? = some o ∧ o.guard = none ∧ OpW P n o L R O (fun L' R' O' => HeldL S T U (listed.setIfInBounds i true) R' O' ∧ WE P n ops Q S T U fuel (listed.setIfInBounds i true) L' R' O')) : WE P n ops Q S T U (fuel + 1) listed L R O := by
 intro a w hf hs
 refine ⟨fun h0 => absurd (hr ▸ h0) hne, fun x hx => ?_⟩
 rw [hr] at hx
 obtain ⟨o, ho, hg, hop⟩ := h x hx
 unfold wpOp
 rw [ho]
 simp only [Region.wanted, hg, if_true]
 exact .inl (Oper.wp_mono (fun a' w' ⟨L', R', O', hk, hf', hs'⟩ => ⟨hk.1 w' hs', hk.2 a' w' hf' hs'⟩) (hop a w hf hs _))
theorem WE.say (t : Nat) {v u : Value} (ht : Env.find L t = some v) (e : v = u) (k : WE P n ops Q S T U fuel listed ((t, u) :: L) R O) : WE P n ops Q S T U fuel listed L R O :=
 fun a w hf hs => k a w (hf.known ht e) hs
theorem WE.heap {R' : List RO} {O' : List Own} (hs : ∀ w, Sat R O w → Sat R' O' w) (c : WE P n ops Q S T U fuel listed L R' O') : WE P n ops Q S T U fuel listed L R O := fun a w hf h => c a w hf (hs w h)
theorem WE.done (hr : (Region.ready .any ops listed).isEmpty = true) (h : Q .normal L R O) : WE P n ops Q S T U fuel listed L R O := fun a w hf hs => by
 have hr' := List.isEmpty_iff.1 hr
 have hq := lift_normal h hf hs
 cases fuel with
 | zero => exact ⟨hr', hq⟩
 | succ m => exact ⟨fun _ => hq, fun i hi => by rw [hr'] at hi; cases hi⟩
theorem WC.drawnU {id : Nat} {l : List Oper} (T : List Own) (U : List (Nat × Own)) (m : Nat) (hlen : l.length = m) (hm : P.follows .mixedOrders = true) (h : WE P n l.toArray Q R T U m (Array.replicate m false) L R O) : WC P n (.region id l.toArray true) Q L R O := by
 subst hlen
 intro a w hf hs
 exact wp_region_any hm (wpAny_of_L _ _ _ _ (h a _ hf (hs.drew _)))
end draw
end Go.SL
namespace Go.SL
open Go Go.RowKit
/-- (j - 1) / 2 of int, of none below 0 too. -/
theorem Rd.half {P : Program} {L : Env} {R : List RO} {O : List Own} {o : Oper} {x y : Operand} {t t' : TypeId} {p : Int} {j : Nat} (ho : o.op = .binOp .quo t x y t') (hx : ev L x = some (.int .i64 p)) (hy : ev L y = some (.int .i64 2)) (hp : p = (j : Int) - 1) (hj : j ≤ 9223372036854775807) : Rd P o L R O (.int .i64 (((j - 1) / 2 : Nat) : Int)) := by
 cases j with
 | zero =>
   subst hp
   exact run_bin ho hx hy fun w => by simp [binOp, Op.intDiv]; rfl
 | succ j => exact Rd.quoI (a := j) (b := 2) ho hx hy (by rw [hp]; omega) rfl Z.W Z.W
end Go.SL
namespace Go.SL
open Go Go.RowKit
theorem Rd.sgtr {P : Program} {o : Oper} {L : Env} {R : List RO} {O : List Own} {t t' : TypeId} {x y : Operand} {s r : List UInt8} (ho : o.op = .binOp .gtr t x y t') (hx : ev L x = some (vs s)) (hy : ev L y = some (vs r)) : Rd P o L R O (.bool (decide (r < s))) :=
 run_sbin ho hx hy fun w => by
  have e : (!Op.bytesLess s r && !(s == r)) = decide (r < s) := by
   rw [bless_eq]
   by_cases h1 : s < r
   · have h2 : ¬ r < s := fun h => List.lt_irrefl _ (List.lt_trans h1 h)
     simp [h1, h2]
   · by_cases h3 : s = r
     · subst h3; simp [List.lt_irrefl]
     · have h2 : r < s := Classical.byContradiction fun h => h3 (List.le_antisymm (List.not_lt.1 h) (List.not_lt.1 h1))
       simp [h1, h3, h2]
  rw [← e]; simp [binOp, Op.stringOp]
theorem Rd.sltD {P : Program} {o : Oper} {L : Env} {R : List RO} {O : List Own} {t t' : TypeId} {x y : Operand} {s r : List UInt8} (ho : o.op = .binOp .lss t x y t') (hx : ev L x = some (vs s)) (hy : ev L y = some (vs r)) : Rd P o L R O (.bool (decide (s < r))) :=
 run_sbin ho hx hy fun w => by rw [← bless_eq]; simp [binOp, Op.stringOp]
end Go.SL
namespace Go.Proofs.YtdhcjafemebkcaaGreatDoor.Gr
open Go Go.SL
def ndLt (x y : Nv) : Prop := y.2.2 < x.2.2 ∨ x.2.2 = y.2.2 ∧ x.1 < y.1
instance (x y : Nv) : Decidable (ndLt x y) := by unfold ndLt; infer_instance
theorem tlt_tri (a b : T) : a < b ∨ a = b ∨ b < a := by
 rcases Classical.em (a < b) with h | h
 · exact .inl h
 · rcases Classical.em (b < a) with g | g
   · exact .inr (.inr g)
   · exact .inr (.inl (List.le_antisymm (List.not_lt.1 g) (List.not_lt.1 h)))
theorem ndOrd : Ord ndLt := by
 refine ⟨fun a => ?_, fun a b => ?_, fun a b c => ?_, fun a b c => ?_⟩
 · rintro (h | ⟨_, h⟩)
   · omega
   · exact List.lt_irrefl _ h
 · rintro (h | ⟨h1, h2⟩) (g | ⟨g1, g2⟩)
   · omega
   · omega
   · omega
   · exact List.lt_irrefl _ (List.lt_trans h2 g2)
 · intro h g hh
   unfold ndLt at *
   rcases tlt_tri a.1 b.1 with e | e | e <;> rcases tlt_tri b.1 c.1 with f | f | f <;> rcases hh with hh | ⟨k1, k2⟩
   all_goals first
    | (exfalso; refine h (.inr ⟨?_, e⟩); refine Int.le_antisymm ?_ ?_ <;> refine Int.not_lt.1 fun q => ?_ <;> omega)
    | skip
   all_goals (
    have h1 : ¬ a.2.2 < b.2.2 := fun q => h (.inl q)
    have g1 : ¬ b.2.2 < c.2.2 := fun q => g (.inl q)
    first
     | omega
     | (have e1 : a.2.2 = b.2.2 := by omega
        have e2 : b.2.2 = c.2.2 := by omega
        have h2 : ¬ b.1 < a.1 := fun q => h (.inr ⟨e1.symm, q⟩)
        have g2 : ¬ c.1 < b.1 := fun q => g (.inr ⟨e2.symm, q⟩)
        exact absurd k2 (List.not_lt.2 (List.le_trans (List.not_lt.1 h2) (List.not_lt.1 g2)))))
 · intro h g hh
   unfold ndLt at *
   have g1 : ¬ b.2.2 < c.2.2 := fun q => g (.inl q)
   rcases h with h | ⟨h1, h2⟩ <;> rcases hh with hh | ⟨k1, k2⟩
   · omega
   · omega
   · omega
   · have e2 : b.2.2 = c.2.2 := by omega
     have g2 : ¬ c.1 < b.1 := fun q => g (.inr ⟨e2.symm, q⟩)
     exact g2 (List.lt_trans k2 h2)
def cmpI (a b : Int) : Int := if a < b then -1 else if b < a then 1 else 0
def cmpT (a b : T) : Int := if a < b then -1 else if b < a then 1 else 0
def orI (a b : Int) : Int := if a ≠ 0 then a else b
theorem nd_or (x y : Nv) : orI (cmpI y.2.2 x.2.2) (cmpT x.1 y.1) < 0 ↔ ndLt x y := by
 unfold orI cmpI cmpT ndLt
 by_cases h1 : y.2.2 < x.2.2
 · simp [h1]
 · by_cases h2 : x.2.2 < y.2.2
   · simp [h1, h2]; omega
   · have e : x.2.2 = y.2.2 := by omega
     by_cases h3 : x.1 < y.1
     · simp [e, h3]
     · by_cases h4 : y.1 < x.1
       · simp [e, h3, h4]
       · simp [e, h3, h4]
abbrev accS (v : Value) (xs : List Nv) : Own := accC 29 3 encN v xs
abbrev rowW (br : Nat) (sv : Value) : Own := rowC br 57 [sv]
section
variable {R : List RO} {O O' : List Own} {POST : Value → List RO → List Own → Prop}
set_option maxRecDepth 20000 in
theorem nanI_spec {a : Int} (hk : POST (.bool false) R O) : Fun Tryz.prog 179 #[vi a] R O POST := by
 refine Fun.enter (l := [_]) Tryz.func179 rfl Tryz.ntmps179 rfl (L0 := [(0, _)]) rfl ?_
 refine Z.s1 <| Z.a1 rfl <| Z.q1 <| Z.m1 rfl <| Z.m1 rfl <| Z.r1 rfl (Rd.neq rfl rfl rfl) <| Z.a1 rfl <| Z.n1 ?_
 refine WC.ret (Ret.one Tryz.results179 rfl ?_)
 rw [show decide (a ≠ a) = false from decide_eq_false (fun h => h rfl)]; exact hk
set_option maxRecDepth 20000 in
theorem nanT_spec {a : T} (hk : POST (.bool false) R O) : Fun Tryz.prog 208 #[vs a] R O POST := by
 refine Fun.enter (l := [_]) Tryz.func208 rfl Tryz.ntmps208 rfl (L0 := [(0, _)]) rfl ?_
 refine Z.s1 <| Z.a1 rfl <| Z.q1 <| Z.m1 rfl <| Z.m1 rfl <| Z.r1 rfl (Rd.sneq rfl rfl rfl) <| Z.a1 rfl <| Z.n1 ?_
 refine WC.ret (Ret.one Tryz.results208 rfl ?_)
 rw [show decide (a ≠ a) = false from decide_eq_false (fun h => h rfl)]; exact hk
set_option maxRecDepth 20000 in
theorem cmpI_spec {a b : Int} (hk : POST (vi (cmpI a b)) R O) : Fun Tryz.prog 109 #[vi a, vi b] R O POST := by
 refine Fun.enter (l := [_, _]) Tryz.func109 rfl Tryz.ntmps109 rfl (L0 := [(0, _), (1, _)]) rfl ?_
 refine Z.s1 <| Z.a1 rfl <| Z.q1 <| Z.m1 rfl ?_
 refine WL.op rfl ?_
 refine OpW.call rfl rfl Z.E Z.K rfl rfl rfl ?_
 refine nanI_spec ?_
 refine Z.a1 rfl <| Z.q1 <| Z.m1 rfl ?_
 refine WL.op rfl ?_
 refine OpW.call rfl rfl Z.E Z.K rfl rfl rfl ?_
 refine nanI_spec ?_
 refine Z.a1 rfl <| Z.n1 <| Z.s2 <| Z.m1 rfl <| Z.n1 ?_
 refine WC.cond rfl (fun hc1 => ?_) (fun hc1 => ?_)
 ·
  cases hc1
 ·
  refine WC.skip ?_
  refine thenQ.normal ?_
  refine Z.s2 <| Z.m1 rfl <| Z.n1 ?_
  refine WC.cond rfl (fun hc3 => ?_) (fun hc3 => ?_)
  ·
   cases hc3
  ·
   refine WC.skip ?_
   refine thenQ.normal ?_
   refine Z.s2 <| Z.m1 rfl <| Z.m1 rfl <| Z.r1 rfl (Rd.lss rfl rfl rfl) <| Z.n1 ?_
   refine WC.ite rfl (fun hc4 => ?_) (fun hc4 => ?_)
   ·
    refine Z.s1 <| Z.a1 rfl <| Z.n1 ?_
    refine WC.ret (Ret.one Tryz.results109 rfl ?_)
    unfold cmpI at hk
    first
     | (rw [if_pos hc4] at hk; exact hk)
     | (rw [if_neg hc4, if_pos hc5] at hk; exact hk)
     | (rw [if_neg hc4, if_neg hc5] at hk; exact hk)
   ·
    refine WC.skip ?_
    refine thenQ.normal ?_
    refine Z.s2 <| Z.m1 rfl <| Z.m1 rfl <| Z.r1 rfl (Rd.gtr rfl rfl rfl) <| Z.n1 ?_
    refine WC.ite rfl (fun hc5 => ?_) (fun hc5 => ?_)
    ·
     refine Z.s1 <| Z.a1 rfl <| Z.n1 ?_
     refine WC.ret (Ret.one Tryz.results109 rfl ?_)
     unfold cmpI at hk
     first
      | (rw [if_pos hc4] at hk; exact hk)
      | (rw [if_neg hc4, if_pos hc5] at hk; exact hk)
      | (rw [if_neg hc4, if_neg hc5] at hk; exact hk)
    ·
     refine WC.skip ?_
     refine thenQ.normal ?_
     refine Z.s1 <| Z.a1 rfl <| Z.n1 ?_
     refine WC.ret (Ret.one Tryz.results109 rfl ?_)
     unfold cmpI at hk
     first
      | (rw [if_pos hc4] at hk; exact hk)
      | (rw [if_neg hc4, if_pos hc5] at hk; exact hk)
      | (rw [if_neg hc4, if_neg hc5] at hk; exact hk)
set_option maxRecDepth 20000 in
theorem cmpT_spec {a b : T} (hk : POST (vi (cmpT a b)) R O) : Fun Tryz.prog 420 #[vs a, vs b] R O POST := by
 refine Fun.enter (l := [_, _]) Tryz.func420 rfl Tryz.ntmps420 rfl (L0 := [(0, _), (1, _)]) rfl ?_
 refine Z.s1 <| Z.a1 rfl <| Z.q1 <| Z.m1 rfl ?_
 refine WL.op rfl ?_
 refine OpW.call rfl rfl Z.E Z.K rfl rfl rfl ?_
 refine nanT_spec ?_
 refine Z.a1 rfl <| Z.q1 <| Z.m1 rfl ?_
 refine WL.op rfl ?_
 refine OpW.call rfl rfl Z.E Z.K rfl rfl rfl ?_
 refine nanT_spec ?_
 refine Z.a1 rfl <| Z.n1 <| Z.s2 <| Z.m1 rfl <| Z.n1 ?_
 refine WC.cond rfl (fun hc1 => ?_) (fun hc1 => ?_)
 ·
  cases hc1
 ·
  refine WC.skip ?_
  refine thenQ.normal ?_
  refine Z.s2 <| Z.m1 rfl <| Z.n1 ?_
  refine WC.cond rfl (fun hc3 => ?_) (fun hc3 => ?_)
  ·
   cases hc3
  ·
   refine WC.skip ?_
   refine thenQ.normal ?_
   refine Z.s2 <| Z.m1 rfl <| Z.m1 rfl <| Z.r1 rfl (Rd.sltD rfl rfl rfl) <| Z.n1 ?_
   refine WC.ite rfl (fun hc4 => ?_) (fun hc4 => ?_)
   ·
    refine Z.s1 <| Z.a1 rfl <| Z.n1 ?_
    refine WC.ret (Ret.one Tryz.results420 rfl ?_)
    unfold cmpT at hk
    first
     | (rw [if_pos hc4] at hk; exact hk)
     | (rw [if_neg hc4, if_pos hc5] at hk; exact hk)
     | (rw [if_neg hc4, if_neg hc5] at hk; exact hk)
   ·
    refine WC.skip ?_
    refine thenQ.normal ?_
    refine Z.s2 <| Z.m1 rfl <| Z.m1 rfl <| Z.r1 rfl (Rd.sgtr rfl rfl rfl) <| Z.n1 ?_
    refine WC.ite rfl (fun hc5 => ?_) (fun hc5 => ?_)
    ·
     refine Z.s1 <| Z.a1 rfl <| Z.n1 ?_
     refine WC.ret (Ret.one Tryz.results420 rfl ?_)
     unfold cmpT at hk
     first
      | (rw [if_pos hc4] at hk; exact hk)
      | (rw [if_neg hc4, if_pos hc5] at hk; exact hk)
      | (rw [if_neg hc4, if_neg hc5] at hk; exact hk)
    ·
     refine WC.skip ?_
     refine thenQ.normal ?_
     refine Z.s1 <| Z.a1 rfl <| Z.n1 ?_
     refine WC.ret (Ret.one Tryz.results420 rfl ?_)
     unfold cmpT at hk
     first
      | (rw [if_pos hc4] at hk; exact hk)
      | (rw [if_neg hc4, if_pos hc5] at hk; exact hk)
      | (rw [if_neg hc4, if_neg hc5] at hk; exact hk)
set_option maxRecDepth 20000 in
theorem or_spec {a b : Int} {g : Nat} (hk : POST (vi (orI a b)) R (rowC g 3 [vi a, vi b] :: O)) : Fun Tryz.prog 419 #[.slice (some ⟨g, 0, none⟩) 2 2] R (rowC g 3 [vi a, vi b] :: O) POST := by
 refine Fun.enter (l := [_]) Tryz.func419 rfl Tryz.ntmps419 rfl (L0 := [(0, _)]) rfl ?_
 refine Z.s1 <| Z.a1 rfl <| Z.q1 <| Z.a1 rfl <| Z.n1 <| Z.s2 <| Z.m1 rfl <| Z.r1 rfl (by exact Rd.len rfl rfl Tryz.underlying23) ?_
 refine Z.m1 rfl <| Z.n1 ?_
 refine WC.block ?_
 refine WC.pick [8, 3, 6, 7] Z.P ?_
 refine WC.loop1o 1 (fun (i : Nat) => [(8, vi i)]) (fun (i : Nat) => i ≤ 2 ∧ (0 < i → a = 0) ∧ (1 < i → b = 0)) (fun (i : Nat) => 2 - i) (0) Z.L ?hinv1 (by repeat (first | exact Sub.nil | refine Sub.cons rfl (by rfl) ?_)) (fun _ h => h) ?_
 case hinv1 =>
  exact ⟨by omega, by omega, by omega⟩
 intro i
 rintro ⟨i1, i2, i3⟩
 refine Z.s1 <| Z.r1 rfl (Rd.lss rfl rfl rfl) <| Z.n1 ?_
 refine WC.seq ?_
 refine WC.ite rfl (fun hc1 => ?_) (fun hc1 => ?_)
 ·
  refine WC.skip ?_
  refine thenQ.normal ?_
  refine WC.seq ?_
  refine WC.block ?_
  refine Z.s1 <| Z.r1 rfl (Rd.idxR1 (k := i) rfl S23 rfl rfl rfl Z.W) ?_
  refine Z.r1 rfl (Rd.row1 (off := i) (u := vi (if i = 0 then a else b)) rfl C3 rfl Z.M (by rcases (show i = 0 ∨ i = 1 by omega) with rfl | rfl <;> rfl)) ?_
  refine Z.a1 rfl <| Z.q1 <| Z.m1 rfl <| Z.m1 rfl <| Z.r1 rfl (Rd.neq rfl rfl rfl) <| Z.n1 ?_
  refine WC.ite rfl (fun hc2 => ?_) (fun hc2 => ?_)
  ·
   refine Z.s1 <| Z.m1 rfl <| Z.a1 rfl <| Z.n1 ?_
   refine WC.ret (Ret.one Tryz.results419 rfl ?_)
   rcases (show i = 0 ∨ i = 1 by omega) with rfl | rfl
   · rw [if_pos rfl] at *
     rw [orI, if_pos hc2] at hk; exact hk
   · rw [if_neg Z.W] at *
     rw [orI, if_neg (by rw [i2 Z.W]; simp)] at hk; exact hk
  ·
   refine WC.skip ?_
   refine blockQ.normal ?_
   refine thenQ.normal ?_
   refine WC.region ?_
   refine Z.r1 rfl (Rd.add rfl rfl rfl Z.W) ?_
   refine Z.m1 rfl ?_
   refine WL.nil ?_
   exact loopQ1.mk (i + 1) ⟨by omega, fun _ => by
   rcases (show i = 0 ∨ i = 1 by omega) with rfl | rfl
   · simpa using hc2
   · exact i2 Z.W, fun _ => by
   obtain rfl : i = 1 := by omega
   simpa using hc2⟩ Z.W (by repeat (first | exact Sub.nil | refine Sub.cons rfl (by rfl) ?_)) Z.F
 ·
  refine WC.exit ?_
  refine thenQ.exit ?_
  refine loopQ1.exit ?_
  refine blockQ.exit ?_
  refine thenQ.normal ?_
  refine Z.s1 <| Z.m1 rfl <| Z.a1 rfl <| Z.n1 ?_
  refine WC.ret (Ret.one Tryz.results419 rfl ?_)
  have h2 : i = 2 := by omega
  have hz : orI a b = 0 := by rw [orI, if_neg (by rw [i2 Z.W]; simp), i3 Z.W]
  rw [hz] at hk
  exact hk
end
section
variable {R : List RO} {O O' : List Own} {POST : Value → List RO → List Own → Prop} {xs : List Nv} {sv : Value}
theorem Fun.knowO' {P : Program} {f : FuncId} {args : Array Value} {post : Value → List RO → List Own → Prop} {c : Own} {φ : Prop} (hp : c ∈ O) (hφ : ∀ w, c.pred w → φ) (h : φ → Fun P f args R O post) : Fun P f args R O post := fun w hs => h (hφ w (hs.see hp)) w hs
theorem acc_sub {α : Type} {e : TypeId} {size hi : Nat} {enc : α → List Value} {v : Value} {xs : List α} {w : World} (h : (accC e size enc v xs).pred w) : OneV (subSl v size 0 hi) := by
 rcases h.2 with ⟨rfl, _⟩ | ⟨b, c, cur, rfl, _⟩
 · exact ⟨rfl, rfl⟩
 · rw [subSl0]; exact ⟨rfl, rfl⟩
theorem acc_shape {α : Type} {e : TypeId} {size : Nat} {enc : α → List Value} {v : Value} {xs : List α} {w : World} (h : (accC e size enc v xs).pred w) (h0 : 0 < xs.length) : ∃ g cap, v = .slice (some ⟨g, 0, none⟩) xs.length cap := by
 rcases h.2 with ⟨_, h1⟩ | ⟨b, c, cur, rfl, _⟩
 · omega
 · exact ⟨b, c, rfl⟩
set_option maxRecDepth 20000 in
theorem len_spec (hO : accS sv xs ∈ O) (hk : POST (vi xs.length) R O) : Fun Tryz.prog 416 #[sv] R O POST := by
 refine Fun.enter (l := [_]) Tryz.func416 rfl Tryz.ntmps416 rfl (L0 := [(0, _)]) rfl ?_
 refine Z.s1 <| Z.a1 rfl <| Z.q1 <| Z.m1 rfl <| Z.r1 rfl (Rd.lenA (enc := encN) (xs := xs) rfl rfl Tryz.underlying57 hO) ?_
 refine Z.a1 rfl <| Z.n1 ?_
 refine WC.ret (Ret.one Tryz.results416 rfl ?_)
 exact hk
set_option maxRecDepth 20000 in
theorem less0_spec {i j : Nat} (hO : accS sv xs ∈ O) (hi : i < xs.length) (hj : j < xs.length) (hk : ∀ b, POST (.bool (decide (ndLt xs[i]! xs[j]!))) R (rowC b 3 [vi (cmpI xs[j]!.2.2 xs[i]!.2.2), vi (cmpT xs[i]!.1 xs[j]!.1)] :: O)) : Fun Tryz.prog 417 #[sv, vi i, vi j] R O POST := by
 refine Fun.enter (l := [_, _, _]) Tryz.func417 rfl Tryz.ntmps417 rfl (L0 := [(0, _), (1, _), (2, _)]) rfl ?_
 refine Z.s1 <| Z.a1 rfl <| Z.n1 ?_
 refine WC.seq ?_
 refine WC.drawn (O) 26 rfl mixed ?_
 refine WD.take 0 rfl Z.K Z.H rfl rfl rfl (Rd.move rfl rfl) ?_
 refine WD.take 1 rfl Z.K Z.H rfl rfl rfl (Rd.move rfl rfl) ?_
 refine WD.take 2 rfl Z.K Z.H rfl rfl rfl (Rd.idxA (enc := encN) (xs := xs) (k := j) rfl S57 rfl rfl rfl hO hj) ?_
 refine WD.take 3 rfl Z.K Z.H rfl rfl rfl (Rd.fieldA (enc := encN) (xs := xs) rfl F29_2 rfl hO Z.W) ?_
 refine WD.take 4 rfl Z.K Z.H rfl rfl rfl (Rd.getFA (enc := encN) (size := 3) (xs := xs) (k := j) (f := 2) (a := xs[j]!) (u := vi xs[j]!.2.2) rfl C3 rfl hO (fun x => rfl) Z.W (get!_of_lt hj) rfl) ?_
 refine WD.take 5 rfl Z.K Z.H rfl rfl rfl (Rd.move rfl rfl) ?_
 refine WD.take 6 rfl Z.K Z.H rfl rfl rfl (Rd.move rfl rfl) ?_
 refine WD.take 7 rfl Z.K Z.H rfl rfl rfl (Rd.idxA (enc := encN) (xs := xs) (k := i) rfl S57 rfl rfl rfl hO hi) ?_
 refine WD.take 8 rfl Z.K Z.H rfl rfl rfl (Rd.fieldA (enc := encN) (xs := xs) rfl F29_2 rfl hO Z.W) ?_
 refine WD.take 9 rfl Z.K Z.H rfl rfl rfl (Rd.getFA (enc := encN) (size := 3) (xs := xs) (k := i) (f := 2) (a := xs[i]!) (u := vi xs[i]!.2.2) rfl C3 rfl hO (fun x => rfl) Z.W (get!_of_lt hi) rfl) ?_
 refine WD.take 11 rfl Z.K Z.H rfl rfl rfl (Rd.move rfl rfl) ?_
 refine WD.take 12 rfl Z.K Z.H rfl rfl rfl (Rd.move rfl rfl) ?_
 refine WD.take 13 rfl Z.K Z.H rfl rfl rfl (Rd.idxA (enc := encN) (xs := xs) (k := i) rfl S57 rfl rfl rfl hO hi) ?_
 refine WD.take 14 rfl Z.K Z.H rfl rfl rfl (Rd.fieldA (enc := encN) (xs := xs) rfl F29_0 rfl hO Z.W) ?_
 refine WD.take 15 rfl Z.K Z.H rfl rfl rfl (Rd.getFA (enc := encN) (size := 3) (xs := xs) (k := i) (f := 0) (a := xs[i]!) (u := vs xs[i]!.1) rfl C9 rfl hO (fun x => rfl) Z.W (get!_of_lt hi) rfl) ?_
 refine WD.take 16 rfl Z.K Z.H rfl rfl rfl (Rd.move rfl rfl) ?_
 refine WD.take 17 rfl Z.K Z.H rfl rfl rfl (Rd.move rfl rfl) ?_
 refine WD.take 18 rfl Z.K Z.H rfl rfl rfl (Rd.idxA (enc := encN) (xs := xs) (k := j) rfl S57 rfl rfl rfl hO hj) ?_
 refine WD.take 19 rfl Z.K Z.H rfl rfl rfl (Rd.fieldA (enc := encN) (xs := xs) rfl F29_0 rfl hO Z.W) ?_
 refine WD.take 20 rfl Z.K Z.H rfl rfl rfl (Rd.getFA (enc := encN) (size := 3) (xs := xs) (k := j) (f := 0) (a := xs[j]!) (u := vs xs[j]!.1) rfl C9 rfl hO (fun x => rfl) Z.W (get!_of_lt hj) rfl) ?_
 refine WD.one 10 rfl Z.K rfl ?_
 refine OpW.call rfl rfl Z.E Z.K rfl rfl rfl ?_
 refine cmpI_spec ?_
 refine ⟨Z.H, ?_⟩
 refine WD.one 21 rfl Z.K rfl ?_
 refine OpW.call rfl rfl Z.E Z.K rfl rfl rfl ?_
 refine cmpT_spec ?_
 refine ⟨Z.H, ?_⟩
 refine WD.one 22 rfl Z.K rfl ?_
 refine OpW.buildSl (ps := [(0, _), (1, _)]) rfl S23 Z.E rfl rfl Z.C Z.K rfl rfl rfl ?_; intro b29
 refine ⟨Z.H, ?_⟩
 refine WD.one 23 rfl Z.K rfl ?_
 refine OpW.call rfl rfl Z.E Z.K rfl rfl rfl ?_
 refine or_spec ?_
 refine ⟨Z.H, ?_⟩
 refine WD.take 24 rfl Z.K Z.H rfl rfl rfl (Rd.lss rfl rfl rfl) ?_
 refine WD.say 31 (u := .bool (decide (ndLt xs[i]! xs[j]!))) rfl (by rw [decide_eq_decide.2 (nd_or xs[i]! xs[j]!)]) ?_
 refine WD.take 25 rfl Z.K Z.H rfl rfl rfl (Rd.assign rfl rfl) ?_
 refine WD.done Z.K ?_
 refine thenQ.normal ?_
 refine WC.ret (Ret.one Tryz.results417 rfl ?_)
 exact hk _
theorem less_spec {i j : Nat} (hO : accS sv xs ∈ O) (hi : i < xs.length) (hj : j < xs.length) (hk : POST (.bool (decide (ndLt xs[i]! xs[j]!))) R O) : Fun Tryz.prog 417 #[sv, vi i, vi j] R O POST := by
 refine Fun.thin (post' := fun v R' O' => v = .bool (decide (ndLt xs[i]! xs[j]!)) ∧ R' = R ∧ ∃ b, O' = rowC b 3 [vi (cmpI xs[j]!.2.2 xs[i]!.2.2), vi (cmpT xs[i]!.1 xs[j]!.1)] :: O) (less0_spec hO hi hj fun b => ⟨rfl, rfl, b, rfl⟩) ?_
 rintro v R' O' ⟨rfl, rfl, b, rfl⟩
 exact ⟨_, _, hk, fun w h => h.drop⟩
set_option maxRecDepth 20000 in
theorem swap0_spec {i j : Nat} (hi : i < xs.length) (hj : j < xs.length) (hk : POST (.tuple #[]) R (accS sv (swapL xs i j) :: O)) : Fun Tryz.prog 418 #[sv, vi i, vi j] R (accS sv xs :: O) POST := by
 refine Fun.knowO' (c := accS sv xs) List.mem_cons_self (fun w h => acc_shape h Z.W) fun hone => ?_
 obtain ⟨g, cap, rfl⟩ := hone
 refine Fun.enter (l := [_, _, _]) Tryz.func418 rfl Tryz.ntmps418 rfl (L0 := [(0, _), (1, _), (2, _)]) rfl ?_
 refine WC.drawnU (O) ([(13, accS (.slice (some ⟨g, 0, none⟩) xs.length cap) xs)]) 16 rfl mixed ?_
 refine WE.take 0 [] rfl Z.K (by repeat (first | exact List.Sublist.refl _ | exact List.nil_sublist _ | apply List.Sublist.cons_cons | apply List.Sublist.cons)) (HeldL.mk2 [accS (.slice (some ⟨g, 0, none⟩) xs.length cap) xs] Z.K Z.S Z.O (by repeat (first | exact Mems.nil | refine Mems.cons Z.M ?_))) rfl rfl rfl (Rd.move rfl rfl) ?_
 refine WE.take 1 [] rfl Z.K (by repeat (first | exact List.Sublist.refl _ | exact List.nil_sublist _ | apply List.Sublist.cons_cons | apply List.Sublist.cons)) (HeldL.mk2 [accS (.slice (some ⟨g, 0, none⟩) xs.length cap) xs] Z.K Z.S Z.O (by repeat (first | exact Mems.nil | refine Mems.cons Z.M ?_))) rfl rfl rfl (Rd.move rfl rfl) ?_
 refine WE.take 2 [] rfl Z.K (by repeat (first | exact List.Sublist.refl _ | exact List.nil_sublist _ | apply List.Sublist.cons_cons | apply List.Sublist.cons)) (HeldL.mk2 [accS (.slice (some ⟨g, 0, none⟩) xs.length cap) xs] Z.K Z.S Z.O (by repeat (first | exact Mems.nil | refine Mems.cons Z.M ?_))) rfl rfl rfl (Rd.move rfl rfl) ?_
 refine WE.take 3 [] rfl Z.K (by repeat (first | exact List.Sublist.refl _ | exact List.nil_sublist _ | apply List.Sublist.cons_cons | apply List.Sublist.cons)) (HeldL.mk2 [accS (.slice (some ⟨g, 0, none⟩) xs.length cap) xs] Z.K Z.S Z.O (by repeat (first | exact Mems.nil | refine Mems.cons Z.M ?_))) rfl rfl rfl (Rd.move rfl rfl) ?_
 refine WE.take 4 [] rfl Z.K (by repeat (first | exact List.Sublist.refl _ | exact List.nil_sublist _ | apply List.Sublist.cons_cons | apply List.Sublist.cons)) (HeldL.mk2 [accS (.slice (some ⟨g, 0, none⟩) xs.length cap) xs] Z.K Z.S Z.O (by repeat (first | exact Mems.nil | refine Mems.cons Z.M ?_))) rfl rfl rfl (Rd.move rfl rfl) ?_
 refine WE.take 5 [] rfl Z.K (by repeat (first | exact List.Sublist.refl _ | exact List.nil_sublist _ | apply List.Sublist.cons_cons | apply List.Sublist.cons)) (HeldL.mk2 [accS (.slice (some ⟨g, 0, none⟩) xs.length cap) xs] Z.K Z.S Z.O (by repeat (first | exact Mems.nil | refine Mems.cons Z.M ?_))) rfl rfl rfl (Rd.move rfl rfl) ?_
 refine WE.take 6 [] rfl Z.K (by repeat (first | exact List.Sublist.refl _ | exact List.nil_sublist _ | apply List.Sublist.cons_cons | apply List.Sublist.cons)) (HeldL.mk2 [accS (.slice (some ⟨g, 0, none⟩) xs.length cap) xs] Z.K Z.S Z.O (by repeat (first | exact Mems.nil | refine Mems.cons Z.M ?_))) rfl rfl rfl (Rd.idxR (k := j) rfl S57 rfl rfl rfl Z.W) ?_
 refine WE.take 7 [(13, accS (.slice (some ⟨g, 0, none⟩) xs.length cap) xs)] rfl Z.K (by repeat (first | exact List.Sublist.refl _ | exact List.nil_sublist _ | apply List.Sublist.cons_cons | apply List.Sublist.cons)) (HeldL.mk2 [accS (.slice (some ⟨g, 0, none⟩) xs.length cap) xs] Z.K Z.S Z.O (by repeat (first | exact Mems.nil | refine Mems.cons Z.M ?_))) rfl rfl rfl (Rd.getSA (enc := encN) (size := 3) (xs := xs) (k := j) (a := xs[j]!) (cs := encN xs[j]!) rfl G29 rfl Z.M (fun x => rfl) (get!_of_lt hj) (NF.refl _)) ?_
 refine WE.take 8 [] rfl Z.K (by repeat (first | exact List.Sublist.refl _ | exact List.nil_sublist _ | apply List.Sublist.cons_cons | apply List.Sublist.cons)) (HeldL.mk2 [accS (.slice (some ⟨g, 0, none⟩) xs.length cap) xs] Z.K Z.S Z.O (by repeat (first | exact Mems.nil | refine Mems.cons Z.M ?_))) rfl rfl rfl (Rd.move rfl rfl) ?_
 refine WE.take 9 [] rfl Z.K (by repeat (first | exact List.Sublist.refl _ | exact List.nil_sublist _ | apply List.Sublist.cons_cons | apply List.Sublist.cons)) (HeldL.mk2 [accS (.slice (some ⟨g, 0, none⟩) xs.length cap) xs] Z.K Z.S Z.O (by repeat (first | exact Mems.nil | refine Mems.cons Z.M ?_))) rfl rfl rfl (Rd.move rfl rfl) ?_
 refine WE.take 10 [] rfl Z.K (by repeat (first | exact List.Sublist.refl _ | exact List.nil_sublist _ | apply List.Sublist.cons_cons | apply List.Sublist.cons)) (HeldL.mk2 [accS (.slice (some ⟨g, 0, none⟩) xs.length cap) xs] Z.K Z.S Z.O (by repeat (first | exact Mems.nil | refine Mems.cons Z.M ?_))) rfl rfl rfl (Rd.idxR (k := i) rfl S57 rfl rfl rfl Z.W) ?_
 refine WE.take 11 [(13, accS (.slice (some ⟨g, 0, none⟩) xs.length cap) xs)] rfl Z.K (by repeat (first | exact List.Sublist.refl _ | exact List.nil_sublist _ | apply List.Sublist.cons_cons | apply List.Sublist.cons)) (HeldL.mk2 [accS (.slice (some ⟨g, 0, none⟩) xs.length cap) xs] Z.K Z.S Z.O (by repeat (first | exact Mems.nil | refine Mems.cons Z.M ?_))) rfl rfl rfl (Rd.getSA (enc := encN) (size := 3) (xs := xs) (k := i) (a := xs[i]!) (cs := encN xs[i]!) rfl G29 rfl Z.M (fun x => rfl) (get!_of_lt hi) (NF.refl _)) ?_
 refine WE.take 12 [] rfl Z.K (by repeat (first | exact List.Sublist.refl _ | exact List.nil_sublist _ | apply List.Sublist.cons_cons | apply List.Sublist.cons)) (HeldL.mk2 [accS (.slice (some ⟨g, 0, none⟩) xs.length cap) xs] Z.K Z.S Z.O (by repeat (first | exact Mems.nil | refine Mems.cons Z.M ?_))) rfl rfl rfl (Rd.idxR (k := i) rfl S57 rfl rfl rfl Z.W) ?_
 refine WE.one 13 rfl Z.K rfl ?_
 refine OpW.storeAccS (enc := encN) (k := i) (a := xs[j]!) rfl G29 rfl rfl rfl (fun x => rfl) rfl Z.T Z.W rfl ?_
 refine ⟨(HeldL.mk2 [] Z.K Z.S Z.O (by repeat (first | exact Mems.nil | refine Mems.cons Z.M ?_))), ?_⟩
 refine WE.take 14 [] rfl Z.K (by repeat (first | exact List.Sublist.refl _ | exact List.nil_sublist _ | apply List.Sublist.cons_cons | apply List.Sublist.cons)) (HeldL.mk2 [] Z.K Z.S Z.O (by repeat (first | exact Mems.nil | refine Mems.cons Z.M ?_))) rfl rfl rfl (Rd.idxR (k := j) rfl S57 rfl rfl rfl Z.W) ?_
 refine WE.one 15 rfl Z.K rfl ?_
 refine OpW.storeAccS (enc := encN) (k := j) (a := xs[i]!) rfl G29 rfl rfl rfl (fun x => rfl) rfl Z.T (by rw [List.length_set]; omega) rfl ?_
 refine ⟨(HeldL.mk2 [] Z.K Z.S Z.O (by repeat (first | exact Mems.nil | refine Mems.cons Z.M ?_))), ?_⟩
 refine WE.done Z.K ?_
 refine Ret.normal (Ret.zero Tryz.results418 ?_)
 exact hk
theorem swap_spec {i j : Nat} (hO : Take (accS sv xs) O O') (hi : i < xs.length) (hj : j < xs.length) (hk : POST (.tuple #[]) R (accS sv (swapL xs i j) :: O')) : Fun Tryz.prog 418 #[sv, vi i, vi j] R O POST :=
 Fun.heap (fun w h => h.perm hO.perm) (swap0_spec hi hj hk)
abbrev sptr (b : Nat) : Value := .pointer (some ⟨b, 0, none⟩)
abbrev ifv (b : Nat) : Value := .iface 59 (sptr b)
theorem mLen {br : Nat} (hO : rowW br sv ∈ O) : Meth Tryz.prog R O 59 (sptr br) "Len" 416 sv := Meth.row Z.K Tryz.underlying59 C57 hO rfl
theorem mLess {br : Nat} (hO : rowW br sv ∈ O) : Meth Tryz.prog R O 59 (sptr br) "Less" 417 sv := Meth.row Z.K Tryz.underlying59 C57 hO rfl
theorem mSwap {br : Nat} (hO : rowW br sv ∈ O) : Meth Tryz.prog R O 59 (sptr br) "Swap" 418 sv := Meth.row Z.K Tryz.underlying59 C57 hO rfl
theorem mPush {br : Nat} : Meth Tryz.prog R O 59 (sptr br) "Push" 422 (sptr br) := Meth.ptr Z.K Tryz.underlying59
theorem mPop {br : Nat} : Meth Tryz.prog R O 59 (sptr br) "Pop" 421 (sptr br) := Meth.ptr Z.K Tryz.underlying59
abbrev spv (s : Nv) : Value := .iface 29 (ndV s)
set_option maxRecDepth 20000 in
theorem push_spec {br : Nat} {x : Nv} (hlen : xs.length ≤ 1000000) (hk : ∀ sv', POST (.tuple #[]) R (rowW br sv' :: accS sv' (xs ++ [x]) :: O)) :
 Fun Tryz.prog 422 #[sptr br, spv x] R (rowW br sv :: accS sv xs :: O) POST := by
 refine Fun.enter (l := [_, _]) Tryz.func422 rfl Tryz.ntmps422 rfl (L0 := [(0, _), (1, _)]) rfl ?_
 refine WC.drawnU (O) ([(9, rowW br sv)]) 10 rfl mixed ?_
 refine WE.take 0 [] rfl Z.K (by repeat (first | exact List.Sublist.refl _ | exact List.nil_sublist _ | apply List.Sublist.cons_cons | apply List.Sublist.cons)) (HeldL.mk2 [rowW br sv] Z.K Z.S Z.O (by repeat (first | exact Mems.nil | refine Mems.cons Z.M ?_))) rfl rfl rfl (Rd.move rfl rfl) ?_
 refine WE.take 1 [] rfl Z.K (by repeat (first | exact List.Sublist.refl _ | exact List.nil_sublist _ | apply List.Sublist.cons_cons | apply List.Sublist.cons)) (HeldL.mk2 [rowW br sv] Z.K Z.S Z.O (by repeat (first | exact Mems.nil | refine Mems.cons Z.M ?_))) rfl rfl rfl (Rd.move rfl rfl) ?_
 refine WE.take 2 [] rfl Z.K (by repeat (first | exact List.Sublist.refl _ | exact List.nil_sublist _ | apply List.Sublist.cons_cons | apply List.Sublist.cons)) (HeldL.mk2 [rowW br sv] Z.K Z.S Z.O (by repeat (first | exact Mems.nil | refine Mems.cons Z.M ?_))) rfl rfl rfl (Rd.nilc rfl rfl) ?_
 refine WE.take 3 [(9, rowW br sv)] rfl Z.K (by repeat (first | exact List.Sublist.refl _ | exact List.nil_sublist _ | apply List.Sublist.cons_cons | apply List.Sublist.cons)) (HeldL.mk2 [rowW br sv] Z.K Z.S Z.O (by repeat (first | exact Mems.nil | refine Mems.cons Z.M ?_))) rfl rfl rfl (Rd.row1 (b := br) (off := 0) (u := sv) rfl C57 rfl Z.M rfl) ?_
 refine WE.take 4 [] rfl Z.K (by repeat (first | exact List.Sublist.refl _ | exact List.nil_sublist _ | apply List.Sublist.cons_cons | apply List.Sublist.cons)) (HeldL.mk2 [rowW br sv] Z.K Z.S Z.O (by repeat (first | exact Mems.nil | refine Mems.cons Z.M ?_))) rfl rfl rfl (Rd.move rfl rfl) ?_
 refine WE.take 5 [] rfl Z.K (by repeat (first | exact List.Sublist.refl _ | exact List.nil_sublist _ | apply List.Sublist.cons_cons | apply List.Sublist.cons)) (HeldL.mk2 [rowW br sv] Z.K Z.S Z.O (by repeat (first | exact Mems.nil | refine Mems.cons Z.M ?_))) rfl rfl rfl (Rd.assertT rfl Tryz.underlying29 rfl rfl) ?_
 refine WE.one 6 rfl Z.K rfl ?_
 refine OpW.buildSl (ps := [(0, _)]) rfl S57 Z.E rfl rfl Z.C Z.K rfl rfl rfl ?_; intro b10
 refine ⟨(HeldL.mk2 [rowW br sv] Z.K Z.S Z.O (by repeat (first | exact Mems.nil | refine Mems.cons Z.M ?_))), ?_⟩
 refine WE.one 7 rfl Z.K rfl ?_
 refine OpW.appendRow (enc := encN) rfl S57 rfl rfl Z.T Z.T [x] rfl (by rfl) rfl (by intro x; rfl) (by intro x; rfl) (by exact ⟨by simp only [maxLen, List.length_append, List.length_nil, List.length_cons, List.length_drop, List.length_take, List.length_map]; omega, by omega⟩) rfl rfl ?_; intro v11 hv11
 refine ⟨(HeldL.mk2 [rowW br sv] Z.K Z.S Z.O (by repeat (first | exact Mems.nil | refine Mems.cons Z.M ?_))), ?_⟩
 refine WE.take 8 [] rfl Z.K (by repeat (first | exact List.Sublist.refl _ | exact List.nil_sublist _ | apply List.Sublist.cons_cons | apply List.Sublist.cons)) (HeldL.mk2 [rowW br sv] Z.K Z.S Z.O (by repeat (first | exact Mems.nil | refine Mems.cons Z.M ?_))) rfl rfl rfl (Rd.nilc rfl rfl) ?_
 refine WE.one 9 rfl Z.K rfl ?_
 refine OpW.store1 rfl Z57 rfl rfl (by assumption) Z.T (by (simp; done)) rfl ?_
 refine ⟨(HeldL.mk2 [] Z.K Z.S Z.O (by repeat (first | exact Mems.nil | refine Mems.cons Z.M ?_))), ?_⟩
 refine WE.done Z.K ?_
 refine Ret.normal (Ret.zero Tryz.results422 ?_)
 exact hk _
set_option maxRecDepth 20000 in
theorem pop_spec {br : Nat} (hlen : xs.length ≤ 1000000) (h0 : 0 < xs.length) (hk : ∀ sv', POST (spv xs[xs.length - 1]!) R (rowW br sv' :: accS sv' (xs.take (xs.length - 1)) :: O)) :
 Fun Tryz.prog 421 #[sptr br] R (rowW br sv :: accS sv xs :: O) POST := by
 refine Fun.knowO' (c := accS sv xs) (List.mem_cons_of_mem _ List.mem_cons_self) (fun w h => acc_sub (hi := xs.length - 1) h) fun hone => ?_
 refine Fun.enter (l := [_]) Tryz.func421 rfl Tryz.ntmps421 rfl (L0 := [(0, _)]) rfl ?_
 refine Z.s1 <| Z.a1 rfl <| Z.n1 ?_
 refine WC.seq ?_
 refine WC.drawn (rowW br sv :: accS sv xs :: O) 12 rfl mixed ?_
 refine WD.take 0 rfl Z.K Z.H rfl rfl rfl (Rd.move rfl rfl) ?_
 refine WD.take 1 rfl Z.K Z.H rfl rfl rfl (Rd.nilc rfl rfl) ?_
 refine WD.take 2 rfl Z.K Z.H rfl rfl rfl (Rd.row1 (b := br) (off := 0) (u := sv) rfl C57 rfl Z.M rfl) ?_
 refine WD.take 3 rfl Z.K Z.H rfl rfl rfl (Rd.move rfl rfl) ?_
 refine WD.take 4 rfl Z.K Z.H rfl rfl rfl (Rd.nilc rfl rfl) ?_
 refine WD.take 5 rfl Z.K Z.H rfl rfl rfl (Rd.row1 (b := br) (off := 0) (u := sv) rfl C57 rfl Z.M rfl) ?_
 refine WD.take 6 rfl Z.K Z.H rfl rfl rfl (Rd.lenA (enc := encN) (xs := xs) rfl rfl Tryz.underlying57 Z.M) ?_
 refine WD.take 7 rfl Z.K Z.H rfl rfl rfl (Rd.sub rfl rfl rfl Z.W) ?_
 refine WD.take 8 rfl Z.K Z.H rfl rfl rfl ((by exact Rd.idxA (k := xs.length - 1) rfl S57 rfl rfl Z.W Z.M Z.W)) ?_
 refine WD.take 9 rfl Z.K Z.H rfl rfl rfl (Rd.getSA (enc := encN) (size := 3) (xs := xs) (k := xs.length - 1) (a := xs[xs.length - 1]!) (cs := encN xs[xs.length - 1]!) rfl G29 rfl Z.M (fun x => rfl) (get!_of_lt Z.W) (NF.refl _)) ?_
 refine WD.one 10 rfl Z.K rfl ?_
 refine OpW.alloc rfl I29 rfl Z.N rfl rfl ?_; intro b3
 refine ⟨Z.H, ?_⟩
 refine WD.one 11 rfl Z.K rfl ?_
 refine OpW.storeS rfl G29 rfl rfl Z.N Z.T rfl rfl Z.N rfl ?_
 refine ⟨Z.H, ?_⟩
 refine WD.done Z.K ?_
 refine thenQ.normal ?_
 refine WC.seq ?_
 refine WC.tail 11 mixed Z.K ?_
 refine Z.d1 rfl (Rd.move rfl rfl) <| Z.d1 rfl (Rd.move rfl rfl) <| Z.d1 rfl (Rd.nilc rfl rfl) <| Z.d1 rfl (Rd.row1 (b := br) (off := 0) (u := sv) rfl C57 rfl Z.M rfl) ?_
 refine Z.d1 rfl (Rd.move rfl rfl) <| Z.d1 rfl (Rd.nilc rfl rfl) <| Z.d1 rfl (Rd.row1 (b := br) (off := 0) (u := sv) rfl C57 rfl Z.M rfl) ?_
 refine Z.d1 rfl (Rd.lenA (enc := encN) (xs := xs) rfl rfl Tryz.underlying57 Z.M) ?_
 refine Z.d1 rfl (Rd.sub rfl rfl rfl Z.W) ?_
 refine Z.d1 rfl (Rd.cutA_h (enc := encN) (xs := xs) (hi := xs.length - 1) rfl S57 rfl rfl Z.W Z.M Z.W) ?_
 refine Z.d1 rfl (Rd.nilc rfl rfl) ?_
 refine WS.switch ?_
 refine WL.op rfl ?_
 refine OpW.store1 (b := br) (off := 0) rfl Z57 rfl rfl hone Z.T (by simp) rfl ?_
 refine Z.q1 <| Z.r1 rfl (by exact Rd.rowS rfl G29 rfl Z.M Z.N rfl) ?_
 refine Z.r1 rfl (Rd.iface rfl Tryz.underlying29 rfl rfl) ?_
 refine WL.heap (fun w h => Sat.cutAcc (e := 29) (enc := encN) (v := sv) (xs := xs) (hi := xs.length - 1) Z.T (fun x => rfl) Z.W h) ?_
 refine WL.heap (R' := R) (O' := rowW br (subSl sv 3 0 (xs.length - 1)) :: accS (subSl sv 3 0 (xs.length - 1)) (xs.take (xs.length - 1)) :: O) Z.F ?_
 refine Z.a1 rfl <| Z.n1 ?_
 refine WC.ret (Ret.one Tryz.results421 rfl ?_)
 exact hk _
end
section
variable {R : List RO} {O O' : List Own} {POST : Value → List RO → List Own → Prop} {xs : List Nv} {sv : Value} {br : Nat}
set_option maxRecDepth 20000 in
theorem up_spec {j : Nat} (hlen : xs.length ≤ 1000000) (hU : Up ndLt xs j) (hk : ∀ ys, ys.Perm xs → Hp ndLt ys → POST (.tuple #[]) R (rowW br sv :: accS sv ys :: O)) :
 Fun Tryz.prog 41 #[ifv br, vi j] R (rowW br sv :: accS sv xs :: O) POST := by
 have hjl := hU.1
 refine Fun.enter (l := [_, _]) Tryz.func41 rfl Tryz.ntmps41 rfl (L0 := [(0, _), (1, _)]) rfl ?_
 refine WC.block ?_
 refine WC.pick [1, 0] Z.P ?_
 refine WC.loop2 1 (fun (i : Nat) (ys : List Nv) => [(1, vi i)]) (fun (i : Nat) (ys : List Nv) => rowW br sv :: accS sv ys :: O) (fun (i : Nat) (ys : List Nv) => Up ndLt ys i ∧ ys.Perm xs ∧ i < ys.length ∧ ys.length = xs.length) (fun (i : Nat) (ys : List Nv) => i) (j) (xs) Z.L ?hinv1 (by repeat (first | exact Sub.nil | refine Sub.cons rfl (by rfl) ?_)) (fun _ h => h) ?_
 case hinv1 =>
  exact ⟨hU, List.Perm.refl _, hjl, rfl⟩
 intro i ys
 rintro ⟨i1, i2, i3, i4⟩
 refine WC.block ?_
 refine Z.s1 <| Z.m1 rfl <| Z.r1 rfl (Rd.sub rfl rfl rfl Z.W) ?_
 refine Z.r1 rfl (Rd.half (j := i) rfl rfl rfl Z.W Z.W) ?_
 refine Z.a1 rfl <| Z.n1 ?_
 refine WC.seq ?_
 refine WC.pick [0, 1, 4] Z.P ?_
 refine WC.val 17 (.bool (decide (¬ (0 < i ∧ ndLt ys[i]! ys[(i - 1) / 2]!)))) ?_ ?_
 ·
  refine WC.region ?_
  refine Z.m1 rfl <| Z.m1 rfl <| Z.r1 rfl (Rd.eql rfl rfl rfl) <| Z.m1 rfl ?_
  refine WL.case 11 rfl (fun hg11 => ?_) (fun hg11 => ?_)
  ·
   refine Z.o1 rfl <| Z.o1 rfl <| Z.o1 rfl <| Z.o1 rfl <| Z.o1 rfl <| Z.r1 rfl (Rd.pick_t rfl rfl rfl) ?_
   refine WL.nil ?_
   exact ⟨by repeat (first | exact Sub.nil | refine Sub.cons rfl (by first | rfl | (exact vb_t (fun h => by omega))) ?_), by exact (fun _ h => h.thin (SubL.mem Z.S))⟩
  ·
   refine Z.y1 rfl (Rd.move rfl rfl) <| Z.y1 rfl (Rd.move rfl rfl) <| Z.y1 rfl (Rd.move rfl rfl) ?_
   refine WL.op_yes rfl rfl rfl rfl ?_
   refine OpW.invoke rfl rfl Z.E (mLess Z.M) Z.K rfl rfl ?_; refine less_spec (xs := ys) (i := i) (j := (i - 1) / 2) Z.M Z.W Z.W ?_
   refine Z.y1 rfl (by exact Rd.notd rfl rfl) ?_
   refine Z.r1 rfl (Rd.pick_f rfl rfl rfl) ?_
   refine WL.nil ?_
   exact ⟨by repeat (first | exact Sub.nil | refine Sub.cons rfl (by first | rfl | (exact vb ⟨fun h g => h g.2, fun h g => h ⟨by omega, g⟩⟩)) ?_), by exact (fun _ h => h.thin (SubL.mem Z.S))⟩
 ·
  refine WC.ite rfl (fun hc1 => ?_) (fun hc1 => ?_)
  ·
   refine WC.exit ?_
   refine thenQ.exit ?_
   refine blockQ.pass rfl ?_
   refine loopQ2.exit ?_
   refine blockQ.exit ?_
   refine Ret.normal (Ret.zero Tryz.results41 ?_)
   exact hk ys i2 (i1.done (by rcases Nat.eq_zero_or_pos i with h | h; exact .inl h; exact .inr (fun g => hc1 ⟨h, g⟩)))
  ·
   obtain ⟨h0, hlt⟩ := Decidable.not_not.1 hc1
   refine WC.skip ?_
   refine thenQ.normal ?_
   refine Z.s1 <| Z.m1 rfl <| Z.m1 rfl <| Z.m1 rfl ?_
   refine WL.op rfl ?_
   refine OpW.invoke rfl rfl Z.E (mSwap Z.M) Z.K rfl rfl ?_; refine swap_spec (xs := ys) (i := (i - 1) / 2) (j := i) Z.T Z.W Z.W ?_
   refine Z.g1 <| Z.m1 rfl <| Z.a1 rfl ?_
   refine WL.nil ?_
   refine blockQ.normal ?_
   exact loopQ2.mk ((i - 1) / 2) (swapL ys ((i - 1) / 2) i) ⟨i1.step ndOrd h0 hlt, (swapL_perm Z.W Z.W).trans i2, by rw [swapL_len]; omega, by rw [swapL_len]; exact i4⟩ Z.W (by repeat (first | exact Sub.nil | refine Sub.cons rfl (by rfl) ?_)) Z.F
set_option maxRecDepth 20000 in
theorem down_spec {n : Nat} (hlen : xs.length ≤ 1000000) (hD : Dn ndLt xs 0 n) (hk : ∀ b ys, ys.Perm xs → ys.drop n = xs.drop n → Hp ndLt (ys.take n) → POST (.bool b) R (rowW br sv :: accS sv ys :: O)) :
 Fun Tryz.prog 42 #[ifv br, vi 0, vi n] R (rowW br sv :: accS sv xs :: O) POST := by
 have hn := hD.1
 refine Fun.enter (l := [_, _, _]) Tryz.func42 rfl Tryz.ntmps42 rfl (L0 := [(0, _), (1, _), (2, _)]) rfl ?_
 refine Z.s1 <| Z.a1 rfl <| Z.q1 <| Z.m1 rfl <| Z.a1 rfl <| Z.n1 ?_
 refine WC.seq ?_
 refine WC.block ?_
 refine WC.pick [7, 0, 1, 2] Z.P ?_
 refine WC.loop2 1 (fun (i : Nat) (ys : List Nv) => [(7, vi i)]) (fun (i : Nat) (ys : List Nv) => rowW br sv :: accS sv ys :: O) (fun (i : Nat) (ys : List Nv) => Dn ndLt ys i n ∧ ys.Perm xs ∧ ys.drop n = xs.drop n ∧ ys.length = xs.length ∧ i ≤ n) (fun (i : Nat) (ys : List Nv) => n - i) (0) (xs) Z.L ?hinv1 (by repeat (first | exact Sub.nil | refine Sub.cons rfl (by rfl) ?_)) (fun _ h => h) ?_
 case hinv1 =>
  exact ⟨hD, List.Perm.refl _, rfl, rfl, Nat.zero_le _⟩
 intro i ys
 rintro ⟨i1, i2, i3, i4, i5⟩
 refine WC.block ?_
 refine Z.s1 <| Z.m1 rfl <| Z.r1 rfl (Rd.mul rfl rfl rfl Z.W) ?_
 refine Z.r1 rfl (Rd.add rfl rfl rfl Z.W) ?_
 refine Z.a1 rfl <| Z.n1 <| Z.s2 <| Z.m1 rfl <| Z.m1 rfl <| Z.r1 rfl (Rd.geq rfl rfl rfl) <| Z.m1 rfl ?_
 refine WL.case 18 rfl (fun hg18 => ?_) (fun hg18 => ?_)
 ·
  have hdone : Hp ndLt (ys.take n) := i1.done (fun c c0 cn ce => by omega)
  refine Z.o1 rfl <| Z.o1 rfl <| Z.r1 rfl (Rd.pick_t rfl rfl rfl) <| Z.n1 ?_
  refine WC.yes rfl ?_
  refine WC.exit ?_
  refine thenQ.exit ?_
  refine blockQ.pass rfl ?_
  refine loopQ2.exit ?_
  refine blockQ.exit ?_
  refine thenQ.normal ?_
  refine Z.s1 <| Z.m1 rfl <| Z.m1 rfl <| Z.r1 rfl (Rd.gtr rfl rfl rfl) <| Z.a1 rfl <| Z.n1 ?_
  refine WC.ret (Ret.one Tryz.results42 rfl ?_)
  exact hk _ ys i2 i3 hdone
 ·
  refine Z.y1 rfl (Rd.move rfl rfl) <| Z.y1 rfl (Rd.lss rfl rfl rfl) <| Z.r1 rfl (Rd.pick_f rfl rfl rfl) <| Z.n1 ?_
  refine WC.ite rfl (fun hc1 => ?_) (fun hc1 => ?_)
  ·
   exfalso; omega
  ·
   refine WC.skip ?_
   refine thenQ.normal ?_
   refine Z.s1 <| Z.m1 rfl <| Z.a1 rfl <| Z.n1 <| Z.s2 <| Z.m1 rfl <| Z.r1 rfl (Rd.add rfl rfl rfl Z.W) ?_
   refine Z.a1 rfl <| Z.n1 ?_
   refine WC.pick [0, 1, 2, 7, 8, 9, 10] Z.P ?_
   refine WC.val 33 (.bool (decide (2 * i + 1 + 1 < n ∧ ndLt ys[2 * i + 1 + 1]! ys[2 * i + 1]!))) ?_ ?_
   ·
    refine WC.region ?_
    refine Z.m1 rfl <| Z.m1 rfl <| Z.r1 rfl (Rd.lss rfl rfl rfl) <| Z.m1 rfl ?_
    refine WL.case 28 rfl (fun hg28 => ?_) (fun hg28 => ?_)
    ·
     refine Z.y1 rfl (Rd.move rfl rfl) <| Z.y1 rfl (Rd.move rfl rfl) <| Z.y1 rfl (Rd.move rfl rfl) ?_
     refine WL.op_yes rfl rfl rfl rfl ?_
     refine OpW.invoke rfl rfl Z.E (mLess Z.M) Z.K rfl rfl ?_; refine less_spec (xs := ys) (i := 2 * i + 1 + 1) (j := 2 * i + 1) Z.M Z.W Z.W ?_
     refine Z.r1 rfl (Rd.pick_t rfl rfl rfl) ?_
     refine WL.nil ?_
     exact ⟨by repeat (first | exact Sub.nil | refine Sub.cons rfl (by first | rfl | (exact vb ⟨fun h => ⟨by omega, h⟩, fun h => h.2⟩)) ?_), by exact (fun _ h => h.thin (SubL.mem Z.S))⟩
    ·
     refine Z.o1 rfl <| Z.o1 rfl <| Z.o1 rfl <| Z.o1 rfl <| Z.r1 rfl (Rd.pick_f rfl rfl rfl) ?_
     refine WL.nil ?_
     exact ⟨by repeat (first | exact Sub.nil | refine Sub.cons rfl (by first | rfl | (exact vb_f (fun h => hg28 (by have := h.1; omega)))) ?_), by exact (fun _ h => h.thin (SubL.mem Z.S))⟩
   ·
    refine WC.ite rfl (fun hc2 => ?_) (fun hc2 => ?_)
    ·
     have hmin : ∀ c, 0 < c → c < n → (c - 1) / 2 = i → ¬ ndLt ys[c]! ys[2 * i + 1 + 1]! := fun c c0 cn ce => by
      rcases (show c = 2 * i + 1 ∨ c = 2 * i + 1 + 1 by omega) with rfl | rfl
      · exact ndOrd.asymm _ _ hc2.2
      · exact ndOrd.irrefl _
     have hJn := hc2.1
     refine WC.region ?_
     refine Z.m1 rfl <| Z.a1 rfl <| Z.n1 <| Z.s2 <| Z.m1 rfl <| Z.m1 rfl <| Z.m1 rfl ?_
     refine WL.op rfl ?_
     refine OpW.invoke rfl rfl Z.E (mLess Z.M) Z.K rfl rfl ?_; refine less_spec (xs := ys) (i := 2 * i + 1 + 1) (j := i) Z.M Z.W Z.W ?_
     refine Z.r1 rfl (by exact Rd.notd rfl rfl) ?_
     refine Z.n1 ?_
     refine WC.ite rfl (fun hc3 => ?_) (fun hc3 => ?_)
     ·
      have hdone : Hp ndLt (ys.take n) := i1.done (fun c c0 cn ce => ndOrd.le_trans _ _ _ hc3 (hmin c c0 cn ce))
      refine WC.exit ?_
      refine thenQ.exit ?_
      refine blockQ.pass rfl ?_
      refine loopQ2.exit ?_
      refine blockQ.exit ?_
      refine thenQ.normal ?_
      refine Z.s1 <| Z.m1 rfl <| Z.m1 rfl <| Z.r1 rfl (Rd.gtr rfl rfl rfl) <| Z.a1 rfl <| Z.n1 ?_
      refine WC.ret (Ret.one Tryz.results42 rfl ?_)
      exact hk _ ys i2 i3 hdone
     ·
      have hlt := Decidable.not_not.1 hc3
      refine WC.skip ?_
      refine thenQ.normal ?_
      refine Z.s1 <| Z.m1 rfl <| Z.m1 rfl <| Z.m1 rfl ?_
      refine WL.op rfl ?_
      refine OpW.invoke rfl rfl Z.E (mSwap Z.M) Z.K rfl rfl ?_; refine swap_spec (xs := ys) (i := i) (j := 2 * i + 1 + 1) Z.T Z.W Z.W ?_
      refine Z.g1 <| Z.m1 rfl <| Z.a1 rfl ?_
      refine WL.nil ?_
      refine blockQ.normal ?_
      exact loopQ2.mk (2 * i + 1 + 1) (swapL ys i (2 * i + 1 + 1)) ⟨i1.step ndOrd Z.W Z.W Z.W hmin hlt, (swapL_perm Z.W Z.W).trans i2, (swapL_take Z.W Z.W Z.W).trans i3, by rw [swapL_len]; exact i4, by omega⟩ Z.W (by repeat (first | exact Sub.nil | refine Sub.cons rfl (by rfl) ?_)) Z.F
    ·
     have hmin : ∀ c, 0 < c → c < n → (c - 1) / 2 = i → ¬ ndLt ys[c]! ys[2 * i + 1]! := fun c c0 cn ce => by
      rcases (show c = 2 * i + 1 ∨ c = 2 * i + 1 + 1 by omega) with rfl | rfl
      · exact ndOrd.irrefl _
      · exact fun g => hc2 ⟨cn, g⟩
     have hJn : 2 * i + 1 < n := by omega
     refine WC.skip ?_
     refine thenQ.normal ?_
     refine Z.s2 <| Z.m1 rfl <| Z.m1 rfl <| Z.m1 rfl ?_
     refine WL.op rfl ?_
     refine OpW.invoke rfl rfl Z.E (mLess Z.M) Z.K rfl rfl ?_; refine less_spec (xs := ys) (i := 2 * i + 1) (j := i) Z.M Z.W Z.W ?_
     refine Z.r1 rfl (by exact Rd.notd rfl rfl) ?_
     refine Z.n1 ?_
     refine WC.ite rfl (fun hc3 => ?_) (fun hc3 => ?_)
     ·
      have hdone : Hp ndLt (ys.take n) := i1.done (fun c c0 cn ce => ndOrd.le_trans _ _ _ hc3 (hmin c c0 cn ce))
      refine WC.exit ?_
      refine thenQ.exit ?_
      refine blockQ.pass rfl ?_
      refine loopQ2.exit ?_
      refine blockQ.exit ?_
      refine thenQ.normal ?_
      refine Z.s1 <| Z.m1 rfl <| Z.m1 rfl <| Z.r1 rfl (Rd.gtr rfl rfl rfl) <| Z.a1 rfl <| Z.n1 ?_
      refine WC.ret (Ret.one Tryz.results42 rfl ?_)
      exact hk _ ys i2 i3 hdone
     ·
      have hlt := Decidable.not_not.1 hc3
      refine WC.skip ?_
      refine thenQ.normal ?_
      refine Z.s1 <| Z.m1 rfl <| Z.m1 rfl <| Z.m1 rfl ?_
      refine WL.op rfl ?_
      refine OpW.invoke rfl rfl Z.E (mSwap Z.M) Z.K rfl rfl ?_; refine swap_spec (xs := ys) (i := i) (j := 2 * i + 1) Z.T Z.W Z.W ?_
      refine Z.g1 <| Z.m1 rfl <| Z.a1 rfl ?_
      refine WL.nil ?_
      refine blockQ.normal ?_
      exact loopQ2.mk (2 * i + 1) (swapL ys i (2 * i + 1)) ⟨i1.step ndOrd Z.W Z.W Z.W hmin hlt, (swapL_perm Z.W Z.W).trans i2, (swapL_take Z.W Z.W Z.W).trans i3, by rw [swapL_len]; exact i4, by omega⟩ Z.W (by repeat (first | exact Sub.nil | refine Sub.cons rfl (by rfl) ?_)) Z.F
set_option maxRecDepth 20000 in
theorem hpush_spec {x : Nv} (hlen : xs.length ≤ 900000) (hH : Hp ndLt xs) (hk : ∀ sv' ys, ys.Perm (xs ++ [x]) → Hp ndLt ys → POST (.tuple #[]) R (rowW br sv' :: accS sv' ys :: O)) :
 Fun Tryz.prog 21 #[ifv br, spv x] R (rowW br sv :: accS sv xs :: O) POST := by
 refine Fun.enter (l := [_, _]) Tryz.func21 rfl Tryz.ntmps21 rfl (L0 := [(0, _), (1, _)]) rfl ?_
 refine Z.s1 <| Z.m1 rfl <| Z.m1 rfl ?_
 refine WL.op rfl ?_
 refine OpW.invoke rfl rfl Z.E mPush Z.K rfl rfl ?_; refine push_spec (xs := xs) (x := x) Z.W ?_; intro sv'
 refine Z.g1 <| Z.m1 rfl <| Z.m1 rfl ?_
 refine WL.op rfl ?_
 refine OpW.invoke rfl rfl Z.E (mLen Z.M) Z.K rfl rfl ?_; refine len_spec (xs := xs ++ [x]) Z.M ?_
 refine Z.r1 rfl (Rd.sub rfl rfl rfl (by rw [List.length_append, List.length_singleton]; omega)) ?_
 refine WL.say 10 (u := vi xs.length) rfl (by rw [List.length_append, List.length_singleton]; congr 1; omega) ?_
 refine WL.op rfl ?_
 refine OpW.call rfl rfl Z.E Z.K rfl rfl rfl ?_
 refine up_spec (xs := xs ++ [x]) (j := xs.length) (by rw [List.length_append, List.length_singleton]; omega) (Up.push hH x) ?_; intro ys hp hh
 refine WL.nil ?_
 refine Ret.normal (Ret.zero Tryz.results21 ?_)
 exact hk _ ys hp hh
theorem last_of {zs l : List Nv} {n : Nat} (h : zs.drop n = l.drop n) (hn : n < l.length) (hz : zs.length = l.length) : zs[n]! = l[n]! := by
 have h1 := congrArg (fun q : List Nv => q[0]?) h
 simp only [List.getElem?_drop, Nat.add_zero] at h1
 rw [getElem!_pos zs n Z.W, getElem!_pos l n hn]
 rw [List.getElem?_eq_getElem Z.W, List.getElem?_eq_getElem hn] at h1
 exact Option.some.inj h1
set_option maxRecDepth 20000 in
theorem hpop_spec (hlen : xs.length ≤ 900000) (h0 : 0 < xs.length) (hH : Hp ndLt xs) (hk : ∀ sv' ys, (xs[0]! :: ys).Perm xs → Hp ndLt ys → POST (spv xs[0]!) R (rowW br sv' :: accS sv' ys :: O)) :
 Fun Tryz.prog 22 #[ifv br] R (rowW br sv :: accS sv xs :: O) POST := by
 obtain ⟨m, hm⟩ : ∃ m, xs.length = m + 1 := ⟨xs.length - 1, by omega⟩
 have hD := Dn.start (m := m) hH hm
 refine Fun.enter (l := [_]) Tryz.func22 rfl Tryz.ntmps22 rfl (L0 := [(0, _)]) rfl ?_
 refine Z.s1 <| Z.a1 rfl <| Z.q1 <| Z.m1 rfl ?_
 refine WL.op rfl ?_
 refine OpW.invoke rfl rfl Z.E (mLen Z.M) Z.K rfl rfl ?_; refine len_spec (xs := xs) Z.M ?_
 refine Z.r1 rfl (Rd.sub rfl rfl rfl Z.W) ?_
 refine WL.say 6 (u := vi m) rfl (by rw [hm]; congr 1; omega) ?_
 refine Z.a1 rfl <| Z.q1 <| Z.m1 rfl <| Z.m1 rfl ?_
 refine WL.op rfl ?_
 refine OpW.invoke rfl rfl Z.E (mSwap Z.M) Z.K rfl rfl ?_; refine swap_spec (xs := xs) (i := 0) (j := m) Z.T Z.W Z.W ?_
 refine WL.heap (R' := R) (O' := rowW br sv :: accS sv (swapL xs 0 m) :: O) Z.F ?_
 refine Z.q1 <| Z.m1 rfl <| Z.m1 rfl ?_
 refine WL.op rfl ?_
 refine OpW.call rfl rfl Z.E Z.K rfl rfl rfl ?_
 refine down_spec (xs := swapL xs 0 m) (n := m) (by rw [swapL_len]; omega) hD ?_; intro b zs hp hd hh
 have hzl : zs.length = m + 1 := by rw [hp.length_eq, swapL_len, hm]
 have hlast : zs[zs.length - 1]! = xs[0]! := by
  rw [hzl, show m + 1 - 1 = m from rfl, last_of hd (by rw [swapL_len]; omega) (by rw [swapL_len]; omega), swapL_get Z.W Z.W, if_pos rfl]
 have hzz : (xs[0]! :: zs.take m).Perm xs := by
  have e : zs = zs.take m ++ [xs[0]!] := by
   rw [← hlast, hzl, show m + 1 - 1 = m from rfl, ← take_snoc' Z.W, List.take_of_length_le Z.W]
  have h1 : (xs[0]! :: zs.take m).Perm zs := by
   conv => rhs; rw [e]
   exact (List.perm_append_singleton _ _).symm
  exact h1.trans (hp.trans (swapL_perm Z.W Z.W))
 refine Z.q1 <| Z.m1 rfl ?_
 refine WL.op rfl ?_
 refine OpW.invoke rfl rfl Z.E mPop Z.K rfl rfl ?_; refine pop_spec (xs := zs) Z.W Z.W ?_; intro sv'
 refine Z.a1 rfl <| Z.n1 ?_
 refine WC.ret (Ret.one Tryz.results22 rfl ?_)
 rw [hlast] at *
 rw [hzl] at *
 exact hk _ _ hzz hh
end
end Go.Proofs.YtdhcjafemebkcaaGreatDoor.Gr
namespace Go.Proofs.YtdhcjafemebkcaaGreatDoor.Gr
open Go Go.SL
/-- What a graph's map holds. -/
structure MapG (m : GoMap T Nv) (G : PG) : Prop where
 keys : ∀ id, id ∈ G.ks ↔ ∃ q, m.get id = some q
 nd : ∀ id q, m.get id = some q → q.1 = id ∧ q.2.2 = G.time id
 len : m.l.length = G.ks.length
def parP (m : GoMap T Nv) (G : PG) : RO := fun w => ∀ id q, m.get id = some q → SlE (SL.one vs) (slv q.2.1) (G.pars id) w
inductive GV (gv : Value) (G : PG) (R : List RO) : Prop
 | nil (h : gv = .pointer none) (hk : G.ks = [])
 | some (b bm : Nat) (m : GoMap T Nv) (h : gv = .pointer (some ⟨b, 0, none⟩)) (hb : garr b [.map (some bm)] ∈ R) (hm : mapP vs ndV bm m ∈ R) (hp : parP m G ∈ R) (hG : MapG m G)
theorem GV.mono {gv : Value} {G : PG} {R R' : List RO} (h : GV gv G R) (hs : ∀ p ∈ R, p ∈ R') : GV gv G R' := by
 rcases h with ⟨h1, h2⟩ | ⟨b, bm, m, h1, h2, h3, h4, h5⟩
 · exact .nil h1 h2
 · exact .some b bm m h1 (hs _ h2) (hs _ h3) (hs _ h4) h5
theorem GV.one {gv : Value} {G : PG} {R : List RO} (h : GV gv G R) : OneV gv := by
 rcases h with ⟨rfl, _⟩ | ⟨b, bm, m, rfl, _⟩ <;> exact ⟨rfl, rfl⟩
def nd0 : Nv := ([], (none, 0, 0), 0)
def lk (m : GoMap T Nv) (id : T) : Nv := (m.get id).getD nd0
theorem lk_v {m : GoMap T Nv} {id : T} : ((m.get id).map ndV).getD (ndV nd0) = .agg #[vs (lk m id).1, slv (lk m id).2.1, vi (lk m id).2.2] := by
 unfold lk
 cases m.get id <;> rfl
theorem MapG.isSome {m : GoMap T Nv} {G : PG} (h : MapG m G) (id : T) : (m.get id).isSome = decide (id ∈ G.ks) := by
 by_cases g : id ∈ G.ks
 · obtain ⟨q, e⟩ := (h.keys id).1 g
   simp [g, e]
 · cases e : m.get id with
   | none => simp [g]
   | some q => exact absurd ((h.keys id).2 ⟨q, e⟩) g
section
variable {R : List RO} {O O' : List Own} {POST : Value → List RO → List Own → Prop} {gv : Value} {G : PG}
set_option maxRecDepth 20000 in
theorem hasN_spec {id : T} (hk : POST (.bool false) R O) : Fun Tryz.prog 17 #[.pointer none, vs id] R O POST := by
 refine Fun.enter (l := [_, _]) Tryz.func17 rfl Tryz.ntmps17 rfl (L0 := [(0, _), (1, _)]) rfl ?_
 refine Z.s1 <| Z.a1 rfl <| Z.n1 <| Z.s2 <| Z.m1 rfl <| Z.r1 rfl (Rd.peqN rfl Tryz.underlying30 rfl rfl) <| Z.n1 ?_
 refine WC.cond rfl (fun hc1 => ?_) (fun hc1 => ?_)
 ·
  refine Z.s1 <| Z.a1 rfl <| Z.n1 ?_
  refine WC.ret (Ret.one Tryz.results17 rfl ?_)
  exact hk
 ·
  cases hc1
set_option maxRecDepth 20000 in
theorem has0_spec {id : T} {b bm : Nat} {m : GoMap T Nv} (hb : garr b [.map (some bm)] ∈ R) (hm : mapP vs ndV bm m ∈ R) (hG : MapG m G) (hk : ∀ b cs, POST (.bool (decide (id ∈ G.ks))) R (rowC b 29 cs :: O)) : Fun Tryz.prog 17 #[.pointer (some ⟨b, 0, none⟩), vs id] R O POST := by
 refine Fun.enter (l := [_, _]) Tryz.func17 rfl Tryz.ntmps17 rfl (L0 := [(0, _), (1, _)]) rfl ?_
 refine Z.s1 <| Z.a1 rfl <| Z.n1 <| Z.s2 <| Z.m1 rfl <| Z.r1 rfl (Rd.peqN rfl Tryz.underlying30 rfl rfl) <| Z.n1 ?_
 refine WC.cond rfl (fun hc1 => ?_) (fun hc1 => ?_)
 ·
  cases hc1
 ·
  refine WC.skip ?_
  refine thenQ.normal ?_
  refine Z.s1 <| Z.m1 rfl <| Z.r1 rfl (Rd.nilc rfl rfl) <| Z.r1 rfl (by exact Rd.field rfl F45_0 rfl rfl) ?_
  refine Z.r1 rfl (Rd.getGl rfl C43 rfl hb rfl) <| Z.m1 rfl <| Z.r1 rfl (Rd.lookup2R (k := id) M43 K9 rfl rfl rfl hm rfl) ?_
  refine WL.say 15 (u := .tuple #[.agg #[vs (lk m id).1, slv (lk m id).2.1, vi (lk m id).2.2], .bool (decide (id ∈ G.ks))]) rfl (by rw [← hG.isSome, ← lk_v]; rfl) ?_
  refine Z.m1 rfl <| Z.x1 rfl <| Z.x1 rfl ?_
  refine WL.op rfl ?_
  refine OpW.alloc rfl I29 rfl Z.N rfl rfl ?_; intro b5
  refine WL.op rfl ?_
  refine OpW.storeS rfl G29 rfl rfl Z.N Z.T rfl rfl Z.N rfl ?_
  refine Z.a1 rfl <| Z.q1 <| Z.m1 rfl <| Z.a1 rfl <| Z.n1 ?_
  refine WC.ret (Ret.one Tryz.results17 rfl ?_)
  exact hk _ _
theorem has_spec {id : T} (hG : GV gv G R) (hk : POST (.bool (decide (id ∈ G.ks))) R O) : Fun Tryz.prog 17 #[gv, vs id] R O POST := by
 rcases hG with ⟨rfl, h0⟩ | ⟨b, bm, m, rfl, hb, hm, hp, hG⟩
 · rw [h0, show decide (id ∈ ([] : List T)) = false from by simp] at hk
   exact hasN_spec hk
 · refine Fun.thin (post' := fun v R' O' => v = .bool (decide (id ∈ G.ks)) ∧ R' = R ∧ ∃ b cs, O' = rowC b 29 cs :: O) (has0_spec hb hm hG fun b cs => ⟨rfl, rfl, b, cs, rfl⟩) ?_
   rintro v R' O' ⟨rfl, rfl, b', cs, rfl⟩
   exact ⟨_, _, hk, fun w h => h.drop⟩
set_option maxRecDepth 20000 in
theorem lacks_spec {id : T} {b : Nat} (hG : GV gv G R) (hb : rowC b 30 [gv] ∈ O) (hk : POST (.bool (decide (id ∉ G.ks))) R O) : Fun Tryz.prog 40 #[vs id, .pointer (some ⟨b, 0, none⟩)] R O POST := by
 refine Fun.enter (l := [_, _]) Tryz.func40 rfl Tryz.ntmps40 rfl (L0 := [(0, _), (1, _)]) rfl ?_
 refine Z.s1 <| Z.a1 rfl <| Z.q1 <| Z.r1 rfl (Rd.row1 (off := 0) (u := gv) rfl C30 rfl hb rfl) ?_
 refine Z.m1 rfl ?_
 refine WL.op rfl ?_
 refine OpW.call rfl rfl Z.E Z.K rfl rfl rfl ?_
 refine has_spec hG ?_
 refine Z.r1 rfl (by exact Rd.notd rfl rfl) ?_
 refine Z.a1 rfl <| Z.n1 ?_
 refine WC.ret (Ret.one Tryz.results40 rfl ?_)
 exact hk
set_option maxRecDepth 20000 in
theorem lacks2_spec {id : T} {b : Nat} (hG : GV gv G R) (hb : rowC b 30 [gv] ∈ O) (hk : POST (.bool (decide (id ∉ G.ks))) R O) : Fun Tryz.prog 16 #[vs id, .pointer (some ⟨b, 0, none⟩)] R O POST := by
 refine Fun.enter (l := [_, _]) Tryz.func16 rfl Tryz.ntmps16 rfl (L0 := [(0, _), (1, _)]) rfl ?_
 refine Z.s1 <| Z.a1 rfl <| Z.q1 <| Z.r1 rfl (Rd.row1 (off := 0) (u := gv) rfl C30 rfl hb rfl) ?_
 refine Z.m1 rfl ?_
 refine WL.op rfl ?_
 refine OpW.call rfl rfl Z.E Z.K rfl rfl rfl ?_
 refine has_spec hG ?_
 refine Z.r1 rfl (by exact Rd.notd rfl rfl) ?_
 refine Z.a1 rfl <| Z.n1 ?_
 refine WC.ret (Ret.one Tryz.results16 rfl ?_)
 exact hk
/-- The first that isn't there; of an own slice, of one that is read. -/
def FirstNot (G : PG) (xs : List T) (k : Int) : Prop := (k = -1 ∧ ∀ j, j < xs.length → xs[j]! ∈ G.ks) ∨ ∃ i : Nat, k = i ∧ i < xs.length ∧ (∀ j, j < i → xs[j]! ∈ G.ks) ∧ xs[i]! ∉ G.ks
set_option maxRecDepth 20000 in
theorem find_spec {xs : List T} {v : Value} {b : Nat} (hG : GV gv G R) (hb : rowC b 30 [gv] ∈ O) (hx : accT v xs ∈ O) (hl : xs.length ≤ 4294967296)
 (hk : ∀ k, FirstNot G xs k → POST (.int .i64 k) R O) :
 Fun Tryz.prog 35 #[v, .func (.func 40) #[] #[.pointer (some ⟨b, 0, none⟩)]] R O POST := by
 refine Fun.enter (l := [_, _]) Tryz.func35 rfl Tryz.ntmps35 rfl (L0 := [(0, _), (1, _)]) rfl ?_
 refine Z.s1 <| Z.a1 rfl <| Z.n1 <| Z.s2 <| Z.m1 rfl <| Z.r1 rfl (Rd.lenA (enc := SL.one vs) (xs := xs) rfl rfl Tryz.underlying27 hx) ?_
 refine Z.m1 rfl <| Z.n1 ?_
 refine WC.block ?_
 refine WC.pick [8, 0, 1, 7] Z.P ?_
 refine WC.loop1o 1 (fun (j : Nat) => [(8, vi j)]) (fun (j : Nat) => j ≤ xs.length ∧ ∀ i, i < j → xs[i]! ∈ G.ks) (fun (j : Nat) => xs.length - j) (0) Z.L ?hinv1 (by repeat (first | exact Sub.nil | refine Sub.cons rfl (by rfl) ?_)) (fun _ h => h) ?_
 case hinv1 =>
  exact ⟨Nat.zero_le _, fun i h => absurd h (Nat.not_lt_zero _)⟩
 intro j
 rintro ⟨i1, i2⟩
 refine Z.s1 <| Z.r1 rfl (Rd.lss rfl rfl rfl) <| Z.n1 ?_
 refine WC.seq ?_
 refine WC.ite rfl (fun hc1 => ?_) (fun hc1 => ?_)
 ·
  refine WC.skip ?_
  refine thenQ.normal ?_
  refine WC.seq ?_
  refine WC.block ?_
  refine Z.s1 <| Z.m1 rfl <| Z.a1 rfl <| Z.q1 <| Z.m1 rfl <| Z.m1 rfl <| Z.m1 rfl <| Z.r1 rfl (Rd.idxA1 (enc := SL.one vs) (xs := xs) (k := j) rfl S27 rfl rfl rfl hx Z.W) ?_
  refine Z.r1 rfl (Rd.getA (g := vs) (xs := xs) (k := j) rfl C9 rfl hx (get!_of_lt Z.W)) ?_
  refine WL.op rfl ?_
  refine OpW.call rfl rfl Z.E Z.K rfl rfl rfl ?_
  refine lacks_spec hG hb ?_
  refine Z.n1 ?_
  refine WC.ite rfl (fun hc2 => ?_) (fun hc2 => ?_)
  ·
   refine Z.s1 <| Z.m1 rfl <| Z.a1 rfl <| Z.n1 ?_
   refine WC.ret (Ret.one Tryz.results35 rfl ?_)
   exact hk _ (.inr ⟨j, rfl, by omega, i2, hc2⟩)
  ·
   refine WC.skip ?_
   refine blockQ.normal ?_
   refine thenQ.normal ?_
   refine WC.region ?_
   refine Z.r1 rfl (Rd.add rfl rfl rfl Z.W) ?_
   refine Z.m1 rfl ?_
   refine WL.nil ?_
   exact loopQ1.mk (j + 1) ⟨by omega, fun i hi => by
   rcases Nat.lt_or_ge i j with h | h
   · exact i2 i h
   · obtain rfl : i = j := by omega
     exact Decidable.not_not.1 hc2⟩ Z.W (by repeat (first | exact Sub.nil | refine Sub.cons rfl (by rfl) ?_)) Z.F
 ·
  refine WC.exit ?_
  refine thenQ.exit ?_
  refine loopQ1.exit ?_
  refine blockQ.exit ?_
  refine thenQ.normal ?_
  refine Z.s1 <| Z.a1 rfl <| Z.n1 ?_
  refine WC.ret (Ret.one Tryz.results35 rfl ?_)
  exact hk _ (.inl ⟨rfl, fun i hi => i2 i Z.W⟩)
set_option maxRecDepth 20000 in
theorem find2_spec {xs : List T} {v : Value} {b : Nat} (hG : GV gv G R) (hb : rowC b 30 [gv] ∈ O) (hx : SlE (SL.one vs) v xs ∈ R) (hl : xs.length ≤ 4294967296)
 (hk : ∀ k, FirstNot G xs k → POST (.int .i64 k) R O) :
 Fun Tryz.prog 35 #[v, .func (.func 16) #[] #[.pointer (some ⟨b, 0, none⟩)]] R O POST := by
 refine Fun.enter (l := [_, _]) Tryz.func35 rfl Tryz.ntmps35 rfl (L0 := [(0, _), (1, _)]) rfl ?_
 refine Z.s1 <| Z.a1 rfl <| Z.n1 <| Z.s2 <| Z.m1 rfl <| Z.r1 rfl (Rd.lenE (enc := SL.one vs) (xs := xs) rfl rfl Tryz.underlying27 hx) ?_
 refine Z.m1 rfl <| Z.n1 ?_
 refine WC.block ?_
 refine WC.pick [8, 0, 1, 7] Z.P ?_
 refine WC.loop1o 1 (fun (j : Nat) => [(8, vi j)]) (fun (j : Nat) => j ≤ xs.length ∧ ∀ i, i < j → xs[i]! ∈ G.ks) (fun (j : Nat) => xs.length - j) (0) Z.L ?hinv1 (by repeat (first | exact Sub.nil | refine Sub.cons rfl (by rfl) ?_)) (fun _ h => h) ?_
 case hinv1 =>
  exact ⟨Nat.zero_le _, fun i h => absurd h (Nat.not_lt_zero _)⟩
 intro j
 rintro ⟨i1, i2⟩
 refine Z.s1 <| Z.r1 rfl (Rd.lss rfl rfl rfl) <| Z.n1 ?_
 refine WC.seq ?_
 refine WC.ite rfl (fun hc1 => ?_) (fun hc1 => ?_)
 ·
  refine WC.skip ?_
  refine thenQ.normal ?_
  refine WC.seq ?_
  refine WC.block ?_
  refine Z.s1 <| Z.m1 rfl <| Z.a1 rfl <| Z.q1 <| Z.m1 rfl <| Z.m1 rfl <| Z.m1 rfl <| Z.r1 rfl (Rd.idx1 (enc := SL.one vs) (xs := xs) (k := j) rfl S27 rfl rfl rfl hx Z.W) ?_
  refine Z.r1 rfl (Rd.get (g := vs) (xs := xs) (k := j) rfl C9 rfl hx (get!_of_lt Z.W)) ?_
  refine WL.op rfl ?_
  refine OpW.call rfl rfl Z.E Z.K rfl rfl rfl ?_
  refine lacks2_spec hG hb ?_
  refine Z.n1 ?_
  refine WC.ite rfl (fun hc2 => ?_) (fun hc2 => ?_)
  ·
   refine Z.s1 <| Z.m1 rfl <| Z.a1 rfl <| Z.n1 ?_
   refine WC.ret (Ret.one Tryz.results35 rfl ?_)
   exact hk _ (.inr ⟨j, rfl, by omega, i2, hc2⟩)
  ·
   refine WC.skip ?_
   refine blockQ.normal ?_
   refine thenQ.normal ?_
   refine WC.region ?_
   refine Z.r1 rfl (Rd.add rfl rfl rfl Z.W) ?_
   refine Z.m1 rfl ?_
   refine WL.nil ?_
   exact loopQ1.mk (j + 1) ⟨by omega, fun i hi => by
   rcases Nat.lt_or_ge i j with h | h
   · exact i2 i h
   · obtain rfl : i = j := by omega
     exact Decidable.not_not.1 hc2⟩ Z.W (by repeat (first | exact Sub.nil | refine Sub.cons rfl (by rfl) ?_)) Z.F
 ·
  refine WC.exit ?_
  refine thenQ.exit ?_
  refine loopQ1.exit ?_
  refine blockQ.exit ?_
  refine thenQ.normal ?_
  refine Z.s1 <| Z.a1 rfl <| Z.n1 ?_
  refine WC.ret (Ret.one Tryz.results35 rfl ?_)
  exact hk _ (.inl ⟨rfl, fun i hi => i2 i Z.W⟩)
def allIn (G : PG) (xs : List T) : Bool := decide (∀ x ∈ xs, x ∈ G.ks)
theorem mem_get! {xs : List T} {x : T} (h : x ∈ xs) : ∃ j, j < xs.length ∧ xs[j]! = x := by
 obtain ⟨j, hj, e⟩ := List.getElem_of_mem h
 exact ⟨j, hj, by rw [getElem!_pos xs j hj, e]⟩
set_option maxRecDepth 20000 in
theorem contains_spec {xs : List T} {v : Value} {b : Nat} (hG : GV gv G R) (hb : rowC b 30 [gv] ∈ O) (hx : SlE (SL.one vs) v xs ∈ R) (hl : xs.length ≤ 4294967296)
 (hk : POST (.bool (decide (∃ x ∈ xs, x ∉ G.ks))) R O) : Fun Tryz.prog 15 #[v, .func (.func 16) #[] #[.pointer (some ⟨b, 0, none⟩)]] R O POST := by
 refine Fun.enter (l := [_, _]) Tryz.func15 rfl Tryz.ntmps15 rfl (L0 := [(0, _), (1, _)]) rfl ?_
 refine Z.s1 <| Z.a1 rfl <| Z.q1 <| Z.m1 rfl <| Z.m1 rfl ?_
 refine WL.op rfl ?_
 refine OpW.call rfl rfl Z.E Z.K rfl rfl rfl ?_
 refine find2_spec hG hb hx hl ?_; intro k hk7
 refine Z.r1 rfl (Rd.geq rfl rfl rfl) ?_
 refine WL.say 8 (u := .bool (decide (∃ x ∈ xs, x ∉ G.ks))) rfl (vb ⟨fun h => by
 rcases hk7 with ⟨rfl, _⟩ | ⟨i, _, h1, _, h3⟩
 · omega
 · exact ⟨_, get!_mem h1, h3⟩, fun ⟨x, hx, hn⟩ => by
 rcases hk7 with ⟨_, h⟩ | ⟨i, rfl, _⟩
 · obtain ⟨j, hj, e⟩ := mem_get! hx
   exact absurd (e ▸ h j hj) hn
 · omega⟩) ?_
 refine Z.a1 rfl <| Z.n1 ?_
 refine WC.ret (Ret.one Tryz.results15 rfl ?_)
 exact hk
def stays (G : PG) (s : T) : Bool := decide (s ∈ G.ks)
theorem filter_all {p : T → Bool} {xs : List T} (h : ∀ j, j < xs.length → p xs[j]! = true) : xs.filter p = xs := by
 rw [List.filter_eq_self]
 intro a ha
 obtain ⟨j, hj, rfl⟩ := mem_get! ha
 exact h j hj
theorem filter_next (p : T → Bool) {xs : List T} {j : Nat} (h : j < xs.length) : (xs.take (j + 1)).filter p = (xs.take j).filter p ++ if p xs[j]! then [xs[j]!] else [] := by
 rw [List.take_add_one, get!_of_lt h, List.filter_append]
 simp only [Option.toList_some, List.filter_cons, List.filter_nil]
theorem drop_get {α : Type} [Inhabited α] {l : List α} {j : Nat} (h : j < l.length) : l.drop j = l[j]! :: l.drop (j + 1) := by
 rw [List.drop_eq_getElem_cons h, getElem!_pos l j h]
theorem drop_at {ys xs : List T} {j : Nat} (hl : ys.length = xs.length) (hj : j < xs.length) (h : ys.drop j = xs.drop j) : ys[j]! = xs[j]! ∧ ys.drop (j + 1) = xs.drop (j + 1) := by
 rw [drop_get (l := ys) Z.W, drop_get hj, List.cons.injEq] at h
 exact h
set_option maxRecDepth 20000 in
set_option maxHeartbeats 1000000 in
theorem delete_spec {xs : List T} {v : Value} {b : Nat} (hG : GV gv G R) (hb : rowC b 30 [gv] ∈ O) (hl : xs.length ≤ 4294967296)
 (hk : ∀ u, POST u R (accT u (xs.filter (stays G)) :: O)) : Fun Tryz.prog 38 #[v, .func (.func 40) #[] #[.pointer (some ⟨b, 0, none⟩)]] R (accT v xs :: O) POST := by
 obtain ⟨p, hp⟩ : ∃ p, p = stays G := ⟨_, rfl⟩
 refine Fun.enter (l := [_, _]) Tryz.func38 rfl Tryz.ntmps38 rfl (L0 := [(0, _), (1, _)]) rfl ?_
 refine Z.s1 <| Z.a1 rfl <| Z.q1 <| Z.m1 rfl <| Z.m1 rfl ?_
 refine WL.op rfl ?_
 refine OpW.call rfl rfl Z.E Z.K rfl rfl rfl ?_
 refine find_spec hG (List.mem_cons_of_mem _ hb) List.mem_cons_self hl ?_; intro k hk10
 refine Z.a1 rfl <| Z.n1 <| Z.s2 <| Z.m1 rfl <| Z.r1 rfl (Rd.eql rfl rfl rfl) <| Z.n1 ?_
 refine WC.ite rfl (fun hc1 => ?_) (fun hc1 => ?_)
 ·
  refine Z.s1 <| Z.m1 rfl <| Z.a1 rfl <| Z.n1 ?_
  refine WC.ret (Ret.one Tryz.results38 rfl ?_)
  have e : xs.filter (stays G) = xs := by
   rcases hk10 with ⟨_, h1⟩ | ⟨i, rfl, _⟩
   · exact filter_all (fun j hj => decide_eq_true (h1 j hj))
   · omega
  have hk' := hk v
  rw [e] at hk'
  exact hk'
 ·
  obtain ⟨i0, rfl, h1, h2, h3⟩ : ∃ i : Nat, k = i ∧ i < xs.length ∧ (∀ j, j < i → xs[j]! ∈ G.ks) ∧ xs[i]! ∉ G.ks := by
   rcases hk10 with ⟨h1, _⟩ | h1
   · exact absurd h1 hc1
   · exact h1
  have hf0 : (xs.take (i0 + 1)).filter p = xs.take i0 := by
   rw [filter_next p h1, hp, show stays G xs[i0]! = false from decide_eq_false h3, filter_all (xs := xs.take i0) (fun j hj => by
    rw [List.length_take] at hj
    have := h2 j Z.W
    rw [getElem!_pos _ _ (by rw [List.length_take]; omega), List.getElem_take, ← getElem!_pos xs j Z.W]
    exact decide_eq_true this)]
   simp
  refine WC.skip ?_
  refine thenQ.normal ?_
  refine Z.s2 <| Z.m1 rfl <| Z.r1 rfl (Rd.add rfl rfl rfl Z.W) ?_
  refine Z.a1 rfl <| Z.n1 ?_
  refine WC.block ?_
  refine WC.pick [5, 6, 0, 1] Z.P ?_
  refine WC.loop3 2 (fun (i : Nat) (j : Nat) (ys : List T) => [(5, .int .i64 (i : Int)), (6, .int .i64 (j : Int))]) (fun (i : Nat) (j : Nat) (ys : List T) => accT v ys :: O) (fun (i : Nat) (j : Nat) (ys : List T) => i < j ∧ j ≤ xs.length ∧ ys.length = xs.length ∧ ys.take i = (xs.take j).filter p ∧ ys.drop j = xs.drop j) (fun (i : Nat) (j : Nat) (ys : List T) => xs.length - j) (i0) (i0 + 1) (xs) Z.L ?hinv1 (by repeat (first | exact Sub.nil | refine Sub.cons rfl (by rfl) ?_)) (fun _ h => h) ?_
  case hinv1 =>
   exact ⟨by omega, by omega, rfl, hf0.symm, rfl⟩
  intro i j ys
  rintro ⟨i1, i2, i3, i4, i5⟩
  refine Z.s2 <| Z.m1 rfl <| Z.m1 rfl <| Z.r1 rfl (Rd.lenA rfl rfl Tryz.underlying27 List.mem_cons_self) <| Z.r1 rfl (Rd.lss rfl rfl rfl) <| Z.n1 ?_
  refine WC.ite rfl (fun hc2 => ?_) (fun hc2 => ?_)
  ·
   obtain ⟨d1, d2⟩ := drop_at i3 Z.W i5
   have hfn := filter_next p (xs := xs) (j := j) Z.W
   refine WC.skip ?_
   refine thenQ.normal ?_
   refine WC.seq ?_
   refine WC.block ?_
   refine Z.s1 <| Z.m1 rfl <| Z.m1 rfl <| Z.r1 rfl (Rd.idxA1 (k := j) rfl S27 rfl rfl rfl List.mem_cons_self Z.W) ?_
   refine Z.r1 rfl (Rd.getA (k := j) rfl C9 rfl List.mem_cons_self (get!_of_lt Z.W)) ?_
   refine Z.a1 rfl <| Z.q1 <| Z.m1 rfl <| Z.m1 rfl ?_
   refine WL.op rfl ?_
   refine OpW.call rfl rfl Z.E Z.K rfl rfl rfl ?_
   refine lacks_spec hG (List.mem_cons_of_mem _ hb) ?_
   rw [d1]
   refine Z.r1 rfl (by exact Rd.notd rfl rfl) ?_
   refine Z.n1 ?_
   refine WC.ite rfl (fun hc3 => ?_) (fun hc3 => ?_)
   ·
    refine Z.s1 <| Z.m1 rfl <| Z.m1 rfl <| Z.m1 rfl <| Z.r1 rfl (Rd.idxA1 (k := i) rfl S27 rfl rfl rfl List.mem_cons_self Z.W) ?_
    refine WL.op rfl ?_
    refine OpW.storeAcc (k := i) (a := xs[j]!) rfl Z9 rfl rfl rfl rfl (Take.head _) Z.W rfl ?_
    refine Z.g1 <| Z.m1 rfl <| Z.r1 rfl (Rd.add rfl rfl rfl Z.W) ?_
    refine Z.a1 rfl ?_
    refine WL.nil ?_
    refine blockQ.normal ?_
    refine thenQ.normal ?_
    refine WC.region ?_
    refine Z.m1 rfl <| Z.r1 rfl (Rd.add rfl rfl rfl Z.W) ?_
    refine Z.a1 rfl ?_
    refine WL.nil ?_
    exact loopQ3.mk (i + 1) (j + 1) (ys.set i xs[j]!) ⟨by omega, by omega, by rw [List.length_set, i3], by
    rw [List.take_add_one, List.take_set_of_le (Nat.le_refl _), i4, hfn, if_pos (by rw [hp]; simpa [stays] using hc3), List.getElem?_set_self Z.W]; rfl, by
    rw [List.drop_set_of_lt Z.W, d2]⟩ Z.W (by repeat (first | exact Sub.nil | refine Sub.cons rfl (by rfl) ?_)) Z.F
   ·
    refine WC.skip ?_
    refine blockQ.normal ?_
    refine thenQ.normal ?_
    refine WC.region ?_
    refine Z.m1 rfl <| Z.r1 rfl (Rd.add rfl rfl rfl Z.W) ?_
    refine Z.a1 rfl ?_
    refine WL.nil ?_
    exact loopQ3.mk i (j + 1) ys ⟨by omega, by omega, i3, by rw [i4, hfn, if_neg (by rw [hp]; simpa [stays] using hc3), List.append_nil], d2⟩ Z.W (by repeat (first | exact Sub.nil | refine Sub.cons rfl (by rfl) ?_)) Z.F
  ·
   refine WC.exit ?_
   refine thenQ.exit ?_
   refine loopQ3.exit ?_
   refine blockQ.exit ?_
   refine thenQ.normal ?_
   refine Z.s1 <| Z.m1 rfl <| Z.m1 rfl <| Z.r1 rfl (Rd.cutA_l (lo := i) rfl S27 rfl rfl rfl List.mem_cons_self Z.W) ?_
   refine WL.op rfl ?_
   refine OpW.clearAcc (a0 := []) rfl S27 rfl rfl rfl rfl rfl (Take.head _) Z.W rfl ?_
   refine Z.q1 <| Z.m1 rfl <| Z.m1 rfl <| Z.r1 rfl (Rd.cutA_h (hi := i) rfl S27 rfl rfl rfl List.mem_cons_self (by simp; omega)) ?_
   refine Z.a1 rfl <| Z.n1 ?_
   refine WC.heap (fun w h => Sat.cutAcc (enc := SL.one vs) (size := 1) (xs := ys.take i ++ List.replicate (ys.length - i) []) (hi := i) (Take.head _) (fun _ => rfl) (by simp; omega) h) ?_
   refine WC.ret (Ret.one Tryz.results38 rfl ?_)
   have e : (ys.take i ++ List.replicate (ys.length - i) []).take i = xs.filter (stays G) := by
    rw [List.take_append_of_le_length (by rw [List.length_take]; omega), List.take_take, Nat.min_self, i4, List.take_of_length_le Z.W, hp]
   rw [e]
   exact hk _
set_option maxRecDepth 20000 in
theorem clone_spec {xs : List T} {v : Value} (hx : SlE (SL.one vs) v xs ∈ R) (hl : xs.length ≤ 1000000) (hk : ∀ u, POST u R (accT u xs :: O)) : Fun Tryz.prog 39 #[v] R O POST := by
 refine Fun.know hx (φ := ∃ o c, v = .slice o xs.length c ∧ (o = none → xs = [])) (fun w h => by
  obtain ⟨o, c, h1, _, _, h2, _⟩ := h
  exact ⟨o, c, h1, fun e => List.length_eq_zero_iff.1 (h2 e)⟩) fun ⟨o, c, hv, h0⟩ => ?_
 subst hv
 refine Fun.enter (l := [_]) Tryz.func39 rfl Tryz.ntmps39 rfl (L0 := [(0, _)]) rfl ?_
 refine Z.s1 <| Z.a1 rfl <| Z.n1 <| Z.s2 <| Z.m1 rfl <| Z.r1 rfl (Rd.eqNil' rfl Tryz.underlying27 rfl rfl) <| Z.n1 ?_
 refine WC.cond rfl (fun hc1 => ?_) (fun hc1 => ?_)
 ·
  obtain rfl : xs = [] := h0 (by cases o with | none => rfl | some a => cases hc1)
  refine WC.heap (fun w h => Sat.accNil (e := 9) (size := 1) (enc := SL.one vs) h) ?_
  refine Z.s1 <| Z.a1 rfl <| Z.n1 ?_
  refine WC.ret (Ret.one Tryz.results39 rfl ?_)
  exact hk _
 ·
  refine WC.skip ?_
  refine thenQ.normal ?_
  refine Z.s1 ?_
  refine WL.op rfl ?_
  refine OpW.buildSl (ps := []) rfl S27 Z.E rfl rfl Z.C Z.K rfl rfl rfl ?_; intro b5
  refine WL.heap (fun w h => Sat.accRow (enc := SL.one vs) (size := 1) (xs := []) Z.T rfl rfl (fun x => rfl) (by simp) h) ?_
  refine Z.m1 rfl ?_
  refine WL.op rfl ?_
  refine OpW.appendE (enc := SL.one vs) (ys := xs) rfl S27 Tryz.underlying27 rfl rfl Z.T hx (by intro x; rfl) (by intro x; rfl) (by exact ⟨by simp only [maxLen, List.length_append, List.length_nil, List.length_cons, List.length_drop, List.length_take, List.length_map]; omega, by (simp only [List.length_append, List.length_nil, List.length_cons, List.length_drop, List.length_take, List.length_map]; omega)⟩) rfl rfl ?_; intro v7 hv7
  refine Z.a1 rfl <| Z.n1 ?_
  refine WC.ret (Ret.one Tryz.results39 rfl ?_)
  exact hk _
end
end Go.Proofs.YtdhcjafemebkcaaGreatDoor.Gr
