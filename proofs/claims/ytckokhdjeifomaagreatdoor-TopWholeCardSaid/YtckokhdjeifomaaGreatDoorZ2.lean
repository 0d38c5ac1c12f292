/-
  Part 2 of the texts that the law TopWhole is proved with: Byc, Lib, Ty, Nm1, Nm2, Nm3, Nm4, Cr1, Nm5, Nm6, Nm7, Nm8, Cr2, Bld, Acc, Copy, Shelf, Se1, Se2, Ato, Se3, Se4. No premise.
-/
import Derived.Test.YtckokhdjeifomaaGreatDoorZ1
import Derived.Laws.IdiomStrings
import Derived.Below
import Derived.Test.YtckokhdjeifomaaGreatDoorRows
import Derived.Lib.SliceRun
import Derived.Laws.CopyRow
import Derived.Shelf.Strings.Builder1
import Derived.Shelf.Strings.Builder2
import Derived.Shelf.Small.Bits
import Derived.Shelf.Small.Wraps
import Derived.Shelf.Strings.BuilderF
import Derived.Shelf.Strings.BuilderK
import Derived.Shelf.Strings.Builder2Cap
import Derived.Shelf.Strconv.Itoa0
import Derived.Shelf.Sort.Plain
import Derived.Shelf.GgClosure.StringsIndexFunc
import Derived.Ground.GgwProg
import Derived.Shelf.GgClosure.StringsIndexFuncTop
import Derived.Shelf.GgClosure.StringsRunes
import Derived.Shelf.Strings.Prefix
import Derived.Shelf.Bits.Mul64
import Derived.Shelf.Strings.Repeat
import Derived.Shelf.Strings.FuncGrows
import Derived.Shelf.Strings.BuilderCap
import Derived.Ground.Names2Prog
import Derived.Shelf.Slices.Clone
import Derived.Shelf.Slices.SearchI
import Derived.Shelf.Slices.In.SortNone
import Derived.Test.YtckokhdjeifomaaGreatDoorProg
import Derived.Laws.LoneSync
namespace Go.SL
open Go
/-- Block g begins with these bytes; what is marked of it lies behind all of its cells. -/
def byC (g : Nat) (e : TypeId) (bs : List UInt8) : Own := { blks := [g], pred := fun w => ∃ (C : Array Value) (fz : Nat × Nat), w.heap[g]? = some (.cells C e fz) ∧ C.size ≤ fz.1 ∧ C.toList.take bs.length = bs.map vy ∧ bs.length ≤ C.size }
section rules
variable {P : Program} {n : Sz} {o : Oper} {L : Env} {R : List RO} {O O' : List Own} {K : Env → List RO → List Own → Prop} {t t' e : TypeId} {x y : Operand} {g : Nat} {bs : List UInt8}
theorem byC_cell {w : World} (h : (byC g e bs).pred w) {j : Nat} {c : UInt8} (hj : bs[j]? = some c) : w.cell? ⟨g, j, none⟩ = some (vy c) := by
 obtain ⟨C, fz, hh, _, ht, hl⟩ := h
 have hlt := (List.getElem?_eq_some_iff.1 hj).1
 have h1 : (C.toList.take bs.length)[j]? = some (vy c) := by rw [ht, List.getElem?_map, hj]; rfl
 rw [List.getElem?_take_of_lt hlt] at h1
 simp only [World.cell?, hh]
 simpa using h1
theorem byC_free {w : World} (h : (byC g e bs).pred w) {j : Nat} (hj : j < bs.length) : w.frozen? ⟨g, j, none⟩ = false := by
 obtain ⟨C, ⟨f1, f2⟩, hh, hf, _, hl⟩ := h
 have hf' : C.size ≤ f1 := hf
 simp only [World.frozen?, hh]
 rw [Bool.and_eq_false_iff]
 left
 rw [decide_eq_false_iff_not]; omega
theorem byC_SlE {w : World} {c : Nat} (hc : bs.length ≤ c) (hm : c ≤ maxLen) (h : (byC g e bs).pred w) : SlE (one vy) (.slice (some ⟨g, 0, none⟩) bs.length c) bs w := by
 refine ⟨some ⟨g, 0, none⟩, c, rfl, hc, hm, (fun h => by cases h), fun a ha => ?_⟩
 cases ha
 refine ⟨fun _ => rfl, fun j u hj => ?_⟩
 rw [flat_one, List.getElem?_map, Option.map_eq_some_iff] at hj
 obtain ⟨b, hb, rfl⟩ := hj
 have := byC_cell h hb
 simpa using this
/-- []byte(s) -/
theorem OpW.bytesOf {d : Nat} {s : List UInt8} (ho : o.op = .convert t t' x) (h1 : P.underlying t = some .string) (h2 : P.underlying t' = some (.slice e)) (h3 : P.underlying e = some (.int .u8)) (hx : ev L x = some (vs s)) (hs : s.length ≤ maxLen) (hd : o.dst = some d) (hn : Nat.blt d n.n = true)
 (k : ∀ g c, s.length ≤ c → c ≤ maxLen → K ((d, .slice (some ⟨g, 0, none⟩) s.length c) :: L) R (byC g e s :: O)) : OpW P n o L R O K := by
 intro a w hf h0 Q
 have hr := run_bytes_of_string (P := P) w t t' e ⟨s.toArray⟩ h1 h2 h3
 have hge := grownCap_ge w (ByteArray.mk s.toArray).size 0 e
 have hle := grownCap_le_maxLen w (ByteArray.mk s.toArray).size 0 e (by rw [size_mk]; exact hs)
 rw [size_mk] at hr hge hle
 unfold Oper.wp
 have hr2 : (execOp a.eval o).run P w = .ok (.value (.slice (some ⟨w.heap.size, 0, none⟩) s.length (grownCap w s.length 0 e)))
  (w.drew.alloc (.cells (bytesRow ⟨s.toArray⟩ (grownCap w s.length 0 e)) e ((bytesRow ⟨s.toArray⟩ (grownCap w s.length 0 e)).size, (bytesRow ⟨s.toArray⟩ (grownCap w s.length 0 e)).size + 1))) := by
  simp only [execOp, ho, hf.ev hx, Sem.run_bind, hr, Result.andThen_ok, Sem.run_pure]
 rw [hr2, Oper.upon_value, hd]
 refine ⟨_, _, _, k w.heap.size _ hge hle, hf.put hn _, ?_⟩
 have hsd : Sat R O w.drew := h0.drew _
 refine hsd.alloc _ _ rfl fun w' h _ => ?_
 refine ⟨_, _, h, Nat.le_refl _, ?_, ?_⟩
 · have e1 : (bytesRow ⟨s.toArray⟩ (grownCap w s.length 0 e)).toList = s.map vy ++ List.replicate (grownCap w s.length 0 e - s.length) (.int .u8 0) := by
    simp only [bytesRow, size_mk, Array.toList_append, Array.toList_map, Array.toList_replicate]
   rw [e1, List.take_append_of_le_length (by rw [List.length_map]; exact Nat.le_refl _), List.take_of_length_le (by rw [List.length_map]; exact Nat.le_refl _)]
 · simp [bytesRow, size_mk]
theorem Rd.getBy {k : Nat} {c : UInt8} (ho : o.op = .load t x) (hc : Cell1 P t) (hx : ev L x = some (.pointer (some ⟨g, k, none⟩))) (hp : byC g e bs ∈ O) (hk : bs[k]? = some c) : Rd P o L R O (vy c) := fun ρ w hρ _ hO => by
 have h := run_load1 (P := P) hc (byC_cell (hO _ hp) hk)
 simp only [execOp, ho, hρ _ _ hx, Sem.run_bind, h, Result.andThen_ok, Sem.run_pure]
theorem Rd.strOfBy {c m : Nat} (ho : o.op = .convert t t' x) (h1 : P.underlying t = some (.slice e)) (h2 : P.underlying t' = some .string) (h3 : P.underlying e = some (.int .u8)) (hx : ev L x = some (.slice (some ⟨g, 0, none⟩) m c)) (hp : byC g e bs ∈ O) (hm : bs.length = m) (hc : bs.length ≤ c) (hcm : c ≤ maxLen) : Rd P o L R O (vs bs) := by
 subst hm
 exact Rd.strOf ho h1 h2 h3 hx fun _ _ hO => byC_SlE hc hcm (hO _ hp)
theorem OpW.storeBy {k : Nat} {c : UInt8} (ho : o.op = .store t x y) (hsz : ∀ w, (sizeOf t).run P w = .ok 1 w) (hx : ev L x = some (.pointer (some ⟨g, k, none⟩))) (hy : ev L y = some (vy c)) (hT : Take (byC g e bs) O O') (hlt : k < bs.length) (hd : o.dst = none)
 (kk : K L R (byC g e (bs.set k c) :: O')) : OpW P n o L R O K := by
 intro a w hf hs Q
 have hs' := hs.perm hT.perm
 have hp : (byC g e bs).pred w := hs'.see List.mem_cons_self
 have hcell := byC_cell hp (List.getElem?_eq_getElem hlt)
 have hfree := byC_free hp hlt
 have h1 : (vy c).cells = #[vy c] := rfl
 have h2 : (vy c).oneCell' = true := rfl
 have hr : (execOp a.eval o).run P w = .ok .skip (w.setCell ⟨g, k, none⟩ (vy c)) := by
  simp [execOp, ho, hf.ev hx, hf.ev hy, Instr.storeAt, Instr.sureAddr, storeVar, hsz, h1, storeCells, Addr.add, run_store _ _ _ _ _ h2, hcell, hfree]
 unfold Oper.wp
 rw [hr, Oper.upon_skip, hd]
 have hlt' : g < w.heap.size := hs'.lt g (by simp [owned, byC])
 obtain ⟨C, fz, hh, hfz, ht, hl⟩ := hp
 have hset : (w.setCell ⟨g, k, none⟩ (vy c)).heap[g]? = some (.cells (C.setIfInBounds k (vy c)) e fz) := by
  show (w.heap.modify g _)[g]? = _
  rw [Array.getElem?_modify, if_pos rfl, hh]; rfl
 refine ⟨_, _, _, kk, hf.none _, hs'.update _ ⟨rfl, rfl, rfl, by simp, fun j hj hn => heap_setCell_other w _ _ (vy c) (by simpa [byC] using hn)⟩ (by simp [byC]) (by simpa [byC] using hlt') (by simp [byC]) (fun w'' ha _ => ?_)⟩
 refine ⟨C.setIfInBounds k (vy c), fz, ?_, by simpa using hfz, ?_, by simpa using hl⟩
 · rw [ha.2.2.2.2 g (by simpa using hlt') (by simp [byC])]
   exact hset
 · rw [Array.toList_setIfInBounds, List.length_set, List.take_set, ht, List.map_set]
end rules
end Go.SL
namespace Go.SL
open Go Go.RowKit
theorem Sat.below {R : List RO} {O : List Own} {w w' : World} (h : Sat R O w) (hb : Below w.heap.size w w') : Sat R O w' := by
 have key : ∀ {S : Nat → Prop} {w'' : World}, Agree S w' w'' → Agree S w w'' := fun {S w''} ha =>
  (show Agree S w w' from ⟨hb.os, hb.tape, hb.output, hb.size, fun k hk _ => hb.block k hk⟩).trans ha
 exact ⟨h.nodup, fun k hk => Nat.lt_of_lt_of_le (h.lt k hk) hb.size, fun p hp w'' ha => h.ro p hp w'' (key ha), fun c hc w'' ha => h.own c hc w'' (key ha)⟩
/-- A contract of the library's: it gives v and touches nothing that was there. -/
theorem Fun.below {P : Program} {f : FuncId} {args : Array Value} {R : List RO} {O : List Own} {post : Value → List RO → List Own → Prop} {v : Value} (h : ∀ w, Calls P f args w fun e w' => e = .returned v ∧ Below w.heap.size w w') (hk : post v R O) : Fun P f args R O post :=
 fun w hs => (h w).mono fun _ _ ⟨he, hb⟩ => ⟨v, R, O, he, hk, hs.below hb⟩
theorem Fun.still {P : Program} {f : FuncId} {args : Array Value} {R : List RO} {O : List Own} {post : Value → List RO → List Own → Prop} {v : Value} (h : ∀ w, Calls P f args w fun e w' => e = .returned v ∧ w' = w) (hk : post v R O) : Fun P f args R O post :=
 fun w hs => (h w).mono fun _ w' ⟨he, hb⟩ => ⟨v, R, O, he, hk, by rw [hb]; exact hs⟩
/-- What a call leaves is thinned out. -/
theorem Fun.thin {P : Program} {f : FuncId} {args : Array Value} {R : List RO} {O : List Own} {post post' : Value → List RO → List Own → Prop} (h : Fun P f args R O post') (hp : ∀ v R' O', post' v R' O' → ∃ R2 O2, post v R2 O2 ∧ ∀ w, Sat R' O' w → Sat R2 O2 w) : Fun P f args R O post :=
 fun w hs => (h w hs).mono fun _ w' ⟨v, R', O', he, hk, hs'⟩ => by
  obtain ⟨R2, O2, h2, h3⟩ := hp v R' O' hk
  exact ⟨v, R2, O2, he, h2, h3 w' hs'⟩
section ret
variable {P : Program} {fn : Func} {n : Sz} {L : Env} {R : List RO} {O : List Own} {post : Value → List RO → List Own → Prop}
theorem run_loadVar_agg {t : TypeId} {size : Nat} (hG : Agg P t size) {b : Nat} {e : TypeId} {cs : List Value} (hl : cs.length = size) {w : World} (h : (rowC b e cs).pred w) : (loadVar t ⟨b, 0, none⟩).run P w = .ok (.agg cs.toArray) w := by
 have h1 := run_loadAgg hG (a := ⟨b, 0, none⟩) rfl hl (w := w) (fun j u hj => by
  have := row_cell h hj
  simpa using this)
 simpa [Instr.loadAt, Instr.sureAddr] using h1
theorem Ret.cellRow {p : Tmp} {ty : TypeId} {size b : Nat} {e : TypeId} {cs : List Value} (hr : fn.results = #[.cell p ty]) (ht : Env.find L p = some (.pointer (some ⟨b, 0, none⟩))) (hp : rowC b e cs ∈ O) (hG : Agg P ty size) (hl : cs.length = size) (h : post (.agg cs.toArray) R O) : retQ P fn n post .ret L R O :=
 ⟨_, fun a w _ hf ⟨_, hs⟩ => by
   have e1 := getD_of hf ht
   have e2 := run_loadVar_agg hG hl (hs.see (List.mem_append_right _ hp))
   simp only [Array.getD_eq_getD_getElem?] at e1
   simp [results, hr, e1, asAddr, e2], h⟩
end ret
section parts
variable {P : Program} {o : Oper} {L : Env} {R : List RO} {O : List Own} {t e : TypeId} {m : Nat} {x y : Operand} {u : Value}
/-- One element of an array's value. -/
theorem Rd.idxAgg {kd : IntKind} {k : Nat} {p : Int} {cs : List Value} (ho : o.op = .index t x y) (hT : ArT P t m e 1) (hc : Cell1 P e) (hx : ev L x = some (.agg cs.toArray)) (hy : ev L y = some (.int kd p)) (hp : p = (k : Int)) (hlt : k < m) (hk : cs[k]? = some u) : Rd P o L R O u := fun ρ w hρ _ _ => by
 subst hp
 have h1 : (0 : Int) ≤ (k : Int) ∧ (k : Int) < (m : Int) := ⟨by omega, by omega⟩
 simp [execOp, ho, hρ _ _ hx, hρ _ _ hy, Instr.index, asIntOf, run_underlying hT.und, h1, hlt, hT.sz, Go.part, hc w, hk]
/-- An array's value out of all of its parts. -/
theorem Rd.buildA {ps : List (Nat × Operand)} {vals cells : List Value} {css : List (List Value)} {i : TypeInfo} {zv : Value} {size : Nat} (ho : o.op = .build t ps.toArray) (hT : ArT P t m e size) (hi : P.info? t = some i) (hz : i.zero = some zv) (hzs : zv.cells.size = m * size)
 (hv : Evs L (ps.map (·.2)) vals) (his : ps.map (·.1) = List.range' 0 m) (hc : CellsOf vals css) (hl : (css.all fun l => Nat.beq l.length size) = true) (hcells : css.flatten = cells) : Rd P o L R O (.agg cells.toArray) := fun ρ w hρ _ _ => by
 subst hcells
 have hlen : vals.length = m := by
  have h1 : (ps.map (·.1)).length = m := by rw [his]; simp
  have h2 : vals.length = (ps.map (·.2)).length := by
   clear his hc ho h1
   generalize ps.map (·.2) = xs at hv
   induction hv with
   | nil => rfl
   | cons _ _ ih => simp [ih]
  rw [h2, List.length_map, ← h1, List.length_map]
 have hcl : css.length = vals.length := by
  clear hv hlen hl
  induction hc with
  | nil => rfl
  | cons _ _ ih => simp [ih]
 have hl' : ∀ l ∈ css, l.length = size := fun l h => Nat.eq_of_beq_eq_true (List.all_eq_true.1 hl l h)
 obtain ⟨r, hr, hrl⟩ := fill_cover vals css 0 zv.cells hc hl' (by rw [hcl, hlen, hzs]; simp)
 have hre : r = css.flatten.toArray := by
  apply Array.ext'
  rw [hrl]
  have : ((0 + css.length) * size) = zv.cells.toList.length := by
   have h1 : zv.cells.toList.length = zv.cells.size := rfl
   rw [h1, hzs, hcl, hlen, Nat.zero_add]
  rw [this, List.drop_length]; simp
 have e1 : (ps.toArray.map fun (i, x) => (i, ρ x)).toList = (ps.map (·.1)).zip vals := by
  have e2 := hv.eval hρ
  rw [← e2]
  simp only [List.map_toArray]
  exact zip_pairs ρ ps
 rw [his, ← hlen] at e1
 simp only [execOp, ho, Sem.run_bind, Instr.build, zeroValue, typeInfo, hi, hz, run_underlying hT.und, hT.sz, Result.andThen_ok, Sem.run_pure, run_program, e1, hr, hre]
/-- The whole of an array as a slice. -/
theorem Rd.sliceArr {b size : Nat} (ho : o.op = .slice t x none none none) (hT : ArT P t m e size) (hx : ev L x = some (.pointer (some ⟨b, 0, none⟩))) (_hm : 0 < m) : Rd P o L R O (.slice (some ⟨b, 0, none⟩) m m) := fun ρ w hρ _ _ => by
 simp [execOp, ho, hρ _ _ hx, Instr.sliceAt, Instr.sliceBounds, Instr.sureAddr, run_underlying hT.und, hT.sz, Addr.add, Result.andThen]
theorem Rd.andS {k : IntKind} {p q : Int} {a c : Nat} {t' : TypeId} (ho : o.op = .binOp .and t x y t') (hx : ev L x = some (.int k p)) (hy : ev L y = some (.int k q)) (hp : p = (a : Int)) (hq : q = (c : Int)) (ha : a < 2 ^ (k.bits - 1)) (hc : c < 2 ^ (k.bits - 1)) : Rd P o L R O (.int k ((a &&& c : Nat) : Int)) := by
 have h := Rd.and (R := R) (O := O) (P := P) ho hx hy
 have h1 : (2 : Nat) ^ (k.bits - 1) ≤ 2 ^ k.bits := Nat.pow_le_pow_right Z.W Z.W
 rw [hp, hq, BitVec.toNat_and, ofInt_toNat (Nat.lt_of_lt_of_le ha h1), ofInt_toNat (Nat.lt_of_lt_of_le hc h1), wrap_natS (Nat.lt_of_le_of_lt Nat.and_le_left ha)] at h
 exact h
end parts
theorem NF.refl {α : Type} : ∀ (l : List α), NF l l
 | [] => NF.nil
 | _ :: r => NF.cons (NF.refl r)
theorem NF.of {α : Type} {l l' : List α} (h : l = l') : NF l l' := h ▸ NF.refl l
/-- A row with room for c elements: a slice of none of them, to be appended to. -/
theorem Sat.accCap {α : Type} {enc : α → List Value} {R : List RO} {O O' : List Own} {e : TypeId} {size b c : Nat} {cells : List Value} {w : World} (hT : Take (rowC b e cells) O O') (hl : cells.length = c * size) (hmc : c ≤ maxLen) (h : Sat R O w) : Sat R (accC e size enc (.slice (some ⟨b, 0, none⟩) 0 c) ([] : List α) :: O') w :=
 (h.perm hT.perm).recast _ rfl (fun _ hp _ => ⟨by simp, .inr ⟨b, c, _, rfl, Nat.zero_le _, hp, Nat.zero_le _, hmc, by simpa using hl, by simp⟩⟩)
section whole
variable {P : Program} {n : Sz} {o : Oper} {L : Env} {R : List RO} {O O' : List Own} {K : Env → List RO → List Own → Prop} {t e : TypeId} {size b : Nat} {x y : Operand} {cs : List Value}
/-- A whole row. -/
theorem Rd.rowW (ho : o.op = .load t x) (hG : Agg P t size) (hx : ev L x = some (.pointer (some ⟨b, 0, none⟩))) (hp : rowC b e cs ∈ O) (hl : cs.length = size) : Rd P o L R O (.agg cs.toArray) :=
 Rd.rowS ho hG hx hp (NF.of (by rw [List.drop_zero, List.take_of_length_le Z.W])) hl
/-- A store into a whole row. -/
theorem OpW.storeW {ds : List Value} (ho : o.op = .store t x y) (hG : Agg P t size) (hx : ev L x = some (.pointer (some ⟨b, 0, none⟩))) (hy : ev L y = some (.agg ds.toArray)) (hT : Take (rowC b e cs) O O') (hl : ds.length = size) (hc : cs.length = size) (h1 : (ds.all Value.oneCell') = true) (hd : o.dst = none)
 (k : K L R (rowC b e ds :: O')) : OpW P n o L R O K :=
 OpW.storeS ho hG hx hy (NF.refl _) hT hl (Nat.ble_eq_true_of_le (by show 0 + ds.length ≤ cs.length; omega)) (NF.of (by rw [spl, List.take_zero, List.nil_append, Nat.zero_add, List.drop_of_length_le (by show cs.length ≤ ds.length; omega), List.append_nil])) hd k h1
theorem Rd.shl32 {k' : IntKind} {a m : Nat} {p q : Int} {t' : TypeId} (ho : o.op = .binOp .shl t x y t') (hx : ev L x = some (.int .u32 p)) (hy : ev L y = some (.int k' q)) (hp : p = (a : Int)) (hq : q = (m : Int)) (hn : m ≤ 32) : Rd P o L R O (.int .u32 ((a * 2 ^ m % 2 ^ 32 : Nat) : Int)) :=
 Rd.shlN (k := .u32) ho hx hy hp hq hn rfl
end whole
/-- The first cells of a row. -/
def prefC (b : Nat) (cs : List Value) : Own := { blks := [b], pred := fun w => ∀ (j : Nat) (u : Value), cs[j]? = some u → w.cell? ⟨b, j, none⟩ = some u }
theorem Rd.pref {P : Program} {o : Oper} {L : Env} {R : List RO} {O : List Own} {t : TypeId} {x : Operand} {b off : Nat} {cs : List Value} {u : Value} (ho : o.op = .load t x) (hc : Cell1 P t) (hx : ev L x = some (.pointer (some ⟨b, off, none⟩))) (hp : prefC b cs ∈ O) (hk : cs[off]? = some u) : Rd P o L R O u := fun ρ w hρ _ hO => by
 have h := run_load1 (P := P) hc (hO _ hp off u hk)
 simp only [execOp, ho, hρ _ _ hx, Sem.run_bind, h, Result.andThen_ok, Sem.run_pure]
theorem row_pref {b : Nat} {e : TypeId} {cs xs : List Value} (h : ∀ (j : Nat) (u : Value), xs[j]? = some u → cs[j]? = some u) : ∀ w, (rowC b e cs).pred w → (prefC b xs).pred w := fun _ hw j u hj => row_cell hw (h j u hj)
theorem pref_app {xs ys : List Value} : ∀ (j : Nat) (u : Value), xs[j]? = some u → (xs ++ ys)[j]? = some u := fun j u h => by
 rw [List.getElem?_append_left (List.getElem?_eq_some_iff.1 h).1, h]
theorem pref_set {xs ys : List Value} {k : Nat} {v : Value} (hk : xs.length ≤ k) : ∀ (j : Nat) (u : Value), xs[j]? = some u → ((xs ++ ys).set k v)[j]? = some u := fun j u h => by
 have hj := (List.getElem?_eq_some_iff.1 h).1
 rw [List.getElem?_set_ne Z.W, pref_app j u h]
/-- Several operations may come up now. -/
theorem WD.some {P : Program} {n : Sz} {ops : Array Oper} {Q : Post} {L : Env} {R : List RO} {O : List Own} {S : List RO} {T : List Own} {fuel : Nat} {listed : Array Bool} (is : List Nat) (hr : Region.ready .any ops listed = is) (hne : is ≠ [])
 (h : ∀ i ∈ is, ∃ o, ops[i]? = some o ∧ o.guard = none ∧ OpW P n o L R O (fun L' R' O' => Held S T R' O' ∧ WD P n ops Q S T fuel (listed.setIfInBounds i true) L' R' O')) : WD P n ops Q S T (fuel + 1) listed L R O := by
 intro a w hf hs
 refine wpAnyH_all hr hne fun x hx => ?_
 obtain ⟨o, ho, hg, hop⟩ := h x hx
 unfold wpOp
 rw [ho]
 simp only [Region.wanted, hg, if_true]
 exact .inl (Oper.wp_mono (fun a' w' ⟨L', R', O', hk, hf', hs'⟩ => ⟨hk.1 w' hs', hk.2 a' w' hf' hs'⟩) (hop a w hf hs _))
end Go.SL
namespace Go.Proofs.YtckokhdjeifomaaGreatDoor
open Go Go.SL
theorem mixed : Tryz.prog.follows .mixedOrders = true := by kernel_rfl
theorem I3 : Tryz.prog.info? 3 = some Tryz.t3 := by kernel_rfl
theorem I4 : Tryz.prog.info? 4 = some Tryz.t4 := by kernel_rfl
theorem I5 : Tryz.prog.info? 5 = some Tryz.t5 := by kernel_rfl
theorem I9 : Tryz.prog.info? 9 = some Tryz.t9 := by kernel_rfl
theorem I26 : Tryz.prog.info? 26 = some Tryz.t26 := by kernel_rfl
theorem I36 : Tryz.prog.info? 36 = some Tryz.t36 := by kernel_rfl
theorem I51 : Tryz.prog.info? 51 = some Tryz.t51 := by kernel_rfl
theorem I63 : Tryz.prog.info? 63 = some Tryz.t63 := by kernel_rfl
theorem I65 : Tryz.prog.info? 65 = some Tryz.t65 := by kernel_rfl
theorem I74 : Tryz.prog.info? 74 = some Tryz.t74 := by kernel_rfl
theorem I77 : Tryz.prog.info? 77 = some Tryz.t77 := by kernel_rfl
theorem I79 : Tryz.prog.info? 79 = some Tryz.t79 := by kernel_rfl
theorem I96 : Tryz.prog.info? 96 = some Tryz.t96 := by kernel_rfl
theorem I98 : Tryz.prog.info? 98 = some Tryz.t98 := by kernel_rfl
theorem I113 : Tryz.prog.info? 113 = some Tryz.t113 := by kernel_rfl
theorem I120 : Tryz.prog.info? 120 = some Tryz.t120 := by kernel_rfl
theorem I145 : Tryz.prog.info? 145 = some Tryz.t145 := by kernel_rfl
theorem I163 : Tryz.prog.info? 163 = some Tryz.t163 := by kernel_rfl
theorem I165 : Tryz.prog.info? 165 = some Tryz.t165 := by kernel_rfl
theorem I184 : Tryz.prog.info? 184 = some Tryz.t184 := by kernel_rfl
theorem I197 : Tryz.prog.info? 197 = some Tryz.t197 := by kernel_rfl
theorem A163 : ArT Tryz.prog 163 8 134 1 := ⟨Tryz.underlying163, Tryz.sizeOf134⟩
theorem A180 : ArT Tryz.prog 180 16 134 1 := ⟨Tryz.underlying180, Tryz.sizeOf134⟩
theorem A184 : ArT Tryz.prog 184 8 5 1 := ⟨Tryz.underlying184, Tryz.sizeOf5⟩
theorem A197 : ArT Tryz.prog 197 64 134 1 := ⟨Tryz.underlying197, Tryz.sizeOf134⟩
theorem Bs120 : FieldPlaces Tryz.prog 120 [(0, 1), (1, 1)] := ⟨_, Tryz.underlying120, fun w => by simp [Tryz.sizeOf3]⟩
theorem Bs145 : FieldPlaces Tryz.prog 145 [(0, 1), (1, 1)] := ⟨_, Tryz.underlying145, fun w => by simp [Tryz.sizeOf3, Tryz.sizeOf9]⟩
theorem Bs51 : FieldPlaces Tryz.prog 51 [(0, 1), (1, 1), (2, 1), (3, 1), (4, 1)] := ⟨_, Tryz.underlying51, fun w => by simp [Tryz.sizeOf4, Tryz.sizeOf40, Tryz.sizeOf43, Tryz.sizeOf44, Tryz.sizeOf49]⟩
theorem Bs63 : FieldPlaces Tryz.prog 63 [(0, 1), (1, 1)] := ⟨_, Tryz.underlying63, fun w => by simp [Tryz.sizeOf3, Tryz.sizeOf9]⟩
theorem Bs65 : FieldPlaces Tryz.prog 65 [(0, 1), (1, 1), (2, 2), (4, 1), (5, 1), (6, 1)] := ⟨_, Tryz.underlying65, fun w => by simp [Tryz.sizeOf25, Tryz.sizeOf3, Tryz.sizeOf4, Tryz.sizeOf60, Tryz.sizeOf61, Tryz.sizeOf63]⟩
theorem Bs74 : FieldPlaces Tryz.prog 74 [(0, 1), (1, 1)] := ⟨_, Tryz.underlying74, fun w => by simp [Tryz.sizeOf23, Tryz.sizeOf3]⟩
theorem Bs79 : FieldPlaces Tryz.prog 79 [(0, 1), (1, 1), (2, 1)] := ⟨_, Tryz.underlying79, fun w => by simp [Tryz.sizeOf3, Tryz.sizeOf77]⟩
theorem Bs96 : FieldPlaces Tryz.prog 96 [(0, 1), (1, 1)] := ⟨_, Tryz.underlying96, fun w => by simp [Tryz.sizeOf3, Tryz.sizeOf9]⟩
theorem Bs98 : FieldPlaces Tryz.prog 98 [(0, 1), (1, 1), (2, 1)] := ⟨_, Tryz.underlying98, fun w => by simp [Tryz.sizeOf25, Tryz.sizeOf3]⟩
theorem C111 : Cell1 Tryz.prog 111 := Tryz.isAgg111
theorem C123 : Cell1 Tryz.prog 123 := Tryz.isAgg123
theorem C134 : Cell1 Tryz.prog 134 := Tryz.isAgg134
theorem C23 : Cell1 Tryz.prog 23 := Tryz.isAgg23
theorem C25 : Cell1 Tryz.prog 25 := Tryz.isAgg25
theorem C26 : Cell1 Tryz.prog 26 := Tryz.isAgg26
theorem C3 : Cell1 Tryz.prog 3 := Tryz.isAgg3
theorem C4 : Cell1 Tryz.prog 4 := Tryz.isAgg4
theorem C40 : Cell1 Tryz.prog 40 := Tryz.isAgg40
theorem C43 : Cell1 Tryz.prog 43 := Tryz.isAgg43
theorem C44 : Cell1 Tryz.prog 44 := Tryz.isAgg44
theorem C5 : Cell1 Tryz.prog 5 := Tryz.isAgg5
theorem C60 : Cell1 Tryz.prog 60 := Tryz.isAgg60
theorem C61 : Cell1 Tryz.prog 61 := Tryz.isAgg61
theorem C70 : Cell1 Tryz.prog 70 := Tryz.isAgg70
theorem C77 : Cell1 Tryz.prog 77 := Tryz.isAgg77
theorem C9 : Cell1 Tryz.prog 9 := Tryz.isAgg9
theorem E63 (a0 b0 : Int) (a1 b1 : List UInt8) : EqS Tryz.prog 63 #[.int .i64 a0, vs a1] #[.int .i64 b0, vs b1] (a0 = b0 ∧ a1 = b1) := ⟨fun w => by
 simp [go_sem, run_equalIn_agg, Op.eqFields, part, Tryz.underlying3, Tryz.underlying9, Tryz.underlying63, Tryz.isAgg3, Tryz.isAgg9, Tryz.isAgg63, Tryz.stoodInHeld63, Tryz.sizeOf3, Tryz.sizeOf9, Tryz.sizeOf63]
 all_goals (try (repeat' split)) <;> simp_all, Tryz.eqGuardType63⟩
theorem F113_0 : FieldAt Tryz.prog 113 0 0 := ⟨_, _, 0, Tryz.underlying113, rfl, rfl, Tryz.sizeOf111⟩
theorem F113_1 : FieldAt Tryz.prog 113 1 1 := ⟨_, _, 0, Tryz.underlying113, rfl, rfl, Tryz.sizeOf70⟩
theorem F120_0 : FieldAt Tryz.prog 120 0 0 := ⟨_, _, 0, Tryz.underlying120, rfl, rfl, Tryz.sizeOf3⟩
theorem F120_1 : FieldAt Tryz.prog 120 1 1 := ⟨_, _, 0, Tryz.underlying120, rfl, rfl, Tryz.sizeOf3⟩
theorem F145_0 : FieldAt Tryz.prog 145 0 0 := ⟨_, _, 0, Tryz.underlying145, rfl, rfl, Tryz.sizeOf3⟩
theorem F145_1 : FieldAt Tryz.prog 145 1 1 := ⟨_, _, 0, Tryz.underlying145, rfl, rfl, Tryz.sizeOf9⟩
theorem F165_0 : FieldAt Tryz.prog 165 0 0 := ⟨_, _, 7, Tryz.underlying165, rfl, rfl, Tryz.sizeOf163⟩
theorem F165_1 : FieldAt Tryz.prog 165 1 8 := ⟨_, _, 0, Tryz.underlying165, rfl, rfl, Tryz.sizeOf4⟩
theorem F165_2 : FieldAt Tryz.prog 165 2 9 := ⟨_, _, 0, Tryz.underlying165, rfl, rfl, Tryz.sizeOf9⟩
theorem F165_3 : FieldAt Tryz.prog 165 3 10 := ⟨_, _, 0, Tryz.underlying165, rfl, rfl, Tryz.sizeOf3⟩
theorem F36_0 : FieldAt Tryz.prog 36 0 0 := ⟨_, _, 0, Tryz.underlying36, rfl, rfl, Tryz.sizeOf3⟩
theorem F36_1 : FieldAt Tryz.prog 36 1 1 := ⟨_, _, 0, Tryz.underlying36, rfl, rfl, Tryz.sizeOf3⟩
theorem F36_2 : FieldAt Tryz.prog 36 2 2 := ⟨_, _, 0, Tryz.underlying36, rfl, rfl, Tryz.sizeOf3⟩
theorem F36_3 : FieldAt Tryz.prog 36 3 3 := ⟨_, _, 0, Tryz.underlying36, rfl, rfl, Tryz.sizeOf3⟩
theorem F49_2 : FieldAt Tryz.prog 49 2 0 := ⟨_, _, 0, Tryz.underlying49, rfl, rfl, Tryz.sizeOf2⟩
theorem F51_0 : FieldAt Tryz.prog 51 0 0 := ⟨_, _, 0, Tryz.underlying51, rfl, rfl, Tryz.sizeOf40⟩
theorem F51_1 : FieldAt Tryz.prog 51 1 1 := ⟨_, _, 0, Tryz.underlying51, rfl, rfl, Tryz.sizeOf43⟩
theorem F51_2 : FieldAt Tryz.prog 51 2 2 := ⟨_, _, 0, Tryz.underlying51, rfl, rfl, Tryz.sizeOf44⟩
theorem F51_3 : FieldAt Tryz.prog 51 3 3 := ⟨_, _, 0, Tryz.underlying51, rfl, rfl, Tryz.sizeOf4⟩
theorem F51_4 : FieldAt Tryz.prog 51 4 4 := ⟨_, _, 0, Tryz.underlying51, rfl, rfl, Tryz.sizeOf49⟩
theorem F63_0 : FieldAt Tryz.prog 63 0 0 := ⟨_, _, 0, Tryz.underlying63, rfl, rfl, Tryz.sizeOf3⟩
theorem F63_1 : FieldAt Tryz.prog 63 1 1 := ⟨_, _, 0, Tryz.underlying63, rfl, rfl, Tryz.sizeOf9⟩
theorem F65_0 : FieldAt Tryz.prog 65 0 0 := ⟨_, _, 0, Tryz.underlying65, rfl, rfl, Tryz.sizeOf25⟩
theorem F65_1 : FieldAt Tryz.prog 65 1 1 := ⟨_, _, 0, Tryz.underlying65, rfl, rfl, Tryz.sizeOf61⟩
theorem F65_2 : FieldAt Tryz.prog 65 2 2 := ⟨_, _, 1, Tryz.underlying65, rfl, rfl, Tryz.sizeOf63⟩
theorem F65_3 : FieldAt Tryz.prog 65 3 4 := ⟨_, _, 0, Tryz.underlying65, rfl, rfl, Tryz.sizeOf60⟩
theorem F65_4 : FieldAt Tryz.prog 65 4 5 := ⟨_, _, 0, Tryz.underlying65, rfl, rfl, Tryz.sizeOf3⟩
theorem F65_5 : FieldAt Tryz.prog 65 5 6 := ⟨_, _, 0, Tryz.underlying65, rfl, rfl, Tryz.sizeOf4⟩
theorem F74_0 : FieldAt Tryz.prog 74 0 0 := ⟨_, _, 0, Tryz.underlying74, rfl, rfl, Tryz.sizeOf3⟩
theorem F74_1 : FieldAt Tryz.prog 74 1 1 := ⟨_, _, 0, Tryz.underlying74, rfl, rfl, Tryz.sizeOf23⟩
theorem F79_0 : FieldAt Tryz.prog 79 0 0 := ⟨_, _, 0, Tryz.underlying79, rfl, rfl, Tryz.sizeOf3⟩
theorem F79_1 : FieldAt Tryz.prog 79 1 1 := ⟨_, _, 0, Tryz.underlying79, rfl, rfl, Tryz.sizeOf3⟩
theorem F79_2 : FieldAt Tryz.prog 79 2 2 := ⟨_, _, 0, Tryz.underlying79, rfl, rfl, Tryz.sizeOf77⟩
theorem F96_0 : FieldAt Tryz.prog 96 0 0 := ⟨_, _, 0, Tryz.underlying96, rfl, rfl, Tryz.sizeOf3⟩
theorem F96_1 : FieldAt Tryz.prog 96 1 1 := ⟨_, _, 0, Tryz.underlying96, rfl, rfl, Tryz.sizeOf9⟩
theorem F98_0 : FieldAt Tryz.prog 98 0 0 := ⟨_, _, 0, Tryz.underlying98, rfl, rfl, Tryz.sizeOf25⟩
theorem F98_1 : FieldAt Tryz.prog 98 1 1 := ⟨_, _, 0, Tryz.underlying98, rfl, rfl, Tryz.sizeOf3⟩
theorem F98_2 : FieldAt Tryz.prog 98 2 2 := ⟨_, _, 0, Tryz.underlying98, rfl, rfl, Tryz.sizeOf3⟩
theorem G120 : Agg Tryz.prog 120 2 := ⟨Tryz.isAgg120, Tryz.sizeOf120⟩
theorem G145 : Agg Tryz.prog 145 2 := ⟨Tryz.isAgg145, Tryz.sizeOf145⟩
theorem G163 : Agg Tryz.prog 163 8 := ⟨Tryz.isAgg163, Tryz.sizeOf163⟩
theorem G165 : Agg Tryz.prog 165 11 := ⟨Tryz.isAgg165, Tryz.sizeOf165⟩
theorem G197 : Agg Tryz.prog 197 64 := ⟨Tryz.isAgg197, Tryz.sizeOf197⟩
theorem G36 : Agg Tryz.prog 36 4 := ⟨Tryz.isAgg36, Tryz.sizeOf36⟩
theorem G63 : Agg Tryz.prog 63 2 := ⟨Tryz.isAgg63, Tryz.sizeOf63⟩
theorem G79 : Agg Tryz.prog 79 3 := ⟨Tryz.isAgg79, Tryz.sizeOf79⟩
theorem G96 : Agg Tryz.prog 96 2 := ⟨Tryz.isAgg96, Tryz.sizeOf96⟩
theorem K3 : KeyT Tryz.prog 3 (fun n : Int => .int .i64 n) := KeyT.int Tryz.underlying3
theorem K9 : KeyT Tryz.prog 9 vs := KeyT.string Tryz.underlying9
theorem M123 : MapT Tryz.prog 123 3 9 (.string ⟨#[]⟩) := MapT.mk' Tryz.underlying123 I9 rfl
theorem M60 : MapT Tryz.prog 60 9 79 (.agg #[(.int .i64 0), (.int .i64 0), (.slice none 0 0)]) := MapT.mk' Tryz.underlying60 I79 rfl
theorem S129 : SlT Tryz.prog 129 4 1 1 (.bool false) := ⟨Tryz.underlying129, ⟨_, I4, rfl, rfl, rfl⟩, by kernel_rfl, by decide⟩
theorem S22 : SlT Tryz.prog 22 36 4 32 (.agg #[(.int .i64 0), (.int .i64 0), (.int .i64 0), (.int .i64 0)]) := ⟨Tryz.underlying22, ⟨_, I36, rfl, rfl, rfl⟩, by kernel_rfl, by decide⟩
theorem S23 : SlT Tryz.prog 23 3 1 8 (.int .i64 0) := ⟨Tryz.underlying23, ⟨_, I3, rfl, rfl, rfl⟩, by kernel_rfl, by decide⟩
theorem S40 : SlT Tryz.prog 40 9 1 16 (.string ⟨#[]⟩) := ⟨Tryz.underlying40, ⟨_, I9, rfl, rfl, rfl⟩, by kernel_rfl, by decide⟩
theorem S43 : SlT Tryz.prog 43 96 2 24 (.agg #[(.int .i64 0), (.string ⟨#[]⟩)]) := ⟨Tryz.underlying43, ⟨_, I96, rfl, rfl, rfl⟩, by kernel_rfl, by decide⟩
theorem S70 : SlT Tryz.prog 70 5 1 1 (.int .u8 0) := ⟨Tryz.underlying70, ⟨_, I5, rfl, rfl, rfl⟩, by kernel_rfl, by decide⟩
theorem S77 : SlT Tryz.prog 77 120 2 16 (.agg #[(.int .i64 0), (.int .i64 0)]) := ⟨Tryz.underlying77, ⟨_, I120, rfl, rfl, rfl⟩, by kernel_rfl, by decide⟩
theorem S99 : SlT Tryz.prog 99 145 2 24 (.agg #[(.int .i64 0), (.string ⟨#[]⟩)]) := ⟨Tryz.underlying99, ⟨_, I145, rfl, rfl, rfl⟩, by kernel_rfl, by decide⟩
theorem Z111 : ∀ w, (sizeOf 111).run Tryz.prog w = .ok 1 w := Tryz.sizeOf111
theorem Z134 : ∀ w, (sizeOf 134).run Tryz.prog w = .ok 1 w := Tryz.sizeOf134
theorem Z23 : ∀ w, (sizeOf 23).run Tryz.prog w = .ok 1 w := Tryz.sizeOf23
theorem Z26 : ∀ w, (sizeOf 26).run Tryz.prog w = .ok 1 w := Tryz.sizeOf26
theorem Z3 : ∀ w, (sizeOf 3).run Tryz.prog w = .ok 1 w := Tryz.sizeOf3
theorem Z4 : ∀ w, (sizeOf 4).run Tryz.prog w = .ok 1 w := Tryz.sizeOf4
theorem Z43 : ∀ w, (sizeOf 43).run Tryz.prog w = .ok 1 w := Tryz.sizeOf43
theorem Z44 : ∀ w, (sizeOf 44).run Tryz.prog w = .ok 1 w := Tryz.sizeOf44
theorem Z5 : ∀ w, (sizeOf 5).run Tryz.prog w = .ok 1 w := Tryz.sizeOf5
theorem Z61 : ∀ w, (sizeOf 61).run Tryz.prog w = .ok 1 w := Tryz.sizeOf61
theorem Z70 : ∀ w, (sizeOf 70).run Tryz.prog w = .ok 1 w := Tryz.sizeOf70
theorem Z77 : ∀ w, (sizeOf 77).run Tryz.prog w = .ok 1 w := Tryz.sizeOf77
theorem Z9 : ∀ w, (sizeOf 9).run Tryz.prog w = .ok 1 w := Tryz.sizeOf9
end Go.Proofs.YtckokhdjeifomaaGreatDoor
namespace Go.Proofs.YtckokhdjeifomaaGreatDoor
open Go Go.SL
set_option maxRecDepth 20000 in
theorem copyCheck_new {R : List RO} {O : List Own} {POST : Value → List RO → List Own → Prop} {b : Nat} {v : Value}
 (hk : POST (.tuple #[]) R (rowC b 113 [.pointer (some ⟨b, 0, none⟩), v] :: O)) :
 Fun Tryz.prog 87 #[.pointer (some ⟨b, 0, none⟩)] R (rowC b 113 [.pointer none, v] :: O) POST := by
 refine Fun.enter (l := [_]) Tryz.func87 rfl Tryz.ntmps87 rfl (L0 := [(0, _)]) rfl ?_
 refine WC.seq ?_
 refine WC.region ?_
 refine WL.rd rfl rfl rfl (Rd.move rfl rfl) ?_
 refine WL.rd rfl rfl rfl (Rd.nilc rfl rfl) ?_
 refine WL.rd rfl rfl rfl ((by exact Rd.field rfl F113_0 rfl rfl)) ?_
 refine WL.rd rfl rfl rfl ((by exact Rd.row1 rfl C111 rfl Z.M (by rfl))) ?_
 refine WL.rd rfl rfl rfl ((by exact Rd.peq_nn rfl Tryz.underlying111 rfl rfl)) ?_
 refine WL.nil ?_
 refine thenQ.normal ?_
 refine WC.cond rfl (fun hc1 => ?_) (fun hc1 => ?_)
 ·
  refine WC.region ?_
  refine WL.rd rfl rfl rfl (Rd.move rfl rfl) ?_
  refine WL.rd rfl rfl rfl (Rd.move rfl rfl) ?_
  refine WL.rd rfl rfl rfl (Rd.toUnsafe rfl Tryz.underlying111 Tryz.underlying177 I113 (by decide) rfl Z.M (by simp)) ?_
  refine WL.op rfl ?_
  refine OpW.rd rfl rfl (Rd.extern (ef := Extern.AbiNoEscape.same) rfl rfl Z.E Tryz.func111 rfl rfl Z.K Z.K (fun w => Lib.run_noEscape w _)) ?_
  refine WL.rd rfl rfl rfl (Rd.ofUnsafe rfl Tryz.underlying177 Tryz.underlying111 I113 rfl Z.M Z.K) ?_
  refine WL.rd rfl rfl rfl (Rd.nilc rfl rfl) ?_
  refine WL.rd rfl rfl rfl ((by exact Rd.field rfl F113_0 rfl rfl)) ?_
  refine WL.op rfl ?_
  refine OpW.store1 rfl Z111 rfl rfl (by exact ⟨rfl, rfl⟩) Z.T (by (simp; done)) rfl ?_
  refine WL.nil ?_
  refine Ret.normal (Ret.zero Tryz.results87 ?_)
  exact hk
 ·
  simp at hc1
set_option maxRecDepth 20000 in
theorem copyCheck_used {R : List RO} {O : List Own} {POST : Value → List RO → List Own → Prop} {b : Nat} {v : Value}
 (hk : POST (.tuple #[]) R (rowC b 113 [.pointer (some ⟨b, 0, none⟩), v] :: O)) :
 Fun Tryz.prog 87 #[.pointer (some ⟨b, 0, none⟩)] R (rowC b 113 [.pointer (some ⟨b, 0, none⟩), v] :: O) POST := by
 refine Fun.enter (l := [_]) Tryz.func87 rfl Tryz.ntmps87 rfl (L0 := [(0, _)]) rfl ?_
 refine WC.seq ?_
 refine WC.region ?_
 refine WL.rd rfl rfl rfl (Rd.move rfl rfl) ?_
 refine WL.rd rfl rfl rfl (Rd.nilc rfl rfl) ?_
 refine WL.rd rfl rfl rfl ((by exact Rd.field rfl F113_0 rfl rfl)) ?_
 refine WL.rd rfl rfl rfl ((by exact Rd.row1 rfl C111 rfl Z.M (by rfl))) ?_
 refine WL.rd rfl rfl rfl ((by exact Rd.peq_sn rfl Tryz.underlying111 rfl rfl)) ?_
 refine WL.nil ?_
 refine thenQ.normal ?_
 refine WC.cond rfl (fun hc1 => ?_) (fun hc1 => ?_)
 ·
  simp at hc1
 ·
  refine WC.seq ?_
  refine WC.region ?_
  refine WL.rd rfl rfl rfl (Rd.move rfl rfl) ?_
  refine WL.rd rfl rfl rfl (Rd.nilc rfl rfl) ?_
  refine WL.rd rfl rfl rfl ((by exact Rd.field rfl F113_0 rfl rfl)) ?_
  refine WL.rd rfl rfl rfl ((by exact Rd.row1 rfl C111 rfl Z.M (by rfl))) ?_
  refine WL.rd rfl rfl rfl (Rd.move rfl rfl) ?_
  refine WL.rd rfl rfl rfl (Rd.pneq_self rfl Tryz.underlying111 I113 rfl rfl) ?_
  refine WL.nil ?_
  refine thenQ.normal ?_
  refine WC.cond rfl (fun hc2 => ?_) (fun hc2 => ?_)
  ·
   simp at hc2
  ·
   refine WC.skip ?_
   refine Ret.normal (Ret.zero Tryz.results87 ?_)
   exact hk
theorem copyCheck_spec {R : List RO} {O : List Own} {POST : Value → List RO → List Own → Prop} {b : Nat} {p v : Value} (hp : p = .pointer none ∨ p = .pointer (some ⟨b, 0, none⟩))
 (hk : POST (.tuple #[]) R (rowC b 113 [.pointer (some ⟨b, 0, none⟩), v] :: O)) :
 Fun Tryz.prog 87 #[.pointer (some ⟨b, 0, none⟩)] R (rowC b 113 [p, v] :: O) POST := by
 rcases hp with rfl | rfl
 · exact copyCheck_new hk
 · exact copyCheck_used hk
set_option maxRecDepth 20000 in
theorem writeString_spec {R : List RO} {O : List Own} {POST : Value → List RO → List Own → Prop} {b : Nat} {p v : Value} {bs s : List UInt8} (hp : p = .pointer none ∨ p = .pointer (some ⟨b, 0, none⟩)) (hl : bs.length + s.length ≤ 140737488355328)
 (hk : ∀ v', OneV v' → POST (.tuple #[.int .i64 s.length, .nilIface]) R (rowC b 113 [.pointer (some ⟨b, 0, none⟩), v'] :: accC 5 1 (SL.one vy) v' (bs ++ s) :: O)) :
 Fun Tryz.prog 56 #[.pointer (some ⟨b, 0, none⟩), vs s] R (rowC b 113 [p, v] :: accC 5 1 (SL.one vy) v bs :: O) POST := by
 refine Fun.enter (l := [_, _]) Tryz.func56 rfl Tryz.ntmps56 rfl (L0 := [(0, _), (1, _)]) rfl ?_
 refine WC.seq ?_
 refine WC.region ?_
 refine WL.rd rfl rfl rfl (Rd.assign rfl rfl) ?_
 refine WL.rd rfl rfl rfl (Rd.assign rfl rfl) ?_
 refine WL.nil ?_
 refine thenQ.normal ?_
 refine WC.seq ?_
 refine WC.region ?_
 refine WL.rd rfl rfl rfl (Rd.move rfl rfl) ?_
 refine WL.op rfl ?_
 refine OpW.call rfl rfl Z.E Z.K rfl rfl rfl ?_
 refine copyCheck_spec hp ?_
 refine WL.nil ?_
 refine thenQ.normal ?_
 refine WC.seq ?_
 refine WC.region ?_
 refine WL.rd rfl rfl rfl (Rd.move rfl rfl) ?_
 refine WL.rd rfl rfl rfl (Rd.move rfl rfl) ?_
 refine WL.rd rfl rfl rfl (Rd.nilc rfl rfl) ?_
 refine WL.rd rfl rfl rfl ((by exact Rd.field rfl F113_1 rfl rfl)) ?_
 refine WL.rd rfl rfl rfl ((by exact Rd.row1 rfl C70 rfl Z.M (by rfl))) ?_
 refine WL.rd rfl rfl rfl (Rd.move rfl rfl) ?_
 refine WL.op rfl ?_
 refine OpW.appendStr rfl S70 Tryz.underlying9 rfl rfl Z.T (by exact ⟨by simp only [maxLen, List.length_append, List.length_nil, List.length_cons, List.length_drop, List.length_take, List.length_map]; omega, by omega⟩) rfl rfl ?_; intro v14 hv14
 refine WL.rd rfl rfl rfl (Rd.nilc rfl rfl) ?_
 refine WL.rd rfl rfl rfl ((by exact Rd.field rfl F113_1 rfl rfl)) ?_
 refine WL.op rfl ?_
 refine OpW.store1 rfl Z70 rfl rfl (by assumption) Z.T (by (simp; done)) rfl ?_
 refine WL.nil ?_
 refine thenQ.normal ?_
 refine WC.seq ?_
 refine WC.region ?_
 refine WL.rd rfl rfl rfl (Rd.move rfl rfl) ?_
 refine WL.rd rfl rfl rfl (Rd.slen (ts := #[]) (ty := 0) rfl rfl Tryz.underlying9) ?_
 refine WL.rd rfl rfl rfl (Rd.assign rfl rfl) ?_
 refine WL.rd rfl rfl rfl (Rd.assign rfl rfl) ?_
 refine WL.nil ?_
 refine thenQ.normal ?_
 refine WC.ret (Ret.two Tryz.results56 rfl rfl ?_)
 exact hk _ hv14
set_option maxRecDepth 20000 in
theorem builderString_spec {R : List RO} {O : List Own} {POST : Value → List RO → List Own → Prop} {b : Nat} {p v : Value} {bs : List UInt8} (hv : OneV v)
 (hk : POST (vs bs) R O) :
 Fun Tryz.prog 57 #[.pointer (some ⟨b, 0, none⟩)] R (rowC b 113 [p, v] :: accC 5 1 (SL.one vy) v bs :: O) POST := by
 refine Fun.enter (l := [_]) Tryz.func57 rfl Tryz.ntmps57 rfl (L0 := [(0, _)]) rfl ?_
 refine WC.seq ?_
 refine WC.region ?_
 refine WL.rd rfl rfl rfl (Rd.assign rfl rfl) ?_
 refine WL.nil ?_
 refine thenQ.normal ?_
 refine WC.seq ?_
 refine WC.drawn (rowC b 113 [p, v] :: O) 12 rfl mixed ?_
 refine WD.take 0 rfl Z.K Z.H rfl rfl rfl (Rd.move rfl rfl) ?_
 refine WD.take 1 rfl Z.K Z.H rfl rfl rfl (Rd.nilc rfl rfl) ?_
 refine WD.take 2 rfl Z.K Z.H rfl rfl rfl ((by exact Rd.field rfl F113_1 rfl rfl)) ?_
 refine WD.take 3 rfl Z.K Z.H rfl rfl rfl ((by exact Rd.row1 rfl C70 rfl Z.M (by rfl))) ?_
 refine WD.take 5 rfl Z.K Z.H rfl rfl rfl (Rd.move rfl rfl) ?_
 refine WD.take 6 rfl Z.K Z.H rfl rfl rfl (Rd.nilc rfl rfl) ?_
 refine WD.take 7 rfl Z.K Z.H rfl rfl rfl ((by exact Rd.field rfl F113_1 rfl rfl)) ?_
 refine WD.take 8 rfl Z.K Z.H rfl rfl rfl ((by exact Rd.row1 rfl C70 rfl Z.M (by rfl))) ?_
 refine WD.two 4 9 rfl rfl Z.K rfl rfl ?_ ?_
 ·
  refine OpW.sliceData rfl Tryz.underlying153 rfl Z.M rfl rfl ?_; intro q7 hq7
  refine ⟨Z.H, ?_⟩
  refine WD.one 9 rfl Z.K rfl ?_
  refine OpW.rd rfl rfl ((by exact Rd.lenA rfl rfl Tryz.underlying70 Z.M)) ?_
  refine ⟨Z.H, ?_⟩
  refine WD.one 10 rfl Z.K rfl ?_
  refine OpW.unsafeStr rfl Tryz.underlying153 Z.K rfl rfl rfl rfl Z.T hq7 rfl rfl ?_
  refine ⟨Z.H, ?_⟩
  refine WD.take 11 rfl Z.K Z.H rfl rfl rfl (Rd.assign rfl rfl) ?_
  refine WD.done Z.K ?_
  refine thenQ.normal ?_
  refine WC.heap (R' := R) (O' := O) Z.F ?_
  refine WC.ret (Ret.one Tryz.results57 rfl ?_)
  exact hk
 ·
  refine OpW.rd rfl rfl ((by exact Rd.lenA rfl rfl Tryz.underlying70 Z.M)) ?_
  refine ⟨Z.H, ?_⟩
  refine WD.one 4 rfl Z.K rfl ?_
  refine OpW.sliceData rfl Tryz.underlying153 rfl Z.M rfl rfl ?_; intro q7 hq7
  refine ⟨Z.H, ?_⟩
  refine WD.one 10 rfl Z.K rfl ?_
  refine OpW.unsafeStr rfl Tryz.underlying153 Z.K rfl rfl rfl rfl Z.T hq7 rfl rfl ?_
  refine ⟨Z.H, ?_⟩
  refine WD.take 11 rfl Z.K Z.H rfl rfl rfl (Rd.assign rfl rfl) ?_
  refine WD.done Z.K ?_
  refine thenQ.normal ?_
  refine WC.heap (R' := R) (O' := O) Z.F ?_
  refine WC.ret (Ret.one Tryz.results57 rfl ?_)
  exact hk
end Go.Proofs.YtckokhdjeifomaaGreatDoor
namespace Go.Proofs.YtckokhdjeifomaaGreatDoor
open Go Go.SL
/-- How many bits a number has. -/
def blen (n : Nat) : Nat := if n = 0 then 0 else Nat.log2 n + 1
theorem blen_div {n k : Nat} (h : 2 ^ k ≤ n) : blen n = blen (n / 2 ^ k) + k := by
 have h1 : 0 < n / 2 ^ k := Nat.div_pos h (Nat.two_pow_pos k)
 have h0 : n ≠ 0 := by have := Nat.two_pow_pos k; omega
 unfold blen
 rw [if_neg h0, if_neg Z.W]
 have : Nat.log2 n = Nat.log2 (n / 2 ^ k) + k := by
  rw [Nat.log2_eq_iff h0]
  have h3 := Nat.log2_self_le (n := n / 2 ^ k) Z.W
  have h4 := Nat.lt_log2_self (n := n / 2 ^ k)
  constructor
  · rw [Nat.pow_add]
    exact (Nat.le_div_iff_mul_le (Nat.two_pow_pos k)).1 h3
  · rw [show Nat.log2 (n / 2 ^ k) + k + 1 = (Nat.log2 (n / 2 ^ k) + 1) + k from by omega, Nat.pow_add]
    exact (Nat.div_lt_iff_lt_mul (Nat.two_pow_pos k)).1 h4
 omega
theorem blen_lt {n k : Nat} (h : n < 2 ^ k) : blen n ≤ k := by
 unfold blen
 split
 · omega
 · have := (Nat.log2_lt (n := n) (k := k) Z.W).2 h; omega
theorem blen_ge {n k : Nat} (h : 2 ^ k ≤ n) : k < blen n := by
 have h0 : n ≠ 0 := by have := Nat.two_pow_pos k; omega
 unfold blen
 rw [if_neg h0]
 have := (Nat.le_log2 h0).2 h; omega
/-- The library's table. -/
def len8tab : List UInt8 := [0, 1, 2, 2, 3, 3, 3, 3, 4, 4, 4, 4, 4, 4, 4, 4, 5, 5, 5, 5, 5, 5, 5, 5, 5, 5, 5, 5, 5, 5, 5, 5, 6, 6, 6, 6, 6, 6, 6, 6, 6, 6, 6, 6, 6, 6, 6, 6, 6, 6, 6, 6, 6, 6, 6, 6, 6, 6, 6, 6, 6, 6, 6, 6, 7, 7, 7, 7, 7, 7, 7, 7, 7, 7, 7, 7, 7, 7, 7, 7, 7, 7, 7, 7, 7, 7, 7, 7, 7, 7, 7, 7, 7, 7, 7, 7, 7, 7, 7, 7, 7, 7, 7, 7, 7, 7, 7, 7, 7, 7, 7, 7, 7, 7, 7, 7, 7, 7, 7, 7, 7, 7, 7, 7, 7, 7, 7, 7, 8, 8, 8, 8, 8, 8, 8, 8, 8, 8, 8, 8, 8, 8, 8, 8, 8, 8, 8, 8, 8, 8, 8, 8, 8, 8, 8, 8, 8, 8, 8, 8, 8, 8, 8, 8, 8, 8, 8, 8, 8, 8, 8, 8, 8, 8, 8, 8, 8, 8, 8, 8, 8, 8, 8, 8, 8, 8, 8, 8, 8, 8, 8, 8, 8, 8, 8, 8, 8, 8, 8, 8, 8, 8, 8, 8, 8, 8, 8, 8, 8, 8, 8, 8, 8, 8, 8, 8, 8, 8, 8, 8, 8, 8, 8, 8, 8, 8, 8, 8, 8, 8, 8, 8, 8, 8, 8, 8, 8, 8, 8, 8, 8, 8, 8, 8, 8, 8, 8, 8, 8, 8, 8, 8, 8, 8, 8, 8]
theorem len8_all : ∀ n < 256, len8tab[n]? = some (UInt8.ofNat (blen n)) := by decide +kernel
theorem blen_u8 {n : Nat} (h : n < 256) : (UInt8.ofNat (blen n)).toNat = blen n := by
 have := blen_lt (n := n) (k := 8) h
 simp; omega
theorem _root_.Go.SL.Rd.len8 {P : Program} {o : Oper} {t : TypeId} {x y : Operand} {L : Env} {R : List RO} {O : List Own} {kd : IntKind} {p : Int} {k : Nat} (ho : o.op = .index t x y) (hT : P.underlying t = some .string) (hx : ev L x = some (vs len8tab)) (hy : ev L y = some (.int kd p)) (hp : p = (k : Int)) (hk : k < 256) : Rd P o L R O (.int .u8 (blen k : Nat)) := by
 have h := Rd.sidx (R := R) (O := O) ho hT hx hy hp (len8_all k hk)
 rw [blen_u8 hk] at h; exact h
theorem vi_eq {POST : Value → List RO → List Own → Prop} {R : List RO} {O : List Own} {a b : Int} (h : POST (.int .i64 a) R O) (e : a = b) : POST (.int .i64 b) R O := e ▸ h
theorem len8_le (n : Nat) (h : n < 256) : blen n ≤ 8 := blen_lt (k := 8) h
set_option maxRecDepth 20000 in
theorem len64_spec {R : List RO} {O : List Own} {POST : Value → List RO → List Own → Prop} {n : Nat} (hn : n < 18446744073709551616) (hk : POST (.int .i64 (blen n)) R O) : Fun Tryz.prog 131 #[.int .u64 n] R O POST := by
 refine Fun.enter (l := [_]) Tryz.func131 rfl Tryz.ntmps131 rfl (L0 := [(0, _)]) rfl ?_
 refine WC.seq ?_
 refine WC.region ?_
 refine WL.rd rfl rfl rfl (Rd.assign rfl rfl) ?_
 refine WL.nil ?_
 refine thenQ.normal ?_
 refine WC.seq ?_
 refine WC.seq ?_
 refine WC.region ?_
 refine WL.rd rfl rfl rfl (Rd.move rfl rfl) ?_
 refine WL.rd rfl rfl rfl (Rd.geq rfl rfl rfl) ?_
 refine WL.nil ?_
 refine thenQ.normal ?_
 refine WC.ite rfl (fun hc1 => ?_) (fun hc1 => ?_)
 ·
  have e1 := blen_div (n := n) (k := 32) Z.W
  refine WC.seq ?_
  refine WC.region ?_
  refine WL.rd rfl rfl rfl (Rd.move rfl rfl) ?_
  refine WL.rd rfl rfl rfl (Rd.shrN (n := 32) rfl rfl rfl rfl rfl (by decide)) ?_
  refine WL.rd rfl rfl rfl (Rd.assign rfl rfl) ?_
  refine WL.nil ?_
  refine thenQ.normal ?_
  refine WC.region ?_
  refine WL.rd rfl rfl rfl (Rd.assign rfl rfl) ?_
  refine WL.nil ?_
  refine thenQ.normal ?_
  refine WC.seq ?_
  refine WC.seq ?_
  refine WC.region ?_
  refine WL.rd rfl rfl rfl (Rd.move rfl rfl) ?_
  refine WL.rd rfl rfl rfl (Rd.geq rfl rfl rfl) ?_
  refine WL.nil ?_
  refine thenQ.normal ?_
  refine WC.ite rfl (fun hc2 => ?_) (fun hc2 => ?_)
  ·
   first | have e2 := blen_div (n := n / 2 ^ 32) (k := 16) Z.W | have e2 := blen_div (n := n) (k := 16) Z.W
   refine WC.seq ?_
   refine WC.region ?_
   refine WL.rd rfl rfl rfl (Rd.move rfl rfl) ?_
   refine WL.rd rfl rfl rfl (Rd.shrN (n := 16) rfl rfl rfl rfl rfl (by decide)) ?_
   refine WL.rd rfl rfl rfl (Rd.assign rfl rfl) ?_
   refine WL.nil ?_
   refine thenQ.normal ?_
   refine WC.region ?_
   refine WL.rd rfl rfl rfl (Rd.move rfl rfl) ?_
   refine WL.rd rfl rfl rfl (Rd.add rfl rfl rfl Z.W) ?_
   refine WL.rd rfl rfl rfl (Rd.assign rfl rfl) ?_
   refine WL.nil ?_
   refine thenQ.normal ?_
   refine WC.seq ?_
   refine WC.seq ?_
   refine WC.region ?_
   refine WL.rd rfl rfl rfl (Rd.move rfl rfl) ?_
   refine WL.rd rfl rfl rfl (Rd.geq rfl rfl rfl) ?_
   refine WL.nil ?_
   refine thenQ.normal ?_
   refine WC.ite rfl (fun hc3 => ?_) (fun hc3 => ?_)
   ·
    first | have e3 := blen_div (n := n / 2 ^ 32 / 2 ^ 16) (k := 8) Z.W | have e3 := blen_div (n := n / 2 ^ 32) (k := 8) Z.W | have e3 := blen_div (n := n / 2 ^ 16) (k := 8) Z.W | have e3 := blen_div (n := n) (k := 8) Z.W
    refine WC.seq ?_
    refine WC.region ?_
    refine WL.rd rfl rfl rfl (Rd.move rfl rfl) ?_
    refine WL.rd rfl rfl rfl (Rd.shrN (n := 8) rfl rfl rfl rfl rfl (by decide)) ?_
    refine WL.rd rfl rfl rfl (Rd.assign rfl rfl) ?_
    refine WL.nil ?_
    refine thenQ.normal ?_
    refine WC.region ?_
    refine WL.rd rfl rfl rfl (Rd.move rfl rfl) ?_
    refine WL.rd rfl rfl rfl (Rd.add rfl rfl rfl Z.W) ?_
    refine WL.rd rfl rfl rfl (Rd.assign rfl rfl) ?_
    refine WL.nil ?_
    refine thenQ.normal ?_
    refine WC.seq ?_
    refine WC.region ?_
    refine WL.rd rfl rfl rfl (Rd.move rfl rfl) ?_
    refine WL.rd rfl rfl rfl (Rd.move rfl rfl) ?_
    refine WL.rd rfl rfl rfl (Rd.conv rfl rfl Tryz.underlying5 (wrap_natU (k := .u8) rfl (show _ < 256 by omega)) (hS := Tryz.underlying137)) ?_
    refine WL.rd rfl rfl rfl (Rd.len8 rfl Tryz.underlying9 rfl rfl rfl Z.W) ?_
    refine WL.rd rfl rfl rfl (Rd.conv rfl rfl Tryz.underlying3 (wrap_natS (k := .i64) (Nat.lt_of_le_of_lt (len8_le _ Z.W) (by decide))) (hS := Tryz.underlying5)) ?_
    refine WL.rd rfl rfl rfl (Rd.add rfl rfl rfl (by (have h8 := len8_le (n / 2 ^ 32 / 2 ^ 16 / 2 ^ 8) Z.W; omega))) ?_
    refine WL.rd rfl rfl rfl (Rd.assign rfl rfl) ?_
    refine WL.nil ?_
    refine thenQ.normal ?_
    refine WC.ret (Ret.one Tryz.results131 rfl ?_)
    exact vi_eq hk Z.W
   ·
    refine WC.skip ?_
    refine thenQ.normal ?_
    refine WC.seq ?_
    refine WC.region ?_
    refine WL.rd rfl rfl rfl (Rd.move rfl rfl) ?_
    refine WL.rd rfl rfl rfl (Rd.move rfl rfl) ?_
    refine WL.rd rfl rfl rfl (Rd.conv rfl rfl Tryz.underlying5 (wrap_natU (k := .u8) rfl (show _ < 256 by omega)) (hS := Tryz.underlying137)) ?_
    refine WL.rd rfl rfl rfl (Rd.len8 rfl Tryz.underlying9 rfl rfl rfl Z.W) ?_
    refine WL.rd rfl rfl rfl (Rd.conv rfl rfl Tryz.underlying3 (wrap_natS (k := .i64) (Nat.lt_of_le_of_lt (len8_le _ Z.W) (by decide))) (hS := Tryz.underlying5)) ?_
    refine WL.rd rfl rfl rfl (Rd.add rfl rfl rfl (by (have h8 := len8_le (n / 2 ^ 32 / 2 ^ 16) Z.W; omega))) ?_
    refine WL.rd rfl rfl rfl (Rd.assign rfl rfl) ?_
    refine WL.nil ?_
    refine thenQ.normal ?_
    refine WC.ret (Ret.one Tryz.results131 rfl ?_)
    exact vi_eq hk Z.W
  ·
   refine WC.skip ?_
   refine thenQ.normal ?_
   refine WC.seq ?_
   refine WC.seq ?_
   refine WC.region ?_
   refine WL.rd rfl rfl rfl (Rd.move rfl rfl) ?_
   refine WL.rd rfl rfl rfl (Rd.geq rfl rfl rfl) ?_
   refine WL.nil ?_
   refine thenQ.normal ?_
   refine WC.ite rfl (fun hc3 => ?_) (fun hc3 => ?_)
   ·
    first | have e3 := blen_div (n := n / 2 ^ 32 / 2 ^ 16) (k := 8) Z.W | have e3 := blen_div (n := n / 2 ^ 32) (k := 8) Z.W | have e3 := blen_div (n := n / 2 ^ 16) (k := 8) Z.W | have e3 := blen_div (n := n) (k := 8) Z.W
    refine WC.seq ?_
    refine WC.region ?_
    refine WL.rd rfl rfl rfl (Rd.move rfl rfl) ?_
    refine WL.rd rfl rfl rfl (Rd.shrN (n := 8) rfl rfl rfl rfl rfl (by decide)) ?_
    refine WL.rd rfl rfl rfl (Rd.assign rfl rfl) ?_
    refine WL.nil ?_
    refine thenQ.normal ?_
    refine WC.region ?_
    refine WL.rd rfl rfl rfl (Rd.move rfl rfl) ?_
    refine WL.rd rfl rfl rfl (Rd.add rfl rfl rfl Z.W) ?_
    refine WL.rd rfl rfl rfl (Rd.assign rfl rfl) ?_
    refine WL.nil ?_
    refine thenQ.normal ?_
    refine WC.seq ?_
    refine WC.region ?_
    refine WL.rd rfl rfl rfl (Rd.move rfl rfl) ?_
    refine WL.rd rfl rfl rfl (Rd.move rfl rfl) ?_
    refine WL.rd rfl rfl rfl (Rd.conv rfl rfl Tryz.underlying5 (wrap_natU (k := .u8) rfl (show _ < 256 by omega)) (hS := Tryz.underlying137)) ?_
    refine WL.rd rfl rfl rfl (Rd.len8 rfl Tryz.underlying9 rfl rfl rfl Z.W) ?_
    refine WL.rd rfl rfl rfl (Rd.conv rfl rfl Tryz.underlying3 (wrap_natS (k := .i64) (Nat.lt_of_le_of_lt (len8_le _ Z.W) (by decide))) (hS := Tryz.underlying5)) ?_
    refine WL.rd rfl rfl rfl (Rd.add rfl rfl rfl (by (have h8 := len8_le (n / 2 ^ 32 / 2 ^ 8) Z.W; omega))) ?_
    refine WL.rd rfl rfl rfl (Rd.assign rfl rfl) ?_
    refine WL.nil ?_
    refine thenQ.normal ?_
    refine WC.ret (Ret.one Tryz.results131 rfl ?_)
    exact vi_eq hk Z.W
   ·
    refine WC.skip ?_
    refine thenQ.normal ?_
    refine WC.seq ?_
    refine WC.region ?_
    refine WL.rd rfl rfl rfl (Rd.move rfl rfl) ?_
    refine WL.rd rfl rfl rfl (Rd.move rfl rfl) ?_
    refine WL.rd rfl rfl rfl (Rd.conv rfl rfl Tryz.underlying5 (wrap_natU (k := .u8) rfl (show _ < 256 by omega)) (hS := Tryz.underlying137)) ?_
    refine WL.rd rfl rfl rfl (Rd.len8 rfl Tryz.underlying9 rfl rfl rfl Z.W) ?_
    refine WL.rd rfl rfl rfl (Rd.conv rfl rfl Tryz.underlying3 (wrap_natS (k := .i64) (Nat.lt_of_le_of_lt (len8_le _ Z.W) (by decide))) (hS := Tryz.underlying5)) ?_
    refine WL.rd rfl rfl rfl (Rd.add rfl rfl rfl (by (have h8 := len8_le (n / 2 ^ 32) Z.W; omega))) ?_
    refine WL.rd rfl rfl rfl (Rd.assign rfl rfl) ?_
    refine WL.nil ?_
    refine thenQ.normal ?_
    refine WC.ret (Ret.one Tryz.results131 rfl ?_)
    exact vi_eq hk Z.W
 ·
  refine WC.skip ?_
  refine thenQ.normal ?_
  refine WC.seq ?_
  refine WC.seq ?_
  refine WC.region ?_
  refine WL.rd rfl rfl rfl (Rd.move rfl rfl) ?_
  refine WL.rd rfl rfl rfl (Rd.geq rfl rfl rfl) ?_
  refine WL.nil ?_
  refine thenQ.normal ?_
  refine WC.ite rfl (fun hc2 => ?_) (fun hc2 => ?_)
  ·
   first | have e2 := blen_div (n := n / 2 ^ 32) (k := 16) Z.W | have e2 := blen_div (n := n) (k := 16) Z.W
   refine WC.seq ?_
   refine WC.region ?_
   refine WL.rd rfl rfl rfl (Rd.move rfl rfl) ?_
   refine WL.rd rfl rfl rfl (Rd.shrN (n := 16) rfl rfl rfl rfl rfl (by decide)) ?_
   refine WL.rd rfl rfl rfl (Rd.assign rfl rfl) ?_
   refine WL.nil ?_
   refine thenQ.normal ?_
   refine WC.region ?_
   refine WL.rd rfl rfl rfl (Rd.move rfl rfl) ?_
   refine WL.rd rfl rfl rfl (Rd.add rfl rfl rfl Z.W) ?_
   refine WL.rd rfl rfl rfl (Rd.assign rfl rfl) ?_
   refine WL.nil ?_
   refine thenQ.normal ?_
   refine WC.seq ?_
   refine WC.seq ?_
   refine WC.region ?_
   refine WL.rd rfl rfl rfl (Rd.move rfl rfl) ?_
   refine WL.rd rfl rfl rfl (Rd.geq rfl rfl rfl) ?_
   refine WL.nil ?_
   refine thenQ.normal ?_
   refine WC.ite rfl (fun hc3 => ?_) (fun hc3 => ?_)
   ·
    first | have e3 := blen_div (n := n / 2 ^ 32 / 2 ^ 16) (k := 8) Z.W | have e3 := blen_div (n := n / 2 ^ 32) (k := 8) Z.W | have e3 := blen_div (n := n / 2 ^ 16) (k := 8) Z.W | have e3 := blen_div (n := n) (k := 8) Z.W
    refine WC.seq ?_
    refine WC.region ?_
    refine WL.rd rfl rfl rfl (Rd.move rfl rfl) ?_
    refine WL.rd rfl rfl rfl (Rd.shrN (n := 8) rfl rfl rfl rfl rfl (by decide)) ?_
    refine WL.rd rfl rfl rfl (Rd.assign rfl rfl) ?_
    refine WL.nil ?_
    refine thenQ.normal ?_
    refine WC.region ?_
    refine WL.rd rfl rfl rfl (Rd.move rfl rfl) ?_
    refine WL.rd rfl rfl rfl (Rd.add rfl rfl rfl Z.W) ?_
    refine WL.rd rfl rfl rfl (Rd.assign rfl rfl) ?_
    refine WL.nil ?_
    refine thenQ.normal ?_
    refine WC.seq ?_
    refine WC.region ?_
    refine WL.rd rfl rfl rfl (Rd.move rfl rfl) ?_
    refine WL.rd rfl rfl rfl (Rd.move rfl rfl) ?_
    refine WL.rd rfl rfl rfl (Rd.conv rfl rfl Tryz.underlying5 (wrap_natU (k := .u8) rfl (show _ < 256 by omega)) (hS := Tryz.underlying137)) ?_
    refine WL.rd rfl rfl rfl (Rd.len8 rfl Tryz.underlying9 rfl rfl rfl Z.W) ?_
    refine WL.rd rfl rfl rfl (Rd.conv rfl rfl Tryz.underlying3 (wrap_natS (k := .i64) (Nat.lt_of_le_of_lt (len8_le _ Z.W) (by decide))) (hS := Tryz.underlying5)) ?_
    refine WL.rd rfl rfl rfl (Rd.add rfl rfl rfl (by (have h8 := len8_le (n / 2 ^ 16 / 2 ^ 8) Z.W; omega))) ?_
    refine WL.rd rfl rfl rfl (Rd.assign rfl rfl) ?_
    refine WL.nil ?_
    refine thenQ.normal ?_
    refine WC.ret (Ret.one Tryz.results131 rfl ?_)
    exact vi_eq hk Z.W
   ·
    refine WC.skip ?_
    refine thenQ.normal ?_
    refine WC.seq ?_
    refine WC.region ?_
    refine WL.rd rfl rfl rfl (Rd.move rfl rfl) ?_
    refine WL.rd rfl rfl rfl (Rd.move rfl rfl) ?_
    refine WL.rd rfl rfl rfl (Rd.conv rfl rfl Tryz.underlying5 (wrap_natU (k := .u8) rfl (show _ < 256 by omega)) (hS := Tryz.underlying137)) ?_
    refine WL.rd rfl rfl rfl (Rd.len8 rfl Tryz.underlying9 rfl rfl rfl Z.W) ?_
    refine WL.rd rfl rfl rfl (Rd.conv rfl rfl Tryz.underlying3 (wrap_natS (k := .i64) (Nat.lt_of_le_of_lt (len8_le _ Z.W) (by decide))) (hS := Tryz.underlying5)) ?_
    refine WL.rd rfl rfl rfl (Rd.add rfl rfl rfl (by (have h8 := len8_le (n / 2 ^ 16) Z.W; omega))) ?_
    refine WL.rd rfl rfl rfl (Rd.assign rfl rfl) ?_
    refine WL.nil ?_
    refine thenQ.normal ?_
    refine WC.ret (Ret.one Tryz.results131 rfl ?_)
    exact vi_eq hk Z.W
  ·
   refine WC.skip ?_
   refine thenQ.normal ?_
   refine WC.seq ?_
   refine WC.seq ?_
   refine WC.region ?_
   refine WL.rd rfl rfl rfl (Rd.move rfl rfl) ?_
   refine WL.rd rfl rfl rfl (Rd.geq rfl rfl rfl) ?_
   refine WL.nil ?_
   refine thenQ.normal ?_
   refine WC.ite rfl (fun hc3 => ?_) (fun hc3 => ?_)
   ·
    first | have e3 := blen_div (n := n / 2 ^ 32 / 2 ^ 16) (k := 8) Z.W | have e3 := blen_div (n := n / 2 ^ 32) (k := 8) Z.W | have e3 := blen_div (n := n / 2 ^ 16) (k := 8) Z.W | have e3 := blen_div (n := n) (k := 8) Z.W
    refine WC.seq ?_
    refine WC.region ?_
    refine WL.rd rfl rfl rfl (Rd.move rfl rfl) ?_
    refine WL.rd rfl rfl rfl (Rd.shrN (n := 8) rfl rfl rfl rfl rfl (by decide)) ?_
    refine WL.rd rfl rfl rfl (Rd.assign rfl rfl) ?_
    refine WL.nil ?_
    refine thenQ.normal ?_
    refine WC.region ?_
    refine WL.rd rfl rfl rfl (Rd.move rfl rfl) ?_
    refine WL.rd rfl rfl rfl (Rd.add rfl rfl rfl Z.W) ?_
    refine WL.rd rfl rfl rfl (Rd.assign rfl rfl) ?_
    refine WL.nil ?_
    refine thenQ.normal ?_
    refine WC.seq ?_
    refine WC.region ?_
    refine WL.rd rfl rfl rfl (Rd.move rfl rfl) ?_
    refine WL.rd rfl rfl rfl (Rd.move rfl rfl) ?_
    refine WL.rd rfl rfl rfl (Rd.conv rfl rfl Tryz.underlying5 (wrap_natU (k := .u8) rfl (show _ < 256 by omega)) (hS := Tryz.underlying137)) ?_
    refine WL.rd rfl rfl rfl (Rd.len8 rfl Tryz.underlying9 rfl rfl rfl Z.W) ?_
    refine WL.rd rfl rfl rfl (Rd.conv rfl rfl Tryz.underlying3 (wrap_natS (k := .i64) (Nat.lt_of_le_of_lt (len8_le _ Z.W) (by decide))) (hS := Tryz.underlying5)) ?_
    refine WL.rd rfl rfl rfl (Rd.add rfl rfl rfl (by (have h8 := len8_le (n / 2 ^ 8) Z.W; omega))) ?_
    refine WL.rd rfl rfl rfl (Rd.assign rfl rfl) ?_
    refine WL.nil ?_
    refine thenQ.normal ?_
    refine WC.ret (Ret.one Tryz.results131 rfl ?_)
    exact vi_eq hk Z.W
   ·
    refine WC.skip ?_
    refine thenQ.normal ?_
    refine WC.seq ?_
    refine WC.region ?_
    refine WL.rd rfl rfl rfl (Rd.move rfl rfl) ?_
    refine WL.rd rfl rfl rfl (Rd.move rfl rfl) ?_
    refine WL.rd rfl rfl rfl (Rd.conv rfl rfl Tryz.underlying5 (wrap_natU (k := .u8) rfl (show _ < 256 by omega)) (hS := Tryz.underlying137)) ?_
    refine WL.rd rfl rfl rfl (Rd.len8 rfl Tryz.underlying9 rfl rfl rfl Z.W) ?_
    refine WL.rd rfl rfl rfl (Rd.conv rfl rfl Tryz.underlying3 (wrap_natS (k := .i64) (Nat.lt_of_le_of_lt (len8_le _ Z.W) (by decide))) (hS := Tryz.underlying5)) ?_
    refine WL.rd rfl rfl rfl (Rd.add rfl rfl rfl (by (have h8 := len8_le (n) Z.W; omega))) ?_
    refine WL.rd rfl rfl rfl (Rd.assign rfl rfl) ?_
    refine WL.nil ?_
    refine thenQ.normal ?_
    refine WC.ret (Ret.one Tryz.results131 rfl ?_)
    exact vi_eq hk Z.W
set_option maxRecDepth 20000 in
theorem len_spec {R : List RO} {O : List Own} {POST : Value → List RO → List Own → Prop} {n : Nat} (hn : n < 18446744073709551616) (hk : POST (.int .i64 (blen n)) R O) : Fun Tryz.prog 110 #[.int .u64 n] R O POST := by
 refine Fun.enter (l := [_]) Tryz.func110 rfl Tryz.ntmps110 rfl (L0 := [(0, _)]) rfl ?_
 refine WC.seq ?_
 refine WC.region ?_
 refine WL.rd rfl rfl rfl (Rd.assign rfl rfl) ?_
 refine WL.nil ?_
 refine thenQ.normal ?_
 refine WC.seq ?_
 refine WC.cond rfl (fun hc1 => ?_) (fun hc1 => ?_)
 ·
  simp at hc1
 ·
  refine WC.skip ?_
  refine thenQ.normal ?_
  refine WC.seq ?_
  refine WC.region ?_
  refine WL.rd rfl rfl rfl (Rd.move rfl rfl) ?_
  refine WL.op rfl ?_
  refine OpW.call rfl rfl Z.E Z.K rfl rfl rfl ?_
  refine len64_spec hn ?_
  refine WL.rd rfl rfl rfl (Rd.assign rfl rfl) ?_
  refine WL.nil ?_
  refine thenQ.normal ?_
  refine WC.ret (Ret.one Tryz.results110 rfl ?_)
  exact hk
set_option maxRecDepth 20000 in
theorem len8_spec {R : List RO} {O : List Own} {POST : Value → List RO → List Own → Prop} {n : Nat} (hn : n < 256) (hk : POST (.int .i64 (blen n)) R O) : Fun Tryz.prog 119 #[.int .u8 n] R O POST := by
 refine Fun.enter (l := [_]) Tryz.func119 rfl Tryz.ntmps119 rfl (L0 := [(0, _)]) rfl ?_
 refine WC.seq ?_
 refine WC.region ?_
 refine WL.rd rfl rfl rfl (Rd.assign rfl rfl) ?_
 refine WL.nil ?_
 refine thenQ.normal ?_
 refine WC.seq ?_
 refine WC.region ?_
 refine WL.rd rfl rfl rfl (Rd.move rfl rfl) ?_
 refine WL.rd rfl rfl rfl (Rd.len8 rfl Tryz.underlying9 rfl rfl rfl hn) ?_
 refine WL.rd rfl rfl rfl (Rd.conv rfl rfl Tryz.underlying3 (wrap_natS (k := .i64) (Nat.lt_of_le_of_lt (len8_le _ hn) (by decide))) (hS := Tryz.underlying5)) ?_
 refine WL.rd rfl rfl rfl (Rd.assign rfl rfl) ?_
 refine WL.nil ?_
 refine thenQ.normal ?_
 refine WC.ret (Ret.one Tryz.results119 rfl ?_)
 exact hk
set_option maxRecDepth 20000 in
theorem zeros8_spec {R : List RO} {O : List Own} {POST : Value → List RO → List Own → Prop} {n : Nat} (hn : n < 256) (hk : POST (.int .i64 ((8 - blen n : Nat) : Int)) R O) : Fun Tryz.prog 106 #[.int .u8 n] R O POST := by
 have h8 := len8_le n hn
 refine Fun.enter (l := [_]) Tryz.func106 rfl Tryz.ntmps106 rfl (L0 := [(0, _)]) rfl ?_
 refine WC.seq ?_
 refine WC.region ?_
 refine WL.rd rfl rfl rfl (Rd.assign rfl rfl) ?_
 refine WL.nil ?_
 refine thenQ.normal ?_
 refine WC.seq ?_
 refine WC.region ?_
 refine WL.rd rfl rfl rfl (Rd.move rfl rfl) ?_
 refine WL.op rfl ?_
 refine OpW.call rfl rfl Z.E Z.K rfl rfl rfl ?_
 refine len8_spec hn ?_
 refine WL.rd rfl rfl rfl (Rd.sub rfl rfl rfl Z.W) ?_
 refine WL.rd rfl rfl rfl (Rd.assign rfl rfl) ?_
 refine WL.nil ?_
 refine thenQ.normal ?_
 refine WC.ret (Ret.one Tryz.results106 rfl ?_)
 exact vi_eq hk Z.W
/-- How many bytes stand behind the first one. -/
def more (n : Nat) : Nat := (blen n - 1) / 7
set_option maxRecDepth 20000 in
theorem behind_spec {R : List RO} {O : List Own} {POST : Value → List RO → List Own → Prop} {n : Nat} (hn : n ≤ 9223372036854775807) (hk : POST (.int .i64 (more n)) R O) : Fun Tryz.prog 100 #[.int .i64 n] R O POST := by
 have h8 := blen_lt (n := n) (k := 63) Z.W
 refine Fun.enter (l := [_]) Tryz.func100 rfl Tryz.ntmps100 rfl (L0 := [(0, _)]) rfl ?_
 refine WC.seq ?_
 refine WC.region ?_
 refine WL.rd rfl rfl rfl (Rd.assign rfl rfl) ?_
 refine WL.nil ?_
 refine thenQ.normal ?_
 refine WC.seq ?_
 refine WC.region ?_
 refine WL.rd rfl rfl rfl (Rd.move rfl rfl) ?_
 refine WL.rd rfl rfl rfl (Rd.conv rfl rfl Tryz.underlying59 (wrap_natU (k := .u64) rfl (show _ < 18446744073709551616 by omega)) (hS := Tryz.underlying3)) ?_
 refine WL.op rfl ?_
 refine OpW.call rfl rfl Z.E Z.K rfl rfl rfl ?_
 refine len_spec Z.W ?_
 refine WL.rd rfl rfl rfl (Rd.sub rfl rfl rfl Z.W) ?_
 refine WL.rd rfl rfl rfl (Rd.max2 rfl rfl rfl) ?_
 refine WL.say 7 (u := .int .i64 ((blen n - 1 : Nat) : Int)) rfl (by congr 1; omega) ?_
 refine WL.rd rfl rfl rfl (Rd.quoI (b := 7) rfl rfl rfl rfl rfl (by decide) Z.W) ?_
 refine WL.rd rfl rfl rfl (Rd.assign rfl rfl) ?_
 refine WL.nil ?_
 refine thenQ.normal ?_
 refine WC.ret (Ret.one Tryz.results100 rfl ?_)
 exact hk
end Go.Proofs.YtckokhdjeifomaaGreatDoor
namespace Go.Proofs.YtckokhdjeifomaaGreatDoor
open Go Go.SL
/-- The i lowest bytes of a number, the highest of them first. -/
def beb : Nat → Nat → List UInt8
 | 0, _ => []
 | i + 1, n => UInt8.ofNat (n / 256 ^ i % 256) :: beb i n
theorem beb_length : ∀ (i n : Nat), (beb i n).length = i
 | 0, _ => rfl
 | i + 1, n => by rw [beb, List.length_cons, beb_length i n]
/-- What is added to a first byte. -/
def mask (k : Nat) : Nat := 256 - 2 ^ (8 - k)
/-- The bytes of a number. -/
def putE (n : Nat) : List UInt8 := UInt8.ofNat (n / 256 ^ more n + mask (more n)) :: beb (more n) n
def putI (p : Int) : List UInt8 := if p < 0 ∨ 1099511627776 < p then [] else putE p.toNat
theorem putE_length (n : Nat) : (putE n).length = more n + 1 := by rw [putE, List.length_cons, beb_length]
theorem more_lt {n k : Nat} : n < 128 ^ (k + 1) ↔ more n ≤ k := by
 have e : (128 : Nat) ^ (k + 1) = 2 ^ (7 * (k + 1)) := by rw [Nat.pow_mul]
 rw [e]
 constructor
 · intro h
   have := blen_lt h
   unfold more; omega
 · intro h
   rcases Nat.lt_or_ge n (2 ^ (7 * (k + 1))) with h1 | h1
   · exact h1
   · have := blen_ge h1
     unfold more at h; omega
theorem more_le {n : Nat} (h : n ≤ 1099511627776) : more n ≤ 5 := more_lt.1 (Nat.lt_of_le_of_lt h (by decide))
theorem head_lt {n : Nat} (h : n ≤ 1099511627776) : n / 256 ^ more n < 2 ^ (7 - more n) := by
 have h5 := more_le h
 have h1 : n < 128 ^ (more n + 1) := more_lt.2 (Nat.le_refl _)
 generalize more n = k at *
 rw [Nat.div_lt_iff_lt_mul (Nat.pow_pos (by decide))]
 refine Nat.lt_of_lt_of_le h1 ?_
 have : ∀ k, k ≤ 5 → 128 ^ (k + 1) ≤ 2 ^ (7 - k) * 256 ^ k := by decide
 exact this k h5
theorem or_mask : ∀ k, k ≤ 5 → ∀ x, x < 2 ^ (7 - k) → x ||| (255 - 255 / 2 ^ k) = x + mask k := by decide +kernel
theorem mask_sum : ∀ k, k ≤ 5 → 2 ^ (7 - k) + mask k ≤ 256 := by decide
theorem u8_toNat {x : Nat} (h : x < 256) : (UInt8.ofNat x).toNat = x := by simp; omega
theorem wrap_byte (a : Nat) : IntKind.u8.wrap (a : Int) = ((UInt8.ofNat (a % 256)).toNat : Int) := by
 rw [u8_toNat (Nat.mod_lt _ (by decide))]
 simp only [IntKind.wrap, IntKind.signed, IntKind.bits, Bool.false_and, Bool.false_eq_true, if_false]; omega
theorem set_lastb {α : Type} (k : Nat) (z v : α) (l : List α) : (List.replicate (k + 1) z ++ l).set k v = List.replicate k z ++ v :: l := by
 rw [List.set_append_left _ _ (by simp), List.replicate_succ', List.set_append_right _ _ (by simp)]
 simp
theorem beb_step {n m j : Nat} (hj : j ≤ m) : (List.replicate (m + 1 - j) (Value.int .u8 0) ++ (beb j n).map vy).set (m - j) (vy (UInt8.ofNat (n / 256 ^ j % 256))) = List.replicate (m + 1 - (j + 1)) (Value.int .u8 0) ++ (beb (j + 1) n).map vy := by
 rw [show m + 1 - j = (m - j) + 1 from by omega, set_lastb, show m + 1 - (j + 1) = m - j from by omega]
 rfl
theorem div_step (n j : Nat) : n / 256 ^ j / 2 ^ 8 = n / 256 ^ (j + 1) := by rw [Nat.div_div_eq_div_mul]; rfl
set_option maxRecDepth 20000 in
theorem put_bad {R : List RO} {O : List Own} {POST : Value → List RO → List Own → Prop} {p : Int} (hp : p < 0 ∨ 1099511627776 < p) (hk : POST (vs []) R O) : Fun Tryz.prog 66 #[.int .i64 p] R O POST := by
 refine Fun.enter (l := [_]) Tryz.func66 rfl Tryz.ntmps66 rfl (L0 := [(0, _)]) rfl ?_
 refine WC.seq ?_
 refine WC.region ?_
 refine WL.rd rfl rfl rfl (Rd.assign rfl rfl) ?_
 refine WL.nil ?_
 refine thenQ.normal ?_
 refine WC.seq ?_
 refine WC.pick [0] Z.P ?_
 refine WC.val 11 (.bool (decide (p < 0 ∨ 1099511627776 < p))) ?_ ?_
 ·
  refine WC.region ?_
  refine WL.rd rfl rfl rfl (Rd.move rfl rfl) ?_
  refine WL.rd rfl rfl rfl (Rd.lss rfl rfl rfl) ?_
  refine WL.rd rfl rfl rfl (Rd.move rfl rfl) ?_
  refine WL.case 8 rfl (fun hg8 => ?_) (fun hg8 => ?_)
  ·
   refine WL.no rfl rfl rfl rfl rfl rfl ?_
   refine WL.no rfl rfl rfl rfl rfl rfl ?_
   refine WL.rd rfl rfl rfl (Rd.pick_t rfl rfl rfl) ?_
   refine WL.nil ?_
   exact ⟨by repeat (first | exact Sub.nil | refine Sub.cons rfl (by first | rfl | (exact vb_t Z.W)) ?_), by exact (fun _ h => h.thin (SubL.mem Z.S))⟩
  ·
   refine WL.rd_yes rfl rfl rfl rfl rfl rfl (Rd.move rfl rfl) ?_
   refine WL.rd_yes rfl rfl rfl rfl rfl rfl (Rd.gtr rfl rfl rfl) ?_
   refine WL.rd rfl rfl rfl (Rd.pick_f rfl rfl rfl) ?_
   refine WL.nil ?_
   exact ⟨by repeat (first | exact Sub.nil | refine Sub.cons rfl (by first | rfl | (exact vb Z.W)) ?_), by exact (fun _ h => h.thin (SubL.mem Z.S))⟩
 ·
  refine WC.ite rfl (fun hc1 => ?_) (fun hc1 => ?_)
  ·
   refine WC.seq ?_
   refine WC.region ?_
   refine WL.rd rfl rfl rfl (Rd.assign rfl rfl) ?_
   refine WL.nil ?_
   refine thenQ.normal ?_
   refine WC.ret (Ret.one Tryz.results66 rfl ?_)
   exact hk
  ·
   exfalso; omega
set_option maxRecDepth 20000 in
set_option maxHeartbeats 1000000 in
theorem put_good {R : List RO} {O : List Own} {POST : Value → List RO → List Own → Prop} {n : Nat} (hn : n ≤ 1099511627776) (hk : POST (vs (putE n)) R O) : Fun Tryz.prog 66 #[.int .i64 n] R O POST := by
 have h5 := more_le hn
 have hh := head_lt hn
 have hms := mask_sum _ h5
 have hpl := putE_length n
 refine Fun.enter (l := [_]) Tryz.func66 rfl Tryz.ntmps66 rfl (L0 := [(0, _)]) rfl ?_
 refine WC.seq ?_
 refine WC.region ?_
 refine WL.rd rfl rfl rfl (Rd.assign rfl rfl) ?_
 refine WL.nil ?_
 refine thenQ.normal ?_
 refine WC.seq ?_
 refine WC.pick [0] Z.P ?_
 refine WC.val 11 (.bool (decide ((n : Int) < 0 ∨ 1099511627776 < (n : Int)))) ?_ ?_
 ·
  refine WC.region ?_
  refine WL.rd rfl rfl rfl (Rd.move rfl rfl) ?_
  refine WL.rd rfl rfl rfl (Rd.lss rfl rfl rfl) ?_
  refine WL.rd rfl rfl rfl (Rd.move rfl rfl) ?_
  refine WL.case 8 rfl (fun hg8 => ?_) (fun hg8 => ?_)
  ·
   refine WL.no rfl rfl rfl rfl rfl rfl ?_
   refine WL.no rfl rfl rfl rfl rfl rfl ?_
   refine WL.rd rfl rfl rfl (Rd.pick_t rfl rfl rfl) ?_
   refine WL.nil ?_
   exact ⟨by repeat (first | exact Sub.nil | refine Sub.cons rfl (by first | rfl | (exact vb_t Z.W)) ?_), by exact (fun _ h => h.thin (SubL.mem Z.S))⟩
  ·
   refine WL.rd_yes rfl rfl rfl rfl rfl rfl (Rd.move rfl rfl) ?_
   refine WL.rd_yes rfl rfl rfl rfl rfl rfl (Rd.gtr rfl rfl rfl) ?_
   refine WL.rd rfl rfl rfl (Rd.pick_f rfl rfl rfl) ?_
   refine WL.nil ?_
   exact ⟨by repeat (first | exact Sub.nil | refine Sub.cons rfl (by first | rfl | (exact vb Z.W)) ?_), by exact (fun _ h => h.thin (SubL.mem Z.S))⟩
 ·
  refine WC.ite rfl (fun hc1 => ?_) (fun hc1 => ?_)
  ·
   exfalso; omega
  ·
   refine WC.skip ?_
   refine thenQ.normal ?_
   refine WC.seq ?_
   refine WC.region ?_
   refine WL.rd rfl rfl rfl (Rd.move rfl rfl) ?_
   refine WL.op rfl ?_
   refine OpW.call rfl rfl Z.E Z.K rfl rfl rfl ?_
   refine behind_spec Z.W ?_
   refine WL.rd rfl rfl rfl (Rd.assign rfl rfl) ?_
   refine WL.nil ?_
   refine thenQ.normal ?_
   refine WC.seq ?_
   refine WC.region ?_
   refine WL.rd rfl rfl rfl (Rd.move rfl rfl) ?_
   refine WL.rd rfl rfl rfl (Rd.add rfl rfl rfl Z.W) ?_
   refine WL.op rfl ?_
   refine OpW.make1 (m := more n + 1) (c := more n + 1) rfl S70 rfl rfl rfl rfl rfl Z.W Z.W Z.W rfl rfl ?_; intro b16
   refine WL.rd rfl rfl rfl (Rd.assign rfl rfl) ?_
   refine WL.nil ?_
   refine thenQ.normal ?_
   refine WC.seq ?_
   refine WC.seq ?_
   refine WC.region ?_
   refine WL.rd rfl rfl rfl (Rd.move rfl rfl) ?_
   refine WL.rd rfl rfl rfl (Rd.assign rfl rfl) ?_
   refine WL.nil ?_
   refine thenQ.normal ?_
   refine WC.block ?_
   refine WC.pick [5, 0, 3, 4] Z.P ?_
   refine WC.loop1 2 (fun (j : Nat) => [(5, .int .i64 ((more n : Int) - j)), (0, .int .i64 ((n / 256 ^ j : Nat) : Int))]) (fun (j : Nat) => rowC b16 5 (List.replicate (more n + 1 - j) (.int .u8 0) ++ (beb j n).map vy) :: O) (fun (j : Nat) => j ≤ more n + 1) (fun (j : Nat) => more n + 1 - j) (0) Z.L ?hinv1 (by repeat (first | exact Sub.nil | refine Sub.cons rfl (by first | rfl | (congr 1; omega)) ?_)) (fun w h => by simpa [beb] using h) ?_
   case hinv1 =>
    exact Nat.zero_le _
   intro j
   rintro h1
   refine WC.seq ?_
   refine WC.seq ?_
   refine WC.region ?_
   refine WL.rd rfl rfl rfl (Rd.move rfl rfl) ?_
   refine WL.rd rfl rfl rfl (Rd.geq rfl rfl rfl) ?_
   refine WL.nil ?_
   refine thenQ.normal ?_
   refine WC.ite rfl (fun hc2 => ?_) (fun hc2 => ?_)
   ·
    refine WC.skip ?_
    refine thenQ.normal ?_
    refine WC.seq ?_
    refine WC.block ?_
    refine WC.seq ?_
    refine WC.region ?_
    refine WL.rd rfl rfl rfl (Rd.move rfl rfl) ?_
    refine WL.rd rfl rfl rfl (Rd.move rfl rfl) ?_
    refine WL.rd rfl rfl rfl (Rd.move rfl rfl) ?_
    refine WL.rd rfl rfl rfl ((by exact Rd.convw rfl rfl Tryz.underlying5 (hS := Tryz.underlying3))) ?_
    refine WL.say 25 (u := vy (UInt8.ofNat (n / 256 ^ j % 256))) rfl (by rw [wrap_byte]) ?_
    refine WL.rd rfl rfl rfl ((by exact Rd.idxR1 (k := more n - j) rfl S70 rfl rfl Z.W Z.W)) ?_
    refine WL.op rfl ?_
    refine OpW.store1 rfl Z5 rfl rfl (by exact ⟨rfl, rfl⟩) Z.T (by (simp only [List.length_append, List.length_replicate, List.length_map, List.length_set]; omega)) rfl ?_
    refine WL.heap (fun w h => by rw [beb_step Z.W] at h; exact h) ?_
    refine WL.nil ?_
    refine thenQ.normal ?_
    refine WC.region ?_
    refine WL.rd rfl rfl rfl (Rd.move rfl rfl) ?_
    refine WL.rd rfl rfl rfl (Rd.shrN (n := 8) rfl rfl rfl rfl rfl (by decide)) ?_
    refine WL.say 28 (u := .int .i64 ((n / 256 ^ (j + 1) : Nat) : Int)) rfl (by rw [div_step]) ?_
    refine WL.rd rfl rfl rfl (Rd.assign rfl rfl) ?_
    refine WL.nil ?_
    refine blockQ.normal ?_
    refine thenQ.normal ?_
    refine WC.region ?_
    refine WL.rd rfl rfl rfl (Rd.move rfl rfl) ?_
    refine WL.rd rfl rfl rfl (Rd.sub rfl rfl rfl Z.W) ?_
    refine WL.rd rfl rfl rfl (Rd.assign rfl rfl) ?_
    refine WL.nil ?_
    exact loopQ1.mk (j + 1) Z.W Z.W (by repeat (first | exact Sub.nil | refine Sub.cons rfl (by first | rfl | (congr 1; omega)) ?_)) Z.F
   ·
    refine WC.exit ?_
    refine thenQ.exit ?_
    refine loopQ1.exit ?_
    refine blockQ.exit ?_
    refine thenQ.normal ?_
    refine WC.seq ?_
    refine WC.heap (R' := R) (O' := rowC b16 5 (vy (UInt8.ofNat (n / 256 ^ more n % 256)) :: (beb (more n) n).map vy) :: O) (fun w h => by
    obtain rfl : j = more n + 1 := by omega
    rw [Nat.sub_self] at h
    exact h) ?_
    refine WC.tail 8 mixed Z.K ?_
    refine WS.rd rfl rfl rfl (Rd.move rfl rfl) ?_
    refine WS.rd rfl rfl rfl ((by exact Rd.idxR1 (k := 0) rfl S70 rfl rfl Z.W Z.W)) ?_
    refine WS.rd rfl rfl rfl ((by exact Rd.row1 rfl C5 rfl Z.M (by rfl))) ?_
    refine WS.rd rfl rfl rfl (Rd.move rfl rfl) ?_
    refine WS.rd rfl rfl rfl (Rd.shrN (a := 255) (n := more n) rfl rfl rfl rfl rfl (by show more n ≤ 8; omega)) ?_
    refine WS.rd rfl rfl rfl (Rd.bnot rfl rfl rfl (Nat.lt_of_le_of_lt (Nat.div_le_self _ _) (by decide))) ?_
    refine WS.rd rfl rfl rfl (Rd.orU rfl rfl rfl rfl rfl rfl (UInt8.toNat_lt _) (Nat.lt_of_le_of_lt (Nat.sub_le _ _) (by decide))) ?_
    refine WS.say 35 (u := vy (UInt8.ofNat (n / 256 ^ more n + mask (more n)))) rfl (by rw [u8_toNat (Nat.mod_lt _ (by decide)), Nat.mod_eq_of_lt (Nat.lt_of_lt_of_le hh Z.W), or_mask _ h5 _ hh, vy, u8_toNat Z.W]) ?_
    refine WS.rd rfl rfl rfl ((by exact Rd.idxR1 (k := 0) rfl S70 rfl rfl Z.W Z.W)) ?_
    refine WS.switch ?_
    refine WL.op rfl ?_
    refine OpW.store1 rfl Z5 rfl rfl (by exact ⟨rfl, rfl⟩) Z.T (by (simp; done)) rfl ?_
    refine WL.nil ?_
    refine thenQ.normal ?_
    refine WC.seq ?_
    refine WC.region ?_
    refine WL.rd rfl rfl rfl (Rd.move rfl rfl) ?_
    refine WL.rd rfl rfl rfl (Rd.strOfR (bs := putE n) rfl Tryz.underlying70 Tryz.underlying9 Tryz.underlying5 rfl Z.M rfl hpl Z.W) ?_
    refine WL.rd rfl rfl rfl (Rd.assign rfl rfl) ?_
    refine WL.nil ?_
    refine thenQ.normal ?_
    refine WC.heap (R' := R) (O' := O) Z.F ?_
    refine WC.ret (Ret.one Tryz.results66 rfl ?_)
    exact hk
theorem put_spec {R : List RO} {O : List Own} {POST : Value → List RO → List Own → Prop} {p : Int} (hk : POST (vs (putI p)) R O) : Fun Tryz.prog 66 #[.int .i64 p] R O POST := by
 unfold putI at hk
 by_cases h : p < 0 ∨ 1099511627776 < p
 · rw [if_pos h] at hk
   exact put_bad h hk
 · rw [if_neg h] at hk
   obtain ⟨n, rfl⟩ : ∃ n : Nat, p = n := ⟨p.toNat, by omega⟩
   exact put_good Z.W hk
end Go.Proofs.YtckokhdjeifomaaGreatDoor
namespace Go.Proofs.YtckokhdjeifomaaGreatDoor
open Go Go.SL
/-- How many bytes stand behind a first byte. -/
def lead (b : UInt8) : Nat := 8 - blen (255 - b.toNat)
def num (n : Nat) (r : List UInt8) : Nat := r.foldl (fun n c => 256 * n + c.toNat) n
def getE : List UInt8 → Int × Int × Int
 | [] => (0, 0, 3)
 | b :: r =>
   if 5 < lead b then (0, 0, 2)
   else if r.length < lead b then (0, 0, 3)
   else if 1099511627776 < num (b.toNat - mask (lead b)) (r.take (lead b)) ∨ more (num (b.toNat - mask (lead b)) (r.take (lead b))) ≠ lead b then (0, 0, 2)
   else (num (b.toNat - mask (lead b)) (r.take (lead b)), lead b + 1, 0)
theorem and_all : ∀ b < 256, 8 - blen (255 - b) ≤ 5 → b &&& (255 / 2 ^ (8 - blen (255 - b))) = b - mask (8 - blen (255 - b)) ∧ mask (8 - blen (255 - b)) ≤ b ∧ b - mask (8 - blen (255 - b)) < 128 := by decide +kernel
theorem and_lead {b : UInt8} (h : lead b ≤ 5) : b.toNat &&& (255 / 2 ^ lead b) = b.toNat - mask (lead b) ∧ mask (lead b) ≤ b.toNat ∧ b.toNat - mask (lead b) < 128 := and_all b.toNat (UInt8.toNat_lt b) h
theorem num_lt : ∀ (r : List UInt8) (n : Nat), num n r < (n + 1) * 256 ^ r.length
 | [], n => by simp [num]
 | c :: r, n => by
   have h := num_lt r (256 * n + c.toNat)
   have hc := UInt8.toNat_lt c
   simp only [num, List.foldl_cons, List.length_cons] at *
   refine Nat.lt_of_lt_of_le h ?_
   rw [Nat.pow_succ, Nat.mul_comm (256 ^ r.length) 256, ← Nat.mul_assoc]
   exact Nat.mul_le_mul_right _ Z.W
theorem num_snoc {r : List UInt8} {n i : Nat} {c : UInt8} (h : r[i]? = some c) : num n (r.take (i + 1)) = 256 * num n (r.take i) + c.toNat := by
 have : r.take (i + 1) = r.take i ++ [c] := by
  rw [List.take_add_one, h]; rfl
 rw [this, num, List.foldl_append]; rfl
theorem lead_spec {R : List RO} {O : List Own} {POST : Value → List RO → List Own → Prop} {b : UInt8} (hk : POST (.int .i64 (lead b : Nat)) R O) : Fun Tryz.prog 106 #[.int .u8 ((255 - b.toNat : Nat) : Int)] R O POST :=
 zeros8_spec (by have := UInt8.toNat_lt b; omega) hk
theorem num_small {r : List UInt8} {n i : Nat} (hn : n < 128) (hi : i ≤ 5) : num n (r.take i) < 128 * 256 ^ 5 := by
 have h := num_lt (r.take i) n
 refine Nat.lt_of_lt_of_le h ?_
 refine Nat.mul_le_mul Z.W (Nat.pow_le_pow_right (by decide) ?_)
 rw [List.length_take]; omega
theorem num_or (a : Nat) (c : UInt8) : a * 2 ^ 8 ||| c.toNat = 256 * a + c.toNat := by
 rw [Nat.mul_comm, ← Nat.two_pow_add_eq_or_of_lt (UInt8.toNat_lt c)]
set_option maxRecDepth 20000 in
set_option maxHeartbeats 1000000 in
theorem get_spec {R : List RO} {O : List Own} {POST : Value → List RO → List Own → Prop} {s : List UInt8} (hs : s.length ≤ 9223372036854775807)
 (hk : POST (.tuple #[.int .i64 (getE s).1, .int .i64 (getE s).2.1, .int .i64 (getE s).2.2]) R O) : Fun Tryz.prog 82 #[vs s] R O POST := by
 refine Fun.enter (l := [_]) Tryz.func82 rfl Tryz.ntmps82 rfl (L0 := [(0, _)]) rfl ?_
 refine WC.seq ?_
 refine WC.region ?_
 refine WL.rd rfl rfl rfl (Rd.assign rfl rfl) ?_
 refine WL.rd rfl rfl rfl (Rd.assign rfl rfl) ?_
 refine WL.rd rfl rfl rfl (Rd.assign rfl rfl) ?_
 refine WL.nil ?_
 refine thenQ.normal ?_
 refine WC.seq ?_
 refine WC.seq ?_
 refine WC.region ?_
 refine WL.rd rfl rfl rfl (Rd.move rfl rfl) ?_
 refine WL.rd rfl rfl rfl (Rd.seql rfl rfl rfl) ?_
 refine WL.nil ?_
 refine thenQ.normal ?_
 refine WC.ite rfl (fun hc1 => ?_) (fun hc1 => ?_)
 ·
  obtain rfl : s = [] := by simpa using hc1
  refine WC.seq ?_
  refine WC.region ?_
  refine WL.rd rfl rfl rfl (Rd.assign rfl rfl) ?_
  refine WL.rd rfl rfl rfl (Rd.assign rfl rfl) ?_
  refine WL.rd rfl rfl rfl (Rd.assign rfl rfl) ?_
  refine WL.nil ?_
  refine thenQ.normal ?_
  refine WC.ret (Ret.three Tryz.results82 rfl rfl rfl ?_)
  exact hk
 ·
  obtain ⟨b, r, rfl⟩ : ∃ b r, s = b :: r := by
   cases s with
   | nil => exact absurd rfl hc1
   | cons b r => exact ⟨b, r, rfl⟩
  have hb := UInt8.toNat_lt b
  refine WC.skip ?_
  refine thenQ.normal ?_
  refine WC.seq ?_
  refine WC.region ?_
  refine WL.rd rfl rfl rfl (Rd.move rfl rfl) ?_
  refine WL.rd rfl rfl rfl (Rd.sidx (k := 0) rfl Tryz.underlying9 rfl rfl rfl rfl) ?_
  refine WL.rd rfl rfl rfl (Rd.bnot rfl rfl rfl (UInt8.toNat_lt b)) ?_
  refine WL.op rfl ?_
  refine OpW.call rfl rfl Z.E Z.K rfl rfl rfl ?_
  refine lead_spec ?_
  refine WL.rd rfl rfl rfl (Rd.assign rfl rfl) ?_
  refine WL.nil ?_
  refine thenQ.normal ?_
  refine WC.seq ?_
  refine WC.block ?_
  refine WC.seq ?_
  refine WC.region ?_
  refine WL.rd rfl rfl rfl (Rd.move rfl rfl) ?_
  refine WL.rd rfl rfl rfl (Rd.gtr rfl rfl rfl) ?_
  refine WL.rd rfl rfl rfl (Rd.assign rfl rfl) ?_
  refine WL.nil ?_
  refine thenQ.normal ?_
  refine WC.ite rfl (fun hc2 => ?_) (fun hc2 => ?_)
  ·
   refine WC.seq ?_
   refine WC.region ?_
   refine WL.rd rfl rfl rfl (Rd.assign rfl rfl) ?_
   refine WL.rd rfl rfl rfl (Rd.assign rfl rfl) ?_
   refine WL.rd rfl rfl rfl (Rd.assign rfl rfl) ?_
   refine WL.nil ?_
   refine thenQ.normal ?_
   refine WC.ret (Ret.three Tryz.results82 rfl rfl rfl ?_)
   have e : getE (b :: r) = (0, 0, 2) := by rw [getE, if_pos Z.W]
   rw [e] at hk; exact hk
  ·
   refine WC.seq ?_
   refine WC.region ?_
   refine WL.rd rfl rfl rfl (Rd.move rfl rfl) ?_
   refine WL.rd rfl rfl rfl (Rd.slen (ts := #[]) (ty := 0) rfl rfl Tryz.underlying9) ?_
   refine WL.rd rfl rfl rfl (Rd.move rfl rfl) ?_
   refine WL.rd rfl rfl rfl (Rd.leq rfl rfl rfl) ?_
   refine WL.rd rfl rfl rfl (Rd.assign rfl rfl) ?_
   refine WL.nil ?_
   refine thenQ.normal ?_
   refine WC.ite rfl (fun hc3 => ?_) (fun hc3 => ?_)
   ·
    refine WC.seq ?_
    refine WC.region ?_
    refine WL.rd rfl rfl rfl (Rd.assign rfl rfl) ?_
    refine WL.rd rfl rfl rfl (Rd.assign rfl rfl) ?_
    refine WL.rd rfl rfl rfl (Rd.assign rfl rfl) ?_
    refine WL.nil ?_
    refine thenQ.normal ?_
    refine WC.ret (Ret.three Tryz.results82 rfl rfl rfl ?_)
    have e : getE (b :: r) = (0, 0, 3) := by rw [getE, if_neg Z.W, if_pos (by simp at hc3; omega)]
    rw [e] at hk; exact hk
   ·
    have h5 : lead b ≤ 5 := by omega
    have hr : lead b ≤ r.length := by simp at hc3; omega
    obtain ⟨ha1, ha2, ha3⟩ := and_lead h5
    refine WC.skip ?_
    refine blockQ.normal ?_
    refine thenQ.normal ?_
    refine WC.seq ?_
    refine WC.still mixed Z.K ?_
    refine WA.rd rfl rfl rfl (Rd.move rfl rfl) ?_
    refine WA.rd rfl rfl rfl (Rd.sidx (k := 0) rfl Tryz.underlying9 rfl rfl rfl rfl) ?_
    refine WA.rd rfl rfl rfl (Rd.move rfl rfl) ?_
    refine WA.rd rfl rfl rfl (Rd.shrN (a := 255) (n := lead b) rfl rfl rfl rfl rfl (by show lead b ≤ 8; omega)) ?_
    refine WA.rd rfl rfl rfl (Rd.andU rfl rfl rfl rfl rfl rfl (UInt8.toNat_lt b) (Nat.lt_of_le_of_lt (Nat.div_le_self _ _) (by decide))) ?_
    refine WA.say 26 (u := .int .u8 ((b.toNat - mask (lead b) : Nat) : Int)) rfl (by rw [ha1]) ?_
    refine WA.rd rfl rfl rfl (Rd.conv rfl rfl Tryz.underlying3 (wrap_natS (k := .i64) (Nat.lt_of_lt_of_le ha3 (by decide))) (hS := Tryz.underlying5)) ?_
    refine WA.rd rfl rfl rfl (Rd.assign rfl rfl) ?_
    refine WA.nil ?_
    refine thenQ.normal ?_
    refine WC.seq ?_
    refine WC.seq ?_
    refine WC.region ?_
    refine WL.rd rfl rfl rfl (Rd.assign rfl rfl) ?_
    refine WL.nil ?_
    refine thenQ.normal ?_
    refine WC.block ?_
    refine WC.pick [7, 6, 0, 5] Z.P ?_
    refine WC.loop1o 2 (fun (i : Nat) => [(7, .int .i64 ((i : Int) + 1)), (6, .int .i64 ((num (b.toNat - mask (lead b)) (r.take i) : Nat) : Int))]) (fun (i : Nat) => i ≤ lead b) (fun (i : Nat) => lead b - i) (0) Z.L ?hinv1 (by repeat (first | exact Sub.nil | refine Sub.cons rfl (by rfl) ?_)) (fun _ h => h) ?_
    case hinv1 =>
     exact Nat.zero_le _
    intro i
    rintro h1
    refine WC.seq ?_
    refine WC.seq ?_
    refine WC.region ?_
    refine WL.rd rfl rfl rfl (Rd.move rfl rfl) ?_
    refine WL.rd rfl rfl rfl (Rd.move rfl rfl) ?_
    refine WL.rd rfl rfl rfl (Rd.leq rfl rfl rfl) ?_
    refine WL.nil ?_
    refine thenQ.normal ?_
    refine WC.ite rfl (fun hc4 => ?_) (fun hc4 => ?_)
    ·
     have hsm := num_small (r := r) (i := i) ha3 Z.W; have hc := UInt8.toNat_lt r[i]!
     refine WC.skip ?_
     refine thenQ.normal ?_
     refine WC.seq ?_
     refine WC.block ?_
     refine WC.region ?_
     refine WL.rd rfl rfl rfl (Rd.move rfl rfl) ?_
     refine WL.rd rfl rfl rfl (Rd.shlS (n := 8) rfl rfl rfl rfl rfl (by decide) Z.W) ?_
     refine WL.rd rfl rfl rfl (Rd.move rfl rfl) ?_
     refine WL.rd rfl rfl rfl (Rd.move rfl rfl) ?_
     refine WL.rd rfl rfl rfl (Rd.sidx (k := i + 1) (b := r[i]!) rfl Tryz.underlying9 rfl rfl Z.W (by rw [List.getElem?_cons_succ]; exact get!_of_lt Z.W)) ?_
     refine WL.rd rfl rfl rfl (Rd.conv rfl rfl Tryz.underlying3 (wrap_natS (k := .i64) (Nat.lt_of_lt_of_le hc (by decide))) (hS := Tryz.underlying5)) ?_
     refine WL.rd rfl rfl rfl (Rd.orS rfl rfl rfl rfl rfl (show _ < 9223372036854775808 by omega) (show _ < 9223372036854775808 by omega)) ?_
     refine WL.say 39 (u := .int .i64 ((num (b.toNat - mask (lead b)) (r.take (i + 1)) : Nat) : Int)) rfl (by rw [num_snoc (get!_of_lt (xs := r) Z.W), num_or]) ?_
     refine WL.rd rfl rfl rfl (Rd.assign rfl rfl) ?_
     refine WL.nil ?_
     refine blockQ.normal ?_
     refine thenQ.normal ?_
     refine WC.region ?_
     refine WL.rd rfl rfl rfl (Rd.move rfl rfl) ?_
     refine WL.rd rfl rfl rfl (Rd.add rfl rfl rfl Z.W) ?_
     refine WL.rd rfl rfl rfl (Rd.assign rfl rfl) ?_
     refine WL.nil ?_
     exact loopQ1.mk (i + 1) Z.W Z.W (by repeat (first | exact Sub.nil | refine Sub.cons rfl (by rfl) ?_)) Z.F
    ·
     obtain rfl : i = lead b := by omega
     have hsm := num_small (r := r) (i := lead b) ha3 h5
     refine WC.exit ?_
     refine thenQ.exit ?_
     refine loopQ1.exit ?_
     refine blockQ.exit ?_
     refine thenQ.normal ?_
     refine WC.seq ?_
     refine WC.pick [5, 6] Z.P ?_
     refine WC.val 47 (.bool (decide (1099511627776 < num (b.toNat - mask (lead b)) (r.take (lead b)) ∨ more (num (b.toNat - mask (lead b)) (r.take (lead b))) ≠ lead b))) ?_ ?_
     ·
      refine WC.region ?_
      refine WL.rd rfl rfl rfl (Rd.move rfl rfl) ?_
      refine WL.rd rfl rfl rfl (Rd.gtr rfl rfl rfl) ?_
      refine WL.rd rfl rfl rfl (Rd.move rfl rfl) ?_
      refine WL.case 42 rfl (fun hg42 => ?_) (fun hg42 => ?_)
      ·
       refine WL.no rfl rfl rfl rfl rfl rfl ?_
       refine WL.no rfl rfl rfl rfl rfl rfl ?_
       refine WL.no rfl rfl rfl rfl rfl rfl ?_
       refine WL.no rfl rfl rfl rfl rfl rfl ?_
       refine WL.rd rfl rfl rfl (Rd.pick_t rfl rfl rfl) ?_
       refine WL.nil ?_
       exact ⟨by repeat (first | exact Sub.nil | refine Sub.cons rfl (by first | rfl | (exact vb_t (.inl Z.W))) ?_), by exact (fun _ h => h.thin (SubL.mem Z.S))⟩
      ·
       refine WL.rd_yes rfl rfl rfl rfl rfl rfl (Rd.move rfl rfl) ?_
       refine WL.op_yes rfl rfl rfl rfl ?_
       refine OpW.call rfl rfl Z.E Z.K rfl rfl rfl ?_
       refine behind_spec Z.W ?_
       refine WL.rd_yes rfl rfl rfl rfl rfl rfl (Rd.move rfl rfl) ?_
       refine WL.rd_yes rfl rfl rfl rfl rfl rfl (Rd.neq rfl rfl rfl) ?_
       refine WL.rd rfl rfl rfl (Rd.pick_f rfl rfl rfl) ?_
       refine WL.nil ?_
       exact ⟨by repeat (first | exact Sub.nil | refine Sub.cons rfl (by first | rfl | (exact vb ⟨fun h => .inr Z.W, fun h => by omega⟩)) ?_), by exact (fun _ h => h.thin (SubL.mem Z.S))⟩
     ·
      refine WC.ite rfl (fun hc5 => ?_) (fun hc5 => ?_)
      ·
       refine WC.seq ?_
       refine WC.region ?_
       refine WL.rd rfl rfl rfl (Rd.assign rfl rfl) ?_
       refine WL.rd rfl rfl rfl (Rd.assign rfl rfl) ?_
       refine WL.rd rfl rfl rfl (Rd.assign rfl rfl) ?_
       refine WL.nil ?_
       refine thenQ.normal ?_
       refine WC.ret (Ret.three Tryz.results82 rfl rfl rfl ?_)
       have e : getE (b :: r) = (0, 0, 2) := by rw [getE, if_neg Z.W, if_neg Z.W, if_pos hc5]
       rw [e] at hk; exact hk
      ·
       refine WC.skip ?_
       refine thenQ.normal ?_
       refine WC.seq ?_
       refine WC.region ?_
       refine WL.rd rfl rfl rfl (Rd.move rfl rfl) ?_
       refine WL.rd rfl rfl rfl (Rd.move rfl rfl) ?_
       refine WL.rd rfl rfl rfl (Rd.add rfl rfl rfl Z.W) ?_
       refine WL.rd rfl rfl rfl (Rd.assign rfl rfl) ?_
       refine WL.rd rfl rfl rfl (Rd.assign rfl rfl) ?_
       refine WL.rd rfl rfl rfl (Rd.assign rfl rfl) ?_
       refine WL.nil ?_
       refine thenQ.normal ?_
       refine WC.ret (Ret.three Tryz.results82 rfl rfl rfl ?_)
       have e : getE (b :: r) = (((num (b.toNat - mask (lead b)) (r.take (lead b)) : Nat) : Int), (lead b : Int) + 1, (0 : Int)) := by rw [getE, if_neg Z.W, if_neg Z.W, if_neg hc5]
       rw [e] at hk; exact hk
/-- Texts joined. -/
def joinE (l : List (List UInt8)) : List UInt8 := l.flatMap fun s => putI s.length ++ s
theorem joinE_snoc {l : List (List UInt8)} {i : Nat} (h : i < l.length) : joinE (l.take (i + 1)) = (joinE (l.take i) ++ putI (l[i]!.length : Nat)) ++ l[i]! := by
 rw [List.take_add_one, get!_of_lt h, joinE, joinE, List.flatMap_append, List.append_assoc]
 simp
theorem joinE_take_le (l : List (List UInt8)) (i : Nat) : (joinE (l.take i)).length ≤ (joinE l).length := by
 have h : joinE l = joinE (l.take i) ++ joinE (l.drop i) := by
  rw [joinE, joinE, joinE, ← List.flatMap_append, List.take_append_drop]
 rw [h, List.length_append]; omega
set_option maxRecDepth 20000 in
set_option maxHeartbeats 1000000 in
theorem join_spec {R : List RO} {O : List Own} {POST : Value → List RO → List Own → Prop} {l : List (List UInt8)} {lv : Value} (hl : SlE (SL.one vs) lv l ∈ R) (hj : (joinE l).length ≤ 140737488355328) (hk : POST (vs (joinE l)) R O) : Fun Tryz.prog 91 #[lv] R O POST := by
 refine Fun.len hl fun hll => ?_
 refine Fun.enter (l := [_]) Tryz.func91 rfl Tryz.ntmps91 rfl (L0 := [(0, _)]) rfl ?_
 refine WC.seq ?_
 refine WC.region ?_
 refine WL.rd rfl rfl rfl (Rd.assign rfl rfl) ?_
 refine WL.nil ?_
 refine thenQ.normal ?_
 refine WC.seq ?_
 refine WC.region ?_
 refine WL.op rfl ?_
 refine OpW.alloc rfl I113 rfl Z.N rfl rfl ?_; intro b3
 refine WL.nil ?_
 refine thenQ.normal ?_
 refine WC.seq ?_
 refine WC.seq ?_
 refine WC.heap (fun w h => (h.accNil (α := UInt8) (e := 5) (size := 1) (enc := SL.one vy)).swap) ?_
 refine WC.region ?_
 refine WL.rd rfl rfl rfl (Rd.move rfl rfl) ?_
 refine WL.rd rfl rfl rfl ((by exact Rd.lenE rfl rfl Tryz.underlying40 Z.M)) ?_
 refine WL.rd rfl rfl rfl (Rd.move rfl rfl) ?_
 refine WL.nil ?_
 refine thenQ.normal ?_
 refine WC.block ?_
 refine WC.pick [8, 3, 6, 7] Z.P ?_
 refine WC.loop3 1 (fun (i : Nat) (p : Value) (v : Value) => [(8, .int .i64 (i : Int))]) (fun (i : Nat) (p : Value) (v : Value) => rowC b3 113 [p, v] :: accC 5 1 (SL.one vy) v (joinE (l.take i)) :: O) (fun (i : Nat) (p : Value) (v : Value) => i ≤ l.length ∧ (p = .pointer none ∨ p = .pointer (some ⟨b3, 0, none⟩)) ∧ OneV v) (fun (i : Nat) (p : Value) (v : Value) => l.length - i) (0) (_) (_) Z.L ?hinv1 (by repeat (first | exact Sub.nil | refine Sub.cons rfl (by rfl) ?_)) (fun _ h => h) ?_
 case hinv1 =>
  exact ⟨Nat.zero_le _, .inl rfl, OneV.sl⟩
 intro i p v
 rintro ⟨h1, h2, h3⟩
 refine WC.seq ?_
 refine WC.region ?_
 refine WL.rd rfl rfl rfl (Rd.lss rfl rfl rfl) ?_
 refine WL.nil ?_
 refine thenQ.normal ?_
 refine WC.seq ?_
 refine WC.ite rfl (fun hc1 => ?_) (fun hc1 => ?_)
 ·
  have hjs := joinE_take_le l (i + 1)
  have hje := congrArg List.length (joinE_snoc (l := l) (i := i) Z.W)
  rw [List.length_append, List.length_append] at hje
  refine WC.skip ?_
  refine thenQ.normal ?_
  refine WC.seq ?_
  refine WC.block ?_
  refine WC.seq ?_
  refine WC.region ?_
  refine WL.rd rfl rfl rfl ((by exact Rd.idx1 (k := i) rfl S40 rfl rfl Z.W Z.M Z.W)) ?_
  refine WL.rd rfl rfl rfl ((by exact Rd.get rfl C9 rfl Z.M (by exact get!_of_lt Z.W))) ?_
  refine WL.rd rfl rfl rfl (Rd.assign rfl rfl) ?_
  refine WL.nil ?_
  refine thenQ.normal ?_
  refine WC.seq ?_
  refine WC.region ?_
  refine WL.rd rfl rfl rfl (Rd.move rfl rfl) ?_
  refine WL.rd rfl rfl rfl (Rd.slen (ts := #[]) (ty := 0) rfl rfl Tryz.underlying9) ?_
  refine WL.op rfl ?_
  refine OpW.call rfl rfl Z.E Z.K rfl rfl rfl ?_
  refine put_spec ?_
  refine WL.op rfl ?_
  refine OpW.call rfl rfl Z.E Z.K rfl rfl rfl ?_
  refine writeString_spec h2 Z.W ?_; intro v15 hv15
  refine WL.nil ?_
  refine thenQ.normal ?_
  refine WC.region ?_
  refine WL.rd rfl rfl rfl (Rd.move rfl rfl) ?_
  refine WL.op rfl ?_
  refine OpW.call rfl rfl Z.E Z.K rfl rfl rfl ?_
  refine writeString_spec (.inr rfl) (by rw [List.length_append]; omega) ?_; intro v17 hv17
  refine WL.nil ?_
  refine blockQ.normal ?_
  refine thenQ.normal ?_
  refine WC.region ?_
  refine WL.rd rfl rfl rfl (Rd.add rfl rfl rfl Z.W) ?_
  refine WL.rd rfl rfl rfl (Rd.move rfl rfl) ?_
  refine WL.nil ?_
  exact loopQ3.mk (i + 1) (.pointer (some ⟨b3, 0, none⟩)) v17 ⟨by omega, .inr rfl, hv17⟩ Z.W (by repeat (first | exact Sub.nil | refine Sub.cons rfl (by rfl) ?_)) (fun w h => by rw [joinE_snoc Z.W]; exact h)
 ·
  refine WC.exit ?_
  refine thenQ.exit ?_
  refine loopQ3.exit ?_
  refine blockQ.exit ?_
  refine thenQ.normal ?_
  refine WC.seq ?_
  have hi : l.take i = l := List.take_of_length_le Z.W
  rw [hi]
  refine WC.region ?_
  refine WL.op rfl ?_
  refine OpW.call rfl rfl Z.E Z.K rfl rfl rfl ?_
  refine builderString_spec h3 ?_
  refine WL.rd rfl rfl rfl (Rd.assign rfl rfl) ?_
  refine WL.nil ?_
  refine thenQ.normal ?_
  refine WC.ret (Ret.one Tryz.results91 rfl ?_)
  exact hk
end Go.Proofs.YtckokhdjeifomaaGreatDoor
namespace Go.Proofs.YtckokhdjeifomaaGreatDoor
open Go Go.SL
def st (x : Nat) : Nat := x / 2 ^^^ (if x % 2 = 1 then 3988292384 else 0)
def stn : Nat → Nat → Nat
 | 0, x => x
 | k + 1, x => stn k (st x)
theorem xor_swap (a b c d : Nat) : (a ^^^ b) ^^^ (c ^^^ d) = (a ^^^ c) ^^^ (b ^^^ d) := by
 apply Nat.eq_of_testBit_eq; intro i
 simp only [Nat.testBit_xor]
 cases a.testBit i <;> cases b.testBit i <;> cases c.testBit i <;> cases d.testBit i <;> rfl
theorem st_xor (a b : Nat) : st (a ^^^ b) = st a ^^^ st b := by
 unfold st
 rw [Nat.xor_div_two, xor_swap (a / 2)]
 congr 1
 by_cases h1 : a % 2 = 1 <;> by_cases h2 : b % 2 = 1 <;> simp [Nat.xor_mod_two_eq_one, h1, h2]
theorem st_lt {x : Nat} (h : x < 2 ^ 32) : st x < 2 ^ 32 := Nat.xor_lt_two_pow Z.W (by split <;> decide)
theorem st_two (x : Nat) : st (2 * x) = x := by
 unfold st
 rw [if_neg Z.W, Nat.xor_zero]; omega
theorem stn_xor : ∀ (k a b : Nat), stn k (a ^^^ b) = stn k a ^^^ stn k b
 | 0, _, _ => rfl
 | k + 1, a, b => by rw [stn, st_xor, stn_xor k]; rfl
theorem stn_lt : ∀ (k : Nat) {x : Nat}, x < 2 ^ 32 → stn k x < 2 ^ 32
 | 0, _, h => h
 | k + 1, _, h => stn_lt k (st_lt h)
theorem stn_add : ∀ (a b x : Nat), stn (a + b) x = stn b (stn a x)
 | 0, b, x => by rw [Nat.zero_add]; rfl
 | a + 1, b, x => by rw [show a + 1 + b = (a + b) + 1 from by omega, stn, stn_add a b]; rfl
theorem stn_pow : ∀ (k x : Nat), stn k (2 ^ k * x) = x
 | 0, x => by rw [Nat.pow_zero, Nat.one_mul]; rfl
 | k + 1, x => by rw [stn, Nat.pow_succ, show 2 ^ k * 2 * x = 2 * (2 ^ k * x) from by rw [Nat.mul_comm (2 ^ k) 2, Nat.mul_assoc], st_two, stn_pow k]
theorem split16 (x : Nat) : 2 ^ 4 * (x / 16) ^^^ (x &&& 15) = x := by
 have h1 : x &&& 15 = x % 16 := Nat.and_two_pow_sub_one_eq_mod x 4
 rw [h1]
 have e1 : (2 ^ 4 * (x / 16) ^^^ (x % 16)) / 2 ^ 4 = x / 16 := by rw [Nat.xor_div_two_pow, Nat.mul_div_cancel_left _ (by decide), Nat.div_eq_of_lt (Nat.mod_lt _ (by decide)), Nat.xor_zero]
 have e2 : (2 ^ 4 * (x / 16) ^^^ (x % 16)) % 2 ^ 4 = x % 16 := by rw [Nat.xor_mod_two_pow, Nat.mul_mod_right, Nat.zero_xor, Nat.mod_mod]
 generalize 2 ^ 4 * (x / 16) ^^^ (x % 16) = y at *
 omega
theorem nib (x : Nat) : x / 2 ^ 4 ^^^ stn 4 (x &&& 15) = stn 4 x := by
 conv => rhs; rw [← split16 x, stn_xor, stn_pow]
theorem and15_lt (x : Nat) : x &&& 15 < 16 := Nat.lt_of_le_of_lt Nat.and_le_right (by decide)
def tabZ : List Int := [0, 498536548, 997073096, 651767980, 1994146192, 1802195444, 1303535960, 1342533948, 3988292384, 4027552580, 3604390888, 3412177804, 2607071920, 2262029012, 2685067896, 3183342108]
def tabV : List Value := tabZ.map fun z => .int .u32 z
theorem tab_get {k : Nat} (h : k < 16) : tabV[k]? = some (.int .u32 ((stn 4 k : Nat) : Int)) := by
 have : ∀ k < 16, tabZ[k]? = some ((stn 4 k : Nat) : Int) := by decide +kernel
 rw [tabV, List.getElem?_map, this k h]; rfl
abbrev tabR : RO := garr 0 tabV
def stb (r : Nat) (c : UInt8) : Nat := stn 8 (r ^^^ c.toNat)
def reg (r : Nat) (s : List UInt8) : Nat := s.foldl stb r
theorem stb_lt {r : Nat} (h : r < 2 ^ 32) (c : UInt8) : stb r c < 2 ^ 32 := stn_lt 8 (Nat.xor_lt_two_pow h (Nat.lt_trans (UInt8.toNat_lt c) (by decide)))
theorem reg_lt : ∀ (s : List UInt8) {r : Nat}, r < 2 ^ 32 → reg r s < 2 ^ 32
 | [], _, h => h
 | c :: s, _, h => reg_lt s (stb_lt h c)
theorem reg_append (r : Nat) (s t : List UInt8) : reg r (s ++ t) = reg (reg r s) t := List.foldl_append
theorem reg_snoc {s : List UInt8} {i r : Nat} (h : i < s.length) : reg r (s.take (i + 1)) = stb (reg r (s.take i)) s[i]! := by
 rw [List.take_add_one, get!_of_lt h, reg_append]; rfl
def sumE (s : List UInt8) : Nat := 4294967295 - reg 4294967295 s
set_option maxRecDepth 20000 in
set_option maxHeartbeats 1000000 in
theorem crcSum_spec {R : List RO} {O : List Own} {POST : Value → List RO → List Own → Prop} {s : List UInt8} (ht : tabR ∈ R) (hs : s.length ≤ 9223372036854775807)
 (hk : POST (.int .u32 (sumE s : Nat)) R O) : Fun Tryz.prog 92 #[vs s] R O POST := by
 refine Fun.enter (l := [_]) Tryz.func92 rfl Tryz.ntmps92 rfl (L0 := [(0, _)]) rfl ?_
 refine WC.seq ?_
 refine WC.region ?_
 refine WL.rd rfl rfl rfl (Rd.assign rfl rfl) ?_
 refine WL.nil ?_
 refine thenQ.normal ?_
 refine WC.seq ?_
 refine WC.region ?_
 refine WL.rd rfl rfl rfl (Rd.assign rfl rfl) ?_
 refine WL.nil ?_
 refine thenQ.normal ?_
 refine WC.seq ?_
 refine WC.seq ?_
 refine WC.region ?_
 refine WL.rd rfl rfl rfl (Rd.move rfl rfl) ?_
 refine WL.rd rfl rfl rfl (Rd.slen (ts := #[]) (ty := 0) rfl rfl Tryz.underlying9) ?_
 refine WL.rd rfl rfl rfl (Rd.move rfl rfl) ?_
 refine WL.nil ?_
 refine thenQ.normal ?_
 refine WC.block ?_
 refine WC.pick [7, 3, 0, 6] Z.P ?_
 refine WC.loop1o 2 (fun (i : Nat) => [(7, .int .i64 (i : Int)), (3, .int .u32 ((reg 4294967295 (s.take i) : Nat) : Int))]) (fun (i : Nat) => i ≤ s.length) (fun (i : Nat) => s.length - i) (0) Z.L ?hinv1 (by repeat (first | exact Sub.nil | refine Sub.cons rfl (by rfl) ?_)) (fun _ h => h) ?_
 case hinv1 =>
  exact Nat.zero_le _
 intro i
 rintro h1
 have hr : reg 4294967295 (s.take i) < 2 ^ 32 := reg_lt _ (by decide)
 refine WC.seq ?_
 refine WC.region ?_
 refine WL.rd rfl rfl rfl (Rd.lss rfl rfl rfl) ?_
 refine WL.nil ?_
 refine thenQ.normal ?_
 refine WC.seq ?_
 refine WC.ite rfl (fun hc1 => ?_) (fun hc1 => ?_)
 ·
  have hc : s[i]!.toNat < 2 ^ 32 := Nat.lt_trans (UInt8.toNat_lt s[i]!) (by decide)
  have hX : reg 4294967295 (s.take i) ^^^ s[i]!.toNat < 2 ^ 32 := Nat.xor_lt_two_pow hr hc
  have hsn := reg_snoc (s := s) (i := i) (r := 4294967295) Z.W
  have hY : stn 4 (reg 4294967295 (s.take i) ^^^ s[i]!.toNat) < 2 ^ 32 := stn_lt 4 hX
  refine WC.skip ?_
  refine thenQ.normal ?_
  refine WC.seq ?_
  refine WC.block ?_
  refine WC.seq ?_
  refine WC.region ?_
  refine WL.rd rfl rfl rfl (Rd.move rfl rfl) ?_
  refine WL.rd rfl rfl rfl (Rd.assign rfl rfl) ?_
  refine WL.nil ?_
  refine thenQ.normal ?_
  refine WC.seq ?_
  refine WC.region ?_
  refine WL.rd rfl rfl rfl (Rd.move rfl rfl) ?_
  refine WL.rd rfl rfl rfl (Rd.move rfl rfl) ?_
  refine WL.rd rfl rfl rfl (Rd.move rfl rfl) ?_
  refine WL.rd rfl rfl rfl (Rd.sidx (k := i) rfl Tryz.underlying9 rfl rfl Z.W (by exact get!_of_lt Z.W)) ?_
  refine WL.rd rfl rfl rfl (Rd.conv rfl rfl Tryz.underlying134 (wrap_natU rfl hc) (hS := Tryz.underlying5)) ?_
  refine WL.rd rfl rfl rfl (Rd.xorU rfl rfl rfl rfl rfl rfl hr hc) ?_
  refine WL.rd rfl rfl rfl (Rd.assign rfl rfl) ?_
  refine WL.nil ?_
  refine thenQ.normal ?_
  refine WC.seq ?_
  refine WC.region ?_
  refine WL.rd rfl rfl rfl (Rd.move rfl rfl) ?_
  refine WL.rd rfl rfl rfl (Rd.shrN (a := reg 4294967295 (s.take i) ^^^ s[i]!.toNat) (n := 4) rfl rfl rfl rfl rfl (by decide)) ?_
  refine WL.rd rfl rfl rfl (Rd.move rfl rfl) ?_
  refine WL.rd rfl rfl rfl (Rd.andU (a := reg 4294967295 (s.take i) ^^^ s[i]!.toNat) (b := 15) rfl rfl rfl rfl rfl rfl hX (by decide)) ?_
  refine WL.rd rfl rfl rfl (Rd.idxArr1 (k := (reg 4294967295 (s.take i) ^^^ s[i]!.toNat) &&& 15) rfl A180 rfl rfl rfl (and15_lt _)) ?_
  refine WL.rd rfl rfl rfl (Rd.getGl rfl C134 rfl ht (tab_get (and15_lt _))) ?_
  refine WL.rd rfl rfl rfl (Rd.xorU rfl rfl rfl rfl rfl rfl (Nat.lt_of_le_of_lt (Nat.div_le_self _ _) hX) (stn_lt 4 (Nat.lt_trans (and15_lt _) (by decide)))) ?_
  refine WL.say 22 (u := .int .u32 ((stn 4 (reg 4294967295 (s.take i) ^^^ s[i]!.toNat) : Nat) : Int)) rfl (by rw [nib]) ?_
  refine WL.rd rfl rfl rfl (Rd.assign rfl rfl) ?_
  refine WL.nil ?_
  refine thenQ.normal ?_
  refine WC.region ?_
  refine WL.rd rfl rfl rfl (Rd.move rfl rfl) ?_
  refine WL.rd rfl rfl rfl (Rd.shrN (a := stn 4 (reg 4294967295 (s.take i) ^^^ s[i]!.toNat)) (n := 4) rfl rfl rfl rfl rfl (by decide)) ?_
  refine WL.rd rfl rfl rfl (Rd.move rfl rfl) ?_
  refine WL.rd rfl rfl rfl (Rd.andU (a := stn 4 (reg 4294967295 (s.take i) ^^^ s[i]!.toNat)) (b := 15) rfl rfl rfl rfl rfl rfl hY (by decide)) ?_
  refine WL.rd rfl rfl rfl (Rd.idxArr1 (k := stn 4 (reg 4294967295 (s.take i) ^^^ s[i]!.toNat) &&& 15) rfl A180 rfl rfl rfl (and15_lt _)) ?_
  refine WL.rd rfl rfl rfl (Rd.getGl rfl C134 rfl ht (tab_get (and15_lt _))) ?_
  refine WL.rd rfl rfl rfl (Rd.xorU rfl rfl rfl rfl rfl rfl (Nat.lt_of_le_of_lt (Nat.div_le_self _ _) hY) (stn_lt 4 (Nat.lt_trans (and15_lt _) (by decide)))) ?_
  refine WL.say 29 (u := .int .u32 ((reg 4294967295 (s.take (i + 1)) : Nat) : Int)) rfl (by rw [nib, ← stn_add, hsn]; rfl) ?_
  refine WL.rd rfl rfl rfl (Rd.assign rfl rfl) ?_
  refine WL.nil ?_
  refine blockQ.normal ?_
  refine thenQ.normal ?_
  refine WC.region ?_
  refine WL.rd rfl rfl rfl (Rd.add rfl rfl rfl Z.W) ?_
  refine WL.rd rfl rfl rfl (Rd.move rfl rfl) ?_
  refine WL.nil ?_
  exact loopQ1.mk (i + 1) Z.W Z.W (by repeat (first | exact Sub.nil | refine Sub.cons rfl (by rfl) ?_)) Z.F
 ·
  have hi : s.take i = s := List.take_of_length_le Z.W
  rw [hi] at hr ⊢
  refine WC.exit ?_
  refine thenQ.exit ?_
  refine loopQ1.exit ?_
  refine blockQ.exit ?_
  refine thenQ.normal ?_
  refine WC.seq ?_
  refine WC.region ?_
  refine WL.rd rfl rfl rfl (Rd.move rfl rfl) ?_
  refine WL.rd rfl rfl rfl (Rd.bnotU rfl rfl rfl rfl hr rfl) ?_
  refine WL.say 32 (u := .int .u32 (sumE s : Nat)) rfl rfl ?_
  refine WL.rd rfl rfl rfl (Rd.assign rfl rfl) ?_
  refine WL.nil ?_
  refine thenQ.normal ?_
  refine WC.ret (Ret.one Tryz.results92 rfl ?_)
  exact hk
theorem sumE_lt (s : List UInt8) : sumE s < 2 ^ 32 := Nat.lt_of_le_of_lt (Nat.sub_le _ _) (by decide)
end Go.Proofs.YtckokhdjeifomaaGreatDoor
namespace Go.Proofs.YtckokhdjeifomaaGreatDoor
open Go Go.SL
theorem getE_ok : ∀ {s : List UInt8}, (getE s).2.2 = 0 → ∃ n k : Nat, (getE s).1 = (n : Int) ∧ (getE s).2.1 = (k : Int) ∧ 1 ≤ k ∧ k ≤ s.length ∧ n ≤ 1099511627776
 | [], h => by simp [getE] at h
 | b :: r, h => by
   rw [getE] at h ⊢
   by_cases h1 : 5 < lead b
   · rw [if_pos h1] at h; simp at h
   · rw [if_neg h1] at h ⊢
     by_cases h2 : r.length < lead b
     · rw [if_pos h2] at h; simp at h
     · rw [if_neg h2] at h ⊢
       split at h
       · simp at h
       · next h3 =>
         rw [if_neg h3]
         exact ⟨_, lead b + 1, rfl, rfl, by omega, by rw [List.length_cons]; omega, by omega⟩
def nextE (s : List UInt8) : List UInt8 × Int × Int :=
 if (getE s).2.2 ≠ 0 then ([], 0, (getE s).2.2)
 else if 262144 < (getE s).1 then ([], 0, 6)
 else if (s.length : Int) - (getE s).2.1 < (getE s).1 then ([], 0, 3)
 else ((s.take ((getE s).2.1.toNat + (getE s).1.toNat)).drop (getE s).2.1.toNat, (getE s).2.1 + (getE s).1, 0)
set_option maxRecDepth 20000 in
theorem next_spec {R : List RO} {O : List Own} {POST : Value → List RO → List Own → Prop} {s : List UInt8} (hs : s.length ≤ 9223372036854775807)
 (hk : POST (.tuple #[vs (nextE s).1, .int .i64 (nextE s).2.1, .int .i64 (nextE s).2.2]) R O) : Fun Tryz.prog 80 #[vs s] R O POST := by
 refine Fun.enter (l := [_]) Tryz.func80 rfl Tryz.ntmps80 rfl (L0 := [(0, _)]) rfl ?_
 refine WC.seq ?_
 refine WC.region ?_
 refine WL.rd rfl rfl rfl (Rd.assign rfl rfl) ?_
 refine WL.rd rfl rfl rfl (Rd.assign rfl rfl) ?_
 refine WL.rd rfl rfl rfl (Rd.assign rfl rfl) ?_
 refine WL.nil ?_
 refine thenQ.normal ?_
 refine WC.seq ?_
 refine WC.region ?_
 refine WL.rd rfl rfl rfl (Rd.move rfl rfl) ?_
 refine WL.op rfl ?_
 refine OpW.call rfl rfl Z.E Z.K rfl rfl rfl ?_
 refine get_spec hs ?_
 refine WL.rd rfl rfl rfl (Rd.move rfl rfl) ?_
 refine WL.rd rfl rfl rfl (Rd.extract rfl rfl rfl) ?_
 refine WL.rd rfl rfl rfl (Rd.extract rfl rfl rfl) ?_
 refine WL.rd rfl rfl rfl (Rd.extract rfl rfl rfl) ?_
 refine WL.rd rfl rfl rfl (Rd.assign rfl rfl) ?_
 refine WL.rd rfl rfl rfl (Rd.assign rfl rfl) ?_
 refine WL.rd rfl rfl rfl (Rd.assign rfl rfl) ?_
 refine WL.nil ?_
 refine thenQ.normal ?_
 refine WC.seq ?_
 refine WC.block ?_
 refine WC.seq ?_
 refine WC.region ?_
 refine WL.rd rfl rfl rfl (Rd.move rfl rfl) ?_
 refine WL.rd rfl rfl rfl (Rd.neq rfl rfl rfl) ?_
 refine WL.rd rfl rfl rfl (Rd.assign rfl rfl) ?_
 refine WL.nil ?_
 refine thenQ.normal ?_
 refine WC.ite rfl (fun hc1 => ?_) (fun hc1 => ?_)
 ·
  refine WC.seq ?_
  refine WC.region ?_
  refine WL.rd rfl rfl rfl (Rd.move rfl rfl) ?_
  refine WL.rd rfl rfl rfl (Rd.assign rfl rfl) ?_
  refine WL.rd rfl rfl rfl (Rd.assign rfl rfl) ?_
  refine WL.rd rfl rfl rfl (Rd.assign rfl rfl) ?_
  refine WL.nil ?_
  refine thenQ.normal ?_
  refine WC.ret (Ret.three Tryz.results80 rfl rfl rfl ?_)
  rw [nextE, if_pos hc1] at hk; exact hk
 ·
  obtain ⟨n, k, hg1, hg2, hk1, hk2, hk3⟩ := getE_ok (s := s) (Decidable.not_not.1 hc1)
  rw [nextE, if_neg hc1] at hk
  rw [hg1, hg2] at hk ⊢
  refine WC.seq ?_
  refine WC.region ?_
  refine WL.rd rfl rfl rfl (Rd.move rfl rfl) ?_
  refine WL.rd rfl rfl rfl (Rd.gtr rfl rfl rfl) ?_
  refine WL.rd rfl rfl rfl (Rd.assign rfl rfl) ?_
  refine WL.nil ?_
  refine thenQ.normal ?_
  refine WC.ite rfl (fun hc2 => ?_) (fun hc2 => ?_)
  ·
   refine WC.seq ?_
   refine WC.region ?_
   refine WL.rd rfl rfl rfl (Rd.assign rfl rfl) ?_
   refine WL.rd rfl rfl rfl (Rd.assign rfl rfl) ?_
   refine WL.rd rfl rfl rfl (Rd.assign rfl rfl) ?_
   refine WL.nil ?_
   refine thenQ.normal ?_
   refine WC.ret (Ret.three Tryz.results80 rfl rfl rfl ?_)
   rw [if_pos Z.W] at hk; exact hk
  ·
   refine WC.seq ?_
   refine WC.region ?_
   refine WL.rd rfl rfl rfl (Rd.move rfl rfl) ?_
   refine WL.rd rfl rfl rfl (Rd.move rfl rfl) ?_
   refine WL.rd rfl rfl rfl (Rd.slen (ts := #[]) (ty := 0) rfl rfl Tryz.underlying9) ?_
   refine WL.rd rfl rfl rfl (Rd.move rfl rfl) ?_
   refine WL.rd rfl rfl rfl (Rd.sub rfl rfl rfl Z.W) ?_
   refine WL.rd rfl rfl rfl (Rd.gtr rfl rfl rfl) ?_
   refine WL.rd rfl rfl rfl (Rd.assign rfl rfl) ?_
   refine WL.nil ?_
   refine thenQ.normal ?_
   refine WC.ite rfl (fun hc3 => ?_) (fun hc3 => ?_)
   ·
    refine WC.seq ?_
    refine WC.region ?_
    refine WL.rd rfl rfl rfl (Rd.assign rfl rfl) ?_
    refine WL.rd rfl rfl rfl (Rd.assign rfl rfl) ?_
    refine WL.rd rfl rfl rfl (Rd.assign rfl rfl) ?_
    refine WL.nil ?_
    refine thenQ.normal ?_
    refine WC.ret (Ret.three Tryz.results80 rfl rfl rfl ?_)
    rw [if_neg Z.W, if_pos Z.W] at hk; exact hk
   ·
    refine WC.skip ?_
    refine blockQ.normal ?_
    refine thenQ.normal ?_
    refine WC.seq ?_
    refine WC.region ?_
    refine WL.rd rfl rfl rfl (Rd.move rfl rfl) ?_
    refine WL.rd rfl rfl rfl (Rd.move rfl rfl) ?_
    refine WL.rd rfl rfl rfl (Rd.move rfl rfl) ?_
    refine WL.rd rfl rfl rfl (Rd.move rfl rfl) ?_
    refine WL.rd rfl rfl rfl (Rd.add rfl rfl rfl Z.W) ?_
    refine WL.rd rfl rfl rfl (Rd.scut_lh (lo := k) (hi := k + n) rfl Tryz.underlying9 rfl rfl rfl Z.W Z.W Z.W Z.W) ?_
    refine WL.rd rfl rfl rfl (Rd.move rfl rfl) ?_
    refine WL.rd rfl rfl rfl (Rd.move rfl rfl) ?_
    refine WL.rd rfl rfl rfl (Rd.add rfl rfl rfl Z.W) ?_
    refine WL.rd rfl rfl rfl (Rd.assign rfl rfl) ?_
    refine WL.rd rfl rfl rfl (Rd.assign rfl rfl) ?_
    refine WL.rd rfl rfl rfl (Rd.assign rfl rfl) ?_
    refine WL.nil ?_
    refine thenQ.normal ?_
    refine WC.ret (Ret.three Tryz.results80 rfl rfl rfl ?_)
    rw [if_neg Z.W, if_neg Z.W] at hk; simpa using hk
end Go.Proofs.YtckokhdjeifomaaGreatDoor
namespace Go.Proofs.YtckokhdjeifomaaGreatDoor
open Go Go.SL
theorem num_beb (n : Nat) : ∀ k, num (n / 256 ^ k) (beb k n) = n
 | 0 => by simp [num, beb]
 | k + 1 => by
   have h := num_beb n k
   have e : num (n / 256 ^ (k + 1)) (beb (k + 1) n) = num (256 * (n / 256 ^ (k + 1)) + (UInt8.ofNat (n / 256 ^ k % 256)).toNat) (beb k n) := rfl
   rw [e, u8_toNat (Nat.mod_lt _ (by decide)), Nat.pow_succ, ← Nat.div_div_eq_div_mul, Nat.div_add_mod, h]
theorem lead_all : ∀ k, k ≤ 5 → ∀ x, x < 2 ^ (7 - k) → 8 - blen (255 - (x + mask k)) = k := by decide +kernel
/-- What is read off the bytes of a number, whatever stands behind them. -/
theorem getE_put {n : Nat} (hn : n ≤ 1099511627776) (t : List UInt8) : getE (putE n ++ t) = ((n : Int), (more n : Int) + 1, 0) := by
 have h5 := more_le hn
 have hh := head_lt hn
 have hms := mask_sum _ h5
 have hb : (UInt8.ofNat (n / 256 ^ more n + mask (more n))).toNat = n / 256 ^ more n + mask (more n) := u8_toNat Z.W
 have hl : lead (UInt8.ofNat (n / 256 ^ more n + mask (more n))) = more n := by rw [lead, hb]; exact lead_all _ h5 _ hh
 have htk : (beb (more n) n ++ t).take (more n) = beb (more n) n := by
  rw [List.take_append_of_le_length (by rw [beb_length]; exact Nat.le_refl _), List.take_of_length_le (by rw [beb_length]; exact Nat.le_refl _)]
 have hnum : num ((UInt8.ofNat (n / 256 ^ more n + mask (more n))).toNat - mask (more n)) ((beb (more n) n ++ t).take (more n)) = n := by
  rw [hb, htk, Nat.add_sub_cancel, num_beb]
 rw [putE, List.cons_append, getE, hl, if_neg Z.W, if_neg (by rw [List.length_append, beb_length]; omega), hnum, if_neg Z.W]
theorem putI_nat {a : Nat} (ha : a ≤ 1099511627776) : putI (a : Int) = putE a := by
 rw [putI, if_neg Z.W, Int.toNat_natCast]
theorem putE_short {n : Nat} (hn : n ≤ 1099511627776) : (putE n).length ≤ 6 := by
 have := more_le hn
 rw [putE_length]; omega
end Go.Proofs.YtckokhdjeifomaaGreatDoor
namespace Go.Proofs.YtckokhdjeifomaaGreatDoor
open Go Go.SL
theorem beb_num : ∀ (r : List UInt8) (h : Nat), beb r.length (num h r) = r ∧ num h r / 256 ^ r.length = h
 | [], h => by simp [beb, num]
 | c :: r, h => by
   obtain ⟨h1, h2⟩ := beb_num r (256 * h + c.toNat)
   have hc := UInt8.toNat_lt c
   have e : num h (c :: r) = num (256 * h + c.toNat) r := rfl
   rw [e, List.length_cons]
   refine ⟨?_, ?_⟩
   · rw [beb, h1, h2]
     congr 1
     apply UInt8.toNat_inj.1
     rw [u8_toNat (Nat.mod_lt _ (by decide))]; omega
   · rw [Nat.pow_succ, ← Nat.div_div_eq_div_mul, h2]; omega
/-- What is read is what was written. -/
theorem getE_can : ∀ {s : List UInt8}, (getE s).2.2 = 0 → ∃ n : Nat, n ≤ 1099511627776 ∧ (getE s).1 = (n : Int) ∧ (getE s).2.1 = (more n : Int) + 1 ∧ s = putE n ++ s.drop (more n + 1)
 | [], h => by simp [getE] at h
 | b :: r, h => by
   rw [getE] at h ⊢
   by_cases h1 : 5 < lead b
   · rw [if_pos h1] at h; simp at h
   · rw [if_neg h1] at h ⊢
     by_cases h2 : r.length < lead b
     · rw [if_pos h2] at h; simp at h
     · rw [if_neg h2] at h ⊢
       split at h
       · simp at h
       · next h3 =>
         rw [if_neg h3]
         obtain ⟨ha1, ha2, ha3⟩ := and_lead (b := b) Z.W
         obtain ⟨e1, e2⟩ := beb_num (r.take (lead b)) (b.toNat - mask (lead b))
         rw [List.length_take, Nat.min_eq_left Z.W] at e1 e2
         have hm : more (num (b.toNat - mask (lead b)) (r.take (lead b))) = lead b := by omega
         refine ⟨_, by omega, rfl, by rw [hm], ?_⟩
         rw [putE, hm, e1, e2, Nat.sub_add_cancel ha2, List.drop_succ_cons, List.cons_append, List.take_append_drop]
         congr 1
         apply UInt8.toNat_inj.1
         rw [u8_toNat (UInt8.toNat_lt b)]
theorem nextE_ok {s : List UInt8} (h : (nextE s).2.2 = 0) : ∃ rest, s = putE (nextE s).1.length ++ ((nextE s).1 ++ rest) ∧ (nextE s).1.length ≤ 262144 ∧ (nextE s).2.1 = ((putE (nextE s).1.length).length + (nextE s).1.length : Nat) ∧ s.drop (nextE s).2.1.toNat = rest := by
 by_cases h1 : (getE s).2.2 ≠ 0
 · rw [nextE, if_pos h1] at h; exact absurd h h1
 · obtain ⟨n, hn, g1, g2, hs⟩ := getE_can (Decidable.not_not.1 h1)
   have hl := congrArg List.length hs
   rw [List.length_append, putE_length] at hl
   have hle : (s.drop (more n + 1)).length = s.length - (more n + 1) := List.length_drop
   rw [nextE, if_neg h1, g1, g2] at h ⊢
   by_cases h2 : (262144 : Int) < n
   · rw [if_pos h2] at h; simp at h
   · rw [if_neg h2] at h ⊢
     by_cases h3 : (s.length : Int) - ((more n : Int) + 1) < n
     · rw [if_pos h3] at h; simp at h
     · rw [if_neg h3]
       have e1 : ((more n : Int) + 1).toNat = more n + 1 := by omega
       simp only [e1, Int.toNat_natCast]
       have e2 : (s.take (more n + 1 + n)).drop (more n + 1) = (s.drop (more n + 1)).take n := by rw [List.drop_take]; congr 1; omega
       have e3 : ((s.take (more n + 1 + n)).drop (more n + 1)).length = n := by rw [e2, List.length_take, List.length_drop]; omega
       rw [e3, e2]
       refine ⟨(s.drop (more n + 1)).drop n, ?_, by omega, by rw [putE_length]; omega, ?_⟩
       · rw [List.take_append_drop]; exact hs
       · rw [List.drop_drop]; congr 1
theorem nextE_put {t : List UInt8} (ht : t.length ≤ 262144) (rest : List UInt8) : nextE (putE t.length ++ (t ++ rest)) = (t, (((putE t.length).length + t.length : Nat) : Int), 0) := by
 have hg := getE_put (n := t.length) Z.W (t ++ rest)
 have e1 : ((more t.length : Int) + 1).toNat = (putE t.length).length := by rw [putE_length]; omega
 rw [nextE, hg]
 simp only [ne_eq, not_true_eq_false, if_false]
 rw [if_neg Z.W, if_neg (by rw [List.length_append, List.length_append, putE_length]; omega), e1, Int.toNat_natCast]
 refine Prod.ext ?_ (Prod.ext ?_ rfl)
 · show ((putE t.length ++ (t ++ rest)).take ((putE t.length).length + t.length)).drop (putE t.length).length = t
   rw [List.take_length_add_append, List.drop_left, List.take_left]
 · show (more t.length : Int) + 1 + (t.length : Int) = (((putE t.length).length + t.length : Nat) : Int)
   rw [putE_length]; omega
def Small (l : List (List UInt8)) : Prop := ∀ t ∈ l, t.length ≤ 262144
theorem putI_len {t : List UInt8} (ht : t.length ≤ 262144) : putI (t.length : Int) = putE t.length := putI_nat Z.W
theorem joinE_cons (t : List UInt8) (l : List (List UInt8)) : joinE (t :: l) = putI t.length ++ t ++ joinE l := by simp [joinE]
end Go.Proofs.YtckokhdjeifomaaGreatDoor
namespace Go.Proofs.YtckokhdjeifomaaGreatDoor
open Go Go.SL
/-- The bytes of a sum, the lowest first. -/
def le4 (n : Nat) : List UInt8 := [UInt8.ofNat (n % 256), UInt8.ofNat (n / 256 % 256), UInt8.ofNat (n / 65536 % 256), UInt8.ofNat (n / 16777216 % 256)]
theorem joinE_one (b : List UInt8) : joinE [b] = putI b.length ++ b := by simp [joinE]
/-- A frame without its sum. -/
def bare (k : UInt8) (b : List UInt8) : List UInt8 := k :: (putI b.length ++ b)
def frameE (k : UInt8) (b : List UInt8) : List UInt8 := if 262144 < b.length then [] else bare k b ++ le4 (sumE (bare k b))
theorem bare_length {k : UInt8} {b : List UInt8} (h : b.length ≤ 262144) : (bare k b).length = (putE b.length).length + b.length + 1 := by
 rw [bare, List.length_cons, List.length_append, putI_len h]
set_option maxRecDepth 20000 in
set_option maxHeartbeats 1000000 in
theorem seal_spec {R : List RO} {O : List Own} {POST : Value → List RO → List Own → Prop} {s : List UInt8} (ht : tabR ∈ R) (hs : s.length ≤ 9223372036854775807)
 (hk : POST (vs (le4 (sumE s))) R O) : Fun Tryz.prog 97 #[vs s] R O POST := by
 refine Fun.enter (l := [_]) Tryz.func97 rfl Tryz.ntmps97 rfl (L0 := [(0, _)]) rfl ?_
 refine WC.seq ?_
 refine WC.region ?_
 refine WL.rd rfl rfl rfl (Rd.assign rfl rfl) ?_
 refine WL.nil ?_
 refine thenQ.normal ?_
 refine WC.seq ?_
 refine WC.region ?_
 refine WL.rd rfl rfl rfl (Rd.move rfl rfl) ?_
 refine WL.op rfl ?_
 refine OpW.call rfl rfl Z.E Z.K rfl rfl rfl ?_
 refine crcSum_spec ht hs ?_
 refine WL.rd rfl rfl rfl (Rd.assign rfl rfl) ?_
 refine WL.nil ?_
 refine thenQ.normal ?_
 refine WC.seq ?_
 refine WC.region ?_
 refine WL.rd rfl rfl rfl (Rd.move rfl rfl) ?_
 refine WL.rd rfl rfl rfl ((by exact Rd.convw rfl rfl Tryz.underlying5 (hS := Tryz.underlying134))) ?_
 refine WL.say 7 (u := vy (UInt8.ofNat (sumE s % 256))) rfl (by rw [wrap_byte]) ?_
 refine WL.rd rfl rfl rfl (Rd.move rfl rfl) ?_
 refine WL.rd rfl rfl rfl (Rd.shrN (a := sumE s) (n := 8) rfl rfl rfl rfl rfl (by decide)) ?_
 refine WL.rd rfl rfl rfl ((by exact Rd.convw rfl rfl Tryz.underlying5 (hS := Tryz.underlying134))) ?_
 refine WL.say 10 (u := vy (UInt8.ofNat (sumE s / 256 % 256))) rfl (by rw [wrap_byte]) ?_
 refine WL.rd rfl rfl rfl (Rd.move rfl rfl) ?_
 refine WL.rd rfl rfl rfl (Rd.shrN (a := sumE s) (n := 16) rfl rfl rfl rfl rfl (by decide)) ?_
 refine WL.rd rfl rfl rfl ((by exact Rd.convw rfl rfl Tryz.underlying5 (hS := Tryz.underlying134))) ?_
 refine WL.say 13 (u := vy (UInt8.ofNat (sumE s / 65536 % 256))) rfl (by rw [wrap_byte]) ?_
 refine WL.rd rfl rfl rfl (Rd.move rfl rfl) ?_
 refine WL.rd rfl rfl rfl (Rd.shrN (a := sumE s) (n := 24) rfl rfl rfl rfl rfl (by decide)) ?_
 refine WL.rd rfl rfl rfl ((by exact Rd.convw rfl rfl Tryz.underlying5 (hS := Tryz.underlying134))) ?_
 refine WL.say 16 (u := vy (UInt8.ofNat (sumE s / 16777216 % 256))) rfl (by rw [wrap_byte]) ?_
 refine WL.op rfl ?_
 refine OpW.buildSl (ps := [(0, _), (1, _), (2, _), (3, _)]) rfl S70 Z.E rfl rfl Z.C Z.K rfl rfl rfl ?_; intro b17
 refine WL.rd rfl rfl rfl (Rd.strOfR (bs := le4 (sumE s)) rfl Tryz.underlying70 Tryz.underlying9 Tryz.underlying5 rfl Z.M rfl rfl Z.W) ?_
 refine WL.rd rfl rfl rfl (Rd.assign rfl rfl) ?_
 refine WL.nil ?_
 refine thenQ.normal ?_
 refine WC.heap (R' := R) (O' := O) Z.F ?_
 refine WC.ret (Ret.one Tryz.results97 rfl ?_)
 exact hk
set_option maxRecDepth 20000 in
set_option maxHeartbeats 1000000 in
theorem frame_spec {R : List RO} {O : List Own} {POST : Value → List RO → List Own → Prop} {k : UInt8} {b : List UInt8} (ht : tabR ∈ R)
 (hk : POST (vs (frameE k b)) R O) : Fun Tryz.prog 64 #[vy k, vs b] R O POST := by
 unfold frameE at hk
 refine Fun.enter (l := [_, _]) Tryz.func64 rfl Tryz.ntmps64 rfl (L0 := [(0, _), (1, _)]) rfl ?_
 refine WC.seq ?_
 refine WC.region ?_
 refine WL.rd rfl rfl rfl (Rd.assign rfl rfl) ?_
 refine WL.nil ?_
 refine thenQ.normal ?_
 refine WC.seq ?_
 refine WC.seq ?_
 refine WC.region ?_
 refine WL.rd rfl rfl rfl (Rd.move rfl rfl) ?_
 refine WL.rd rfl rfl rfl (Rd.slen (ts := #[]) (ty := 0) rfl rfl Tryz.underlying9) ?_
 refine WL.rd rfl rfl rfl (Rd.gtr rfl rfl rfl) ?_
 refine WL.nil ?_
 refine thenQ.normal ?_
 refine WC.ite rfl (fun hc1 => ?_) (fun hc1 => ?_)
 ·
  refine WC.seq ?_
  refine WC.region ?_
  refine WL.rd rfl rfl rfl (Rd.assign rfl rfl) ?_
  refine WL.nil ?_
  refine thenQ.normal ?_
  refine WC.ret (Ret.one Tryz.results64 rfl ?_)
  rw [if_pos Z.W] at hk; exact hk
 ·
  rw [if_neg Z.W] at hk
  have hp := putE_short (n := b.length) Z.W
  have hj := congrArg List.length (joinE_one b)
  rw [List.length_append, putI_len Z.W] at hj
  have hbl := bare_length (k := k) (b := b) Z.W
  have hll : (le4 (sumE (bare k b))).length = 4 := rfl
  refine WC.skip ?_
  refine thenQ.normal ?_
  refine WC.pick [0, 1] Z.P ?_
  refine WC.val 5 (vs (bare k b)) ?_ ?_
  ·
   refine WC.drawn (O) 8 rfl mixed ?_
   refine WD.take 0 rfl Z.K Z.H rfl rfl rfl (Rd.move rfl rfl) ?_
   refine WD.take 3 rfl Z.K Z.H rfl rfl rfl (Rd.move rfl rfl) ?_
   refine WD.two 1 4 rfl rfl Z.K rfl rfl ?_ ?_
   ·
    refine OpW.buildSl (ps := [(0, _)]) rfl S70 Z.E rfl rfl Z.C Z.K rfl rfl rfl ?_; intro b10
    refine ⟨Z.H, ?_⟩
    refine WD.two 2 4 rfl rfl Z.K rfl rfl ?_ ?_
    ·
     refine OpW.rd rfl rfl (Rd.strOfR (bs := [k]) rfl Tryz.underlying70 Tryz.underlying9 Tryz.underlying5 rfl Z.M rfl rfl Z.W) ?_
     refine ⟨Z.H, ?_⟩
     refine WD.one 4 rfl Z.K rfl ?_
     refine OpW.buildSl (ps := [(0, _)]) rfl S40 Z.E rfl rfl Z.C Z.K rfl rfl rfl ?_; intro b13
     refine ⟨Z.H, ?_⟩
     refine WD.heap (fun w h => h.shareRow (m := 1) (enc := SL.one vs) (xs := [b]) Z.T rfl rfl Z.W) ?_
     refine WD.one 5 rfl Z.K rfl ?_
     refine OpW.call rfl rfl Z.E Z.K rfl rfl rfl ?_
     refine join_spec (l := [b]) Z.M Z.W ?_
     refine ⟨Z.H, ?_⟩
     refine WD.take 6 rfl Z.K Z.H rfl rfl rfl (Rd.scat rfl rfl rfl (by rw [List.length_singleton]; omega)) ?_
     refine WD.take 7 rfl Z.K Z.H rfl rfl rfl (Rd.assign rfl rfl) ?_
     refine WD.done Z.K ?_
     exact ⟨by repeat (first | exact Sub.nil | refine Sub.cons rfl (by first | rfl | ((rw [joinE_one]; rfl))) ?_), by exact Z.F⟩
    ·
     refine OpW.buildSl (ps := [(0, _)]) rfl S40 Z.E rfl rfl Z.C Z.K rfl rfl rfl ?_; intro b13
     refine ⟨Z.H, ?_⟩
     refine WD.heap (fun w h => h.shareRow (m := 1) (enc := SL.one vs) (xs := [b]) Z.T rfl rfl Z.W) ?_
     refine WD.two 2 5 rfl rfl Z.K rfl rfl ?_ ?_
     ·
      refine OpW.rd rfl rfl (Rd.strOfR (bs := [k]) rfl Tryz.underlying70 Tryz.underlying9 Tryz.underlying5 rfl Z.M rfl rfl Z.W) ?_
      refine ⟨Z.H, ?_⟩
      refine WD.one 5 rfl Z.K rfl ?_
      refine OpW.call rfl rfl Z.E Z.K rfl rfl rfl ?_
      refine join_spec (l := [b]) Z.M Z.W ?_
      refine ⟨Z.H, ?_⟩
      refine WD.take 6 rfl Z.K Z.H rfl rfl rfl (Rd.scat rfl rfl rfl (by rw [List.length_singleton]; omega)) ?_
      refine WD.take 7 rfl Z.K Z.H rfl rfl rfl (Rd.assign rfl rfl) ?_
      refine WD.done Z.K ?_
      exact ⟨by repeat (first | exact Sub.nil | refine Sub.cons rfl (by first | rfl | ((rw [joinE_one]; rfl))) ?_), by exact Z.F⟩
     ·
      refine OpW.call rfl rfl Z.E Z.K rfl rfl rfl ?_
      refine join_spec (l := [b]) Z.M Z.W ?_
      refine ⟨Z.H, ?_⟩
      refine WD.one 2 rfl Z.K rfl ?_
      refine OpW.rd rfl rfl (Rd.strOfR (bs := [k]) rfl Tryz.underlying70 Tryz.underlying9 Tryz.underlying5 rfl Z.M rfl rfl Z.W) ?_
      refine ⟨Z.H, ?_⟩
      refine WD.take 6 rfl Z.K Z.H rfl rfl rfl (Rd.scat rfl rfl rfl (by rw [List.length_singleton]; omega)) ?_
      refine WD.take 7 rfl Z.K Z.H rfl rfl rfl (Rd.assign rfl rfl) ?_
      refine WD.done Z.K ?_
      exact ⟨by repeat (first | exact Sub.nil | refine Sub.cons rfl (by first | rfl | ((rw [joinE_one]; rfl))) ?_), by exact Z.F⟩
   ·
    refine OpW.buildSl (ps := [(0, _)]) rfl S40 Z.E rfl rfl Z.C Z.K rfl rfl rfl ?_; intro b13
    refine ⟨Z.H, ?_⟩
    refine WD.heap (fun w h => h.shareRow (m := 1) (enc := SL.one vs) (xs := [b]) Z.T rfl rfl Z.W) ?_
    refine WD.two 1 5 rfl rfl Z.K rfl rfl ?_ ?_
    ·
     refine OpW.buildSl (ps := [(0, _)]) rfl S70 Z.E rfl rfl Z.C Z.K rfl rfl rfl ?_; intro b10
     refine ⟨Z.H, ?_⟩
     refine WD.two 2 5 rfl rfl Z.K rfl rfl ?_ ?_
     ·
      refine OpW.rd rfl rfl (Rd.strOfR (bs := [k]) rfl Tryz.underlying70 Tryz.underlying9 Tryz.underlying5 rfl Z.M rfl rfl Z.W) ?_
      refine ⟨Z.H, ?_⟩
      refine WD.one 5 rfl Z.K rfl ?_
      refine OpW.call rfl rfl Z.E Z.K rfl rfl rfl ?_
      refine join_spec (l := [b]) Z.M Z.W ?_
      refine ⟨Z.H, ?_⟩
      refine WD.take 6 rfl Z.K Z.H rfl rfl rfl (Rd.scat rfl rfl rfl (by rw [List.length_singleton]; omega)) ?_
      refine WD.take 7 rfl Z.K Z.H rfl rfl rfl (Rd.assign rfl rfl) ?_
      refine WD.done Z.K ?_
      exact ⟨by repeat (first | exact Sub.nil | refine Sub.cons rfl (by first | rfl | ((rw [joinE_one]; rfl))) ?_), by exact Z.F⟩
     ·
      refine OpW.call rfl rfl Z.E Z.K rfl rfl rfl ?_
      refine join_spec (l := [b]) Z.M Z.W ?_
      refine ⟨Z.H, ?_⟩
      refine WD.one 2 rfl Z.K rfl ?_
      refine OpW.rd rfl rfl (Rd.strOfR (bs := [k]) rfl Tryz.underlying70 Tryz.underlying9 Tryz.underlying5 rfl Z.M rfl rfl Z.W) ?_
      refine ⟨Z.H, ?_⟩
      refine WD.take 6 rfl Z.K Z.H rfl rfl rfl (Rd.scat rfl rfl rfl (by rw [List.length_singleton]; omega)) ?_
      refine WD.take 7 rfl Z.K Z.H rfl rfl rfl (Rd.assign rfl rfl) ?_
      refine WD.done Z.K ?_
      exact ⟨by repeat (first | exact Sub.nil | refine Sub.cons rfl (by first | rfl | ((rw [joinE_one]; rfl))) ?_), by exact Z.F⟩
    ·
     refine OpW.call rfl rfl Z.E Z.K rfl rfl rfl ?_
     refine join_spec (l := [b]) Z.M Z.W ?_
     refine ⟨Z.H, ?_⟩
     refine WD.one 1 rfl Z.K rfl ?_
     refine OpW.buildSl (ps := [(0, _)]) rfl S70 Z.E rfl rfl Z.C Z.K rfl rfl rfl ?_; intro b10
     refine ⟨Z.H, ?_⟩
     refine WD.one 2 rfl Z.K rfl ?_
     refine OpW.rd rfl rfl (Rd.strOfR (bs := [k]) rfl Tryz.underlying70 Tryz.underlying9 Tryz.underlying5 rfl Z.M rfl rfl Z.W) ?_
     refine ⟨Z.H, ?_⟩
     refine WD.take 6 rfl Z.K Z.H rfl rfl rfl (Rd.scat rfl rfl rfl (by rw [List.length_singleton]; omega)) ?_
     refine WD.take 7 rfl Z.K Z.H rfl rfl rfl (Rd.assign rfl rfl) ?_
     refine WD.done Z.K ?_
     exact ⟨by repeat (first | exact Sub.nil | refine Sub.cons rfl (by first | rfl | ((rw [joinE_one]; rfl))) ?_), by exact Z.F⟩
  ·
   refine WC.seq ?_
   refine WC.region ?_
   refine WL.rd rfl rfl rfl (Rd.move rfl rfl) ?_
   refine WL.rd rfl rfl rfl (Rd.move rfl rfl) ?_
   refine WL.op rfl ?_
   refine OpW.call rfl rfl Z.E Z.K rfl rfl rfl ?_
   refine seal_spec Z.M Z.W ?_
   refine WL.rd rfl rfl rfl (Rd.scat rfl rfl rfl Z.W) ?_
   refine WL.rd rfl rfl rfl (Rd.assign rfl rfl) ?_
   refine WL.nil ?_
   refine thenQ.normal ?_
   refine WC.ret (Ret.one Tryz.results64 rfl ?_)
   exact hk
/-- The kind, the body, how many bytes, the error. -/
def nextF : List UInt8 → Nat × List UInt8 × Int × Int
 | [] => (0, [], 0, 9)
 | k :: s =>
   if (nextE s).2.2 ≠ 0 then (0, [], 0, (nextE s).2.2)
   else if (s.length : Int) + 1 < (nextE s).2.1 + 5 then (0, [], 0, 3)
   else if ((k :: s).take ((nextE s).2.1.toNat + 5)).drop ((nextE s).2.1.toNat + 1) ≠ le4 (sumE ((k :: s).take ((nextE s).2.1.toNat + 1))) then (0, [], 0, 5)
   else (k.toNat, (nextE s).1, (nextE s).2.1 + 5, 0)
theorem nextE_pos {s : List UInt8} (h : (nextE s).2.2 = 0) : ∃ n : Nat, (nextE s).2.1 = n ∧ 1 ≤ n ∧ n ≤ s.length := by
 obtain ⟨rest, h1, h2, h3, h4⟩ := nextE_ok h
 refine ⟨_, h3, by rw [putE_length]; omega, ?_⟩
 have := congrArg List.length h1
 rw [List.length_append, List.length_append] at this
 omega
set_option maxRecDepth 20000 in
set_option maxHeartbeats 1000000 in
theorem crcNext_spec {R : List RO} {O : List Own} {POST : Value → List RO → List Own → Prop} {s : List UInt8} (ht : tabR ∈ R) (hs : s.length ≤ 9223372036854775000)
 (hk : POST (.tuple #[.int .u8 (nextF s).1, vs (nextF s).2.1, .int .i64 (nextF s).2.2.1, .int .i64 (nextF s).2.2.2]) R O) : Fun Tryz.prog 63 #[vs s] R O POST := by
 refine Fun.enter (l := [_]) Tryz.func63 rfl Tryz.ntmps63 rfl (L0 := [(0, _)]) rfl ?_
 refine WC.seq ?_
 refine WC.region ?_
 refine WL.rd rfl rfl rfl (Rd.assign rfl rfl) ?_
 refine WL.rd rfl rfl rfl (Rd.assign rfl rfl) ?_
 refine WL.rd rfl rfl rfl (Rd.assign rfl rfl) ?_
 refine WL.rd rfl rfl rfl (Rd.assign rfl rfl) ?_
 refine WL.nil ?_
 refine thenQ.normal ?_
 refine WC.seq ?_
 refine WC.seq ?_
 refine WC.region ?_
 refine WL.rd rfl rfl rfl (Rd.move rfl rfl) ?_
 refine WL.rd rfl rfl rfl (Rd.seql rfl rfl rfl) ?_
 refine WL.nil ?_
 refine thenQ.normal ?_
 refine WC.ite rfl (fun hc1 => ?_) (fun hc1 => ?_)
 ·
  obtain rfl : s = [] := hc1
  refine WC.seq ?_
  refine WC.region ?_
  refine WL.rd rfl rfl rfl (Rd.assign rfl rfl) ?_
  refine WL.rd rfl rfl rfl (Rd.assign rfl rfl) ?_
  refine WL.rd rfl rfl rfl (Rd.assign rfl rfl) ?_
  refine WL.rd rfl rfl rfl (Rd.assign rfl rfl) ?_
  refine WL.nil ?_
  refine thenQ.normal ?_
  refine WC.ret (Ret.four Tryz.results63 rfl rfl rfl rfl ?_)
  exact hk
 ·
  obtain ⟨k, s, rfl⟩ : ∃ b r, s = b :: r := by
   cases s with
   | nil => exact absurd rfl hc1
   | cons b r => exact ⟨b, r, rfl⟩
  rw [List.length_cons] at hs
  have hcl : (k :: s).length = s.length + 1 := rfl
  refine WC.skip ?_
  refine thenQ.normal ?_
  refine WC.seq ?_
  refine WC.region ?_
  refine WL.rd rfl rfl rfl (Rd.move rfl rfl) ?_
  refine WL.rd rfl rfl rfl (Rd.scut_l (lo := 1) rfl Tryz.underlying9 rfl rfl rfl Z.W) ?_
  refine WL.op rfl ?_
  refine OpW.call rfl rfl Z.E Z.K rfl rfl rfl ?_
  refine next_spec (s := s) Z.W ?_
  refine WL.rd rfl rfl rfl (Rd.move rfl rfl) ?_
  refine WL.rd rfl rfl rfl (Rd.extract rfl rfl rfl) ?_
  refine WL.rd rfl rfl rfl (Rd.extract rfl rfl rfl) ?_
  refine WL.rd rfl rfl rfl (Rd.extract rfl rfl rfl) ?_
  refine WL.rd rfl rfl rfl (Rd.assign rfl rfl) ?_
  refine WL.rd rfl rfl rfl (Rd.assign rfl rfl) ?_
  refine WL.rd rfl rfl rfl (Rd.assign rfl rfl) ?_
  refine WL.nil ?_
  refine thenQ.normal ?_
  refine WC.seq ?_
  refine WC.seq ?_
  refine WC.region ?_
  refine WL.rd rfl rfl rfl (Rd.move rfl rfl) ?_
  refine WL.rd rfl rfl rfl (Rd.neq rfl rfl rfl) ?_
  refine WL.nil ?_
  refine thenQ.normal ?_
  refine WC.ite rfl (fun hc2 => ?_) (fun hc2 => ?_)
  ·
   refine WC.seq ?_
   refine WC.region ?_
   refine WL.rd rfl rfl rfl (Rd.move rfl rfl) ?_
   refine WL.rd rfl rfl rfl (Rd.assign rfl rfl) ?_
   refine WL.rd rfl rfl rfl (Rd.assign rfl rfl) ?_
   refine WL.rd rfl rfl rfl (Rd.assign rfl rfl) ?_
   refine WL.rd rfl rfl rfl (Rd.assign rfl rfl) ?_
   refine WL.nil ?_
   refine thenQ.normal ?_
   refine WC.ret (Ret.four Tryz.results63 rfl rfl rfl rfl ?_)
   rw [nextF, if_pos hc2] at hk; exact hk
  ·
   obtain ⟨n, hn, hn1, hn2⟩ := nextE_pos (s := s) (Decidable.not_not.1 hc2)
   rw [nextF, if_neg hc2] at hk
   rw [hn] at hk ⊢
   refine WC.skip ?_
   refine thenQ.normal ?_
   refine WC.seq ?_
   refine WC.region ?_
   refine WL.rd rfl rfl rfl (Rd.move rfl rfl) ?_
   refine WL.rd rfl rfl rfl (Rd.add rfl rfl rfl Z.W) ?_
   refine WL.rd rfl rfl rfl (Rd.assign rfl rfl) ?_
   refine WL.nil ?_
   refine thenQ.normal ?_
   refine WC.seq ?_
   refine WC.block ?_
   refine WC.seq ?_
   refine WC.region ?_
   refine WL.rd rfl rfl rfl (Rd.move rfl rfl) ?_
   refine WL.rd rfl rfl rfl (Rd.slen (ts := #[]) (ty := 0) rfl rfl Tryz.underlying9) ?_
   refine WL.rd rfl rfl rfl (Rd.move rfl rfl) ?_
   refine WL.rd rfl rfl rfl (Rd.add rfl rfl rfl Z.W) ?_
   refine WL.rd rfl rfl rfl (Rd.lss rfl rfl rfl) ?_
   refine WL.rd rfl rfl rfl (Rd.assign rfl rfl) ?_
   refine WL.nil ?_
   refine thenQ.normal ?_
   refine WC.ite rfl (fun hc3 => ?_) (fun hc3 => ?_)
   ·
    refine WC.seq ?_
    refine WC.region ?_
    refine WL.rd rfl rfl rfl (Rd.assign rfl rfl) ?_
    refine WL.rd rfl rfl rfl (Rd.assign rfl rfl) ?_
    refine WL.rd rfl rfl rfl (Rd.assign rfl rfl) ?_
    refine WL.rd rfl rfl rfl (Rd.assign rfl rfl) ?_
    refine WL.nil ?_
    refine thenQ.normal ?_
    refine WC.ret (Ret.four Tryz.results63 rfl rfl rfl rfl ?_)
    rw [if_pos Z.W] at hk; exact hk
   ·
    rw [if_neg Z.W] at hk
    refine WC.seq ?_
    refine WC.drawnA 11 rfl mixed ?_
    refine WD.take 0 rfl Z.K Held.all rfl rfl rfl (Rd.move rfl rfl) ?_
    refine WD.take 1 rfl Z.K Held.all rfl rfl rfl (Rd.move rfl rfl) ?_
    refine WD.take 2 rfl Z.K Held.all rfl rfl rfl (Rd.move rfl rfl) ?_
    refine WD.take 3 rfl Z.K Held.all rfl rfl rfl (Rd.add rfl rfl rfl Z.W) ?_
    refine WD.take 4 rfl Z.K Held.all rfl rfl rfl (Rd.scut_lh (lo := n + 1) (hi := n + 5) rfl Tryz.underlying9 rfl rfl rfl Z.W Z.W Z.W Z.W) ?_
    refine WD.take 5 rfl Z.K Held.all rfl rfl rfl (Rd.move rfl rfl) ?_
    refine WD.take 6 rfl Z.K Held.all rfl rfl rfl (Rd.move rfl rfl) ?_
    refine WD.take 7 rfl Z.K Held.all rfl rfl rfl (Rd.scut_h (hi := n + 1) rfl Tryz.underlying9 rfl rfl Z.W Z.W) ?_
    refine WD.one 8 rfl Z.K rfl ?_
    refine OpW.call rfl rfl Z.E Z.K rfl rfl rfl ?_
    refine seal_spec (s := (k :: s).take (n + 1)) ht (by rw [List.length_take]; omega) ?_
    refine ⟨Z.H, ?_⟩
    refine WD.take 9 rfl Z.K Z.H rfl rfl rfl (Rd.sneq rfl rfl rfl) ?_
    refine WD.take 10 rfl Z.K Z.H rfl rfl rfl (Rd.assign rfl rfl) ?_
    refine WD.done Z.K ?_
    refine thenQ.normal ?_
    refine WC.ite rfl (fun hc4 => ?_) (fun hc4 => ?_)
    ·
     refine WC.seq ?_
     refine WC.region ?_
     refine WL.rd rfl rfl rfl (Rd.assign rfl rfl) ?_
     refine WL.rd rfl rfl rfl (Rd.assign rfl rfl) ?_
     refine WL.rd rfl rfl rfl (Rd.assign rfl rfl) ?_
     refine WL.rd rfl rfl rfl (Rd.assign rfl rfl) ?_
     refine WL.nil ?_
     refine thenQ.normal ?_
     refine WC.ret (Ret.four Tryz.results63 rfl rfl rfl rfl ?_)
     rw [Int.toNat_natCast, if_pos hc4] at hk; exact hk
    ·
     rw [Int.toNat_natCast, if_neg hc4] at hk
     refine WC.skip ?_
     refine blockQ.normal ?_
     refine thenQ.normal ?_
     refine WC.seq ?_
     refine WC.region ?_
     refine WL.rd rfl rfl rfl (Rd.move rfl rfl) ?_
     refine WL.rd rfl rfl rfl (Rd.sidx (k := 0) (b := k) rfl Tryz.underlying9 rfl rfl rfl rfl) ?_
     refine WL.rd rfl rfl rfl (Rd.move rfl rfl) ?_
     refine WL.rd rfl rfl rfl (Rd.move rfl rfl) ?_
     refine WL.rd rfl rfl rfl (Rd.add rfl rfl rfl Z.W) ?_
     refine WL.say 44 (u := .int .i64 ((n : Int) + 5)) rfl (by congr 1) ?_
     refine WL.rd rfl rfl rfl (Rd.assign rfl rfl) ?_
     refine WL.rd rfl rfl rfl (Rd.assign rfl rfl) ?_
     refine WL.rd rfl rfl rfl (Rd.assign rfl rfl) ?_
     refine WL.rd rfl rfl rfl (Rd.assign rfl rfl) ?_
     refine WL.nil ?_
     refine thenQ.normal ?_
     refine WC.ret (Ret.four Tryz.results63 rfl rfl rfl rfl ?_)
     exact hk
end Go.Proofs.YtckokhdjeifomaaGreatDoor
namespace Go.Proofs.YtckokhdjeifomaaGreatDoor
open Go Go.SL
section
variable {R : List RO} {O : List Own} {POST : Value → List RO → List Own → Prop} {b off : Nat} {e : TypeId} {cs : List Value} {p v : Value} {bs : List UInt8}
abbrev pself (b off : Nat) : Value := .pointer (some ⟨b, off, none⟩)
set_option maxRecDepth 20000 in
theorem bcc_new (h0 : cs[off]? = some (.pointer none)) (hl : liesAt Tryz.prog Tryz.prog.depth e (cs.length / Tryz.prog.cellsOf e) off 113 1 = true) (hk : POST (.tuple #[]) R (rowC b e (cs.set off (pself b off)) :: O)) :
 Fun Tryz.prog 87 #[pself b off] R (rowC b e cs :: O) POST := by
 have hlt := (List.getElem?_eq_some_iff.1 h0).1
 refine Fun.enter (l := [_]) Tryz.func87 rfl Tryz.ntmps87 rfl (L0 := [(0, _)]) rfl ?_
 refine WC.seq ?_
 refine WC.region ?_
 refine WL.rd rfl rfl rfl (Rd.move rfl rfl) ?_
 refine WL.rd rfl rfl rfl (Rd.nilc rfl rfl) ?_
 refine WL.rd rfl rfl rfl (Rd.field (off := off) (r := off) rfl F113_0 rfl rfl) ?_
 refine WL.rd rfl rfl rfl (Rd.row1 (off := off) rfl C111 rfl List.mem_cons_self h0) ?_
 refine WL.rd rfl rfl rfl (Rd.peq_nn rfl Tryz.underlying111 rfl rfl) ?_
 refine WL.nil ?_
 refine thenQ.normal ?_
 refine WC.cond rfl (fun hc1 => ?_) (fun hc1 => ?_)
 ·
  refine WC.region ?_
  refine WL.rd rfl rfl rfl (Rd.move rfl rfl) ?_
  refine WL.rd rfl rfl rfl (Rd.move rfl rfl) ?_
  refine WL.rd rfl rfl rfl (Rd.toUnsafe (off := off) rfl Tryz.underlying111 Tryz.underlying177 I113 (by decide) rfl List.mem_cons_self hlt) ?_
  refine WL.op rfl ?_
  refine OpW.rd rfl rfl (Rd.extern (ef := Extern.AbiNoEscape.same) rfl rfl Z.E Tryz.func111 rfl rfl Z.K Z.K (fun w => Lib.run_noEscape w _)) ?_
  refine WL.rd rfl rfl rfl (Rd.ofUnsafe (off := off) rfl Tryz.underlying177 Tryz.underlying111 I113 rfl List.mem_cons_self hl) ?_
  refine WL.rd rfl rfl rfl (Rd.nilc rfl rfl) ?_
  refine WL.rd rfl rfl rfl (Rd.field (off := off) (r := off) rfl F113_0 rfl rfl) ?_
  refine WL.op rfl ?_
  refine OpW.store1 (off := off) rfl Z111 rfl rfl (by exact ⟨rfl, rfl⟩) (Take.head _) hlt rfl ?_
  refine WL.nil ?_
  refine Ret.normal (Ret.zero Tryz.results87 ?_)
  exact hk
 ·
  simp at hc1
set_option maxRecDepth 20000 in
theorem bcc_used (h0 : cs[off]? = some (pself b off)) (hk : POST (.tuple #[]) R (rowC b e (cs.set off (pself b off)) :: O)) :
 Fun Tryz.prog 87 #[pself b off] R (rowC b e cs :: O) POST := by
 have hlt := (List.getElem?_eq_some_iff.1 h0).1
 have hs : cs.set off (pself b off) = cs := by
  apply List.ext_getElem? ; intro i
  rw [List.getElem?_set]
  split
  · rename_i h; subst h; rw [h0]
  · rfl
 rw [hs] at hk
 refine Fun.enter (l := [_]) Tryz.func87 rfl Tryz.ntmps87 rfl (L0 := [(0, _)]) rfl ?_
 refine WC.seq ?_
 refine WC.region ?_
 refine WL.rd rfl rfl rfl (Rd.move rfl rfl) ?_
 refine WL.rd rfl rfl rfl (Rd.nilc rfl rfl) ?_
 refine WL.rd rfl rfl rfl (Rd.field (off := off) (r := off) rfl F113_0 rfl rfl) ?_
 refine WL.rd rfl rfl rfl (Rd.row1 (off := off) rfl C111 rfl List.mem_cons_self h0) ?_
 refine WL.rd rfl rfl rfl (Rd.peq_sn rfl Tryz.underlying111 rfl rfl) ?_
 refine WL.nil ?_
 refine thenQ.normal ?_
 refine WC.cond rfl (fun hc1 => ?_) (fun hc1 => ?_)
 ·
  simp at hc1
 ·
  refine WC.seq ?_
  refine WC.region ?_
  refine WL.rd rfl rfl rfl (Rd.move rfl rfl) ?_
  refine WL.rd rfl rfl rfl (Rd.nilc rfl rfl) ?_
  refine WL.rd rfl rfl rfl (Rd.field (off := off) (r := off) rfl F113_0 rfl rfl) ?_
  refine WL.rd rfl rfl rfl (Rd.row1 (off := off) rfl C111 rfl List.mem_cons_self h0) ?_
  refine WL.rd rfl rfl rfl (Rd.move rfl rfl) ?_
  refine WL.rd rfl rfl rfl (Rd.pneq_self rfl Tryz.underlying111 I113 rfl rfl) ?_
  refine WL.nil ?_
  refine thenQ.normal ?_
  refine WC.cond rfl (fun hc2 => ?_) (fun hc2 => ?_)
  ·
   simp at hc2
  ·
   refine WC.skip ?_
   refine Ret.normal (Ret.zero Tryz.results87 ?_)
   exact hk
theorem bcc_spec (hp : p = .pointer none ∨ p = pself b off) (h0 : cs[off]? = some p) (hl : liesAt Tryz.prog Tryz.prog.depth e (cs.length / Tryz.prog.cellsOf e) off 113 1 = true) (hk : POST (.tuple #[]) R (rowC b e (cs.set off (pself b off)) :: O)) :
 Fun Tryz.prog 87 #[pself b off] R (rowC b e cs :: O) POST := by
 rcases hp with rfl | rfl
 · exact bcc_new h0 hl hk
 · exact bcc_used h0 hk
set_option maxRecDepth 20000 in
theorem bws_spec {s : List UInt8} (hp : p = .pointer none ∨ p = pself b off) (h0 : cs[off]? = some p) (h1 : cs[off + 1]? = some v) (hl : liesAt Tryz.prog Tryz.prog.depth e (cs.length / Tryz.prog.cellsOf e) off 113 1 = true) (hsz : bs.length + s.length ≤ 140737488355328)
 (hk : ∀ v', OneV v' → POST (.tuple #[.int .i64 s.length, .nilIface]) R (rowC b e ((cs.set off (pself b off)).set (off + 1) v') :: accC 5 1 (SL.one vy) v' (bs ++ s) :: O)) :
 Fun Tryz.prog 56 #[pself b off, vs s] R (rowC b e cs :: accC 5 1 (SL.one vy) v bs :: O) POST := by
 have hlt := (List.getElem?_eq_some_iff.1 h1).1
 have h1' : (cs.set off (pself b off))[off + 1]? = some v := by rw [List.getElem?_set_ne Z.W]; exact h1
 refine Fun.enter (l := [_, _]) Tryz.func56 rfl Tryz.ntmps56 rfl (L0 := [(0, _), (1, _)]) rfl ?_
 refine WC.seq ?_
 refine WC.region ?_
 refine WL.rd rfl rfl rfl (Rd.assign rfl rfl) ?_
 refine WL.rd rfl rfl rfl (Rd.assign rfl rfl) ?_
 refine WL.nil ?_
 refine thenQ.normal ?_
 refine WC.seq ?_
 refine WC.region ?_
 refine WL.rd rfl rfl rfl (Rd.move rfl rfl) ?_
 refine WL.op rfl ?_
 refine OpW.call rfl rfl Z.E Z.K rfl rfl rfl ?_
 refine bcc_spec hp h0 hl ?_
 refine WL.nil ?_
 refine thenQ.normal ?_
 refine WC.seq ?_
 refine WC.region ?_
 refine WL.rd rfl rfl rfl (Rd.move rfl rfl) ?_
 refine WL.rd rfl rfl rfl (Rd.move rfl rfl) ?_
 refine WL.rd rfl rfl rfl (Rd.nilc rfl rfl) ?_
 refine WL.rd rfl rfl rfl (Rd.field (off := off) (r := off + 1) rfl F113_1 rfl rfl) ?_
 refine WL.rd rfl rfl rfl (Rd.row1 (off := off + 1) rfl C70 rfl List.mem_cons_self h1') ?_
 refine WL.rd rfl rfl rfl (Rd.move rfl rfl) ?_
 refine WL.op rfl ?_
 refine OpW.appendStr rfl S70 Tryz.underlying9 rfl rfl Z.T (by exact ⟨by simp only [maxLen, List.length_append, List.length_nil, List.length_cons, List.length_drop, List.length_take, List.length_map]; omega, by omega⟩) rfl rfl ?_; intro v14 hv14
 refine WL.rd rfl rfl rfl (Rd.nilc rfl rfl) ?_
 refine WL.rd rfl rfl rfl (Rd.field (off := off) (r := off + 1) rfl F113_1 rfl rfl) ?_
 refine WL.op rfl ?_
 refine OpW.store1 (off := off + 1) rfl Z70 rfl rfl hv14 Z.T (by rw [List.length_set]; exact hlt) rfl ?_
 refine WL.nil ?_
 refine thenQ.normal ?_
 refine WC.seq ?_
 refine WC.region ?_
 refine WL.rd rfl rfl rfl (Rd.move rfl rfl) ?_
 refine WL.rd rfl rfl rfl (Rd.slen (ts := #[]) (ty := 0) rfl rfl Tryz.underlying9) ?_
 refine WL.rd rfl rfl rfl (Rd.assign rfl rfl) ?_
 refine WL.rd rfl rfl rfl (Rd.assign rfl rfl) ?_
 refine WL.nil ?_
 refine thenQ.normal ?_
 refine WC.ret (Ret.two Tryz.results56 rfl rfl ?_)
 exact hk _ hv14
set_option maxRecDepth 20000 in
theorem bstr_spec (h1 : cs[off + 1]? = some v) (hk : POST (vs bs) R (rowC b e cs :: O)) :
 Fun Tryz.prog 57 #[pself b off] R (rowC b e cs :: accC 5 1 (SL.one vy) v bs :: O) POST := by
 refine Fun.enter (l := [_]) Tryz.func57 rfl Tryz.ntmps57 rfl (L0 := [(0, _)]) rfl ?_
 refine WC.seq ?_
 refine WC.region ?_
 refine WL.rd rfl rfl rfl (Rd.assign rfl rfl) ?_
 refine WL.nil ?_
 refine thenQ.normal ?_
 refine WC.seq ?_
 refine WC.drawn (rowC b e cs :: O) 12 rfl mixed ?_
 refine WD.take 0 rfl Z.K Z.H rfl rfl rfl (Rd.move rfl rfl) ?_
 refine WD.take 1 rfl Z.K Z.H rfl rfl rfl (Rd.nilc rfl rfl) ?_
 refine WD.take 2 rfl Z.K Z.H rfl rfl rfl (Rd.field (off := off) (r := off + 1) rfl F113_1 rfl rfl) ?_
 refine WD.take 3 rfl Z.K Z.H rfl rfl rfl (Rd.row1 (off := off + 1) rfl C70 rfl List.mem_cons_self h1) ?_
 refine WD.take 5 rfl Z.K Z.H rfl rfl rfl (Rd.move rfl rfl) ?_
 refine WD.take 6 rfl Z.K Z.H rfl rfl rfl (Rd.nilc rfl rfl) ?_
 refine WD.take 7 rfl Z.K Z.H rfl rfl rfl (Rd.field (off := off) (r := off + 1) rfl F113_1 rfl rfl) ?_
 refine WD.take 8 rfl Z.K Z.H rfl rfl rfl (Rd.row1 (off := off + 1) rfl C70 rfl List.mem_cons_self h1) ?_
 refine WD.two 4 9 rfl rfl Z.K rfl rfl ?_ ?_
 ·
  refine OpW.sliceData rfl Tryz.underlying153 rfl Z.M rfl rfl ?_; intro q7 hq7
  refine ⟨Z.H, ?_⟩
  refine WD.one 9 rfl Z.K rfl ?_
  refine OpW.rd rfl rfl ((by exact Rd.lenA rfl rfl Tryz.underlying70 Z.M)) ?_
  refine ⟨Z.H, ?_⟩
  refine WD.one 10 rfl Z.K rfl ?_
  refine OpW.unsafeStr rfl Tryz.underlying153 Z.K rfl rfl rfl rfl Z.T hq7 rfl rfl ?_
  refine ⟨Z.H, ?_⟩
  refine WD.take 11 rfl Z.K Z.H rfl rfl rfl (Rd.assign rfl rfl) ?_
  refine WD.done Z.K ?_
  refine thenQ.normal ?_
  refine WC.ret (Ret.one Tryz.results57 rfl ?_)
  exact hk
 ·
  refine OpW.rd rfl rfl ((by exact Rd.lenA rfl rfl Tryz.underlying70 Z.M)) ?_
  refine ⟨Z.H, ?_⟩
  refine WD.one 4 rfl Z.K rfl ?_
  refine OpW.sliceData rfl Tryz.underlying153 rfl Z.M rfl rfl ?_; intro q7 hq7
  refine ⟨Z.H, ?_⟩
  refine WD.one 10 rfl Z.K rfl ?_
  refine OpW.unsafeStr rfl Tryz.underlying153 Z.K rfl rfl rfl rfl Z.T hq7 rfl rfl ?_
  refine ⟨Z.H, ?_⟩
  refine WD.take 11 rfl Z.K Z.H rfl rfl rfl (Rd.assign rfl rfl) ?_
  refine WD.done Z.K ?_
  refine thenQ.normal ?_
  refine WC.ret (Ret.one Tryz.results57 rfl ?_)
  exact hk
end
end Go.Proofs.YtckokhdjeifomaaGreatDoor
namespace Go.SL
open Go
section
variable {P : Program} {n : Sz} {o : Oper} {L : Env} {R : List RO} {O O' : List Own} {K : Env → List RO → List Own → Prop} {t t' e : TypeId} {x y : Operand} {v z : Value} {α : Type} {g : α → Value} {enc : α → List Value} {xs : List α} {size bytes : Nat}
theorem OpW.storeAcc {k : Nat} {a : α} (ho : o.op = .store t x y) (hsz : ∀ w, (sizeOf t).run P w = .ok 1 w) (hx : ev L x = some (.pointer (some (elemAddr v k)))) (hy : ev L y = some (g a)) (h1 : (g a).cells = #[g a]) (h2 : (g a).oneCell' = true)
 (hT : Take (accC e 1 (one g) v xs) O O') (hlt : k < xs.length) (hd : o.dst = none) (kk : K L R (accC e 1 (one g) v (xs.set k a) :: O')) : OpW P n o L R O K := by
 intro ac w hf hs Q
 have hs' := hs.perm hT.perm
 have hp : (accC e 1 (one g) v xs).pred w := hs'.see List.mem_cons_self
 have hcell := acc_cell hp (j := k) (u := g xs[k]) (by rw [flat_one, List.getElem?_map, List.getElem?_eq_getElem hlt]; rfl)
 have hlt' := ownBlock_lt hp
 obtain ⟨hl, hv⟩ := hp
 rcases hv with ⟨rfl, h0⟩ | ⟨b, cap, cur, rfl, hb, hh, hnc, hcm, hcs, ht⟩
 · omega
 simp only [elemAddr, Nat.zero_add] at hx hcell
 have hfree : w.frozen? ⟨b, k, none⟩ = false := by
  simp only [World.frozen?, hh]; simp
 have hr : (execOp ac.eval o).run P w = .ok .skip (w.setCell ⟨b, k, none⟩ (g a)) := by
  simp [execOp, ho, hf.ev hx, hf.ev hy, Instr.storeAt, Instr.sureAddr, storeVar, hsz, h1, storeCells, Addr.add, run_store _ _ _ _ _ h2, hcell, hfree]
 unfold Oper.wp
 rw [hr, Oper.upon_skip, hd]
 have hset : (w.setCell ⟨b, k, none⟩ (g a)).heap[b]? = some (.cells (cur.setIfInBounds k (g a)) e (0, 0)) := by
  show (w.heap.modify b _)[b]? = _
  rw [Array.getElem?_modify, if_pos rfl, hh]; rfl
 have hbl : b < w.heap.size := hlt' b (by simp [Value.ownBlock])
 refine ⟨_, _, _, kk, hf.none _, hs'.update _ ⟨rfl, rfl, rfl, by simp, fun j hj hn => heap_setCell_other w _ _ (g a) (by simpa [accC, Value.ownBlock, eq_comm] using hn)⟩ (by intro j hj; left; simpa [accC, Value.ownBlock] using hj) (by intro j hj; simp [accC, Value.ownBlock] at hj; subst hj; simpa using hbl) (by simp [accC, Value.ownBlock]) (fun w'' ha _ => ?_)⟩
 refine ⟨by rw [flat_one, List.length_map, Nat.mul_one], .inr ⟨b, cap, cur.setIfInBounds k (g a), by rw [List.length_set], Nat.zero_le _, ?_, by rw [List.length_set]; exact hnc, hcm, by simpa using hcs, ?_⟩⟩
 · rw [ha.2.2.2.2 b (by simpa using hbl) (by simp [accC, Value.ownBlock])]
   exact hset
 · rw [Nat.mul_one] at ht ⊢
   rw [Array.toList_setIfInBounds, List.length_set, List.take_set, ht, flat_one, flat_one, List.map_set]
theorem subSl0 (b m cap size hi : Nat) : subSl (.slice (some ⟨b, 0, none⟩) m cap) size 0 hi = .slice (some ⟨b, 0, none⟩) hi cap := by
 simp only [subSl]
 split <;> simp [add_spot]
end
section maps
variable {κ β : Type} [DecidableEq κ] {P : Program} {n : Sz} {o : Oper} {L : Env} {R : List RO} {O O' : List Own} {K : Env → List RO → List Own → Prop} {t t' kt et : TypeId} {z : Value} {x y : Operand} {kenc : κ → Value} {venc : β → Value} {m : GoMap κ β} {b : Nat} {k : κ} {kv : Value}
theorem OpW.delete (T : MapT P t kt et z) (KT : KeyT P kt kenc) (ho : o.op = .call { callee := .builtin .delete, args := #[x, y], argTypes := #[t, t'] }) (hx : ev L x = some (.map (some b))) (hy : ev L y = some kv) (hT : Take (mapC kenc venc b m) O O') (hk : kenc k = kv) (hd : o.dst = none)
 (c : K L R (mapC kenc venc b (m.del k) :: O')) : OpW P n o L R O K := by
 intro a w hf hs Q
 have hs' := hs.perm hT.perm
 have hp : mapP kenc venc b m w := hs'.see List.mem_cons_self
 unfold Oper.wp
 have hr : (execOp a.eval o).run P w = .ok (.value (.tuple #[])) { w with heap := w.heap.setIfInBounds b (.map ((m.del k).l.map (ent kenc venc)).toArray (m.del k).clock) } := by
  simp only [execOp, ho, resolve, invoke, builtin, Sem.run_bind, Sem.run_pure, hf.ev hx, hf.ev hy, ← hk, List.map_toArray, List.map_cons, List.map_nil, run_delete T KT hp, Result.andThen_ok]
 rw [hr, Oper.upon_value, hd]
 exact ⟨_, _, _, c, hf.none _, map_put hs' _ hp⟩
end maps
end Go.SL
namespace Go.SL
open Go
section
variable {P : Program} {n : Sz} {o : Oper} {L : Env} {R : List RO} {O O' : List Own} {K : Env → List RO → List Own → Prop} {t t' e : TypeId} {x y : Operand} {z : Value} {bytes : Nat}
theorem OpW.copyRow {b off dLen dCap sLen sCap d : Nat} {a : Addr} {cur cs : List Value} (ho : o.op = .call { callee := .builtin .copy, args := #[x, y], argTypes := #[t, t'] }) (hT : SlT P t e 1 bytes z)
 (hx : ev L x = some (.slice (some ⟨b, off, none⟩) dLen dCap)) (hy : ev L y = some (.slice (some a) sLen sCap)) (hO : Take (rowC b e cur) O O') (hcs : cs.length = Nat.min sLen dLen)
 (hsrc : ∀ w, (∀ p ∈ R, p w) → (∀ c ∈ O, c.pred w) → ∀ j v, cs[j]? = some v → w.cell? (a.add j) = some v) (hfit : off + cs.length ≤ cur.length) (h1 : ∀ v ∈ cs, v.oneCell' = true) (hd : o.dst = some d) (hn : Nat.blt d n.n = true)
 (k : K ((d, .int .i64 cs.length) :: L) R (rowC b e (cur.take off ++ cs ++ cur.drop (off + cs.length)) :: O')) : OpW P n o L R O K := by
 intro ac w hf hs Q
 have hs' := hs.perm hO.perm
 have hp : w.heap[b]? = some (.cells cur.toArray e (0, 0)) := hs'.see List.mem_cons_self
 obtain ⟨i, hi, _, hsize, _⟩ := hT.info
 have hrun := run_copy_row (P := P) w t t' o.type e b off dLen dCap a sLen sCap cur.toArray e cs hT.under (by rw [hi]; simp [hsize]) hp hcs (hsrc w (fun p hp => hs.read hp) (fun c hc => hs.see hc)) (by simpa using hfit) h1
 have hr : (execOp ac.eval o).run P w = .ok (.value (goInt cs.length)) (w.setRow b (cur.take off ++ cs ++ cur.drop (off + cs.length)).toArray) := by
  simp only [execOp, ho, resolve, invoke, builtin, hf.ev hx, hf.ev hy, Sem.run_bind, Sem.run_pure, Result.andThen_ok, List.map_toArray, List.map_cons, List.map_nil, hrun]
 unfold Oper.wp
 rw [hr, Oper.upon_value, hd]
 have hb : b < w.heap.size := (Array.getElem?_eq_some_iff.1 hp).1
 refine ⟨_, _, _, k, hf.put hn _, hs'.update _ ⟨rfl, rfl, rfl, by simp, fun j hj hne => setRow_other w b j _ (fun e' => hne (by simp [rowC, e']))⟩ (fun j hj => .inl hj) (fun j hj => by simp only [rowC, List.mem_singleton] at hj; subst hj; simpa using hb) (by simp [rowC]) (fun w'' ha _ => ?_)⟩
 show w''.heap[b]? = _
 rw [ha.2.2.2.2 b (by simpa using hb) (by simp [rowC])]
 exact setRow_heap w b _ _ e _ hp
variable {ad : Option Addr} {m cp lo hi : Nat} {kl kh : IntKind} {p q : Int} {size : Nat}
theorem Rd.cutR_l {a : Operand} (ho : o.op = .slice t x (some a) none none) (hT : SlT P t e size bytes z) (hx : ev L x = some (.slice ad m cp)) (ha : ev L a = some (.int kl p)) (hp : p = (lo : Int)) (hn : ad = none → cp = 0) (h1 : lo ≤ m) : Rd P o L R O (subSl (.slice ad m cp) size lo m) := fun ρ w hρ _ _ => by
 have h := run_cut (P := P) (m := m) (cp := cp) (ad := ad) (lo := lo) (hi := m) hT (some (.int kl p)) none (bound_ok hp h1) (fun _ => rfl) w
 simp only [execOp, ho, hρ _ _ hx, hρ _ _ ha, Option.map_some, Option.map_none, Sem.run_bind, h, Result.andThen_ok, Sem.run_pure]
theorem Rd.cutR_h {b : Operand} (ho : o.op = .slice t x none (some b) none) (hT : SlT P t e size bytes z) (hx : ev L x = some (.slice ad m cp)) (hb : ev L b = some (.int kh q)) (hq : q = (hi : Int)) (hn : ad = none → cp = 0) (h2 : hi ≤ cp) : Rd P o L R O (subSl (.slice ad m cp) size 0 hi) := fun ρ w hρ _ _ => by
 have h := run_cut (P := P) (m := m) (cp := cp) (ad := ad) (lo := 0) (hi := hi) hT none (some (.int kh q)) (fun _ => rfl) (bound_ok hq h2) w
 simp only [execOp, ho, hρ _ _ hx, hρ _ _ hb, Option.map_some, Option.map_none, Sem.run_bind, h, Result.andThen_ok, Sem.run_pure]
end
end Go.SL
namespace Go.Proofs
open Go.Shelf
def Tryz.lays189_ren : Go.Shelf.Ren := ⟨fun | 189 => 114 | 125 => 110 | 257 => 133 | 128 => 130 | 129 => 131 | 294 => 142 | 295 => 143 | 296 => 144 | 297 => 145 | 298 => 146 | 299 => 147 | 216 => 148 | 300 => 149 | 301 => 150 | 328 => 153 | 329 => 137 | 330 => 138 | 331 => 154 | 332 => 155 | 215 => 156 | 343 => 157 | n => n, fun | 28 => 23 | 3 => 3 | 46 => 59 | 0 => 0 | 51 => 134 | 53 => 137 | 4 => 4 | 183 => 188 | 182 => 187 | 131 => 82 | 5 => 5 | 9 => 9 | 218 => 200 | 222 => 204 | 228 => 212 | 229 => 213 | n => n, fun | n => n⟩
theorem Tryz.lays189 : Go.Proofs.Lays.n189 Tryz.prog Tryz.lays189_ren := {
 mixed := by kernel_rfl
 f125 := Tryz.func110.trans (congrArg some (by kernel_rfl))
 f128 := Tryz.func130.trans (congrArg some (by kernel_rfl))
 f129 := Tryz.func131.trans (congrArg some (by kernel_rfl))
 f189 := Tryz.func114.trans (congrArg some (by kernel_rfl))
 f215 := Tryz.func156.trans (congrArg some (by kernel_rfl))
 f216 := Tryz.func148.trans (congrArg some (by kernel_rfl))
 f257 := Tryz.func133.trans (congrArg some (by kernel_rfl))
 f294 := Tryz.func142.trans (congrArg some (by kernel_rfl))
 f295 := Tryz.func143.trans (congrArg some (by kernel_rfl))
 f296 := Tryz.func144.trans (congrArg some (by kernel_rfl))
 f297 := Tryz.func145.trans (congrArg some (by kernel_rfl))
 f298 := Tryz.func146.trans (congrArg some (by kernel_rfl))
 f299 := Tryz.func147.trans (congrArg some (by kernel_rfl))
 f300 := Tryz.func149.trans (congrArg some (by kernel_rfl))
 f301 := Tryz.func150.trans (congrArg some (by kernel_rfl))
 f328 := Tryz.func153.trans (congrArg some (by kernel_rfl))
 f329 := Tryz.func137.trans (congrArg some (by kernel_rfl))
 f330 := Tryz.func138.trans (congrArg some (by kernel_rfl))
 f331 := Tryz.func154.trans (congrArg some (by kernel_rfl))
 f332 := Tryz.func155.trans (congrArg some (by kernel_rfl))
 f343 := Tryz.func157.trans (congrArg some (by kernel_rfl))
 t0 := Tryz.underlying0
 a0 := Tryz.isAgg0
 z0 := Tryz.sizeOf0
 v0 := Tryz.zeroValue0
 t3 := Tryz.underlying3
 a3 := Tryz.isAgg3
 z3 := Tryz.sizeOf3
 v3 := Tryz.zeroValue3
 t4 := Tryz.underlying4
 a4 := Tryz.isAgg4
 z4 := Tryz.sizeOf4
 v4 := Tryz.zeroValue4
 t5 := Tryz.underlying5
 a5 := Tryz.isAgg5
 z5 := Tryz.sizeOf5
 v5 := Tryz.zeroValue5
 t9 := Tryz.underlying9
 a9 := Tryz.isAgg9
 z9 := Tryz.sizeOf9
 v9 := Tryz.zeroValue9
 t28 := Tryz.underlying23
 a28 := Tryz.isAgg23
 z28 := Tryz.sizeOf23
 v28 := Tryz.zeroValue23
 t46 := Tryz.underlying59
 a46 := Tryz.isAgg59
 z46 := Tryz.sizeOf59
 v46 := Tryz.zeroValue59
 t51 := Tryz.underlying134
 a51 := Tryz.isAgg134
 z51 := Tryz.sizeOf134
 v51 := Tryz.zeroValue134
 t53 := Tryz.underlying137
 a53 := Tryz.isAgg137
 z53 := Tryz.sizeOf137
 v53 := Tryz.zeroValue137
 t131 := Tryz.underlying82
 a131 := Tryz.isAgg82
 z131 := Tryz.sizeOf82
 v131 := Tryz.zeroValue82
 t182 := Tryz.underlying187
 a182 := Tryz.isAgg187
 z182 := Tryz.sizeOf187
 v182 := Tryz.zeroValue187
 t183 := Tryz.underlying188
 a183 := Tryz.isAgg188
 z183 := Tryz.sizeOf188
 v183 := Tryz.zeroValue188
 t218 := Tryz.underlying200
 a218 := Tryz.isAgg200
 z218 := Tryz.sizeOf200
 v218 := Tryz.zeroValue200
 t222 := Tryz.underlying204
 a222 := Tryz.isAgg204
 z222 := Tryz.sizeOf204
 v222 := Tryz.zeroValue204
 t228 := Tryz.underlying212
 a228 := Tryz.isAgg212
 z228 := Tryz.sizeOf212
 v228 := Tryz.zeroValue212
 t229 := Tryz.underlying213
 a229 := Tryz.isAgg213
 z229 := Tryz.sizeOf213
 v229 := Tryz.zeroValue213 }
open Go.Sort Go.RowKit in
theorem Tryz.slices_Sort_int (blk off cap : Nat) (zs : List Int) (w : World) (hH : Holds (Value.int .i64) w blk off zs.toArray) (hblk : blk < w.heap.size) (hsz : zs.length < 4611686018427387904) :
 Calls Tryz.prog 114 #[.slice (some ⟨blk, off, none⟩) zs.length cap] w fun e w' =>
  e = .returned (.tuple #[]) ∧ ∃ n os, w' = grow (putRow (Value.int .i64) (Sort.ahead w n) blk off (zs.mergeSort fun x y => decide (x ≤ y)).toArray) os := Any.slices_Sort_int Tryz.lays189 blk off cap zs w hH hblk hsz
def Tryz.laysGw15_ren : Go.Shelf.Ren := ⟨fun | 15 => 89 | 20 => 112 | n => n, fun | 9 => 9 | 23 => 155 | 3 => 3 | 4 => 4 | 0 => 0 | 21 => 21 | n => n, fun | n => n⟩
theorem Tryz.laysGw15 : Go.Proofs.LaysGw.n15 Tryz.prog Tryz.laysGw15_ren := {
 mixed := by kernel_rfl
 f15 := Tryz.func89.trans (congrArg some (by kernel_rfl))
 f20 := Tryz.func112.trans (congrArg some (by kernel_rfl))
 t0 := Tryz.underlying0
 a0 := Tryz.isAgg0
 z0 := Tryz.sizeOf0
 v0 := Tryz.zeroValue0
 i0 := by kernel_rfl
 t3 := Tryz.underlying3
 a3 := Tryz.isAgg3
 z3 := Tryz.sizeOf3
 v3 := Tryz.zeroValue3
 i3 := by kernel_rfl
 t4 := Tryz.underlying4
 a4 := Tryz.isAgg4
 z4 := Tryz.sizeOf4
 v4 := Tryz.zeroValue4
 i4 := by kernel_rfl
 t9 := Tryz.underlying9
 a9 := Tryz.isAgg9
 z9 := Tryz.sizeOf9
 v9 := Tryz.zeroValue9
 i9 := by kernel_rfl
 t21 := Tryz.underlying21
 a21 := Tryz.isAgg21
 z21 := Tryz.sizeOf21
 v21 := Tryz.zeroValue21
 i21 := by kernel_rfl
 t23 := Tryz.underlying155
 a23 := Tryz.isAgg155
 z23 := Tryz.sizeOf155
 v23 := Tryz.zeroValue155
 i23 := by kernel_rfl }
open Go.RowKit Go.Lib in
theorem Tryz.strings_IndexFunc (g : Nat) (lb : Array Value) (eg : ∀ args w, (callFunc g args).run Tryz.prog w = .ok (.enter g args) w) (p : Nat → Bool) (s : ByteArray) (w : World) (hp : PredAt Tryz.prog g lb encR p w) :
 Calls Tryz.prog 89 #[.string s, .func (.func g) #[] lb] w fun e w' => e = .returned (.int .i64 (Lib.idxFunc p true s)) ∧ Below w.heap.size w w' := Any.strings_IndexFunc Tryz.laysGw15 g lb eg p s w hp
def Tryz.lays212_ren : Go.Shelf.Ren := ⟨fun | 212 => 41 | 263 => 71 | 264 => 72 | n => n, fun | 46 => 59 | 51 => 134 | 146 => 135 | 53 => 137 | 148 => 138 | n => n, fun | n => n⟩
theorem Tryz.lays212 : Go.Proofs.Lays.n212 Tryz.prog Tryz.lays212_ren := {
 mixed := by kernel_rfl
 f212 := Tryz.func41.trans (congrArg some (by kernel_rfl))
 f263 := Tryz.func71.trans (congrArg some (by kernel_rfl))
 f264 := Tryz.func72.trans (congrArg some (by kernel_rfl))
 t46 := Tryz.underlying59
 a46 := Tryz.isAgg59
 z46 := Tryz.sizeOf59
 v46 := Tryz.zeroValue59
 t51 := Tryz.underlying134
 a51 := Tryz.isAgg134
 z51 := Tryz.sizeOf134
 v51 := Tryz.zeroValue134
 t53 := Tryz.underlying137
 a53 := Tryz.isAgg137
 z53 := Tryz.sizeOf137
 v53 := Tryz.zeroValue137
 t146 := Tryz.underlying135
 a146 := Tryz.isAgg135
 z146 := Tryz.sizeOf135
 v146 := Tryz.zeroValue135
 t148 := Tryz.underlying138
 a148 := Tryz.isAgg138
 z148 := Tryz.sizeOf138
 v148 := Tryz.zeroValue138 }
open Go.RowKit Go.Lib in
/-- math/bits.Mul: "Mul returns the full-width product of x and y": on a machine of 64 bits: Mul64's. (LAID: no walk: one application.) -/
theorem Tryz.bits_Mul (x y : Nat) (hx : x < 18446744073709551616) (hy : y < 18446744073709551616) (w : World) :
 Calls Tryz.prog 41 #[.int .u64 x, .int .u64 y] w fun e w' => e = .returned (.tuple #[.int .u64 ((x * y / 18446744073709551616 : Nat) : Int), .int .u64 ((x * y % 18446744073709551616 : Nat) : Int)]) ∧ w' = w := Any.bits_Mul Tryz.lays212 x y hx hy w
def Tryz.lays105_ren : Go.Shelf.Ren := ⟨fun | 105 => 42 | 212 => 41 | 99 => 73 | 165 => 74 | 166 => 56 | 170 => 75 | 169 => 57 | 263 => 71 | 264 => 72 | 206 => 102 | 240 => 87 | 241 => 103 | 276 => 111 | 277 => 118 | n => n, fun | 9 => 9 | 3 => 3 | 4 => 4 | 20 => 20 | 0 => 0 | 46 => 59 | 109 => 89 | 5 => 5 | 72 => 113 | 76 => 116 | 51 => 134 | 146 => 135 | 53 => 137 | 148 => 138 | 70 => 111 | 37 => 70 | 75 => 115 | 127 => 153 | 164 => 177 | 80 => 42 | n => n, fun | n => n⟩
theorem Tryz.lays105 : Go.Proofs.Lays.n105 Tryz.prog Tryz.lays105_ren := {
 mixed := by kernel_rfl
 f99 := Tryz.func73.trans (congrArg some (by kernel_rfl))
 f105 := Tryz.func42.trans (congrArg some (by kernel_rfl))
 f165 := Tryz.func74.trans (congrArg some (by kernel_rfl))
 f166 := Tryz.func56.trans (congrArg some (by kernel_rfl))
 f169 := Tryz.func57.trans (congrArg some (by kernel_rfl))
 f170 := Tryz.func75.trans (congrArg some (by kernel_rfl))
 f206 := Tryz.func102.trans (congrArg some (by kernel_rfl))
 f212 := Tryz.func41.trans (congrArg some (by kernel_rfl))
 f240 := Tryz.func87.trans (congrArg some (by kernel_rfl))
 f241 := Tryz.func103.trans (congrArg some (by kernel_rfl))
 f263 := Tryz.func71.trans (congrArg some (by kernel_rfl))
 f264 := Tryz.func72.trans (congrArg some (by kernel_rfl))
 f276 := Tryz.func111.trans (congrArg some (by kernel_rfl))
 f277 := Tryz.func118.trans (congrArg some (by kernel_rfl))
 t0 := Tryz.underlying0
 a0 := Tryz.isAgg0
 z0 := Tryz.sizeOf0
 v0 := Tryz.zeroValue0
 t3 := Tryz.underlying3
 a3 := Tryz.isAgg3
 z3 := Tryz.sizeOf3
 v3 := Tryz.zeroValue3
 t4 := Tryz.underlying4
 a4 := Tryz.isAgg4
 z4 := Tryz.sizeOf4
 v4 := Tryz.zeroValue4
 t5 := Tryz.underlying5
 a5 := Tryz.isAgg5
 z5 := Tryz.sizeOf5
 v5 := Tryz.zeroValue5
 t9 := Tryz.underlying9
 a9 := Tryz.isAgg9
 z9 := Tryz.sizeOf9
 v9 := Tryz.zeroValue9
 t20 := Tryz.underlying20
 a20 := Tryz.isAgg20
 z20 := Tryz.sizeOf20
 v20 := Tryz.zeroValue20
 t37 := Tryz.underlying70
 a37 := Tryz.isAgg70
 z37 := Tryz.sizeOf70
 v37 := Tryz.zeroValue70
 t46 := Tryz.underlying59
 a46 := Tryz.isAgg59
 z46 := Tryz.sizeOf59
 v46 := Tryz.zeroValue59
 t51 := Tryz.underlying134
 a51 := Tryz.isAgg134
 z51 := Tryz.sizeOf134
 v51 := Tryz.zeroValue134
 t53 := Tryz.underlying137
 a53 := Tryz.isAgg137
 z53 := Tryz.sizeOf137
 v53 := Tryz.zeroValue137
 t70 := Tryz.underlying111
 a70 := Tryz.isAgg111
 z70 := Tryz.sizeOf111
 v70 := Tryz.zeroValue111
 t72 := Tryz.underlying113
 a72 := Tryz.isAgg113
 z72 := Tryz.sizeOf113
 v72 := Tryz.zeroValue113
 t75 := Tryz.underlying115
 a75 := Tryz.isAgg115
 z75 := Tryz.sizeOf115
 v75 := Tryz.zeroValue115
 t76 := Tryz.underlying116
 a76 := Tryz.isAgg116
 z76 := Tryz.sizeOf116
 v76 := Tryz.zeroValue116
 t109 := Tryz.underlying89
 a109 := Tryz.isAgg89
 z109 := Tryz.sizeOf89
 v109 := Tryz.zeroValue89
 t127 := Tryz.underlying153
 a127 := Tryz.isAgg153
 z127 := Tryz.sizeOf153
 v127 := Tryz.zeroValue153
 t146 := Tryz.underlying135
 a146 := Tryz.isAgg135
 z146 := Tryz.sizeOf135
 v146 := Tryz.zeroValue135
 t148 := Tryz.underlying138
 a148 := Tryz.isAgg138
 z148 := Tryz.sizeOf138
 v148 := Tryz.zeroValue138
 t164 := Tryz.underlying177
 a164 := Tryz.isAgg177
 z164 := Tryz.sizeOf177
 v164 := Tryz.zeroValue177 }
theorem Tryz.Builder_Extra_105 : Builder.Extra Tryz.prog Tryz.lays105_ren := {
 sizeBuilder := by kernel_rfl
 liesBuilder := by kernel_rfl
 t5 := Tryz.underlying5
 a5 := Tryz.isAgg5
 z5 := Tryz.sizeOf5
 v5 := Tryz.zeroValue5
 infoByte := by kernel_rfl
 cellsByte := by kernel_rfl
 sizeByte := by kernel_rfl
 neB5 := by decide }
open Go.RowKit Go.Lib in
/-- **strings.Repeat: count ≥ 0, the result within one allocation: count copies of s.** (LAID: no walk: one application.) -/
theorem Tryz.strings_Repeat (s : ByteArray) (c : Nat) (w : World) (hc : c ≤ 9223372036854775807) (hlen : s.size * c ≤ 140737488355328) :
 Calls Tryz.prog 42 #[.string s, .int .i64 c] w fun e w' => e = .returned (.string ⟨(Lib.repeatL s.data.toList c).toArray⟩) ∧ Below w.heap.size w w' := Any.strings_Repeat Tryz.lays105 Tryz.Builder_Extra_105 s c w hc hlen
end Go.Proofs
namespace Go.Proofs.YtckokhdjeifomaaGreatDoor
open Go Go.SL
structure DSt where
 lasts : List (List UInt8)
 since : List (Nat × List UInt8)
 left : Nat
 keep : List Int
 off : Bool
 done : Nat
def zs512 : List UInt8 := List.replicate 512 0
def fullE (s : List UInt8) : List UInt8 := s ++ List.replicate (512 - s.length) 0
def oddB (keep : List Int) (k : Nat) : Bool := decide (0 < keep.length ∧ keep[k % keep.length]! % 2 = 1)
/-- What lasts, behind the first n of the writes since, those that are kept. -/
def failN (since : List (Nat × List UInt8)) (keep : List Int) (lasts : List (List UInt8)) (n : Nat) : List (List UInt8) :=
 (List.range n).foldl (fun l k => if oddB keep k then l.set since[k]!.1 since[k]!.2 else l) lasts
def failS (s : DSt) (keep : List Int) : DSt := { s with lasts := failN s.since keep s.lasts s.since.length, since := [], left := 0, off := true }
def stepE (s : DSt) : Nat := if s.off then 7 else if s.left = 1 then 7 else 0
def stepS (s : DSt) : DSt := if s.off then s else if s.left = 1 then failS s s.keep else { s with left := s.left - 1, done := s.done + 1 }
def hasB (s : DSt) (i : Int) : Bool := decide (0 ≤ i ∧ i < (s.lasts.length : Int))
/-- The last of the first k writes to sector n, or what lasts. -/
def lookN (s : DSt) (n k : Nat) : List UInt8 := (List.range k).foldl (fun x j => if s.since[j]!.1 = n then s.since[j]!.2 else x) s.lasts[n]!
def readE (s : DSt) (i : Int) : List UInt8 × Nat := if ¬ hasB s i then ([], 1) else if s.off then ([], 7) else (lookN s i.toNat s.since.length, 0)
def badB (s : DSt) (i : Int) (d : List UInt8) : Bool := decide (¬ (hasB s i = true) ∨ 512 < d.length)
def dputE (s : DSt) (i : Int) (d : List UInt8) : Nat := if badB s i d then 1 else stepE s
def putS (s : DSt) (i : Int) (d : List UInt8) : DSt := if badB s i d then s else if stepE s = 0 then { stepS s with since := (stepS s).since ++ [(i.toNat, fullE d)] } else stepS s
def syncS (s : DSt) : DSt := if stepE s = 0 then { stepS s with lasts := failN (stepS s).since [1] (stepS s).lasts (stepS s).since.length, since := [] } else stepS s
def cutS (s : DSt) (n : Int) (keep : List Int) : DSt := { s with left := (max n 1).toNat, keep := keep }
def onS (s : DSt) : DSt := { s with off := false, left := 0 }
def newS (n : Nat) : DSt := ⟨List.replicate n zs512, [], 0, [], false, 0⟩
/-- Each write is one to a sector that there is; how much there is at most. -/
structure DOk (s : DSt) (m : Nat) : Prop where
 at_ : ∀ w ∈ s.since, w.1 < s.lasts.length
 lasts : s.lasts.length ≤ 4096
 left : s.left ≤ 9223372036854775807
 since : s.since.length ≤ m
 done : s.done ≤ m
theorem failN_succ (since : List (Nat × List UInt8)) (keep : List Int) (lasts : List (List UInt8)) (n : Nat) : failN since keep lasts (n + 1) = if oddB keep n then (failN since keep lasts n).set since[n]!.1 since[n]!.2 else failN since keep lasts n := by
 unfold failN
 rw [List.range_succ, List.foldl_append]; rfl
theorem failN_len (since : List (Nat × List UInt8)) (keep : List Int) (lasts : List (List UInt8)) : ∀ n, (failN since keep lasts n).length = lasts.length
 | 0 => rfl
 | n + 1 => by rw [failN_succ]; split <;> simp [failN_len since keep lasts n]
theorem lookN_succ (s : DSt) (n k : Nat) : lookN s n (k + 1) = if s.since[k]!.1 = n then s.since[k]!.2 else lookN s n k := by
 unfold lookN
 rw [List.range_succ, List.foldl_append]; rfl
theorem DOk.mono {s : DSt} {m m' : Nat} (h : DOk s m) (hm : m ≤ m') : DOk s m' := ⟨h.at_, h.lasts, h.left, Nat.le_trans h.since hm, Nat.le_trans h.done hm⟩
theorem DOk.fail {s : DSt} {m : Nat} (h : DOk s m) (keep : List Int) : DOk (failS s keep) m :=
 ⟨fun w hw => absurd hw List.not_mem_nil, by show (failN _ _ _ _).length ≤ _; rw [failN_len]; exact h.lasts, by show 0 ≤ _; omega, by show 0 ≤ _; omega, h.done⟩
theorem DOk.step {s : DSt} {m : Nat} (h : DOk s m) : DOk (stepS s) (m + 1) := by
 unfold stepS
 split
 · exact h.mono Z.W
 · split
   · exact (h.fail _).mono Z.W
   · exact ⟨h.at_, h.lasts, by show _ - 1 ≤ _; have := h.left; omega, by have := h.since; show _ ≤ _; exact Nat.le_succ_of_le this, Nat.succ_le_succ h.done⟩
theorem step_lasts (s : DSt) : (stepS s).lasts.length = s.lasts.length := by
 unfold stepS
 split
 · rfl
 · split
   · exact failN_len _ _ _ _
   · rfl
theorem has_iff {s : DSt} {i : Int} (h : hasB s i = true) : i.toNat < s.lasts.length ∧ (i.toNat : Int) = i := by
 have h1 := of_decide_eq_true h
 omega
theorem bad_not {s : DSt} {i : Int} {d : List UInt8} (h : ¬ badB s i d = true) : hasB s i = true ∧ d.length ≤ 512 := by
 unfold badB at h
 rw [decide_eq_true_eq] at h
 exact ⟨Decidable.byContradiction fun h1 => h (.inl h1), by omega⟩
theorem DOk.put {s : DSt} {m : Nat} (h : DOk s m) (i : Int) (d : List UInt8) : DOk (putS s i d) (m + 1) := by
 unfold putS
 split
 · exact h.mono Z.W
 · rename_i hb
   obtain ⟨h1, _⟩ := bad_not hb
   obtain ⟨h2, _⟩ := has_iff h1
   have hs := h.step
   split
   · rename_i h0
     refine ⟨fun w hw => ?_, hs.lasts, hs.left, ?_, hs.done⟩
     · rcases List.mem_append.1 hw with hw | hw
       · exact hs.at_ w hw
       · rw [List.mem_singleton] at hw
         subst hw
         show i.toNat < (stepS s).lasts.length
         rw [step_lasts]; exact h2
     · show ((stepS s).since ++ [_]).length ≤ _
       have hl : (stepS s).since.length ≤ m := by
        unfold stepS
        split
        · exact h.since
        · split
          · exact Nat.zero_le _
          · exact h.since
       simp; omega
   · exact hs
theorem DOk.sync {s : DSt} {m : Nat} (h : DOk s m) : DOk (syncS s) (m + 1) := by
 have hs := h.step
 unfold syncS
 split
 · exact ⟨fun w hw => absurd hw List.not_mem_nil, by show (failN _ _ _ _).length ≤ _; rw [failN_len]; exact hs.lasts, hs.left, by show 0 ≤ _; omega, hs.done⟩
 · exact hs
theorem DOk.cut {s : DSt} {m : Nat} (h : DOk s m) (n : Int) (hn : n ≤ 9223372036854775807) (keep : List Int) : DOk (cutS s n keep) m :=
 ⟨h.at_, h.lasts, by show (max n 1).toNat ≤ _; omega, h.since, h.done⟩
theorem DOk.on {s : DSt} {m : Nat} (h : DOk s m) : DOk (onS s) m := ⟨h.at_, h.lasts, by show 0 ≤ _; omega, h.since, h.done⟩
theorem DOk.new {n : Nat} (h : n ≤ 4096) : DOk (newS n) 0 := ⟨fun w hw => absurd hw List.not_mem_nil, by simp [newS]; omega, by show 0 ≤ _; omega, Nat.le_refl _, Nat.le_refl _⟩
/-- Parity, twice. -/
theorem land1 (v : Int) : land .i64 v 1 = (v % 2).toNat := by
 unfold land
 rw [Nat.and_one_is_mod, BitVec.toNat_ofInt]
 show (v % ((2 ^ 64 : Nat) : Int)).toNat % 2 = _
 omega
theorem odd_one (k : Nat) : oddB [1] k = true := by
 unfold oddB
 simp [Nat.mod_one]
theorem full_len {s : List UInt8} (h : s.length ≤ 512) : (fullE s).length = 512 := by simp [fullE]; omega
theorem full_of {s : List UInt8} (h : s.length ≤ 512) : s ++ zs512.drop s.length = fullE s := by
 unfold fullE zs512; rw [List.drop_replicate]
end Go.Proofs.YtckokhdjeifomaaGreatDoor
namespace Go.Proofs.YtckokhdjeifomaaGreatDoor
open Go Go.SL
theorem se_repeat_zero (n : Nat) : Lib.repeatL [0] n = List.replicate n 0 := by
 have := Lib.repeatL_replicate 0 1 n
 rwa [Nat.mul_one] at this
set_option maxRecDepth 20000 in
theorem blank_spec {R : List RO} {O : List Own} {POST : Value → List RO → List Own → Prop} (hk : POST (vs zs512) R O) : Fun Tryz.prog 15 #[] R O POST := by
 refine Fun.enter (l := []) Tryz.func15 rfl Tryz.ntmps15 rfl (L0 := []) rfl ?_
 refine WC.seq ?_
 refine WC.region ?_
 refine WL.rd rfl rfl rfl (Rd.assign rfl rfl) ?_
 refine WL.nil ?_
 refine thenQ.normal ?_
 refine WC.seq ?_
 refine WC.region ?_
 refine WL.op rfl ?_
 refine OpW.call rfl rfl Z.E Z.K rfl rfl rfl ?_
 refine Fun.below (v := vs (Lib.repeatL [0] 512)) (fun w => Tryz.strings_Repeat ⟨#[0]⟩ 512 w Z.W (by show 1 * _ ≤ _; omega)) ?_
 rw [se_repeat_zero, show List.replicate 512 (0 : UInt8) = zs512 from rfl]
 refine WL.rd rfl rfl rfl (Rd.assign rfl rfl) ?_
 refine WL.nil ?_
 refine thenQ.normal ?_
 refine WC.ret (Ret.one Tryz.results15 rfl ?_)
 exact hk
set_option maxRecDepth 20000 in
theorem full_spec {R : List RO} {O : List Own} {POST : Value → List RO → List Own → Prop} {s : List UInt8} (hs : s.length ≤ 512) (hk : POST (vs (fullE s)) R O) : Fun Tryz.prog 47 #[vs s] R O POST := by
 have hz : zs512.length = 512 := List.length_replicate
 refine Fun.enter (l := [_]) Tryz.func47 rfl Tryz.ntmps47 rfl (L0 := [(0, _)]) rfl ?_
 refine WC.seq ?_
 refine WC.region ?_
 refine WL.rd rfl rfl rfl (Rd.assign rfl rfl) ?_
 refine WL.nil ?_
 refine thenQ.normal ?_
 refine WC.seq ?_
 refine WC.region ?_
 refine WL.rd rfl rfl rfl (Rd.move rfl rfl) ?_
 refine WL.op rfl ?_
 refine OpW.call rfl rfl Z.E Z.K rfl rfl rfl ?_
 refine blank_spec ?_
 refine WL.rd rfl rfl rfl (Rd.move rfl rfl) ?_
 refine WL.rd rfl rfl rfl (Rd.slen (ts := #[]) (ty := 0) rfl rfl Tryz.underlying9) ?_
 refine WL.rd rfl rfl rfl (Rd.scut_l (lo := s.length) (s := zs512) rfl Tryz.underlying9 rfl rfl rfl Z.W) ?_
 refine WL.rd rfl rfl rfl (Rd.scat rfl rfl rfl (by rw [List.length_drop]; omega)) ?_
 refine WL.rd rfl rfl rfl (Rd.assign rfl rfl) ?_
 refine WL.nil ?_
 refine thenQ.normal ?_
 refine WC.ret (Ret.one Tryz.results47 rfl ?_)
 rw [full_of hs]
 exact hk
set_option maxHeartbeats 1000000 in
set_option maxRecDepth 20000 in
theorem repeat_spec {R : List RO} {O : List Own} {POST : Value → List RO → List Own → Prop} {v : List UInt8} {n bx : Nat} (hn1 : 1 ≤ n) (hn : n ≤ 4096) (hx : rowC bx 9 [vs v] ∈ O)
 (hk : ∀ b, POST (.slice (some ⟨b, 0, none⟩) n n) R (rowC b 9 (List.replicate n (vs v)) :: O)) : Fun Tryz.prog 14 #[.slice (some ⟨bx, 0, none⟩) 1 1, .int .i64 (n : Int)] R O POST := by
 refine Fun.enter (l := [_, _]) Tryz.func14 rfl Tryz.ntmps14 rfl (L0 := [(0, _), (1, _)]) rfl ?_
 refine WC.seq ?_
 refine WC.region ?_
 refine WL.rd rfl rfl rfl (Rd.assign rfl rfl) ?_
 refine WL.nil ?_
 refine thenQ.normal ?_
 refine WC.seq ?_
 refine WC.seq ?_
 refine WC.region ?_
 refine WL.rd rfl rfl rfl (Rd.move rfl rfl) ?_
 refine WL.rd rfl rfl rfl (Rd.lss rfl rfl rfl) ?_
 refine WL.nil ?_
 refine thenQ.normal ?_
 refine WC.ite rfl (fun hc1 => ?_) (fun hc1 => ?_)
 ·
  omega
 ·
  refine WC.skip ?_
  refine thenQ.normal ?_
  refine WC.seq ?_
  refine WC.region ?_
  refine WL.rd rfl rfl rfl (Rd.move rfl rfl) ?_
  refine WL.rd rfl rfl rfl (Rd.len rfl rfl Tryz.underlying40) ?_
  refine WL.rd rfl rfl rfl (Rd.conv (kd' := .u64) (p := ((1 : Nat) : Int)) rfl rfl Tryz.underlying59 (wrap_u64 Z.W) (hS := Tryz.underlying3)) ?_
  refine WL.rd rfl rfl rfl (Rd.move rfl rfl) ?_
  refine WL.rd rfl rfl rfl (Rd.conv (kd' := .u64) (p := (n : Int)) rfl rfl Tryz.underlying59 (wrap_u64 Z.W) (hS := Tryz.underlying3)) ?_
  refine WL.op rfl ?_
  refine OpW.call rfl rfl Z.E Z.K rfl rfl rfl ?_
  refine Fun.still (fun w => Tryz.bits_Mul 1 n Z.W Z.W w) ?_
  refine WL.rd rfl rfl rfl (Rd.move rfl rfl) ?_
  refine WL.rd rfl rfl rfl (Rd.extract rfl rfl rfl) ?_
  refine WL.say 19 (u := .int .u64 0) rfl (by rw [show 1 * n / 18446744073709551616 = 0 from by omega]; rfl) ?_
  refine WL.rd rfl rfl rfl (Rd.extract rfl rfl rfl) ?_
  refine WL.say 20 (u := .int .u64 (n : Int)) rfl (by rw [show 1 * n % 18446744073709551616 = n from by omega]; rfl) ?_
  refine WL.rd rfl rfl rfl (Rd.assign rfl rfl) ?_
  refine WL.rd rfl rfl rfl (Rd.assign rfl rfl) ?_
  refine WL.nil ?_
  refine thenQ.normal ?_
  refine WC.seq ?_
  refine WC.seq ?_
  refine WC.region ?_
  refine WL.rd rfl rfl rfl (Rd.move rfl rfl) ?_
  refine WL.rd rfl rfl rfl (Rd.gtr rfl rfl rfl) ?_
  refine WL.rd rfl rfl rfl (Rd.move rfl rfl) ?_
  refine WL.case 23 rfl (fun hg23 => ?_) (fun hg23 => ?_)
  ·
   exact absurd hg23 (by decide)
  ·
   refine WL.rd_yes rfl rfl rfl rfl rfl rfl (Rd.move rfl rfl) ?_
   refine WL.rd_yes rfl rfl rfl rfl rfl rfl (Rd.gtr rfl rfl rfl) ?_
   refine WL.rd rfl rfl rfl (Rd.pick_f rfl rfl rfl) ?_
   refine WL.nil ?_
   refine thenQ.normal ?_
   refine WC.ite rfl (fun hc2 => ?_) (fun hc2 => ?_)
   ·
    omega
   ·
    refine WC.skip ?_
    refine thenQ.normal ?_
    refine WC.seq ?_
    refine WC.region ?_
    refine WL.rd rfl rfl rfl (Rd.move rfl rfl) ?_
    refine WL.rd rfl rfl rfl (Rd.conv (kd' := .i64) (p := (n : Int)) rfl rfl Tryz.underlying3 (wrap_i64 Z.W) (hS := Tryz.underlying59)) ?_
    refine WL.op rfl ?_
    refine OpW.make1 (m := n) (c := n) rfl S40 rfl rfl rfl rfl rfl Z.W Z.W Z.W rfl rfl ?_; intro b30
    refine WL.rd rfl rfl rfl (Rd.assign rfl rfl) ?_
    refine WL.nil ?_
    refine thenQ.normal ?_
    refine WC.seq ?_
    refine WC.region ?_
    refine WL.rd rfl rfl rfl (Rd.move rfl rfl) ?_
    refine WL.rd rfl rfl rfl (Rd.move rfl rfl) ?_
    refine WL.op rfl ?_
    refine OpW.copyRow (cs := [vs v]) rfl S40 rfl rfl (Take.head _) (by show 1 = min 1 n; omega) (fun w _ hO j u hj => ?_) (by simp; omega) (by intro u hu; rw [List.mem_singleton] at hu; subst hu; rfl) rfl rfl ?_
    · rw [add_spot rfl]
      have := row_cell (hO _ (List.mem_cons_of_mem _ hx)) hj
      simpa using this
    have e0 : (List.replicate n (vs [])).take 0 ++ [vs v] ++ (List.replicate n (vs [])).drop (0 + [vs v].length) = List.replicate 1 (vs v) ++ List.replicate (n - 1) (vs []) := by simp
    refine WL.heap (R' := R) (O' := rowC b30 9 (List.replicate 1 (vs v) ++ List.replicate (n - 1) (vs [])) :: O) (fun w h => by rw [← e0]; exact h) ?_
    refine WL.rd rfl rfl rfl (Rd.assign rfl rfl) ?_
    refine WL.nil ?_
    refine thenQ.normal ?_
    refine WC.seq ?_
    refine WC.block ?_
    refine WC.pick [8, 7] Z.P ?_
    refine WC.loop1 1 (fun (m : Nat) => [(8, .int .i64 (m : Int))]) (fun (m : Nat) => rowC b30 9 (List.replicate m (vs v) ++ List.replicate (n - m) (vs [])) :: O) (fun (m : Nat) => 1 ≤ m ∧ m ≤ n) (fun (m : Nat) => n - m) (1) Z.L ?hinv1 (by repeat (first | exact Sub.nil | refine Sub.cons rfl (by rfl) ?_)) (fun _ h => h) ?_
    case hinv1 =>
     exact ⟨Nat.le_refl _, hn1⟩
    intro m
    rintro ⟨i1, i2⟩
    refine WC.seq ?_
    refine WC.seq ?_
    refine WC.region ?_
    refine WL.rd rfl rfl rfl (Rd.move rfl rfl) ?_
    refine WL.rd rfl rfl rfl (Rd.move rfl rfl) ?_
    refine WL.rd rfl rfl rfl (Rd.len rfl rfl Tryz.underlying40) ?_
    refine WL.rd rfl rfl rfl (Rd.lss rfl rfl rfl) ?_
    refine WL.nil ?_
    refine thenQ.normal ?_
    refine WC.ite rfl (fun hc3 => ?_) (fun hc3 => ?_)
    ·
     refine WC.skip ?_
     refine thenQ.normal ?_
     refine WC.block ?_
     refine WC.drawn (O) 10 rfl mixed ?_
     refine WD.take 0 rfl Z.K Z.H rfl rfl rfl (Rd.move rfl rfl) ?_
     refine WD.take 1 rfl Z.K Z.H rfl rfl rfl (Rd.move rfl rfl) ?_
     refine WD.take 2 rfl Z.K Z.H rfl rfl rfl (Rd.move rfl rfl) ?_
     refine WD.take 3 rfl Z.K Z.H rfl rfl rfl (Rd.cutR_l (lo := m) rfl S40 rfl rfl rfl (by intro h; cases h) Z.W) ?_
     refine WD.say 41 (u := .slice (some ⟨b30, m, none⟩) (n - m) (n - m)) rfl (by simp only [subSl]; rw [if_neg Z.W]; simp [add_spot]) ?_
     refine WD.take 4 rfl Z.K Z.H rfl rfl rfl (Rd.move rfl rfl) ?_
     refine WD.take 5 rfl Z.K Z.H rfl rfl rfl (Rd.move rfl rfl) ?_
     refine WD.take 6 rfl Z.K Z.H rfl rfl rfl (Rd.cutR_h (hi := m) rfl S40 rfl rfl rfl (by intro h; cases h) Z.W) ?_
     refine WD.say 44 (u := .slice (some ⟨b30, 0, none⟩) m n) rfl (subSl0 _ _ _ _ _) ?_
     refine WD.one 7 rfl Z.K rfl ?_
     refine OpW.copyRow (cs := List.replicate (min m (n - m)) (vs v)) rfl S40 rfl rfl (Take.head _) (by rw [List.length_replicate]) (fun w _ hO j u hj => ?_) (by simp <;> omega) (by intro u hu; rw [List.eq_of_mem_replicate hu]; rfl) rfl rfl ?_
     · rw [add_spot rfl]
       have hlt := (List.getElem?_eq_some_iff.1 hj).1
       rw [List.length_replicate] at hlt
       have hu : u = vs v := by have := (List.getElem?_eq_some_iff.1 hj).2; simpa using this.symm
       subst hu
       have := row_cell (j := j) (u := vs v) (hO _ List.mem_cons_self) (by rw [List.getElem?_append_left (by rw [List.length_replicate]; omega), List.getElem?_replicate, if_pos Z.W])
       simpa using this
     refine ⟨Z.H, ?_⟩
     rw [List.length_replicate]
     have e1 : (List.replicate m (vs v) ++ List.replicate (n - m) (vs [])).take m ++ List.replicate (min m (n - m)) (vs v) ++ (List.replicate m (vs v) ++ List.replicate (n - m) (vs [])).drop (m + min m (n - m)) = List.replicate (m + min m (n - m)) (vs v) ++ List.replicate (n - (m + min m (n - m))) (vs []) := by
      rw [List.take_left' List.length_replicate, List.replicate_append_replicate, List.drop_append, List.length_replicate, List.drop_eq_nil_of_le (by rw [List.length_replicate]; omega), List.nil_append, List.drop_replicate]
      congr 2; omega
     rw [e1]
     refine WD.take 8 rfl Z.K Z.H rfl rfl rfl (Rd.add rfl rfl rfl Z.W) ?_
     refine WD.take 9 rfl Z.K Z.H rfl rfl rfl (Rd.assign rfl rfl) ?_
     refine WD.done Z.K ?_
     refine blockQ.normal ?_
     exact loopQ1.mk (m + min m (n - m)) ⟨by omega, by omega⟩ Z.W (by repeat (first | exact Sub.nil | refine Sub.cons rfl (by rfl) ?_)) Z.F
    ·
     refine WC.exit ?_
     refine thenQ.exit ?_
     refine loopQ1.exit ?_
     refine blockQ.exit ?_
     refine thenQ.normal ?_
     refine WC.seq ?_
     refine WC.region ?_
     refine WL.rd rfl rfl rfl (Rd.move rfl rfl) ?_
     refine WL.rd rfl rfl rfl (Rd.assign rfl rfl) ?_
     refine WL.nil ?_
     refine thenQ.normal ?_
     obtain rfl : m = n := by omega
     refine WC.heap (R' := R) (O' := rowC b30 9 (List.replicate m (vs v)) :: O) (fun w h => by rw [Nat.sub_self, List.replicate_zero, List.append_nil] at h; exact h) ?_
     refine WC.ret (Ret.one Tryz.results14 rfl ?_)
     exact hk b30
end Go.Proofs.YtckokhdjeifomaaGreatDoor
namespace Go.SL
open Go
section
variable {P : Program} {n : Sz} {o : Oper} {L : Env} {R : List RO} {O O' : List Own} {K : Env → List RO → List Own → Prop} {t t' e te : TypeId} {x y u : Operand} {v z : Value}
theorem Rd.pneqN {ad : Option Addr} (ho : o.op = .binOp .neq t x y t') (hT : P.underlying t = some (.pointer te)) (hx : ev L x = some (.pointer ad)) (hy : ev L y = some (.pointer none)) : Rd P o L R O (.bool ad.isSome) :=
 run_pbin ho hx hy fun w _ _ => by
  have h : ∀ d : Nat, (Op.equalIn (d + 1) t (.pointer ad) (.pointer none)).run P w = .ok ad.isNone w := fun d => by
   cases ad <;> simp [Op.equalIn, run_underlying hT]
  simp only [binOp]
  simp [Op.equal, Op.maxDepth, h 9999]
theorem Rd.peqN {ad : Option Addr} (ho : o.op = .binOp .eql t x y t') (hT : P.underlying t = some (.pointer te)) (hx : ev L x = some (.pointer ad)) (hy : ev L y = some (.pointer none)) : Rd P o L R O (.bool ad.isNone) :=
 run_pbin ho hx hy fun w _ _ => by
  have h : ∀ d : Nat, (Op.equalIn (d + 1) t (.pointer ad) (.pointer none)).run P w = .ok ad.isNone w := fun d => by
   cases ad <;> simp [Op.equalIn, run_underlying hT]
  simp only [binOp]
  simp [Op.equal, Op.maxDepth, h 9999]
/-- s == nil -/
theorem Rd.eqNil' {a : Option Addr} {m c : Nat} (ho : o.op = .binOp .eql t x y t') (hT : P.underlying t = some (.slice e)) (hx : ev L x = some (.slice a m c)) (hy : ev L y = some (.slice none 0 0)) : Rd P o L R O (.bool a.isNone) := fun ρ w hρ _ _ => by
 have e0 : (eqGuard .eql t x y (.slice a m c) (.slice none 0 0)).run P w = .ok () w := by
  unfold eqGuard
  split <;> rfl
 simp only [execOp, ho, hρ _ _ hx, hρ _ _ hy, Sem.run_bind, e0, Result.andThen_ok, Lib.run_eql_slice_nil w t e a m c 0 0 hT, Sem.run_pure]
theorem OpW.atomicAdd {f : FuncId} {fn : Func} {ts : Array TypeId} {b off d : Nat} {cs : List Value} {p k : Int} (ho : o.op = .call { callee := .value x, args := #[y, u], argTypes := ts }) (hx : ev L x = some (.func (.func f) #[] #[])) (hy : ev L y = some (.pointer (some ⟨b, off, none⟩))) (hu : ev L u = some (.int .i64 k))
 (hf : P.funcs[f]? = some fn) (hname : (fn.name == "runtime.NumGoroutine") = false) (hb : fn.body.isNone = true) (hn0 : Extern.findNext fn = none) (he : Extern.find fn = some (Extern.Atomic.update (Op.intArith .add) .i64 true))
 (hT : Take (rowC b e cs) O O') (hc : cs[off]? = some (.int .i64 p)) (hr : -9223372036854775808 ≤ p + k ∧ p + k ≤ 9223372036854775807) (hd : o.dst = some d) (hn : Nat.blt d n.n = true)
 (kk : K ((d, .int .i64 (p + k)) :: L) R (rowC b e (cs.set off (.int .i64 (p + k))) :: O')) : OpW P n o L R O K := by
 intro a w hfr hs Q
 have hs' := hs.perm hT.perm
 have hp : (rowC b e cs).pred w := hs'.see List.mem_cons_self
 have hlt : off < cs.length := (List.getElem?_eq_some_iff.1 hc).1
 have hcell := row_cell hp hc
 have hfree := row_free hp off
 have hsum : (Op.intArith .add .i64 p k).run P w = .ok (.int .i64 (p + k)) w := by
  have : IntKind.i64.wrap (p + k) = p + k := wrap_i64 hr
  simp [Op.intArith, this]
 have hrun := run_call_add (P := P) hf hname hb hn0 .i64 he (y := k) hcell hfree hsum
 have hr' : (execOp a.eval o).run P w = .ok (.value (.int .i64 (p + k))) (w.setCell ⟨b, off, none⟩ (.int .i64 (p + k))) := by
  simp [execOp, ho, resolve, hfr.ev hx, hfr.ev hy, hfr.ev hu, Deferred.ofValue, invoke, hrun]
 unfold Oper.wp
 rw [hr', Oper.upon_value, hd]
 have hlt' : b < w.heap.size := hs'.lt b (by simp [owned, rowC])
 refine ⟨_, _, _, kk, hfr.put hn _, hs'.update _ ⟨rfl, rfl, rfl, by simp, fun j hj hne => heap_setCell_other w _ _ _ (by simpa [rowC, eq_comm] using hne)⟩ (by simp [rowC]) (by simpa [rowC] using hlt') (by simp [rowC]) (fun w'' ha _ => ?_)⟩
 show w''.heap[b]? = _
 rw [ha.2.2.2.2 b (by simpa using hlt') (by simp [rowC])]
 exact setCell_row hp off _
end
section acc
variable {P : Program} {n : Sz} {o : Oper} {L : Env} {R : List RO} {O O' : List Own} {K : Env → List RO → List Own → Prop} {t t' e : TypeId} {x y : Operand} {v z : Value} {α : Type} {enc : α → List Value} {xs : List α} {size bytes : Nat}
end acc
end Go.SL
namespace Go.Proofs.YtckokhdjeifomaaGreatDoor
open Go Go.SL
def encW (x : Nat × List UInt8) : List Value := [.int .i64 (x.1 : Int), vs x.2]
/-- The values that a disk's cells hold. -/
structure DV where
 lv : Value
 sv : Value
 kv : Value
 cb : Option Nat
def cutC (cb : Option Nat) (left : Nat) (kv : Value) : Own := match cb with
 | none => { blks := [], pred := fun _ => True }
 | some b => rowC b 74 [.int .i64 (left : Int), kv]
abbrev pvOf (cb : Option Nat) : Value := .pointer (cb.map fun b => ⟨b, 0, none⟩)
abbrev dRow (d : Nat) (V : DV) (s : DSt) : Own := rowC d 51 [V.lv, V.sv, pvOf V.cb, .bool s.off, .int .i64 (s.done : Int)]
abbrev dO (d : Nat) (V : DV) (s : DSt) (O : List Own) : List Own := dRow d V s :: accC 9 1 (SL.one vs) V.lv s.lasts :: accC 96 2 encW V.sv s.since :: cutC V.cb s.left V.kv :: O
structure VOk (V : DV) (s : DSt) : Prop where
 cb : V.cb = none ↔ s.left = 0
 lv : OneV V.lv
 sv : OneV V.sv
 kv : OneV V.kv
abbrev dp (d : Nat) : Value := .pointer (some ⟨d, 0, none⟩)
set_option maxHeartbeats 1000000 in
set_option maxRecDepth 20000 in
theorem new_spec {R : List RO} {O : List Own} {POST : Value → List RO → List Own → Prop} {nv : Int} (hk1 : nv < 1 ∨ 4096 < nv → POST (.tuple #[.pointer none, .int .i64 1]) R O)
 (hk2 : ∀ n : Nat, nv = n → 1 ≤ n → n ≤ 4096 → ∀ d V, VOk V (newS n) → POST (.tuple #[dp d, .int .i64 0]) (SlE (SL.one vi) V.kv [] :: R) (dO d V (newS n) O)) : Fun Tryz.prog 5 #[.int .i64 nv] R O POST := by
 refine Fun.enter (l := [_]) Tryz.func5 rfl Tryz.ntmps5 rfl (L0 := [(0, _)]) rfl ?_
 refine WC.seq ?_
 refine WC.region ?_
 refine WL.rd rfl rfl rfl (Rd.assign rfl rfl) ?_
 refine WL.rd rfl rfl rfl (Rd.assign rfl rfl) ?_
 refine WL.nil ?_
 refine thenQ.normal ?_
 refine WC.seq ?_
 refine WC.pick [0] Z.P ?_
 refine WC.val 9 (.bool (decide (nv < 1 ∨ 4096 < nv))) ?_ ?_
 ·
  refine WC.region ?_
  refine WL.rd rfl rfl rfl (Rd.move rfl rfl) ?_
  refine WL.rd rfl rfl rfl (Rd.lss rfl rfl rfl) ?_
  refine WL.rd rfl rfl rfl (Rd.move rfl rfl) ?_
  refine WL.case 6 rfl (fun hg6 => ?_) (fun hg6 => ?_)
  ·
   refine WL.no rfl rfl rfl rfl rfl rfl ?_
   refine WL.no rfl rfl rfl rfl rfl rfl ?_
   refine WL.rd rfl rfl rfl (Rd.pick_t rfl rfl rfl) ?_
   refine WL.nil ?_
   exact ⟨by repeat (first | exact Sub.nil | refine Sub.cons rfl (by first | rfl | (exact vb_t Z.W)) ?_), by exact (fun _ h => h.thin (SubL.mem Z.S))⟩
  ·
   refine WL.rd_yes rfl rfl rfl rfl rfl rfl (Rd.move rfl rfl) ?_
   refine WL.rd_yes rfl rfl rfl rfl rfl rfl (Rd.gtr rfl rfl rfl) ?_
   refine WL.rd rfl rfl rfl (Rd.pick_f rfl rfl rfl) ?_
   refine WL.nil ?_
   exact ⟨by repeat (first | exact Sub.nil | refine Sub.cons rfl (by first | rfl | (exact vb Z.W)) ?_), by exact (fun _ h => h.thin (SubL.mem Z.S))⟩
 ·
  refine WC.ite rfl (fun hc1 => ?_) (fun hc1 => ?_)
  ·
   refine WC.seq ?_
   refine WC.region ?_
   refine WL.rd rfl rfl rfl (Rd.assign rfl rfl) ?_
   refine WL.rd rfl rfl rfl (Rd.assign rfl rfl) ?_
   refine WL.nil ?_
   refine thenQ.normal ?_
   refine WC.ret (Ret.two Tryz.results5 rfl rfl ?_)
   exact hk1 hc1
  ·
   obtain ⟨n, rfl⟩ : ∃ n : Nat, nv = n := ⟨nv.toNat, by omega⟩
   refine WC.skip ?_
   refine thenQ.normal ?_
   refine WC.seq ?_
   refine WC.region ?_
   refine WL.op rfl ?_
   refine OpW.call rfl rfl Z.E Z.K rfl rfl rfl ?_
   refine blank_spec ?_
   refine WL.op rfl ?_
   refine OpW.buildSl (ps := [(0, _)]) rfl S40 Z.E rfl rfl Z.C Z.K rfl rfl rfl ?_; intro b11
   refine WL.rd rfl rfl rfl (Rd.move rfl rfl) ?_
   refine WL.op rfl ?_
   refine OpW.call rfl rfl Z.E Z.K rfl rfl rfl ?_
   refine repeat_spec (v := zs512) (n := n) Z.W Z.W List.mem_cons_self ?_; intro b13
   refine WL.rd rfl rfl rfl (Rd.buildN (ps := [(0, _)]) rfl Bs51 I51 rfl Z.E Z.C (by apply NFo.mk; repeat (first | exact NF.nil | apply NF.cons))) ?_
   refine WL.op rfl ?_
   refine OpW.box rfl rfl Z.N rfl rfl ?_; intro b15
   refine WL.rd rfl rfl rfl (Rd.assign rfl rfl) ?_
   refine WL.rd rfl rfl rfl (Rd.assign rfl rfl) ?_
   refine WL.nil ?_
   refine thenQ.normal ?_
   refine WC.heap (R' := SlE (SL.one vi) (.slice none 0 0) [] :: R) (O' := dO b15 ⟨.slice (some ⟨b13, 0, none⟩) n n, .slice none 0 0, .slice none 0 0, none⟩ (newS n) O) (fun w h => by
    have g1 := Sat.accRow (b := b13) (e := 9) (size := 1) (enc := SL.one vs) (xs := List.replicate n zs512) (m := n) (cells := List.replicate n (vs zs512)) Z.T (by rw [flat_one, List.map_replicate]) List.length_replicate (fun _ => rfl) Z.W h
    have g2 := g1.accNil (α := Nat × List UInt8) (e := 96) (size := 2) (enc := encW)
    have g3 := g2.emp (cutC none 0 (.slice none 0 0)) rfl (fun _ => trivial)
    have g4 := g3.nilE (α := Int) (enc := SL.one vi)
    exact Z.Fw g4) ?_
   refine WC.ret (Ret.two Tryz.results5 rfl rfl ?_)
   exact hk2 n rfl Z.W Z.W b15 ⟨.slice (some ⟨b13, 0, none⟩) n n, .slice none 0 0, .slice none 0 0, none⟩ ⟨⟨fun _ => rfl, fun _ => rfl⟩, OneV.sl, OneV.sl, OneV.sl⟩
section
variable {R : List RO} {O : List Own} {POST : Value → List RO → List Own → Prop} {d : Nat} {V : DV} {s : DSt}
set_option maxRecDepth 20000 in
theorem size_spec (hk : POST (.int .i64 (s.lasts.length : Nat)) R (dO d V s O)) : Fun Tryz.prog 16 #[dp d] R (dO d V s O) POST := by
 refine Fun.enter (l := [_]) Tryz.func16 rfl Tryz.ntmps16 rfl (L0 := [(0, _)]) rfl ?_
 refine WC.seq ?_
 refine WC.region ?_
 refine WL.rd rfl rfl rfl (Rd.assign rfl rfl) ?_
 refine WL.nil ?_
 refine thenQ.normal ?_
 refine WC.seq ?_
 refine WC.seq ?_
 refine WC.region ?_
 refine WL.rd rfl rfl rfl (Rd.move rfl rfl) ?_
 refine WL.rd rfl rfl rfl (Rd.peqN rfl Tryz.underlying25 rfl rfl) ?_
 refine WL.nil ?_
 refine thenQ.normal ?_
 refine WC.cond rfl (fun hc1 => ?_) (fun hc1 => ?_)
 ·
  simp at hc1
 ·
  refine WC.skip ?_
  refine thenQ.normal ?_
  refine WC.seq ?_
  refine WC.region ?_
  refine WL.rd rfl rfl rfl (Rd.move rfl rfl) ?_
  refine WL.rd rfl rfl rfl (Rd.nilc rfl rfl) ?_
  refine WL.rd rfl rfl rfl ((by exact Rd.field rfl F51_0 rfl rfl)) ?_
  refine WL.rd rfl rfl rfl (Rd.row1 (off := 0) rfl C40 rfl List.mem_cons_self rfl) ?_
  refine WL.rd rfl rfl rfl ((by exact Rd.lenA rfl rfl Tryz.underlying40 Z.M)) ?_
  refine WL.rd rfl rfl rfl (Rd.assign rfl rfl) ?_
  refine WL.nil ?_
  refine thenQ.normal ?_
  refine WC.ret (Ret.one Tryz.results16 rfl ?_)
  exact hk
set_option maxRecDepth 20000 in
theorem has_spec {i : Int} (hk : POST (.bool (hasB s i)) R (dO d V s O)) : Fun Tryz.prog 45 #[dp d, .int .i64 i] R (dO d V s O) POST := by
 refine Fun.enter (l := [_, _]) Tryz.func45 rfl Tryz.ntmps45 rfl (L0 := [(0, _), (1, _)]) rfl ?_
 refine WC.seq ?_
 refine WC.region ?_
 refine WL.rd rfl rfl rfl (Rd.assign rfl rfl) ?_
 refine WL.nil ?_
 refine thenQ.normal ?_
 refine WC.seq ?_
 refine WC.region ?_
 refine WL.rd rfl rfl rfl (Rd.move rfl rfl) ?_
 refine WL.rd rfl rfl rfl (Rd.geq rfl rfl rfl) ?_
 refine WL.rd rfl rfl rfl (Rd.move rfl rfl) ?_
 refine WL.case 7 rfl (fun hg7 => ?_) (fun hg7 => ?_)
 ·
  refine WL.rd_yes rfl rfl rfl rfl rfl rfl (Rd.move rfl rfl) ?_
  refine WL.rd_yes rfl rfl rfl rfl rfl rfl (Rd.move rfl rfl) ?_
  refine WL.op_yes rfl rfl rfl rfl ?_
  refine OpW.call rfl rfl Z.E Z.K rfl rfl rfl ?_
  refine size_spec ?_
  refine WL.rd_yes rfl rfl rfl rfl rfl rfl (Rd.lss rfl rfl rfl) ?_
  refine WL.rd rfl rfl rfl (Rd.pick_t rfl rfl rfl) ?_
  refine WL.rd rfl rfl rfl (Rd.assign rfl rfl) ?_
  refine WL.nil ?_
  refine thenQ.normal ?_
  refine WC.ret (Ret.one Tryz.results45 rfl ?_)
  simpa [hasB, *] using hk
 ·
  refine WL.no rfl rfl rfl rfl rfl rfl ?_
  refine WL.no rfl rfl rfl rfl rfl rfl ?_
  refine WL.no rfl rfl rfl rfl rfl rfl ?_
  refine WL.no rfl rfl rfl rfl rfl rfl ?_
  refine WL.rd rfl rfl rfl (Rd.pick_f rfl rfl rfl) ?_
  refine WL.rd rfl rfl rfl (Rd.assign rfl rfl) ?_
  refine WL.nil ?_
  refine thenQ.normal ?_
  refine WC.ret (Ret.one Tryz.results45 rfl ?_)
  simpa [hasB, *] using hk
set_option maxRecDepth 20000 in
theorem off_spec (hk : POST (.bool s.off) R (dO d V s O)) : Fun Tryz.prog 88 #[dp d] R (dO d V s O) POST := by
 refine Fun.enter (l := [_]) Tryz.func88 rfl Tryz.ntmps88 rfl (L0 := [(0, _)]) rfl ?_
 refine WC.seq ?_
 refine WC.region ?_
 refine WL.rd rfl rfl rfl (Rd.assign rfl rfl) ?_
 refine WL.nil ?_
 refine thenQ.normal ?_
 refine WC.seq ?_
 refine WC.region ?_
 refine WL.rd rfl rfl rfl (Rd.move rfl rfl) ?_
 refine WL.rd rfl rfl rfl (Rd.pneqN rfl Tryz.underlying25 rfl rfl) ?_
 refine WL.rd rfl rfl rfl (Rd.move rfl rfl) ?_
 refine WL.say 5 (u := .bool (decide True)) rfl (by simp) ?_
 refine WL.case 5 rfl (fun hg5 => ?_) (fun hg5 => ?_)
 ·
  refine WL.rd_yes rfl rfl rfl rfl rfl rfl (Rd.move rfl rfl) ?_
  refine WL.rd_yes rfl rfl rfl rfl rfl rfl (Rd.nilc rfl rfl) ?_
  refine WL.rd_yes rfl rfl rfl rfl rfl rfl ((by exact Rd.field rfl F51_3 rfl rfl)) ?_
  refine WL.rd_yes rfl rfl rfl rfl rfl rfl (Rd.row1 (off := 3) rfl C4 rfl List.mem_cons_self rfl) ?_
  refine WL.rd rfl rfl rfl (Rd.pick_t rfl rfl rfl) ?_
  refine WL.rd rfl rfl rfl (Rd.assign rfl rfl) ?_
  refine WL.nil ?_
  refine thenQ.normal ?_
  refine WC.ret (Ret.one Tryz.results88 rfl ?_)
  exact hk
 ·
  exact absurd trivial hg5
set_option maxRecDepth 20000 in
theorem on_spec (hv : VOk V s) (hk : VOk ⟨V.lv, V.sv, V.kv, none⟩ (onS s) → POST (.tuple #[]) R (dO d ⟨V.lv, V.sv, V.kv, none⟩ (onS s) O)) : Fun Tryz.prog 11 #[dp d] R (dO d V s O) POST := by
 refine Fun.enter (l := [_]) Tryz.func11 rfl Tryz.ntmps11 rfl (L0 := [(0, _)]) rfl ?_
 refine WC.seq ?_
 refine WC.region ?_
 refine WL.rd rfl rfl rfl (Rd.move rfl rfl) ?_
 refine WL.rd rfl rfl rfl (Rd.pneqN rfl Tryz.underlying25 rfl rfl) ?_
 refine WL.nil ?_
 refine thenQ.normal ?_
 refine WC.cond rfl (fun hc1 => ?_) (fun hc1 => ?_)
 ·
  refine WC.region ?_
  refine WL.rd rfl rfl rfl (Rd.move rfl rfl) ?_
  refine WL.rd rfl rfl rfl (Rd.move rfl rfl) ?_
  refine WL.rd rfl rfl rfl (Rd.nilc rfl rfl) ?_
  refine WL.rd rfl rfl rfl ((by exact Rd.field rfl F51_3 rfl rfl)) ?_
  refine WL.op rfl ?_
  refine OpW.store1 rfl Z4 rfl rfl (by exact ⟨rfl, rfl⟩) Z.T (by (simp; done)) rfl ?_
  refine WL.rd rfl rfl rfl (Rd.nilc rfl rfl) ?_
  refine WL.rd rfl rfl rfl ((by exact Rd.field rfl F51_2 rfl rfl)) ?_
  refine WL.op rfl ?_
  refine OpW.store1 rfl Z44 rfl rfl (by exact ⟨rfl, rfl⟩) Z.T (by (simp; done)) rfl ?_
  refine WL.heap (R' := R) (O' := dO d ⟨V.lv, V.sv, V.kv, none⟩ (onS s) O) (fun w h => by
  have g1 := h.emp (cutC none 0 V.kv) rfl (fun _ => trivial)
  exact Z.Fw g1) ?_
  refine WL.nil ?_
  refine Ret.normal (Ret.zero Tryz.results11 ?_)
  exact hk ⟨by simp [onS], hv.lv, hv.sv, hv.kv⟩
 ·
  simp at hc1
end
end Go.Proofs.YtckokhdjeifomaaGreatDoor
namespace Go.Proofs.YtckokhdjeifomaaGreatDoor
open Go Go.SL
section
variable {R : List RO} {O : List Own} {POST : Value → List RO → List Own → Prop} {d m : Nat} {V : DV} {s : DSt}
set_option maxHeartbeats 1000000 in
set_option maxRecDepth 20000 in
theorem read_spec {i : Int} (ok : DOk s 4294967296) (hk : POST (.tuple #[vs (readE s i).1, .int .i64 ((readE s i).2 : Nat)]) R (dO d V s O)) : Fun Tryz.prog 21 #[dp d, .int .i64 i] R (dO d V s O) POST := by
 have hsl := ok.since
 have hll := ok.lasts
 refine Fun.enter (l := [_, _]) Tryz.func21 rfl Tryz.ntmps21 rfl (L0 := [(0, _), (1, _)]) rfl ?_
 refine WC.seq ?_
 refine WC.region ?_
 refine WL.rd rfl rfl rfl (Rd.assign rfl rfl) ?_
 refine WL.rd rfl rfl rfl (Rd.assign rfl rfl) ?_
 refine WL.nil ?_
 refine thenQ.normal ?_
 refine WC.seq ?_
 refine WC.block ?_
 refine WC.seq ?_
 refine WC.region ?_
 refine WL.rd rfl rfl rfl (Rd.move rfl rfl) ?_
 refine WL.rd rfl rfl rfl (Rd.move rfl rfl) ?_
 refine WL.op rfl ?_
 refine OpW.call rfl rfl Z.E Z.K rfl rfl rfl ?_
 refine has_spec ?_
 refine WL.say 10 (u := .bool (decide (hasB s i = true))) rfl (by simp) ?_
 refine WL.rd rfl rfl rfl ((by exact Rd.notd rfl rfl)) ?_
 refine WL.rd rfl rfl rfl (Rd.assign rfl rfl) ?_
 refine WL.nil ?_
 refine thenQ.normal ?_
 refine WC.ite rfl (fun hc1 => ?_) (fun hc1 => ?_)
 ·
  refine WC.seq ?_
  refine WC.region ?_
  refine WL.rd rfl rfl rfl (Rd.assign rfl rfl) ?_
  refine WL.rd rfl rfl rfl (Rd.assign rfl rfl) ?_
  refine WL.nil ?_
  refine thenQ.normal ?_
  refine WC.ret (Ret.two Tryz.results21 rfl rfl ?_)
  unfold readE at hk
  rw [if_pos hc1] at hk
  exact hk
 ·
  refine WC.seq ?_
  refine WC.region ?_
  refine WL.rd rfl rfl rfl (Rd.move rfl rfl) ?_
  refine WL.rd rfl rfl rfl (Rd.nilc rfl rfl) ?_
  refine WL.rd rfl rfl rfl ((by exact Rd.field rfl F51_3 rfl rfl)) ?_
  refine WL.rd rfl rfl rfl (Rd.row1 (off := 3) rfl C4 rfl List.mem_cons_self rfl) ?_
  refine WL.rd rfl rfl rfl (Rd.assign rfl rfl) ?_
  refine WL.nil ?_
  refine thenQ.normal ?_
  refine WC.cond rfl (fun hc2 => ?_) (fun hc2 => ?_)
  ·
   refine WC.seq ?_
   refine WC.region ?_
   refine WL.rd rfl rfl rfl (Rd.assign rfl rfl) ?_
   refine WL.rd rfl rfl rfl (Rd.assign rfl rfl) ?_
   refine WL.nil ?_
   refine thenQ.normal ?_
   refine WC.ret (Ret.two Tryz.results21 rfl rfl ?_)
   unfold readE at hk
   rw [if_neg hc1, if_pos hc2] at hk
   exact hk
  ·
   obtain ⟨h1, h2⟩ := has_iff (Decidable.not_not.1 hc1)
   have hfin : readE s i = (lookN s i.toNat s.since.length, 0) := by
    unfold readE
    rw [if_neg hc1, if_neg (by rw [hc2]; simp)]
   rw [hfin] at hk
   refine WC.skip ?_
   refine blockQ.normal ?_
   refine thenQ.normal ?_
   refine WC.seq ?_
   refine WC.seq ?_
   refine WC.region ?_
   refine WL.rd rfl rfl rfl (Rd.move rfl rfl) ?_
   refine WL.rd rfl rfl rfl (Rd.nilc rfl rfl) ?_
   refine WL.rd rfl rfl rfl ((by exact Rd.field rfl F51_1 rfl rfl)) ?_
   refine WL.rd rfl rfl rfl (Rd.row1 (off := 1) rfl C43 rfl List.mem_cons_self rfl) ?_
   refine WL.rd rfl rfl rfl (Rd.lenA (enc := encW) rfl rfl Tryz.underlying43 (xs := s.since) (e' := 96) Z.M) ?_
   refine WL.rd rfl rfl rfl (Rd.sub rfl rfl rfl Z.W) ?_
   refine WL.rd rfl rfl rfl (Rd.assign rfl rfl) ?_
   refine WL.nil ?_
   refine thenQ.normal ?_
   refine WC.block ?_
   refine WC.pick [6, 0, 1] Z.P ?_
   refine WC.loop1o 1 (fun (k : Nat) => [(6, .int .i64 ((k : Int) - 1))]) (fun (k : Nat) => k ≤ s.since.length ∧ lookN s i.toNat s.since.length = lookN s i.toNat k) (fun (k : Nat) => k) (s.since.length) Z.L ?hinv1 (by repeat (first | exact Sub.nil | refine Sub.cons rfl (by rfl) ?_)) (fun _ h => h) ?_
   case hinv1 =>
    exact ⟨Nat.le_refl _, rfl⟩
   intro k
   rintro ⟨i1, i2⟩
   refine WC.seq ?_
   refine WC.seq ?_
   refine WC.region ?_
   refine WL.rd rfl rfl rfl (Rd.move rfl rfl) ?_
   refine WL.rd rfl rfl rfl (Rd.geq rfl rfl rfl) ?_
   refine WL.nil ?_
   refine thenQ.normal ?_
   refine WC.ite rfl (fun hc3 => ?_) (fun hc3 => ?_)
   ·
    obtain ⟨j, rfl⟩ : ∃ j, k = j + 1 := ⟨k - 1, by omega⟩
    rw [lookN_succ] at i2
    refine WC.skip ?_
    refine thenQ.normal ?_
    refine WC.seq ?_
    refine WC.block ?_
    refine WC.seq ?_
    refine WC.region ?_
    refine WL.rd rfl rfl rfl (Rd.move rfl rfl) ?_
    refine WL.rd rfl rfl rfl (Rd.nilc rfl rfl) ?_
    refine WL.rd rfl rfl rfl ((by exact Rd.field rfl F51_1 rfl rfl)) ?_
    refine WL.rd rfl rfl rfl (Rd.row1 (off := 1) rfl C43 rfl List.mem_cons_self rfl) ?_
    refine WL.rd rfl rfl rfl (Rd.move rfl rfl) ?_
    refine WL.rd rfl rfl rfl (Rd.idxA (k := j) rfl S43 rfl rfl Z.W (enc := encW) (xs := s.since) (e' := 96) Z.M Z.W) ?_
    refine WL.rd rfl rfl rfl (Rd.fieldA (enc := encW) (xs := s.since) (e' := 96) rfl F96_0 rfl Z.M Z.W) ?_
    refine WL.rd rfl rfl rfl (Rd.getFA (k := j) (f := 0) (enc := encW) (xs := s.since) (e' := 96) rfl C3 rfl Z.M (fun _ => rfl) rfl (get!_of_lt Z.W) rfl) ?_
    refine WL.rd rfl rfl rfl (Rd.move rfl rfl) ?_
    refine WL.rd rfl rfl rfl (Rd.eql rfl rfl rfl) ?_
    refine WL.nil ?_
    refine thenQ.normal ?_
    refine WC.ite rfl (fun hc4 => ?_) (fun hc4 => ?_)
    ·
     refine WC.seq ?_
     refine WC.region ?_
     refine WL.rd rfl rfl rfl (Rd.move rfl rfl) ?_
     refine WL.rd rfl rfl rfl (Rd.nilc rfl rfl) ?_
     refine WL.rd rfl rfl rfl ((by exact Rd.field rfl F51_1 rfl rfl)) ?_
     refine WL.rd rfl rfl rfl (Rd.row1 (off := 1) rfl C43 rfl List.mem_cons_self rfl) ?_
     refine WL.rd rfl rfl rfl (Rd.move rfl rfl) ?_
     refine WL.rd rfl rfl rfl (Rd.idxA (k := j) rfl S43 rfl rfl Z.W (enc := encW) (xs := s.since) (e' := 96) Z.M Z.W) ?_
     refine WL.rd rfl rfl rfl (Rd.fieldA (enc := encW) (xs := s.since) (e' := 96) rfl F96_1 rfl Z.M Z.W) ?_
     refine WL.rd rfl rfl rfl (Rd.getFA (k := j) (f := 1) (enc := encW) (xs := s.since) (e' := 96) rfl C9 rfl Z.M (fun _ => rfl) rfl (get!_of_lt Z.W) rfl) ?_
     refine WL.rd rfl rfl rfl (Rd.assign rfl rfl) ?_
     refine WL.rd rfl rfl rfl (Rd.assign rfl rfl) ?_
     refine WL.nil ?_
     refine thenQ.normal ?_
     refine WC.ret (Ret.two Tryz.results21 rfl rfl ?_)
     rw [if_pos Z.W] at i2
     rw [i2] at hk
     exact hk
    ·
     refine WC.skip ?_
     refine blockQ.normal ?_
     refine thenQ.normal ?_
     refine WC.region ?_
     refine WL.rd rfl rfl rfl (Rd.move rfl rfl) ?_
     refine WL.rd rfl rfl rfl (Rd.sub rfl rfl rfl Z.W) ?_
     refine WL.rd rfl rfl rfl (Rd.assign rfl rfl) ?_
     refine WL.nil ?_
     exact loopQ1.mk j ⟨by omega, by rw [if_neg Z.W] at i2; exact i2⟩ Z.W (by repeat (first | exact Sub.nil | refine Sub.cons rfl (by first | rfl | (congr 1; omega)) ?_)) Z.F
   ·
    obtain rfl : k = 0 := by omega
    have i3 : lookN s i.toNat s.since.length = s.lasts[i.toNat]! := i2
    refine WC.exit ?_
    refine thenQ.exit ?_
    refine loopQ1.exit ?_
    refine blockQ.exit ?_
    refine thenQ.normal ?_
    refine WC.seq ?_
    refine WC.region ?_
    refine WL.rd rfl rfl rfl (Rd.move rfl rfl) ?_
    refine WL.rd rfl rfl rfl (Rd.nilc rfl rfl) ?_
    refine WL.rd rfl rfl rfl ((by exact Rd.field rfl F51_0 rfl rfl)) ?_
    refine WL.rd rfl rfl rfl (Rd.row1 (off := 0) rfl C40 rfl List.mem_cons_self rfl) ?_
    refine WL.rd rfl rfl rfl (Rd.move rfl rfl) ?_
    refine WL.rd rfl rfl rfl (Rd.idxA1 (k := i.toNat) rfl S40 rfl rfl h2.symm (enc := SL.one vs) (xs := s.lasts) (e' := 9) Z.M h1) ?_
    refine WL.rd rfl rfl rfl (Rd.getA (k := i.toNat) (g := vs) (xs := s.lasts) (e' := 9) rfl C9 rfl Z.M (get!_of_lt h1)) ?_
    refine WL.rd rfl rfl rfl (Rd.assign rfl rfl) ?_
    refine WL.rd rfl rfl rfl (Rd.assign rfl rfl) ?_
    refine WL.nil ?_
    refine thenQ.normal ?_
    refine WC.ret (Ret.two Tryz.results21 rfl rfl ?_)
    rw [i3] at hk
    exact hk
set_option maxHeartbeats 1000000 in
set_option maxRecDepth 20000 in
theorem fail_spec {keep : List Int} {kv : Value} (ok : DOk s m) (hm : m ≤ 4294967296) (hvl : OneV V.lv) (hvk : OneV V.kv) (hkeep : SlE (SL.one vi) kv keep ∈ R)
 (hk : VOk ⟨V.lv, .slice none 0 0, V.kv, none⟩ (failS s keep) → POST (.tuple #[]) R (dO d ⟨V.lv, .slice none 0 0, V.kv, none⟩ (failS s keep) O)) : Fun Tryz.prog 76 #[dp d, kv] R (dO d V s O) POST := by
 refine Fun.len hkeep fun hkl => ?_
 have hsl := ok.since
 have hat : ∀ k, k < s.since.length → s.since[k]!.1 < s.lasts.length := fun k hk => by
  rw [getElem!_pos s.since k hk]; exact ok.at_ _ (List.getElem_mem _)
 refine Fun.enter (l := [_, _]) Tryz.func76 rfl Tryz.ntmps76 rfl (L0 := [(0, _), (1, _)]) rfl ?_
 refine WC.seq ?_
 refine WC.seq ?_
 refine WC.region ?_
 refine WL.rd rfl rfl rfl (Rd.move rfl rfl) ?_
 refine WL.rd rfl rfl rfl (Rd.nilc rfl rfl) ?_
 refine WL.rd rfl rfl rfl ((by exact Rd.field rfl F51_1 rfl rfl)) ?_
 refine WL.rd rfl rfl rfl (Rd.row1 (off := 1) rfl C43 rfl List.mem_cons_self rfl) ?_
 refine WL.rd rfl rfl rfl (Rd.lenA (enc := encW) rfl rfl Tryz.underlying43 (xs := s.since) (e' := 96) Z.M) ?_
 refine WL.rd rfl rfl rfl (Rd.move rfl rfl) ?_
 refine WL.nil ?_
 refine thenQ.normal ?_
 refine WC.block ?_
 refine WC.pick [11, 0, 1, 9, 10] Z.P ?_
 refine WC.loop1 1 (fun (k : Nat) => [(11, .int .i64 (k : Int))]) (fun (k : Nat) => dRow d V s :: accC 9 1 (SL.one vs) V.lv (failN s.since keep s.lasts k) :: accC 96 2 encW V.sv s.since :: cutC V.cb s.left V.kv :: O) (fun (k : Nat) => k ≤ s.since.length) (fun (k : Nat) => s.since.length - k) (0) Z.L ?hinv1 (by repeat (first | exact Sub.nil | refine Sub.cons rfl (by rfl) ?_)) (fun _ h => h) ?_
 case hinv1 =>
  exact Nat.zero_le _
 intro k
 rintro i1
 refine WC.seq ?_
 refine WC.region ?_
 refine WL.rd rfl rfl rfl (Rd.lss rfl rfl rfl) ?_
 refine WL.nil ?_
 refine thenQ.normal ?_
 refine WC.seq ?_
 refine WC.ite rfl (fun hc1 => ?_) (fun hc1 => ?_)
 ·
  have hatk := hat k Z.W
  have hfl := failN_len s.since keep s.lasts k
  have hfs := failN_succ s.since keep s.lasts k
  refine WC.skip ?_
  refine thenQ.normal ?_
  refine WC.seq ?_
  refine WC.block ?_
  refine WC.seq ?_
  refine WC.region ?_
  refine WL.rd rfl rfl rfl (Rd.move rfl rfl) ?_
  refine WL.rd rfl rfl rfl (Rd.idxA (k := k) rfl S43 rfl rfl rfl (enc := encW) (xs := s.since) (e' := 96) Z.M Z.W) ?_
  refine WL.rd rfl rfl rfl (Rd.getSA (k := k) (cs := [.int .i64 (s.since[k]!.1 : Int), vs s.since[k]!.2]) (enc := encW) (xs := s.since) (e' := 96) rfl G96 rfl Z.M (fun _ => rfl) (get!_of_lt Z.W) Z.N) ?_
  refine WL.op rfl ?_
  refine OpW.alloc rfl I96 rfl Z.N rfl rfl ?_; intro b5
  refine WL.rd rfl rfl rfl (Rd.assign rfl rfl) ?_
  refine WL.op rfl ?_
  refine OpW.storeS rfl G96 rfl rfl Z.N Z.T rfl rfl Z.N rfl ?_
  refine WL.nil ?_
  refine thenQ.normal ?_
  refine WC.pick [0, 1, 4, 5, 9, 10, 11] Z.P ?_
  refine WC.val 29 (.bool (decide (oddB keep k = true))) ?_ ?_
  ·
   refine WC.region ?_
   refine WL.rd rfl rfl rfl (Rd.move rfl rfl) ?_
   refine WL.rd rfl rfl rfl ((by exact Rd.lenE rfl rfl Tryz.underlying23 Z.M)) ?_
   refine WL.rd rfl rfl rfl (Rd.gtr rfl rfl rfl) ?_
   refine WL.rd rfl rfl rfl (Rd.move rfl rfl) ?_
   refine WL.case 19 rfl (fun hg19 => ?_) (fun hg19 => ?_)
   ·
    refine WL.rd_yes rfl rfl rfl rfl rfl rfl (Rd.move rfl rfl) ?_
    refine WL.rd_yes rfl rfl rfl rfl rfl rfl (Rd.move rfl rfl) ?_
    refine WL.rd_yes rfl rfl rfl rfl rfl rfl (Rd.move rfl rfl) ?_
    refine WL.rd_yes rfl rfl rfl rfl rfl rfl ((by exact Rd.lenE rfl rfl Tryz.underlying23 Z.M)) ?_
    refine WL.rd_yes rfl rfl rfl rfl rfl rfl (Rd.remN (a := k) (b := keep.length) rfl rfl rfl rfl rfl Z.W) ?_
    refine WL.rd_yes rfl rfl rfl rfl rfl rfl (Rd.idx1 (k := k % keep.length) rfl S23 rfl rfl rfl hkeep (Nat.mod_lt _ Z.W)) ?_
    refine WL.rd_yes rfl rfl rfl rfl rfl rfl (Rd.get (k := k % keep.length) rfl C3 rfl hkeep (get!_of_lt (Nat.mod_lt _ Z.W))) ?_
    refine WL.rd_yes rfl rfl rfl rfl rfl rfl (Rd.andm (m := 1) rfl rfl rfl rfl (by decide)) ?_
    refine WL.rd_yes rfl rfl rfl rfl rfl rfl (Rd.eql rfl rfl rfl) ?_
    refine WL.say 28 (u := .bool (decide (keep[k % keep.length]! % 2 = 1))) rfl (by rw [land1]; congr 1; rw [decide_eq_decide]; omega) ?_
    refine WL.rd rfl rfl rfl (Rd.pick_t rfl rfl rfl) ?_
    refine WL.nil ?_
    exact ⟨by repeat (first | exact Sub.nil | refine Sub.cons rfl (by first | rfl | ((have h9 : 0 < keep.length := by omega); simp [oddB, h9])) ?_), by exact (fun _ h => h.thin (SubL.mem Z.S))⟩
   ·
    refine WL.no rfl rfl rfl rfl rfl rfl ?_
    refine WL.no rfl rfl rfl rfl rfl rfl ?_
    refine WL.no rfl rfl rfl rfl rfl rfl ?_
    refine WL.no rfl rfl rfl rfl rfl rfl ?_
    refine WL.no rfl rfl rfl rfl rfl rfl ?_
    refine WL.no rfl rfl rfl rfl rfl rfl ?_
    refine WL.no rfl rfl rfl rfl rfl rfl ?_
    refine WL.no rfl rfl rfl rfl rfl rfl ?_
    refine WL.no rfl rfl rfl rfl rfl rfl ?_
    refine WL.rd rfl rfl rfl (Rd.pick_f rfl rfl rfl) ?_
    refine WL.nil ?_
    exact ⟨by repeat (first | exact Sub.nil | refine Sub.cons rfl (by first | rfl | ((have h9 : keep.length = 0 := by omega); simp [oddB, h9])) ?_), by exact (fun _ h => h.thin (SubL.mem Z.S))⟩
  ·
   refine WC.ite rfl (fun hc2 => ?_) (fun hc2 => ?_)
   ·
    refine WC.tail 9 mixed Z.K ?_
    refine WS.rd rfl rfl rfl (Rd.move rfl rfl) ?_
    refine WS.rd rfl rfl rfl (Rd.nilc rfl rfl) ?_
    refine WS.rd rfl rfl rfl ((by exact Rd.field rfl F51_0 rfl rfl)) ?_
    refine WS.rd rfl rfl rfl (Rd.row1 (off := 0) rfl C40 rfl Z.M rfl) ?_
    refine WS.rd rfl rfl rfl ((by exact Rd.field rfl F96_0 rfl rfl)) ?_
    refine WS.rd rfl rfl rfl (Rd.row1 (off := 0) rfl C3 rfl List.mem_cons_self rfl) ?_
    refine WS.rd rfl rfl rfl ((by exact Rd.field rfl F96_1 rfl rfl)) ?_
    refine WS.rd rfl rfl rfl (Rd.row1 (off := 1) rfl C9 rfl List.mem_cons_self rfl) ?_
    refine WS.rd rfl rfl rfl (Rd.idxA1 (k := s.since[k]!.1) rfl S40 rfl rfl rfl (enc := SL.one vs) (xs := failN s.since keep s.lasts k) (e' := 9) Z.M Z.W) ?_
    refine WS.switch ?_
    refine WL.op rfl ?_
    refine OpW.storeAcc (k := s.since[k]!.1) (a := s.since[k]!.2) (g := vs) rfl Z9 rfl rfl rfl rfl Z.T Z.W rfl ?_
    refine WL.nil ?_
    refine blockQ.normal ?_
    refine thenQ.normal ?_
    refine WC.region ?_
    refine WL.rd rfl rfl rfl (Rd.add rfl rfl rfl Z.W) ?_
    refine WL.rd rfl rfl rfl (Rd.move rfl rfl) ?_
    refine WL.nil ?_
    exact loopQ1.mk (k + 1) Z.W Z.W (by repeat (first | exact Sub.nil | refine Sub.cons rfl (by rfl) ?_)) (fun w h => by rw [hfs, if_pos hc2]; exact Z.Fw h)
   ·
    refine WC.skip ?_
    refine blockQ.normal ?_
    refine thenQ.normal ?_
    refine WC.region ?_
    refine WL.rd rfl rfl rfl (Rd.add rfl rfl rfl Z.W) ?_
    refine WL.rd rfl rfl rfl (Rd.move rfl rfl) ?_
    refine WL.nil ?_
    exact loopQ1.mk (k + 1) Z.W Z.W (by repeat (first | exact Sub.nil | refine Sub.cons rfl (by rfl) ?_)) (fun w h => by rw [hfs, if_neg hc2]; exact Z.Fw h)
 ·
  refine WC.exit ?_
  refine thenQ.exit ?_
  refine loopQ1.exit ?_
  refine blockQ.exit ?_
  refine thenQ.normal ?_
  refine WC.region ?_
  refine WL.rd rfl rfl rfl (Rd.move rfl rfl) ?_
  refine WL.rd rfl rfl rfl (Rd.move rfl rfl) ?_
  refine WL.rd rfl rfl rfl (Rd.move rfl rfl) ?_
  refine WL.rd rfl rfl rfl (Rd.nilc rfl rfl) ?_
  refine WL.rd rfl rfl rfl ((by exact Rd.field rfl F51_1 rfl rfl)) ?_
  refine WL.op rfl ?_
  refine OpW.store1 rfl Z43 rfl rfl (by exact ⟨rfl, rfl⟩) Z.T (by (simp; done)) rfl ?_
  refine WL.rd rfl rfl rfl (Rd.nilc rfl rfl) ?_
  refine WL.rd rfl rfl rfl ((by exact Rd.field rfl F51_2 rfl rfl)) ?_
  refine WL.op rfl ?_
  refine OpW.store1 rfl Z44 rfl rfl (by exact ⟨rfl, rfl⟩) Z.T (by (simp; done)) rfl ?_
  refine WL.rd rfl rfl rfl (Rd.nilc rfl rfl) ?_
  refine WL.rd rfl rfl rfl ((by exact Rd.field rfl F51_3 rfl rfl)) ?_
  refine WL.op rfl ?_
  refine OpW.store1 rfl Z4 rfl rfl (by exact ⟨rfl, rfl⟩) Z.T (by (simp; done)) rfl ?_
  obtain rfl : k = s.since.length := by omega
  refine WL.heap (R' := R) (O' := dO d ⟨V.lv, .slice none 0 0, V.kv, none⟩ (failS s keep) O) (fun w h => by
   have g1 := h.emp (cutC none 0 V.kv) rfl (fun _ => trivial)
   have g2 := g1.accNil (α := Nat × List UInt8) (e := 96) (size := 2) (enc := encW)
   exact Z.Fw g2) ?_
  refine WL.nil ?_
  refine Ret.normal (Ret.zero Tryz.results76 ?_)
  exact hk ⟨⟨fun _ => rfl, fun _ => rfl⟩, hvl, OneV.sl, hvk⟩
end
end Go.Proofs.YtckokhdjeifomaaGreatDoor
