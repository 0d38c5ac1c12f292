/-
  Part 3 of the texts that the law TopTokens is proved with: Mg8, Mg9, Shelf, Mg10, Ret, Mg11, Bld, Mg12, Rng, Srt, It, Vo1. No premise.
-/
import Derived.Test.YtkobjfjmkhmehaaGreatDoorZ2
import Derived.Shelf.Strings.Builder1
import Derived.Shelf.Strings.Builder2
import Derived.Shelf.Small.Bits
import Derived.Shelf.Small.Wraps
import Derived.Shelf.Strings.BuilderF
import Derived.Shelf.Strings.BuilderK
import Derived.Shelf.Strings.Builder2Cap
import Derived.Shelf.Strconv.Atoi
import Derived.Shelf.Strconv.Itoa0
import Derived.Shelf.Strconv.Itoa1
import Derived.Shelf.LaysM
import Derived.Shelf.Strconv.Itoa2
import Derived.Shelf.Strconv.Itoa3
import Derived.Shelf.Strconv.AtoiErrFast
import Derived.Shelf.Strconv.ParseIntEmpty
import Derived.Shelf.Strconv.AtoiFail
import Derived.Shelf.Strconv.Clone
import Derived.Shelf.Strconv.SyntaxError
import Derived.Shelf.LaysC
import Derived.Shelf.Strconv.ToError
import Derived.Shelf.Strconv.AtoiErr
import Derived.Shelf.Strconv.ErrVar
import Derived.Shelf.Strconv.Lower
import Derived.Shelf.Strconv.ParseUint10
import Derived.Shelf.Strconv.ParseUint10Empty
import Derived.Shelf.Strconv.ParseUint10Any
import Derived.Shelf.Strconv.ParseInt10
import Derived.Shelf.Strconv.AtoiLong
import Derived.Shelf.Strconv.AtoiInnerAll
import Derived.Shelf.Strconv.RangeError
import Derived.Shelf.Strconv.ToErrorRange
import Derived.Shelf.Strconv.AtoiAll
import Derived.Shelf.Strconv.ErrVarAll
import Derived.Shelf.Strconv.ParseUintEmpty
import Derived.Shelf.Strconv.ParseUint10b64
import Derived.Shelf.Strconv.ParseUint10b32
import Derived.Shelf.Strconv.ParseUint10b16
import Derived.Shelf.Strconv.ParseUint10b8
import Derived.Shelf.Strconv.ParseUint10At
import Derived.Shelf.Strconv.ParseInt10At64
import Derived.Shelf.Strconv.ParseInt10At32
import Derived.Shelf.Strconv.ParseInt10At16
import Derived.Shelf.Strconv.ParseInt10At8
import Derived.Shelf.Strconv.ParseInt10All
import Derived.Shelf.Strings.Search1
import Derived.Shelf.Strings.Search2
import Derived.Shelf.Strings.Cut
import Derived.Shelf.Strings.Shaped
import Derived.Shelf.Sort.Plain
import Derived.Shelf.GgClosure.StringsIndexFunc
import Derived.Ground.GgwProg
import Derived.Shelf.GgClosure.StringsIndexFuncTop
import Derived.Shelf.GgClosure.StringsRunes
import Derived.Shelf.Strings.Prefix
import Derived.Shelf.Bits.Mul64
import Derived.Shelf.Strings.Repeat
import Derived.Shelf.Strings.FuncGrows
import Derived.Shelf.Strings.BuilderCap
import Derived.Ground.Names2Prog
import Derived.Shelf.Slices.SearchI
import Derived.Shelf.Slices.In.SortNone
import Derived.Test.YtkobjfjmkhmehaaGreatDoorProg
import Derived.Maps.RangeRun
import Derived.Maps.Own
import Derived.Sort.KeysCollected
import Derived.Sort.Row
import Derived.Sort.Grow
import Derived.Lib.SlicesCompact
import Derived.Lib.Itoa
import Derived.Lib.AtoiAll
namespace Go.Proofs.YtkobjfjmkhmehaaGreatDoor.Mg
open Go Go.SL
set_option maxRecDepth 20000 in
theorem gone_spec {R : List RO} {O : List Own} {POST : Value → List RO → List Own → Prop} {s : T} (hk : POST (.bool (decide (s = []))) R O) : Fun Tryz.prog 42 #[vs s] R O POST := by
 refine Fun.enter (l := [_]) Tryz.func42 rfl Tryz.ntmps42 rfl (L0 := [(0, _)]) rfl ?_
 refine WC.seq ?_
 refine WC.region ?_
 refine WL.rd rfl rfl rfl (Rd.assign rfl rfl) ?_
 refine WL.nil ?_
 refine thenQ.normal ?_
 refine WC.seq ?_
 refine WC.region ?_
 refine WL.rd rfl rfl rfl (Rd.move rfl rfl) ?_
 refine WL.rd rfl rfl rfl (Rd.seql rfl rfl rfl) ?_
 refine WL.rd rfl rfl rfl (Rd.assign rfl rfl) ?_
 refine WL.nil ?_
 refine thenQ.normal ?_
 refine WC.ret (Ret.one Tryz.results42 rfl ?_)
 exact hk
set_option maxRecDepth 20000 in
theorem findGone_spec {R : List RO} {O : List Own} {POST : Value → List RO → List Own → Prop} {xs : List T} {v : Value} (hx : accT v xs ∈ O) (hl : xs.length ≤ 4294967296)
 (hk : ∀ k : Int, ((k = -1 ∧ ∀ j, j < xs.length → xs[j]! ≠ []) ∨ ∃ i : Nat, k = i ∧ i < xs.length ∧ (∀ j, j < i → xs[j]! ≠ []) ∧ xs[i]! = []) → POST (.int .i64 k) R O) :
 Fun Tryz.prog 76 #[v, .func (.func 42) #[] #[]] R O POST := by
 refine Fun.enter (l := [_, _]) Tryz.func76 rfl Tryz.ntmps76 rfl (L0 := [(0, _), (1, _)]) rfl ?_
 refine WC.seq ?_
 refine WC.region ?_
 refine WL.rd rfl rfl rfl (Rd.assign rfl rfl) ?_
 refine WL.nil ?_
 refine thenQ.normal ?_
 refine WC.seq ?_
 refine WC.seq ?_
 refine WC.region ?_
 refine WL.rd rfl rfl rfl (Rd.move rfl rfl) ?_
 refine WL.rd rfl rfl rfl (Rd.lenA (enc := SL.one vs) (xs := xs) rfl rfl Tryz.underlying85 hx) ?_
 refine WL.rd rfl rfl rfl (Rd.move rfl rfl) ?_
 refine WL.nil ?_
 refine thenQ.normal ?_
 refine WC.block ?_
 refine WC.pick [8, 0, 1, 7] Z.P ?_
 refine WC.loop1o 1 (fun (j : Nat) => [(8, vi j)]) (fun (j : Nat) => j ≤ xs.length ∧ ∀ i, i < j → xs[i]! ≠ []) (fun (j : Nat) => xs.length - j) (0) Z.L ?hinv1 (by repeat (first | exact Sub.nil | refine Sub.cons rfl (by rfl) ?_)) (fun _ h => h) ?_
 case hinv1 =>
  exact ⟨Nat.zero_le _, fun i h => absurd h (Nat.not_lt_zero _)⟩
 intro j
 rintro ⟨i1, i2⟩
 refine WC.seq ?_
 refine WC.region ?_
 refine WL.rd rfl rfl rfl (Rd.lss rfl rfl rfl) ?_
 refine WL.nil ?_
 refine thenQ.normal ?_
 refine WC.seq ?_
 refine WC.ite rfl (fun hc1 => ?_) (fun hc1 => ?_)
 ·
  refine WC.skip ?_
  refine thenQ.normal ?_
  refine WC.seq ?_
  refine WC.block ?_
  refine WC.seq ?_
  refine WC.region ?_
  refine WL.rd rfl rfl rfl (Rd.move rfl rfl) ?_
  refine WL.rd rfl rfl rfl (Rd.assign rfl rfl) ?_
  refine WL.nil ?_
  refine thenQ.normal ?_
  refine WC.seq ?_
  refine WC.region ?_
  refine WL.rd rfl rfl rfl (Rd.move rfl rfl) ?_
  refine WL.rd rfl rfl rfl (Rd.move rfl rfl) ?_
  refine WL.rd rfl rfl rfl (Rd.move rfl rfl) ?_
  refine WL.rd rfl rfl rfl (Rd.idxA1 (enc := SL.one vs) (xs := xs) (k := j) rfl S85 rfl rfl rfl hx Z.W) ?_
  refine WL.rd rfl rfl rfl (Rd.getA (g := vs) (xs := xs) (k := j) rfl C9 rfl hx (get!_of_lt Z.W)) ?_
  refine WL.op rfl ?_
  refine OpW.call rfl rfl Z.E Z.K rfl rfl rfl ?_
  refine gone_spec ?_
  refine WL.nil ?_
  refine thenQ.normal ?_
  refine WC.ite rfl (fun hc2 => ?_) (fun hc2 => ?_)
  ·
   refine WC.seq ?_
   refine WC.region ?_
   refine WL.rd rfl rfl rfl (Rd.move rfl rfl) ?_
   refine WL.rd rfl rfl rfl (Rd.assign rfl rfl) ?_
   refine WL.nil ?_
   refine thenQ.normal ?_
   refine WC.ret (Ret.one Tryz.results76 rfl ?_)
   exact hk _ (.inr ⟨j, rfl, by omega, i2, hc2⟩)
  ·
   refine WC.skip ?_
   refine blockQ.normal ?_
   refine thenQ.normal ?_
   refine WC.region ?_
   refine WL.rd rfl rfl rfl (Rd.add rfl rfl rfl Z.W) ?_
   refine WL.rd rfl rfl rfl (Rd.move rfl rfl) ?_
   refine WL.nil ?_
   exact loopQ1.mk (j + 1) ⟨by omega, fun i hi => by
   rcases Nat.lt_or_ge i j with h | h
   · exact i2 i h
   · obtain rfl : i = j := by omega
     exact hc2⟩ Z.W (by repeat (first | exact Sub.nil | refine Sub.cons rfl (by rfl) ?_)) Z.F
 ·
  refine WC.exit ?_
  refine thenQ.exit ?_
  refine loopQ1.exit ?_
  refine blockQ.exit ?_
  refine thenQ.normal ?_
  refine WC.seq ?_
  refine WC.region ?_
  refine WL.rd rfl rfl rfl (Rd.assign rfl rfl) ?_
  refine WL.nil ?_
  refine thenQ.normal ?_
  refine WC.ret (Ret.one Tryz.results76 rfl ?_)
  exact hk _ (.inl ⟨rfl, fun i hi => i2 i Z.W⟩)
def stays (s : T) : Bool := decide (s ≠ [])
theorem filter_all {p : T → Bool} {xs : List T} (h : ∀ j, j < xs.length → p xs[j]! = true) : xs.filter p = xs := by
 rw [List.filter_eq_self]
 intro a ha
 obtain ⟨j, hj, rfl⟩ := List.getElem_of_mem ha
 have := h j hj
 rwa [getElem!_pos xs j hj] at this
theorem filter_next (p : T → Bool) {xs : List T} {j : Nat} (h : j < xs.length) : (xs.take (j + 1)).filter p = (xs.take j).filter p ++ if p xs[j]! then [xs[j]!] else [] := by
 rw [List.take_add_one, get!_of_lt h, List.filter_append]
 simp only [Option.toList_some, List.filter_cons, List.filter_nil]
theorem drop_get {α : Type} [Inhabited α] {l : List α} {j : Nat} (h : j < l.length) : l.drop j = l[j]! :: l.drop (j + 1) := by
 rw [List.drop_eq_getElem_cons h, getElem!_pos l j h]
theorem drop_at {ys xs : List T} {j : Nat} (hl : ys.length = xs.length) (hj : j < xs.length) (h : ys.drop j = xs.drop j) : ys[j]! = xs[j]! ∧ ys.drop (j + 1) = xs.drop (j + 1) := by
 rw [drop_get (l := ys) Z.W, drop_get hj, List.cons.injEq] at h
 exact h
set_option maxRecDepth 20000 in
set_option maxHeartbeats 1000000 in
theorem delete_spec {R : List RO} {O : List Own} {POST : Value → List RO → List Own → Prop} {xs : List T} {v : Value} (hl : xs.length ≤ 4294967296)
 (hk : ∀ u, POST u R (accT u (xs.filter stays) :: O)) : Fun Tryz.prog 41 #[v, .func (.func 42) #[] #[]] R (accT v xs :: O) POST := by
 obtain ⟨p, hp⟩ : ∃ p, p = stays := ⟨_, rfl⟩
 refine Fun.enter (l := [_, _]) Tryz.func41 rfl Tryz.ntmps41 rfl (L0 := [(0, _), (1, _)]) rfl ?_
 refine WC.seq ?_
 refine WC.region ?_
 refine WL.rd rfl rfl rfl (Rd.assign rfl rfl) ?_
 refine WL.nil ?_
 refine thenQ.normal ?_
 refine WC.seq ?_
 refine WC.region ?_
 refine WL.rd rfl rfl rfl (Rd.move rfl rfl) ?_
 refine WL.rd rfl rfl rfl (Rd.move rfl rfl) ?_
 refine WL.op rfl ?_
 refine OpW.call rfl rfl Z.E Z.K rfl rfl rfl ?_
 refine findGone_spec List.mem_cons_self hl ?_; intro k hk10
 refine WL.rd rfl rfl rfl (Rd.assign rfl rfl) ?_
 refine WL.nil ?_
 refine thenQ.normal ?_
 refine WC.seq ?_
 refine WC.seq ?_
 refine WC.region ?_
 refine WL.rd rfl rfl rfl (Rd.move rfl rfl) ?_
 refine WL.rd rfl rfl rfl (Rd.eql rfl rfl rfl) ?_
 refine WL.nil ?_
 refine thenQ.normal ?_
 refine WC.ite rfl (fun hc1 => ?_) (fun hc1 => ?_)
 ·
  refine WC.seq ?_
  refine WC.region ?_
  refine WL.rd rfl rfl rfl (Rd.move rfl rfl) ?_
  refine WL.rd rfl rfl rfl (Rd.assign rfl rfl) ?_
  refine WL.nil ?_
  refine thenQ.normal ?_
  refine WC.ret (Ret.one Tryz.results41 rfl ?_)
  have e : xs.filter stays = xs := by
   rcases hk10 with ⟨_, h1⟩ | ⟨i, rfl, _⟩
   · exact filter_all (fun j hj => decide_eq_true (h1 j hj))
   · omega
  have hk' := hk v
  rw [e] at hk'
  exact hk'
 ·
  obtain ⟨i0, rfl, h1, h2, h3⟩ : ∃ i : Nat, k = i ∧ i < xs.length ∧ (∀ j, j < i → xs[j]! ≠ []) ∧ xs[i]! = [] := by
   rcases hk10 with ⟨h1, _⟩ | h1
   · exact absurd h1 hc1
   · exact h1
  have hf0 : (xs.take (i0 + 1)).filter p = xs.take i0 := by
   rw [filter_next p h1, hp, show stays xs[i0]! = false from by rw [h3]; rfl, filter_all (xs := xs.take i0) (fun j hj => by
    rw [List.length_take] at hj
    have := h2 j Z.W
    rw [getElem!_pos _ _ (by rw [List.length_take]; omega), List.getElem_take, ← getElem!_pos xs j Z.W]
    exact decide_eq_true this)]
   simp
  refine WC.skip ?_
  refine thenQ.normal ?_
  refine WC.seq ?_
  refine WC.seq ?_
  refine WC.region ?_
  refine WL.rd rfl rfl rfl (Rd.move rfl rfl) ?_
  refine WL.rd rfl rfl rfl (Rd.add rfl rfl rfl Z.W) ?_
  refine WL.rd rfl rfl rfl (Rd.assign rfl rfl) ?_
  refine WL.nil ?_
  refine thenQ.normal ?_
  refine WC.block ?_
  refine WC.pick [5, 6, 0, 1] Z.P ?_
  refine WC.loop3 2 (fun (i : Nat) (j : Nat) (ys : List T) => [(5, .int .i64 (i : Int)), (6, .int .i64 (j : Int))]) (fun (i : Nat) (j : Nat) (ys : List T) => accT v ys :: O) (fun (i : Nat) (j : Nat) (ys : List T) => i < j ∧ j ≤ xs.length ∧ ys.length = xs.length ∧ ys.take i = (xs.take j).filter p ∧ ys.drop j = xs.drop j) (fun (i : Nat) (j : Nat) (ys : List T) => xs.length - j) (i0) (i0 + 1) (xs) Z.L ?hinv1 (by repeat (first | exact Sub.nil | refine Sub.cons rfl (by rfl) ?_)) (fun _ h => h) ?_
  case hinv1 =>
   exact ⟨by omega, by omega, rfl, hf0.symm, rfl⟩
  intro i j ys
  rintro ⟨i1, i2, i3, i4, i5⟩
  refine WC.seq ?_
  refine WC.seq ?_
  refine WC.region ?_
  refine WL.rd rfl rfl rfl (Rd.move rfl rfl) ?_
  refine WL.rd rfl rfl rfl (Rd.move rfl rfl) ?_
  refine WL.rd rfl rfl rfl (Rd.lenA rfl rfl Tryz.underlying85 List.mem_cons_self) ?_
  refine WL.rd rfl rfl rfl (Rd.lss rfl rfl rfl) ?_
  refine WL.nil ?_
  refine thenQ.normal ?_
  refine WC.ite rfl (fun hc2 => ?_) (fun hc2 => ?_)
  ·
   obtain ⟨d1, d2⟩ := drop_at i3 Z.W i5
   have hfn := filter_next p (xs := xs) (j := j) Z.W
   refine WC.skip ?_
   refine thenQ.normal ?_
   refine WC.seq ?_
   refine WC.block ?_
   refine WC.seq ?_
   refine WC.region ?_
   refine WL.rd rfl rfl rfl (Rd.move rfl rfl) ?_
   refine WL.rd rfl rfl rfl (Rd.move rfl rfl) ?_
   refine WL.rd rfl rfl rfl (Rd.idxA1 (k := j) rfl S85 rfl rfl rfl List.mem_cons_self Z.W) ?_
   refine WL.rd rfl rfl rfl (Rd.getA (k := j) rfl C9 rfl List.mem_cons_self (get!_of_lt Z.W)) ?_
   refine WL.rd rfl rfl rfl (Rd.assign rfl rfl) ?_
   refine WL.nil ?_
   refine thenQ.normal ?_
   refine WC.seq ?_
   refine WC.region ?_
   refine WL.rd rfl rfl rfl (Rd.move rfl rfl) ?_
   refine WL.rd rfl rfl rfl (Rd.move rfl rfl) ?_
   refine WL.op rfl ?_
   refine OpW.call rfl rfl Z.E Z.K rfl rfl rfl ?_
   refine gone_spec ?_
   rw [d1]
   refine WL.rd rfl rfl rfl ((by exact Rd.notd rfl rfl)) ?_
   refine WL.nil ?_
   refine thenQ.normal ?_
   refine WC.ite rfl (fun hc3 => ?_) (fun hc3 => ?_)
   ·
    refine WC.seq ?_
    refine WC.region ?_
    refine WL.rd rfl rfl rfl (Rd.move rfl rfl) ?_
    refine WL.rd rfl rfl rfl (Rd.move rfl rfl) ?_
    refine WL.rd rfl rfl rfl (Rd.move rfl rfl) ?_
    refine WL.rd rfl rfl rfl (Rd.idxA1 (k := i) rfl S85 rfl rfl rfl List.mem_cons_self Z.W) ?_
    refine WL.op rfl ?_
    refine OpW.storeAcc (k := i) (a := xs[j]!) rfl Z9 rfl rfl rfl rfl (Take.head _) Z.W rfl ?_
    refine WL.nil ?_
    refine thenQ.normal ?_
    refine WC.region ?_
    refine WL.rd rfl rfl rfl (Rd.move rfl rfl) ?_
    refine WL.rd rfl rfl rfl (Rd.add rfl rfl rfl Z.W) ?_
    refine WL.rd rfl rfl rfl (Rd.assign rfl rfl) ?_
    refine WL.nil ?_
    refine blockQ.normal ?_
    refine thenQ.normal ?_
    refine WC.region ?_
    refine WL.rd rfl rfl rfl (Rd.move rfl rfl) ?_
    refine WL.rd rfl rfl rfl (Rd.add rfl rfl rfl Z.W) ?_
    refine WL.rd rfl rfl rfl (Rd.assign rfl rfl) ?_
    refine WL.nil ?_
    exact loopQ3.mk (i + 1) (j + 1) (ys.set i xs[j]!) ⟨by omega, by omega, by rw [List.length_set, i3], by
    rw [List.take_add_one, List.take_set_of_le (Nat.le_refl _), i4, hfn, if_pos (by rw [hp]; simpa [stays] using hc3), List.getElem?_set_self Z.W]; rfl, by
    rw [List.drop_set_of_lt Z.W, d2]⟩ Z.W (by repeat (first | exact Sub.nil | refine Sub.cons rfl (by rfl) ?_)) Z.F
   ·
    refine WC.skip ?_
    refine blockQ.normal ?_
    refine thenQ.normal ?_
    refine WC.region ?_
    refine WL.rd rfl rfl rfl (Rd.move rfl rfl) ?_
    refine WL.rd rfl rfl rfl (Rd.add rfl rfl rfl Z.W) ?_
    refine WL.rd rfl rfl rfl (Rd.assign rfl rfl) ?_
    refine WL.nil ?_
    exact loopQ3.mk i (j + 1) ys ⟨by omega, by omega, i3, by rw [i4, hfn, if_neg (by rw [hp]; simpa [stays] using hc3), List.append_nil], d2⟩ Z.W (by repeat (first | exact Sub.nil | refine Sub.cons rfl (by rfl) ?_)) Z.F
  ·
   refine WC.exit ?_
   refine thenQ.exit ?_
   refine loopQ3.exit ?_
   refine blockQ.exit ?_
   refine thenQ.normal ?_
   refine WC.seq ?_
   refine WC.region ?_
   refine WL.rd rfl rfl rfl (Rd.move rfl rfl) ?_
   refine WL.rd rfl rfl rfl (Rd.move rfl rfl) ?_
   refine WL.rd rfl rfl rfl (Rd.cutA_l (lo := i) rfl S85 rfl rfl rfl List.mem_cons_self Z.W) ?_
   refine WL.op rfl ?_
   refine OpW.clearAcc (a0 := []) rfl S85 rfl rfl rfl rfl rfl (Take.head _) Z.W rfl ?_
   refine WL.nil ?_
   refine thenQ.normal ?_
   refine WC.seq ?_
   refine WC.region ?_
   refine WL.rd rfl rfl rfl (Rd.move rfl rfl) ?_
   refine WL.rd rfl rfl rfl (Rd.move rfl rfl) ?_
   refine WL.rd rfl rfl rfl (Rd.cutA_h (hi := i) rfl S85 rfl rfl rfl List.mem_cons_self (by simp; omega)) ?_
   refine WL.rd rfl rfl rfl (Rd.assign rfl rfl) ?_
   refine WL.nil ?_
   refine thenQ.normal ?_
   refine WC.heap (fun w h => Sat.cutAcc (enc := SL.one vs) (size := 1) (xs := ys.take i ++ List.replicate (ys.length - i) []) (hi := i) (Take.head _) (fun _ => rfl) (by simp; omega) h) ?_
   refine WC.ret (Ret.one Tryz.results41 rfl ?_)
   have e : (ys.take i ++ List.replicate (ys.length - i) []).take i = xs.filter stays := by
    rw [List.take_append_of_le_length (by rw [List.length_take]; omega), List.take_take, Nat.min_self, i4, List.take_of_length_le Z.W, hp]
   rw [e]
   exact hk _
set_option maxRecDepth 20000 in
theorem back_spec {R : List RO} {O : List Own} {POST : Value → List RO → List Own → Prop} {lv : Value} (hv : OneV lv) (hk : ∀ b, POST (.func (.func 72) #[] #[.pointer (some ⟨b, 0, none⟩)]) R (rowC b 24 [lv] :: O)) :
 Fun Tryz.prog 38 #[lv] R O POST := by
 refine Fun.enter (l := [_]) Tryz.func38 rfl Tryz.ntmps38 rfl (L0 := [(0, _)]) rfl ?_
 refine WC.seq ?_
 refine WC.region ?_
 refine WL.op rfl ?_
 refine OpW.box1 rfl rfl (by assumption) rfl rfl ?_; intro b1
 refine WL.rd rfl rfl rfl (Rd.assign rfl rfl) ?_
 refine WL.nil ?_
 refine thenQ.normal ?_
 refine WC.seq ?_
 refine WC.region ?_
 refine WL.rd rfl rfl rfl (Rd.func rfl Z.E Z.E ⟨_, rfl⟩) ?_
 refine WL.rd rfl rfl rfl (Rd.assign rfl rfl) ?_
 refine WL.nil ?_
 refine thenQ.normal ?_
 refine WC.ret (Ret.one Tryz.results38 rfl ?_)
 exact hk _
set_option maxRecDepth 20000 in
theorem iter_spec {R : List RO} {POST : Value → List RO → List Own → Prop} {lv : Value} {xs : List Pr} {l b : Nat} {c1 c2 : Own} (I : Nat → List Own) (hR : SlE encP lv xs ∈ R) (hl : xs.length ≤ 4294967296)
 (hY : ∀ j, j < xs.length → Yld Tryz.prog l [vi j, vp xs[j]!] R (c1 :: c2 :: rowC b 24 [lv] :: I (j + 1)) (fun b' R' O' => b' = true ∧ ∀ w, Sat R' O' w → Sat R (c1 :: c2 :: rowC b 24 [lv] :: I j) w))
 (hk : POST (.tuple #[]) R (c1 :: c2 :: rowC b 24 [lv] :: I 0)) :
 Fun Tryz.prog 72 #[.func (.yield l) #[] #[], .pointer (some ⟨b, 0, none⟩)] R (c1 :: c2 :: rowC b 24 [lv] :: I xs.length) POST := by
 refine Fun.enterR (l := [_, _]) Tryz.func72 rfl Tryz.ntmps72 rfl (L0 := [(0, _), (1, _)]) rfl ?_
 refine WR.seq ?_
 refine WR.region ?_
 refine WL.rd rfl rfl rfl (Rd.row1 (off := 0) (u := lv) rfl C24 rfl Z.M rfl) ?_
 refine WL.rd rfl rfl rfl (Rd.lenE (enc := encP) (xs := xs) rfl rfl Tryz.underlying24 hR) ?_
 refine WL.rd rfl rfl rfl (Rd.sub rfl rfl rfl Z.W) ?_
 refine WL.rd rfl rfl rfl (Rd.assign rfl rfl) ?_
 refine WL.nil ?_
 refine thenR.normal ?_
 refine WR.block ?_
 refine WR.pick [3, 0, 1] Z.P ?_
 refine WR.loop1 1 (fun (k : Nat) => [(3, vi ((k : Int) - 1))]) (fun (k : Nat) => c1 :: c2 :: rowC b 24 [lv] :: I k) (fun (k : Nat) => k ≤ xs.length) (fun (k : Nat) => k) (xs.length) Z.L ?hinv1 (by repeat (first | exact Sub.nil | refine Sub.cons rfl (by rfl) ?_)) (fun _ h => h) ?_
 case hinv1 =>
  exact Nat.le_refl _
 intro k
 rintro hI1
 refine WR.seq ?_
 refine WR.seq ?_
 refine WR.region ?_
 refine WL.rd rfl rfl rfl (Rd.move rfl rfl) ?_
 refine WL.rd rfl rfl rfl (Rd.geq rfl rfl rfl) ?_
 refine WL.nil ?_
 refine thenR.normal ?_
 refine WR.ite rfl (fun hc1 => ?_) (fun hc1 => ?_)
 ·
  obtain ⟨k, rfl⟩ : ∃ k', k = k' + 1 := ⟨k - 1, by omega⟩
  refine WR.say 3 (u := vi k) rfl (by congr 1; omega) ?_
  refine WR.skip ?_
  refine thenR.normal ?_
  refine WR.seq ?_
  refine WR.block ?_
  refine WR.seq ?_
  refine WR.regionY ?_
  refine WY.rd rfl rfl rfl (Rd.move rfl rfl) ?_
  refine WY.rd rfl rfl rfl (Rd.move rfl rfl) ?_
  refine WY.rd rfl rfl rfl (Rd.row1 (off := 0) (u := lv) rfl C24 rfl Z.M rfl) ?_
  refine WY.rd rfl rfl rfl (Rd.move rfl rfl) ?_
  refine WY.rd rfl rfl rfl (Rd.idx (enc := encP) (xs := xs) (k := k) rfl S24 rfl rfl rfl hR Z.W) ?_
  refine WY.rd rfl rfl rfl (Rd.getS (enc := encP) (size := 2) (xs := xs) (k := k) (a := xs[k]!) (cs := [vs xs[k]!.1, vs xs[k]!.2]) rfl G27 rfl hR (fun x => rfl) (get!_of_lt Z.W) (NF.refl _)) ?_
  refine WY.yield rfl rfl rfl Z.E rfl rfl ?_
  refine (hY k Z.W).mono ?_; rintro b' R' O' ⟨rfl, hS⟩; refine WY.heap hS ?_
  refine WY.rd rfl rfl rfl ((by exact Rd.not rfl rfl)) ?_
  refine WY.nil ?_
  refine thenR.normal ?_
  refine WR.cond rfl (fun hc2 => ?_) (fun hc2 => ?_)
  ·
   cases hc2
  ·
   refine WR.skip ?_
   refine blockQ.normal ?_
   refine thenR.normal ?_
   refine WR.region ?_
   refine WL.rd rfl rfl rfl (Rd.move rfl rfl) ?_
   refine WL.rd rfl rfl rfl (Rd.sub rfl rfl rfl Z.W) ?_
   refine WL.rd rfl rfl rfl (Rd.assign rfl rfl) ?_
   refine WL.nil ?_
   exact loopQ1.mk k Z.W Z.W (by repeat (first | exact Sub.nil | refine Sub.cons rfl (by rfl) ?_)) Z.F
 ·
  refine WR.exit ?_
  refine thenR.exit ?_
  refine loopQ1.exit ?_
  refine blockQ.exit ?_
  refine Ret.normal (Ret.zero Tryz.results72 ?_)
  obtain rfl : k = 0 := by omega
  exact hk
/-- The ranks, as the loop has put them down from the end on. -/
def mapFrom : List Pr → Nat → GoMap Pr Int
 | [], _ => GoMap.empty
 | x :: r, i => (mapFrom r (i + 1)).set x i
theorem mapFrom_get : ∀ (l : List Pr) (i : Nat) (p : Pr), (mapFrom l i).get p = (rk l p).map fun r => ((r + i : Nat) : Int)
 | [], _, _ => rfl
 | x :: r, i, p => by
   rw [mapFrom, GoMap.get_set, rk, mapFrom_get r (i + 1) p]
   by_cases e : p = x
   · rw [if_pos e, if_pos e.symm]; simp
   · rw [if_neg e, if_neg (fun h => e h.symm)]
     cases rk r p with
     | none => rfl
     | some q => simp; omega
theorem mapFrom_rk (l : List Pr) : RkM l (mapFrom l 0) := fun p => by rw [mapFrom_get]; cases rk l p <;> rfl
end Go.Proofs.YtkobjfjmkhmehaaGreatDoor.Mg
namespace Go.Proofs.YtkobjfjmkhmehaaGreatDoor.Mg
open Go Go.SL
def chars (w : T) : List T := w.map fun c => [c]
theorem chars_len (w : T) : (chars w).length = w.length := List.length_map _
theorem chars_app (u v : T) : chars (u ++ v) = chars u ++ chars v := List.map_append
theorem chars_off : ∀ w : T, off (chars w) = w.length
 | [] => rfl
 | c :: w => by show off ([c] :: chars w) = _; rw [off_cons, chars_off w]; simp; omega
theorem chars_join : ∀ w : T, (chars w).flatten = w
 | [] => rfl
 | c :: w => by show ([c] :: chars w).flatten = _; rw [List.flatten_cons, chars_join w]; rfl
theorem chars_full (w : T) : Full (chars w) := fun p hp => by
 obtain ⟨c, _, rfl⟩ := List.mem_map.1 hp
 simp
theorem chars_lay : ∀ w : T, lay (chars w) = chars w
 | [] => rfl
 | c :: w => by show lay ([c] :: chars w) = _; rw [lay_cons, chars_lay w]; rfl
theorem chars_next {w : T} {i : Nat} (h : i < w.length) : chars (w.take (i + 1)) = chars (w.take i) ++ [[w[i]!]] := by rw [take_snoc' h, chars_app]; rfl
theorem chars_at {w : T} {i : Nat} (h : i < w.length) : chars w = chars (w.take i) ++ [w[i]!] :: chars (w.drop (i + 1)) := by
 have e : w = w.take i ++ w[i]! :: w.drop (i + 1) := by rw [← drop_get h, List.take_append_drop]
 conv => lhs; rw [e]
 rw [chars_app]; rfl
theorem cut1 {w : T} {i : Nat} (h : i < w.length) : (w.take (i + 1)).drop i = [w[i]!] := by
 rw [take_snoc' h, List.drop_append_of_le_length (by rw [List.length_take]; omega), List.drop_of_length_le (by rw [List.length_take]; omega)]; rfl
def nx0 (i : Nat) : List Int := (List.range i).map fun j : Nat => (j : Int) + 1
def pr0 (i : Nat) : List Int := (List.range i).map fun j : Nat => (j : Int) - 1
theorem nx0_next (i : Nat) : nx0 (i + 1) = nx0 i ++ [(i : Int) + 1] := by simp [nx0, List.range_succ]
theorem pr0_next (i : Nat) : pr0 (i + 1) = pr0 i ++ [(i : Int) - 1] := by simp [pr0, List.range_succ]
theorem nx0_len (i : Nat) : (nx0 i).length = i := by simp [nx0]
theorem pr0_len (i : Nat) : (pr0 i).length = i := by simp [pr0]
theorem nx0_get {i n : Nat} (h : i < n) : (nx0 n)[i]! = (i : Int) + 1 := by rw [getElem!_pos _ _ (by rw [nx0_len]; exact h)]; simp [nx0]
theorem pr0_get {i n : Nat} (h : i < n) : (pr0 n)[i]! = (i : Int) - 1 := by rw [getElem!_pos _ _ (by rw [pr0_len]; exact h)]; simp [pr0]
theorem chars_one {w : T} {a : T} (h : a ∈ chars w) : a.length = 1 := by
 obtain ⟨c, _, rfl⟩ := List.mem_map.1 h
 rfl
theorem links0 (w : T) : Links w.length (chars w) (nx0 w.length) (pr0 w.length) := by
 refine ⟨nx0_len _, pr0_len _, fun u a v e => ?_, fun u a b v e => ?_, fun hne => ?_⟩
 ·
  have ha := chars_one (w := w) (a := a) (by rw [e]; simp)
  have ho := chars_off w
  rw [e, off_snoc, ha] at ho
  rw [nx0_get Z.W, ha]; omega
 ·
  have ha := chars_one (w := w) (a := a) (by rw [e]; simp)
  have hb := chars_one (w := w) (a := b) (by rw [e]; simp)
  have ho := chars_off w
  rw [e, off_snoc, off_cons, ha, hb] at ho
  rw [pr0_get Z.W, ha]; omega
 ·
  have : w ≠ [] := fun e => hne (by rw [e]; rfl)
  rw [pr0_get (List.length_pos_iff.2 this)]; rfl
abbrev nilS : Value := .slice none 0 0
theorem room_one {α : Type} {n bytes : Nat} {a : α} (h : n ≤ 100000 ∧ bytes ≤ 100000 := by omega) : Room (n + [a].length) bytes := by
 obtain ⟨h1, h2⟩ := h
 have : (n + [a].length) * bytes ≤ 100001 * 100000 := Nat.mul_le_mul (by simp; omega) h2
 exact ⟨by show n + [a].length ≤ 9223372036854775807; simp; omega, by omega⟩
section
variable {R : List RO} {O O' : List Own} {POST : Value → List RO → List Own → Prop} {l : List Pr} {word : T} {lv : Value}
/-- What comes of a word. -/
def SplitIs (l : List Pr) (word : T) (out : List T) : Prop := (4096 < word.length ∧ out = []) ∨ (word.length ≤ 4096 ∧ Spl l (chars word) out ∧ out.flatten = word ∧ Full out)
set_option maxRecDepth 20000 in
set_option maxHeartbeats 4000000 in
theorem split_spec (hR : SlE encP lv l ∈ R) (hl : l.length ≤ 4294967296) (hk : ∀ v out, SplitIs l word out → POST v (SlE (SL.one vs) v out :: R) O) : Fun Tryz.prog 24 #[lv, vs word] R O POST := by
 refine Fun.oneV hR fun hv => ?_
 refine Fun.enter (l := [_, _]) Tryz.func24 rfl Tryz.ntmps24 rfl (L0 := [(0, _), (1, _)]) rfl ?_
 refine WC.seq ?_
 refine WC.region ?_
 refine WL.rd rfl rfl rfl (Rd.assign rfl rfl) ?_
 refine WL.nil ?_
 refine thenQ.normal ?_
 refine WC.seq ?_
 refine WC.seq ?_
 refine WC.region ?_
 refine WL.rd rfl rfl rfl (Rd.move rfl rfl) ?_
 refine WL.rd rfl rfl rfl (Rd.slen (ts := #[]) (ty := 0) rfl rfl Tryz.underlying9) ?_
 refine WL.rd rfl rfl rfl (Rd.gtr rfl rfl rfl) ?_
 refine WL.nil ?_
 refine thenQ.normal ?_
 refine WC.ite rfl (fun hc1 => ?_) (fun hc1 => ?_)
 ·
  refine WC.seq ?_
  refine WC.region ?_
  refine WL.rd rfl rfl rfl (Rd.assign rfl rfl) ?_
  refine WL.nil ?_
  refine thenQ.normal ?_
  refine WC.heap (fun w h => Sat.nilE (enc := SL.one vs) h) ?_
  refine WC.ret (Ret.one Tryz.results24 rfl ?_)
  exact hk _ [] (.inl ⟨by omega, rfl⟩)
 ·
  refine WC.skip ?_
  refine thenQ.normal ?_
  refine WC.seq ?_
  refine WC.region ?_
  refine WL.op rfl ?_
  refine OpW.makeMap vp vi rfl rfl rfl ?_; intro b13
  refine WL.rd rfl rfl rfl (Rd.buildN (ps := [(3, _)]) rfl Bs105 I105 rfl Z.E Z.C (by apply NFo.mk; repeat (first | exact NF.nil | apply NF.cons))) ?_
  refine WL.op rfl ?_
  refine OpW.box rfl rfl Z.N rfl rfl ?_; intro b15
  refine WL.op rfl ?_
  refine OpW.alloc rfl I100 rfl Z.N rfl rfl ?_; intro b5
  refine WL.op rfl ?_
  refine OpW.store1 rfl Z100 rfl rfl (by exact ⟨rfl, rfl⟩) Z.T (by (simp; done)) rfl ?_
  refine WL.nil ?_
  refine thenQ.normal ?_
  refine WC.rangeSeq rfl ?_
  refine WC.region ?_
  refine WL.rd rfl rfl rfl (Rd.move rfl rfl) ?_
  refine WL.op rfl ?_
  refine OpW.call rfl rfl Z.E Z.K rfl rfl rfl ?_
  refine back_spec hv ?_; intro bb
  refine WL.heap (R' := R) (O' := rowC bb 24 [lv] :: mapC vp vi b13 (mapFrom (l.drop l.length) l.length) :: rowC b5 100 [rptr b15] :: rowW b15 nilS nilS nilS b13 nilS :: O) (fun w h => by rw [List.drop_length, mapFrom]; exact Z.Fw h) ?_
  refine WL.nil ?_
  refine rangeQ.normal ?_
  refine RangeOk.mk rfl Z.K ?_
  intro l0 D0
  refine iter_spec (lv := lv) (xs := l) (fun j => mapC vp vi b13 (mapFrom (l.drop j) j) :: rowC b5 100 [rptr b15] :: rowW b15 nilS nilS nilS b13 nilS :: O) hR hl ?round ?after
  case round =>
   intro j hj
   refine Yld.round Z.T rfl rfl rfl ?_
   refine WR.seq ?_
   refine WR.region ?_
   refine WL.rd rfl rfl rfl (Rd.assign rfl rfl) ?_
   refine WL.nil ?_
   refine thenR.normal ?_
   refine WR.region ?_
   refine WL.op rfl ?_
   refine OpW.alloc rfl I27 rfl Z.N rfl rfl ?_; intro b7
   refine WL.op rfl ?_
   refine OpW.storeS rfl G27 rfl rfl Z.N Z.T rfl rfl Z.N rfl ?_
   refine WL.nil ?_
   refine assignQ.mk Z.T ?_
   refine WR.block ?_
   refine WR.drawn (dfC D0 :: rowC bb 24 [lv] :: rowC b5 100 [rptr b15] :: rowW b15 nilS nilS nilS b13 nilS :: rowC b7 27 [vs l[j]!.1, vs l[j]!.2] :: O) 7 rfl mixed ?_
   refine WD.take 0 rfl Z.K Z.H rfl rfl rfl ((by exact Rd.row1 rfl C100 rfl Z.M (by rfl))) ?_
   refine WD.take 1 rfl Z.K Z.H rfl rfl rfl (Rd.nilc rfl rfl) ?_
   refine WD.take 2 rfl Z.K Z.H rfl rfl rfl ((by exact Rd.field rfl F105_3 rfl rfl)) ?_
   refine WD.take 3 rfl Z.K Z.H rfl rfl rfl (Rd.row1 (b := b15) (off := 3) (u := .map (some b13)) rfl C101 rfl Z.M rfl) ?_
   refine WD.take 4 rfl Z.K Z.H rfl rfl rfl ((by exact Rd.rowS rfl G27 rfl Z.M Z.N rfl)) ?_
   refine WD.take 5 rfl Z.K Z.H rfl rfl rfl (Rd.move rfl rfl) ?_
   refine WD.one 6 rfl Z.K rfl ?_
   refine OpW.mapUpdate (k := l[j]!) (v := (j : Int)) M101 KPr rfl rfl rfl rfl Z.T rfl rfl rfl ?_
   refine ⟨Z.H, ?_⟩
   refine WD.done Z.K ?_
   refine blockQ.normal ?_
   refine roundQ.on Z.T ?_
   exact ⟨rfl, fun w h => by rw [drop_get hj, mapFrom]; exact Z.Fw h⟩
  case after =>
   refine ⟨_, Z.T, ?_⟩
   refine WC.seq ?_
   refine WC.seq ?_
   refine WC.heap (fun w h => Sat.shareM (m := mapFrom l 0) Z.T h) ?_
   refine WC.heap (fun w h => Sat.accNil (e := 9) (size := 1) (enc := SL.one vs) h) ?_
   refine WC.heap (fun w h => Sat.accNil (e := 3) (size := 1) (enc := SL.one vi) h) ?_
   refine WC.heap (fun w h => Sat.accNil (e := 3) (size := 1) (enc := SL.one vi) h) ?_
   refine WC.region ?_
   refine WL.rd rfl rfl rfl (Rd.move rfl rfl) ?_
   refine WL.rd rfl rfl rfl (Rd.slen (ts := #[]) (ty := 0) rfl rfl Tryz.underlying9) ?_
   refine WL.rd rfl rfl rfl (Rd.move rfl rfl) ?_
   refine WL.nil ?_
   refine thenQ.normal ?_
   refine WC.block ?_
   refine WC.pick [28, 1, 5, 27] Z.P ?_
   refine WC.loop4 1 (fun (i : Nat) (pv : Value) (nv : Value) (qv : Value) => [(28, vi i)]) (fun (i : Nat) (pv : Value) (nv : Value) (qv : Value) => rowW b15 pv nv qv b13 nilS :: accT pv (chars (word.take i)) :: accI nv (nx0 i) :: accI qv (pr0 i) :: rowC b5 100 [rptr b15] :: dfC D0 :: O) (fun (i : Nat) (pv : Value) (nv : Value) (qv : Value) => i ≤ word.length) (fun (i : Nat) (pv : Value) (nv : Value) (qv : Value) => word.length - i) (0) (nilS) (nilS) (nilS) Z.L ?hinv1 (by repeat (first | exact Sub.nil | refine Sub.cons rfl (by rfl) ?_)) Z.F ?_
   case hinv1 =>
    exact Nat.zero_le _
   intro i pv nv qv
   rintro i1
   refine WC.seq ?_
   refine WC.region ?_
   refine WL.rd rfl rfl rfl (Rd.lss rfl rfl rfl) ?_
   refine WL.nil ?_
   refine thenQ.normal ?_
   refine WC.seq ?_
   refine WC.ite rfl (fun hc2 => ?_) (fun hc2 => ?_)
   ·
    have hn1 := chars_len (word.take i)
    rw [List.length_take] at hn1
    have hn2 := nx0_len i
    have hn3 := pr0_len i
    have hr1 : Room ((chars (word.take i)).length + [[word[i]!]].length) 16 := room_one Z.W
    have hr2 : Room ((nx0 i).length + [(i : Int) + 1].length) 8 := room_one Z.W
    have hr3 : Room ((pr0 i).length + [(i : Int) - 1].length) 8 := room_one Z.W
    refine WC.skip ?_
    refine thenQ.normal ?_
    refine WC.seq ?_
    refine WC.block ?_
    refine WC.seq ?_
    refine WC.region ?_
    refine WL.rd rfl rfl rfl (Rd.move rfl rfl) ?_
    refine WL.rd rfl rfl rfl (Rd.assign rfl rfl) ?_
    refine WL.nil ?_
    refine thenQ.normal ?_
    refine WC.drawnU (rowC b5 100 [rptr b15] :: dfC D0 :: O) ([(32, rowW b15 pv nv qv b13 nilS)]) 39 rfl mixed ?_
    refine WE.take 0 [(32, rowW b15 pv nv qv b13 nilS)] rfl Z.K (by repeat (first | exact List.Sublist.refl _ | exact List.nil_sublist _ | apply List.Sublist.cons_cons | apply List.Sublist.cons)) (HeldL.mk2 [rowW b15 pv nv qv b13 nilS] Z.K Z.S Z.O (by repeat (first | exact Mems.nil | refine Mems.cons Z.M ?_))) rfl rfl rfl ((by exact Rd.row1 rfl C100 rfl Z.M (by rfl))) ?_
    refine WE.take 1 [] rfl Z.K (by repeat (first | exact List.Sublist.refl _ | exact List.nil_sublist _ | apply List.Sublist.cons_cons | apply List.Sublist.cons)) (HeldL.mk2 [rowW b15 pv nv qv b13 nilS] Z.K Z.S Z.O (by repeat (first | exact Mems.nil | refine Mems.cons Z.M ?_))) rfl rfl rfl ((by exact Rd.row1 rfl C100 rfl Z.M (by rfl))) ?_
    refine WE.take 2 [] rfl Z.K (by repeat (first | exact List.Sublist.refl _ | exact List.nil_sublist _ | apply List.Sublist.cons_cons | apply List.Sublist.cons)) (HeldL.mk2 [rowW b15 pv nv qv b13 nilS] Z.K Z.S Z.O (by repeat (first | exact Mems.nil | refine Mems.cons Z.M ?_))) rfl rfl rfl ((by exact Rd.row1 rfl C100 rfl Z.M (by rfl))) ?_
    refine WE.take 3 [(32, rowW b15 pv nv qv b13 nilS)] rfl Z.K (by repeat (first | exact List.Sublist.refl _ | exact List.nil_sublist _ | apply List.Sublist.cons_cons | apply List.Sublist.cons)) (HeldL.mk2 [rowW b15 pv nv qv b13 nilS] Z.K Z.S Z.O (by repeat (first | exact Mems.nil | refine Mems.cons Z.M ?_))) rfl rfl rfl ((by exact Rd.row1 rfl C100 rfl Z.M (by rfl))) ?_
    refine WE.take 4 [] rfl Z.K (by repeat (first | exact List.Sublist.refl _ | exact List.nil_sublist _ | apply List.Sublist.cons_cons | apply List.Sublist.cons)) (HeldL.mk2 [rowW b15 pv nv qv b13 nilS] Z.K Z.S Z.O (by repeat (first | exact Mems.nil | refine Mems.cons Z.M ?_))) rfl rfl rfl (Rd.nilc rfl rfl) ?_
    refine WE.take 5 [] rfl Z.K (by repeat (first | exact List.Sublist.refl _ | exact List.nil_sublist _ | apply List.Sublist.cons_cons | apply List.Sublist.cons)) (HeldL.mk2 [rowW b15 pv nv qv b13 nilS] Z.K Z.S Z.O (by repeat (first | exact Mems.nil | refine Mems.cons Z.M ?_))) rfl rfl rfl ((by exact Rd.field rfl F105_0 rfl rfl)) ?_
    refine WE.take 6 [(32, rowW b15 pv nv qv b13 nilS)] rfl Z.K (by repeat (first | exact List.Sublist.refl _ | exact List.nil_sublist _ | apply List.Sublist.cons_cons | apply List.Sublist.cons)) (HeldL.mk2 [rowW b15 pv nv qv b13 nilS] Z.K Z.S Z.O (by repeat (first | exact Mems.nil | refine Mems.cons Z.M ?_))) rfl rfl rfl (Rd.row1 (b := b15) (off := 0) (u := pv) rfl C85 rfl Z.M rfl) ?_
    refine WE.take 7 [] rfl Z.K (by repeat (first | exact List.Sublist.refl _ | exact List.nil_sublist _ | apply List.Sublist.cons_cons | apply List.Sublist.cons)) (HeldL.mk2 [rowW b15 pv nv qv b13 nilS] Z.K Z.S Z.O (by repeat (first | exact Mems.nil | refine Mems.cons Z.M ?_))) rfl rfl rfl (Rd.move rfl rfl) ?_
    refine WE.take 8 [] rfl Z.K (by repeat (first | exact List.Sublist.refl _ | exact List.nil_sublist _ | apply List.Sublist.cons_cons | apply List.Sublist.cons)) (HeldL.mk2 [rowW b15 pv nv qv b13 nilS] Z.K Z.S Z.O (by repeat (first | exact Mems.nil | refine Mems.cons Z.M ?_))) rfl rfl rfl (Rd.move rfl rfl) ?_
    refine WE.take 9 [] rfl Z.K (by repeat (first | exact List.Sublist.refl _ | exact List.nil_sublist _ | apply List.Sublist.cons_cons | apply List.Sublist.cons)) (HeldL.mk2 [rowW b15 pv nv qv b13 nilS] Z.K Z.S Z.O (by repeat (first | exact Mems.nil | refine Mems.cons Z.M ?_))) rfl rfl rfl (Rd.move rfl rfl) ?_
    refine WE.take 10 [] rfl Z.K (by repeat (first | exact List.Sublist.refl _ | exact List.nil_sublist _ | apply List.Sublist.cons_cons | apply List.Sublist.cons)) (HeldL.mk2 [rowW b15 pv nv qv b13 nilS] Z.K Z.S Z.O (by repeat (first | exact Mems.nil | refine Mems.cons Z.M ?_))) rfl rfl rfl (Rd.add rfl rfl rfl Z.W) ?_
    refine WE.take 11 [] rfl Z.K (by repeat (first | exact List.Sublist.refl _ | exact List.nil_sublist _ | apply List.Sublist.cons_cons | apply List.Sublist.cons)) (HeldL.mk2 [rowW b15 pv nv qv b13 nilS] Z.K Z.S Z.O (by repeat (first | exact Mems.nil | refine Mems.cons Z.M ?_))) rfl rfl rfl (Rd.scut_lh (lo := i) (hi := i + 1) rfl Tryz.underlying9 rfl rfl rfl Z.W Z.W Z.W Z.W) ?_
    refine WE.say 42 (u := vs [word[i]!]) rfl (by rw [cut1 Z.W]) ?_
    refine WE.take 14 [] rfl Z.K (by repeat (first | exact List.Sublist.refl _ | exact List.nil_sublist _ | apply List.Sublist.cons_cons | apply List.Sublist.cons)) (HeldL.mk2 [rowW b15 pv nv qv b13 nilS] Z.K Z.S Z.O (by repeat (first | exact Mems.nil | refine Mems.cons Z.M ?_))) rfl rfl rfl ((by exact Rd.row1 rfl C100 rfl Z.M (by rfl))) ?_
    refine WE.take 15 [] rfl Z.K (by repeat (first | exact List.Sublist.refl _ | exact List.nil_sublist _ | apply List.Sublist.cons_cons | apply List.Sublist.cons)) (HeldL.mk2 [rowW b15 pv nv qv b13 nilS] Z.K Z.S Z.O (by repeat (first | exact Mems.nil | refine Mems.cons Z.M ?_))) rfl rfl rfl (Rd.nilc rfl rfl) ?_
    refine WE.take 16 [] rfl Z.K (by repeat (first | exact List.Sublist.refl _ | exact List.nil_sublist _ | apply List.Sublist.cons_cons | apply List.Sublist.cons)) (HeldL.mk2 [rowW b15 pv nv qv b13 nilS] Z.K Z.S Z.O (by repeat (first | exact Mems.nil | refine Mems.cons Z.M ?_))) rfl rfl rfl ((by exact Rd.field rfl F105_1 rfl rfl)) ?_
    refine WE.take 17 [(32, rowW b15 pv nv qv b13 nilS)] rfl Z.K (by repeat (first | exact List.Sublist.refl _ | exact List.nil_sublist _ | apply List.Sublist.cons_cons | apply List.Sublist.cons)) (HeldL.mk2 [rowW b15 pv nv qv b13 nilS] Z.K Z.S Z.O (by repeat (first | exact Mems.nil | refine Mems.cons Z.M ?_))) rfl rfl rfl (Rd.row1 (b := b15) (off := 1) (u := nv) rfl C42 rfl Z.M rfl) ?_
    refine WE.take 18 [] rfl Z.K (by repeat (first | exact List.Sublist.refl _ | exact List.nil_sublist _ | apply List.Sublist.cons_cons | apply List.Sublist.cons)) (HeldL.mk2 [rowW b15 pv nv qv b13 nilS] Z.K Z.S Z.O (by repeat (first | exact Mems.nil | refine Mems.cons Z.M ?_))) rfl rfl rfl (Rd.move rfl rfl) ?_
    refine WE.take 19 [] rfl Z.K (by repeat (first | exact List.Sublist.refl _ | exact List.nil_sublist _ | apply List.Sublist.cons_cons | apply List.Sublist.cons)) (HeldL.mk2 [rowW b15 pv nv qv b13 nilS] Z.K Z.S Z.O (by repeat (first | exact Mems.nil | refine Mems.cons Z.M ?_))) rfl rfl rfl (Rd.add rfl rfl rfl Z.W) ?_
    refine WE.take 22 [] rfl Z.K (by repeat (first | exact List.Sublist.refl _ | exact List.nil_sublist _ | apply List.Sublist.cons_cons | apply List.Sublist.cons)) (HeldL.mk2 [rowW b15 pv nv qv b13 nilS] Z.K Z.S Z.O (by repeat (first | exact Mems.nil | refine Mems.cons Z.M ?_))) rfl rfl rfl ((by exact Rd.row1 rfl C100 rfl Z.M (by rfl))) ?_
    refine WE.take 23 [] rfl Z.K (by repeat (first | exact List.Sublist.refl _ | exact List.nil_sublist _ | apply List.Sublist.cons_cons | apply List.Sublist.cons)) (HeldL.mk2 [rowW b15 pv nv qv b13 nilS] Z.K Z.S Z.O (by repeat (first | exact Mems.nil | refine Mems.cons Z.M ?_))) rfl rfl rfl (Rd.nilc rfl rfl) ?_
    refine WE.take 24 [] rfl Z.K (by repeat (first | exact List.Sublist.refl _ | exact List.nil_sublist _ | apply List.Sublist.cons_cons | apply List.Sublist.cons)) (HeldL.mk2 [rowW b15 pv nv qv b13 nilS] Z.K Z.S Z.O (by repeat (first | exact Mems.nil | refine Mems.cons Z.M ?_))) rfl rfl rfl ((by exact Rd.field rfl F105_2 rfl rfl)) ?_
    refine WE.take 25 [(32, rowW b15 pv nv qv b13 nilS)] rfl Z.K (by repeat (first | exact List.Sublist.refl _ | exact List.nil_sublist _ | apply List.Sublist.cons_cons | apply List.Sublist.cons)) (HeldL.mk2 [rowW b15 pv nv qv b13 nilS] Z.K Z.S Z.O (by repeat (first | exact Mems.nil | refine Mems.cons Z.M ?_))) rfl rfl rfl (Rd.row1 (b := b15) (off := 2) (u := qv) rfl C42 rfl Z.M rfl) ?_
    refine WE.take 26 [] rfl Z.K (by repeat (first | exact List.Sublist.refl _ | exact List.nil_sublist _ | apply List.Sublist.cons_cons | apply List.Sublist.cons)) (HeldL.mk2 [rowW b15 pv nv qv b13 nilS] Z.K Z.S Z.O (by repeat (first | exact Mems.nil | refine Mems.cons Z.M ?_))) rfl rfl rfl (Rd.move rfl rfl) ?_
    refine WE.take 27 [] rfl Z.K (by repeat (first | exact List.Sublist.refl _ | exact List.nil_sublist _ | apply List.Sublist.cons_cons | apply List.Sublist.cons)) (HeldL.mk2 [rowW b15 pv nv qv b13 nilS] Z.K Z.S Z.O (by repeat (first | exact Mems.nil | refine Mems.cons Z.M ?_))) rfl rfl rfl (Rd.sub rfl rfl rfl Z.W) ?_
    refine WE.many [12, 20, 28] Z.K (by simp) ?_
    intro i hi; simp only [List.mem_cons, List.not_mem_nil, or_false] at hi; rcases hi with rfl | rfl | rfl
    ·
     refine ⟨_, rfl, rfl, ?_⟩
     refine OpW.buildSl (ps := [(0, _)]) rfl S85 Z.E rfl rfl Z.C Z.K rfl rfl rfl ?_; intro b43
     refine ⟨(HeldL.mk2 [rowW b15 pv nv qv b13 nilS] Z.K Z.S Z.O (by repeat (first | exact Mems.nil | refine Mems.cons Z.M ?_))), ?_⟩
     refine WE.many [13, 20, 28] Z.K (by simp) ?_
     intro i hi; simp only [List.mem_cons, List.not_mem_nil, or_false] at hi; rcases hi with rfl | rfl | rfl
     ·
      refine ⟨_, rfl, rfl, ?_⟩
      refine OpW.appendRow (enc := SL.one vs) rfl S85 rfl rfl Z.T Z.T [[word[i]!]] rfl (by rfl) rfl (by intro x; rfl) (by intro x; rfl) hr1 rfl rfl ?_; intro v44 hv44
      refine ⟨(HeldL.mk2 [rowW b15 pv nv qv b13 nilS] Z.K Z.S Z.O (by repeat (first | exact Mems.nil | refine Mems.cons Z.M ?_))), ?_⟩
      refine WE.many [20, 28] Z.K (by simp) ?_
      intro i hi; simp only [List.mem_cons, List.not_mem_nil, or_false] at hi; rcases hi with rfl | rfl
      ·
       refine ⟨_, rfl, rfl, ?_⟩
       refine OpW.buildSl (ps := [(0, _)]) rfl S42 Z.E rfl rfl Z.C Z.K rfl rfl rfl ?_; intro b51
       refine ⟨(HeldL.mk2 [rowW b15 pv nv qv b13 nilS] Z.K Z.S Z.O (by repeat (first | exact Mems.nil | refine Mems.cons Z.M ?_))), ?_⟩
       refine WE.many [21, 28] Z.K (by simp) ?_
       intro i hi; simp only [List.mem_cons, List.not_mem_nil, or_false] at hi; rcases hi with rfl | rfl
       ·
        refine ⟨_, rfl, rfl, ?_⟩
        refine OpW.appendRow (enc := SL.one vi) rfl S42 rfl rfl Z.T Z.T [(i : Int) + 1] rfl (by rfl) rfl (by intro x; rfl) (by intro x; rfl) hr2 rfl rfl ?_; intro v52 hv52
        refine ⟨(HeldL.mk2 [rowW b15 pv nv qv b13 nilS] Z.K Z.S Z.O (by repeat (first | exact Mems.nil | refine Mems.cons Z.M ?_))), ?_⟩
        refine WE.one 28 rfl Z.K rfl ?_
        refine OpW.buildSl (ps := [(0, _)]) rfl S42 Z.E rfl rfl Z.C Z.K rfl rfl rfl ?_; intro b59
        refine ⟨(HeldL.mk2 [rowW b15 pv nv qv b13 nilS] Z.K Z.S Z.O (by repeat (first | exact Mems.nil | refine Mems.cons Z.M ?_))), ?_⟩
        refine WE.one 29 rfl Z.K rfl ?_
        refine OpW.appendRow (enc := SL.one vi) rfl S42 rfl rfl Z.T Z.T [(i : Int) - 1] rfl (by rfl) rfl (by intro x; rfl) (by intro x; rfl) hr3 rfl rfl ?_; intro v60 hv60
        refine ⟨(HeldL.mk2 [rowW b15 pv nv qv b13 nilS] Z.K Z.S Z.O (by repeat (first | exact Mems.nil | refine Mems.cons Z.M ?_))), ?_⟩
        refine WE.take 30 [] rfl Z.K (by repeat (first | exact List.Sublist.refl _ | exact List.nil_sublist _ | apply List.Sublist.cons_cons | apply List.Sublist.cons)) (HeldL.mk2 [rowW b15 pv nv qv b13 nilS] Z.K Z.S Z.O (by repeat (first | exact Mems.nil | refine Mems.cons Z.M ?_))) rfl rfl rfl (Rd.nilc rfl rfl) ?_
        refine WE.take 31 [] rfl Z.K (by repeat (first | exact List.Sublist.refl _ | exact List.nil_sublist _ | apply List.Sublist.cons_cons | apply List.Sublist.cons)) (HeldL.mk2 [rowW b15 pv nv qv b13 nilS] Z.K Z.S Z.O (by repeat (first | exact Mems.nil | refine Mems.cons Z.M ?_))) rfl rfl rfl ((by exact Rd.field rfl F105_0 rfl rfl)) ?_
        refine WE.one 32 rfl Z.K rfl ?_
        refine OpW.store1 rfl Z85 rfl rfl (by assumption) Z.T (by (simp; done)) rfl ?_
        refine ⟨(HeldL.mk2 [] Z.K Z.S Z.O (by repeat (first | exact Mems.nil | refine Mems.cons Z.M ?_))), ?_⟩
        refine WE.take 33 [] rfl Z.K (by repeat (first | exact List.Sublist.refl _ | exact List.nil_sublist _ | apply List.Sublist.cons_cons | apply List.Sublist.cons)) (HeldL.mk2 [] Z.K Z.S Z.O (by repeat (first | exact Mems.nil | refine Mems.cons Z.M ?_))) rfl rfl rfl (Rd.nilc rfl rfl) ?_
        refine WE.take 34 [] rfl Z.K (by repeat (first | exact List.Sublist.refl _ | exact List.nil_sublist _ | apply List.Sublist.cons_cons | apply List.Sublist.cons)) (HeldL.mk2 [] Z.K Z.S Z.O (by repeat (first | exact Mems.nil | refine Mems.cons Z.M ?_))) rfl rfl rfl ((by exact Rd.field rfl F105_1 rfl rfl)) ?_
        refine WE.one 35 rfl Z.K rfl ?_
        refine OpW.store1 rfl Z42 rfl rfl (by assumption) Z.T (by (simp; done)) rfl ?_
        refine ⟨(HeldL.mk2 [] Z.K Z.S Z.O (by repeat (first | exact Mems.nil | refine Mems.cons Z.M ?_))), ?_⟩
        refine WE.take 36 [] rfl Z.K (by repeat (first | exact List.Sublist.refl _ | exact List.nil_sublist _ | apply List.Sublist.cons_cons | apply List.Sublist.cons)) (HeldL.mk2 [] Z.K Z.S Z.O (by repeat (first | exact Mems.nil | refine Mems.cons Z.M ?_))) rfl rfl rfl (Rd.nilc rfl rfl) ?_
        refine WE.take 37 [] rfl Z.K (by repeat (first | exact List.Sublist.refl _ | exact List.nil_sublist _ | apply List.Sublist.cons_cons | apply List.Sublist.cons)) (HeldL.mk2 [] Z.K Z.S Z.O (by repeat (first | exact Mems.nil | refine Mems.cons Z.M ?_))) rfl rfl rfl ((by exact Rd.field rfl F105_2 rfl rfl)) ?_
        refine WE.one 38 rfl Z.K rfl ?_
        refine OpW.store1 rfl Z42 rfl rfl (by assumption) Z.T (by (simp; done)) rfl ?_
        refine ⟨(HeldL.mk2 [] Z.K Z.S Z.O (by repeat (first | exact Mems.nil | refine Mems.cons Z.M ?_))), ?_⟩
        refine WE.done Z.K ?_
        refine blockQ.normal ?_
        refine thenQ.normal ?_
        refine WC.region ?_
        refine WL.rd rfl rfl rfl (Rd.add rfl rfl rfl Z.W) ?_
        refine WL.rd rfl rfl rfl (Rd.move rfl rfl) ?_
        refine WL.nil ?_
        exact loopQ4.mk (i + 1) v44 v52 v60 Z.W Z.W (by repeat (first | exact Sub.nil | refine Sub.cons rfl (by rfl) ?_)) (fun w h => by rw [chars_next Z.W, nx0_next, pr0_next]; exact Z.Fw h)
       ·
        refine ⟨_, rfl, rfl, ?_⟩
        refine OpW.buildSl (ps := [(0, _)]) rfl S42 Z.E rfl rfl Z.C Z.K rfl rfl rfl ?_; intro b59
        refine ⟨(HeldL.mk2 [rowW b15 pv nv qv b13 nilS] Z.K Z.S Z.O (by repeat (first | exact Mems.nil | refine Mems.cons Z.M ?_))), ?_⟩
        refine WE.one 21 rfl Z.K rfl ?_
        refine OpW.appendRow (enc := SL.one vi) rfl S42 rfl rfl Z.T Z.T [(i : Int) + 1] rfl (by rfl) rfl (by intro x; rfl) (by intro x; rfl) hr2 rfl rfl ?_; intro v52 hv52
        refine ⟨(HeldL.mk2 [rowW b15 pv nv qv b13 nilS] Z.K Z.S Z.O (by repeat (first | exact Mems.nil | refine Mems.cons Z.M ?_))), ?_⟩
        refine WE.one 29 rfl Z.K rfl ?_
        refine OpW.appendRow (enc := SL.one vi) rfl S42 rfl rfl Z.T Z.T [(i : Int) - 1] rfl (by rfl) rfl (by intro x; rfl) (by intro x; rfl) hr3 rfl rfl ?_; intro v60 hv60
        refine ⟨(HeldL.mk2 [rowW b15 pv nv qv b13 nilS] Z.K Z.S Z.O (by repeat (first | exact Mems.nil | refine Mems.cons Z.M ?_))), ?_⟩
        refine WE.take 30 [] rfl Z.K (by repeat (first | exact List.Sublist.refl _ | exact List.nil_sublist _ | apply List.Sublist.cons_cons | apply List.Sublist.cons)) (HeldL.mk2 [rowW b15 pv nv qv b13 nilS] Z.K Z.S Z.O (by repeat (first | exact Mems.nil | refine Mems.cons Z.M ?_))) rfl rfl rfl (Rd.nilc rfl rfl) ?_
        refine WE.take 31 [] rfl Z.K (by repeat (first | exact List.Sublist.refl _ | exact List.nil_sublist _ | apply List.Sublist.cons_cons | apply List.Sublist.cons)) (HeldL.mk2 [rowW b15 pv nv qv b13 nilS] Z.K Z.S Z.O (by repeat (first | exact Mems.nil | refine Mems.cons Z.M ?_))) rfl rfl rfl ((by exact Rd.field rfl F105_0 rfl rfl)) ?_
        refine WE.one 32 rfl Z.K rfl ?_
        refine OpW.store1 rfl Z85 rfl rfl (by assumption) Z.T (by (simp; done)) rfl ?_
        refine ⟨(HeldL.mk2 [] Z.K Z.S Z.O (by repeat (first | exact Mems.nil | refine Mems.cons Z.M ?_))), ?_⟩
        refine WE.take 33 [] rfl Z.K (by repeat (first | exact List.Sublist.refl _ | exact List.nil_sublist _ | apply List.Sublist.cons_cons | apply List.Sublist.cons)) (HeldL.mk2 [] Z.K Z.S Z.O (by repeat (first | exact Mems.nil | refine Mems.cons Z.M ?_))) rfl rfl rfl (Rd.nilc rfl rfl) ?_
        refine WE.take 34 [] rfl Z.K (by repeat (first | exact List.Sublist.refl _ | exact List.nil_sublist _ | apply List.Sublist.cons_cons | apply List.Sublist.cons)) (HeldL.mk2 [] Z.K Z.S Z.O (by repeat (first | exact Mems.nil | refine Mems.cons Z.M ?_))) rfl rfl rfl ((by exact Rd.field rfl F105_1 rfl rfl)) ?_
        refine WE.one 35 rfl Z.K rfl ?_
        refine OpW.store1 rfl Z42 rfl rfl (by assumption) Z.T (by (simp; done)) rfl ?_
        refine ⟨(HeldL.mk2 [] Z.K Z.S Z.O (by repeat (first | exact Mems.nil | refine Mems.cons Z.M ?_))), ?_⟩
        refine WE.take 36 [] rfl Z.K (by repeat (first | exact List.Sublist.refl _ | exact List.nil_sublist _ | apply List.Sublist.cons_cons | apply List.Sublist.cons)) (HeldL.mk2 [] Z.K Z.S Z.O (by repeat (first | exact Mems.nil | refine Mems.cons Z.M ?_))) rfl rfl rfl (Rd.nilc rfl rfl) ?_
        refine WE.take 37 [] rfl Z.K (by repeat (first | exact List.Sublist.refl _ | exact List.nil_sublist _ | apply List.Sublist.cons_cons | apply List.Sublist.cons)) (HeldL.mk2 [] Z.K Z.S Z.O (by repeat (first | exact Mems.nil | refine Mems.cons Z.M ?_))) rfl rfl rfl ((by exact Rd.field rfl F105_2 rfl rfl)) ?_
        refine WE.one 38 rfl Z.K rfl ?_
        refine OpW.store1 rfl Z42 rfl rfl (by assumption) Z.T (by (simp; done)) rfl ?_
        refine ⟨(HeldL.mk2 [] Z.K Z.S Z.O (by repeat (first | exact Mems.nil | refine Mems.cons Z.M ?_))), ?_⟩
        refine WE.done Z.K ?_
        refine blockQ.normal ?_
        refine thenQ.normal ?_
        refine WC.region ?_
        refine WL.rd rfl rfl rfl (Rd.add rfl rfl rfl Z.W) ?_
        refine WL.rd rfl rfl rfl (Rd.move rfl rfl) ?_
        refine WL.nil ?_
        exact loopQ4.mk (i + 1) v44 v52 v60 Z.W Z.W (by repeat (first | exact Sub.nil | refine Sub.cons rfl (by rfl) ?_)) (fun w h => by rw [chars_next Z.W, nx0_next, pr0_next]; exact Z.Fw h)
      ·
       refine ⟨_, rfl, rfl, ?_⟩
       refine OpW.buildSl (ps := [(0, _)]) rfl S42 Z.E rfl rfl Z.C Z.K rfl rfl rfl ?_; intro b59
       refine ⟨(HeldL.mk2 [rowW b15 pv nv qv b13 nilS] Z.K Z.S Z.O (by repeat (first | exact Mems.nil | refine Mems.cons Z.M ?_))), ?_⟩
       refine WE.one 20 rfl Z.K rfl ?_
       refine OpW.buildSl (ps := [(0, _)]) rfl S42 Z.E rfl rfl Z.C Z.K rfl rfl rfl ?_; intro b51
       refine ⟨(HeldL.mk2 [rowW b15 pv nv qv b13 nilS] Z.K Z.S Z.O (by repeat (first | exact Mems.nil | refine Mems.cons Z.M ?_))), ?_⟩
       refine WE.one 21 rfl Z.K rfl ?_
       refine OpW.appendRow (enc := SL.one vi) rfl S42 rfl rfl Z.T Z.T [(i : Int) + 1] rfl (by rfl) rfl (by intro x; rfl) (by intro x; rfl) hr2 rfl rfl ?_; intro v52 hv52
       refine ⟨(HeldL.mk2 [rowW b15 pv nv qv b13 nilS] Z.K Z.S Z.O (by repeat (first | exact Mems.nil | refine Mems.cons Z.M ?_))), ?_⟩
       refine WE.one 29 rfl Z.K rfl ?_
       refine OpW.appendRow (enc := SL.one vi) rfl S42 rfl rfl Z.T Z.T [(i : Int) - 1] rfl (by rfl) rfl (by intro x; rfl) (by intro x; rfl) hr3 rfl rfl ?_; intro v60 hv60
       refine ⟨(HeldL.mk2 [rowW b15 pv nv qv b13 nilS] Z.K Z.S Z.O (by repeat (first | exact Mems.nil | refine Mems.cons Z.M ?_))), ?_⟩
       refine WE.take 30 [] rfl Z.K (by repeat (first | exact List.Sublist.refl _ | exact List.nil_sublist _ | apply List.Sublist.cons_cons | apply List.Sublist.cons)) (HeldL.mk2 [rowW b15 pv nv qv b13 nilS] Z.K Z.S Z.O (by repeat (first | exact Mems.nil | refine Mems.cons Z.M ?_))) rfl rfl rfl (Rd.nilc rfl rfl) ?_
       refine WE.take 31 [] rfl Z.K (by repeat (first | exact List.Sublist.refl _ | exact List.nil_sublist _ | apply List.Sublist.cons_cons | apply List.Sublist.cons)) (HeldL.mk2 [rowW b15 pv nv qv b13 nilS] Z.K Z.S Z.O (by repeat (first | exact Mems.nil | refine Mems.cons Z.M ?_))) rfl rfl rfl ((by exact Rd.field rfl F105_0 rfl rfl)) ?_
       refine WE.one 32 rfl Z.K rfl ?_
       refine OpW.store1 rfl Z85 rfl rfl (by assumption) Z.T (by (simp; done)) rfl ?_
       refine ⟨(HeldL.mk2 [] Z.K Z.S Z.O (by repeat (first | exact Mems.nil | refine Mems.cons Z.M ?_))), ?_⟩
       refine WE.take 33 [] rfl Z.K (by repeat (first | exact List.Sublist.refl _ | exact List.nil_sublist _ | apply List.Sublist.cons_cons | apply List.Sublist.cons)) (HeldL.mk2 [] Z.K Z.S Z.O (by repeat (first | exact Mems.nil | refine Mems.cons Z.M ?_))) rfl rfl rfl (Rd.nilc rfl rfl) ?_
       refine WE.take 34 [] rfl Z.K (by repeat (first | exact List.Sublist.refl _ | exact List.nil_sublist _ | apply List.Sublist.cons_cons | apply List.Sublist.cons)) (HeldL.mk2 [] Z.K Z.S Z.O (by repeat (first | exact Mems.nil | refine Mems.cons Z.M ?_))) rfl rfl rfl ((by exact Rd.field rfl F105_1 rfl rfl)) ?_
       refine WE.one 35 rfl Z.K rfl ?_
       refine OpW.store1 rfl Z42 rfl rfl (by assumption) Z.T (by (simp; done)) rfl ?_
       refine ⟨(HeldL.mk2 [] Z.K Z.S Z.O (by repeat (first | exact Mems.nil | refine Mems.cons Z.M ?_))), ?_⟩
       refine WE.take 36 [] rfl Z.K (by repeat (first | exact List.Sublist.refl _ | exact List.nil_sublist _ | apply List.Sublist.cons_cons | apply List.Sublist.cons)) (HeldL.mk2 [] Z.K Z.S Z.O (by repeat (first | exact Mems.nil | refine Mems.cons Z.M ?_))) rfl rfl rfl (Rd.nilc rfl rfl) ?_
       refine WE.take 37 [] rfl Z.K (by repeat (first | exact List.Sublist.refl _ | exact List.nil_sublist _ | apply List.Sublist.cons_cons | apply List.Sublist.cons)) (HeldL.mk2 [] Z.K Z.S Z.O (by repeat (first | exact Mems.nil | refine Mems.cons Z.M ?_))) rfl rfl rfl ((by exact Rd.field rfl F105_2 rfl rfl)) ?_
       refine WE.one 38 rfl Z.K rfl ?_
       refine OpW.store1 rfl Z42 rfl rfl (by assumption) Z.T (by (simp; done)) rfl ?_
       refine ⟨(HeldL.mk2 [] Z.K Z.S Z.O (by repeat (first | exact Mems.nil | refine Mems.cons Z.M ?_))), ?_⟩
       refine WE.done Z.K ?_
       refine blockQ.normal ?_
       refine thenQ.normal ?_
       refine WC.region ?_
       refine WL.rd rfl rfl rfl (Rd.add rfl rfl rfl Z.W) ?_
       refine WL.rd rfl rfl rfl (Rd.move rfl rfl) ?_
       refine WL.nil ?_
       exact loopQ4.mk (i + 1) v44 v52 v60 Z.W Z.W (by repeat (first | exact Sub.nil | refine Sub.cons rfl (by rfl) ?_)) (fun w h => by rw [chars_next Z.W, nx0_next, pr0_next]; exact Z.Fw h)
     ·
      refine ⟨_, rfl, rfl, ?_⟩
      refine OpW.buildSl (ps := [(0, _)]) rfl S42 Z.E rfl rfl Z.C Z.K rfl rfl rfl ?_; intro b51
      refine ⟨(HeldL.mk2 [rowW b15 pv nv qv b13 nilS] Z.K Z.S Z.O (by repeat (first | exact Mems.nil | refine Mems.cons Z.M ?_))), ?_⟩
      refine WE.many [13, 28] Z.K (by simp) ?_
      intro i hi; simp only [List.mem_cons, List.not_mem_nil, or_false] at hi; rcases hi with rfl | rfl
      ·
       refine ⟨_, rfl, rfl, ?_⟩
       refine OpW.appendRow (enc := SL.one vs) rfl S85 rfl rfl Z.T Z.T [[word[i]!]] rfl (by rfl) rfl (by intro x; rfl) (by intro x; rfl) hr1 rfl rfl ?_; intro v44 hv44
       refine ⟨(HeldL.mk2 [rowW b15 pv nv qv b13 nilS] Z.K Z.S Z.O (by repeat (first | exact Mems.nil | refine Mems.cons Z.M ?_))), ?_⟩
       refine WE.many [21, 28] Z.K (by simp) ?_
       intro i hi; simp only [List.mem_cons, List.not_mem_nil, or_false] at hi; rcases hi with rfl | rfl
       ·
        refine ⟨_, rfl, rfl, ?_⟩
        refine OpW.appendRow (enc := SL.one vi) rfl S42 rfl rfl Z.T Z.T [(i : Int) + 1] rfl (by rfl) rfl (by intro x; rfl) (by intro x; rfl) hr2 rfl rfl ?_; intro v52 hv52
        refine ⟨(HeldL.mk2 [rowW b15 pv nv qv b13 nilS] Z.K Z.S Z.O (by repeat (first | exact Mems.nil | refine Mems.cons Z.M ?_))), ?_⟩
        refine WE.one 28 rfl Z.K rfl ?_
        refine OpW.buildSl (ps := [(0, _)]) rfl S42 Z.E rfl rfl Z.C Z.K rfl rfl rfl ?_; intro b59
        refine ⟨(HeldL.mk2 [rowW b15 pv nv qv b13 nilS] Z.K Z.S Z.O (by repeat (first | exact Mems.nil | refine Mems.cons Z.M ?_))), ?_⟩
        refine WE.one 29 rfl Z.K rfl ?_
        refine OpW.appendRow (enc := SL.one vi) rfl S42 rfl rfl Z.T Z.T [(i : Int) - 1] rfl (by rfl) rfl (by intro x; rfl) (by intro x; rfl) hr3 rfl rfl ?_; intro v60 hv60
        refine ⟨(HeldL.mk2 [rowW b15 pv nv qv b13 nilS] Z.K Z.S Z.O (by repeat (first | exact Mems.nil | refine Mems.cons Z.M ?_))), ?_⟩
        refine WE.take 30 [] rfl Z.K (by repeat (first | exact List.Sublist.refl _ | exact List.nil_sublist _ | apply List.Sublist.cons_cons | apply List.Sublist.cons)) (HeldL.mk2 [rowW b15 pv nv qv b13 nilS] Z.K Z.S Z.O (by repeat (first | exact Mems.nil | refine Mems.cons Z.M ?_))) rfl rfl rfl (Rd.nilc rfl rfl) ?_
        refine WE.take 31 [] rfl Z.K (by repeat (first | exact List.Sublist.refl _ | exact List.nil_sublist _ | apply List.Sublist.cons_cons | apply List.Sublist.cons)) (HeldL.mk2 [rowW b15 pv nv qv b13 nilS] Z.K Z.S Z.O (by repeat (first | exact Mems.nil | refine Mems.cons Z.M ?_))) rfl rfl rfl ((by exact Rd.field rfl F105_0 rfl rfl)) ?_
        refine WE.one 32 rfl Z.K rfl ?_
        refine OpW.store1 rfl Z85 rfl rfl (by assumption) Z.T (by (simp; done)) rfl ?_
        refine ⟨(HeldL.mk2 [] Z.K Z.S Z.O (by repeat (first | exact Mems.nil | refine Mems.cons Z.M ?_))), ?_⟩
        refine WE.take 33 [] rfl Z.K (by repeat (first | exact List.Sublist.refl _ | exact List.nil_sublist _ | apply List.Sublist.cons_cons | apply List.Sublist.cons)) (HeldL.mk2 [] Z.K Z.S Z.O (by repeat (first | exact Mems.nil | refine Mems.cons Z.M ?_))) rfl rfl rfl (Rd.nilc rfl rfl) ?_
        refine WE.take 34 [] rfl Z.K (by repeat (first | exact List.Sublist.refl _ | exact List.nil_sublist _ | apply List.Sublist.cons_cons | apply List.Sublist.cons)) (HeldL.mk2 [] Z.K Z.S Z.O (by repeat (first | exact Mems.nil | refine Mems.cons Z.M ?_))) rfl rfl rfl ((by exact Rd.field rfl F105_1 rfl rfl)) ?_
        refine WE.one 35 rfl Z.K rfl ?_
        refine OpW.store1 rfl Z42 rfl rfl (by assumption) Z.T (by (simp; done)) rfl ?_
        refine ⟨(HeldL.mk2 [] Z.K Z.S Z.O (by repeat (first | exact Mems.nil | refine Mems.cons Z.M ?_))), ?_⟩
        refine WE.take 36 [] rfl Z.K (by repeat (first | exact List.Sublist.refl _ | exact List.nil_sublist _ | apply List.Sublist.cons_cons | apply List.Sublist.cons)) (HeldL.mk2 [] Z.K Z.S Z.O (by repeat (first | exact Mems.nil | refine Mems.cons Z.M ?_))) rfl rfl rfl (Rd.nilc rfl rfl) ?_
        refine WE.take 37 [] rfl Z.K (by repeat (first | exact List.Sublist.refl _ | exact List.nil_sublist _ | apply List.Sublist.cons_cons | apply List.Sublist.cons)) (HeldL.mk2 [] Z.K Z.S Z.O (by repeat (first | exact Mems.nil | refine Mems.cons Z.M ?_))) rfl rfl rfl ((by exact Rd.field rfl F105_2 rfl rfl)) ?_
        refine WE.one 38 rfl Z.K rfl ?_
        refine OpW.store1 rfl Z42 rfl rfl (by assumption) Z.T (by (simp; done)) rfl ?_
        refine ⟨(HeldL.mk2 [] Z.K Z.S Z.O (by repeat (first | exact Mems.nil | refine Mems.cons Z.M ?_))), ?_⟩
        refine WE.done Z.K ?_
        refine blockQ.normal ?_
        refine thenQ.normal ?_
        refine WC.region ?_
        refine WL.rd rfl rfl rfl (Rd.add rfl rfl rfl Z.W) ?_
        refine WL.rd rfl rfl rfl (Rd.move rfl rfl) ?_
        refine WL.nil ?_
        exact loopQ4.mk (i + 1) v44 v52 v60 Z.W Z.W (by repeat (first | exact Sub.nil | refine Sub.cons rfl (by rfl) ?_)) (fun w h => by rw [chars_next Z.W, nx0_next, pr0_next]; exact Z.Fw h)
       ·
        refine ⟨_, rfl, rfl, ?_⟩
        refine OpW.buildSl (ps := [(0, _)]) rfl S42 Z.E rfl rfl Z.C Z.K rfl rfl rfl ?_; intro b59
        refine ⟨(HeldL.mk2 [rowW b15 pv nv qv b13 nilS] Z.K Z.S Z.O (by repeat (first | exact Mems.nil | refine Mems.cons Z.M ?_))), ?_⟩
        refine WE.one 21 rfl Z.K rfl ?_
        refine OpW.appendRow (enc := SL.one vi) rfl S42 rfl rfl Z.T Z.T [(i : Int) + 1] rfl (by rfl) rfl (by intro x; rfl) (by intro x; rfl) hr2 rfl rfl ?_; intro v52 hv52
        refine ⟨(HeldL.mk2 [rowW b15 pv nv qv b13 nilS] Z.K Z.S Z.O (by repeat (first | exact Mems.nil | refine Mems.cons Z.M ?_))), ?_⟩
        refine WE.one 29 rfl Z.K rfl ?_
        refine OpW.appendRow (enc := SL.one vi) rfl S42 rfl rfl Z.T Z.T [(i : Int) - 1] rfl (by rfl) rfl (by intro x; rfl) (by intro x; rfl) hr3 rfl rfl ?_; intro v60 hv60
        refine ⟨(HeldL.mk2 [rowW b15 pv nv qv b13 nilS] Z.K Z.S Z.O (by repeat (first | exact Mems.nil | refine Mems.cons Z.M ?_))), ?_⟩
        refine WE.take 30 [] rfl Z.K (by repeat (first | exact List.Sublist.refl _ | exact List.nil_sublist _ | apply List.Sublist.cons_cons | apply List.Sublist.cons)) (HeldL.mk2 [rowW b15 pv nv qv b13 nilS] Z.K Z.S Z.O (by repeat (first | exact Mems.nil | refine Mems.cons Z.M ?_))) rfl rfl rfl (Rd.nilc rfl rfl) ?_
        refine WE.take 31 [] rfl Z.K (by repeat (first | exact List.Sublist.refl _ | exact List.nil_sublist _ | apply List.Sublist.cons_cons | apply List.Sublist.cons)) (HeldL.mk2 [rowW b15 pv nv qv b13 nilS] Z.K Z.S Z.O (by repeat (first | exact Mems.nil | refine Mems.cons Z.M ?_))) rfl rfl rfl ((by exact Rd.field rfl F105_0 rfl rfl)) ?_
        refine WE.one 32 rfl Z.K rfl ?_
        refine OpW.store1 rfl Z85 rfl rfl (by assumption) Z.T (by (simp; done)) rfl ?_
        refine ⟨(HeldL.mk2 [] Z.K Z.S Z.O (by repeat (first | exact Mems.nil | refine Mems.cons Z.M ?_))), ?_⟩
        refine WE.take 33 [] rfl Z.K (by repeat (first | exact List.Sublist.refl _ | exact List.nil_sublist _ | apply List.Sublist.cons_cons | apply List.Sublist.cons)) (HeldL.mk2 [] Z.K Z.S Z.O (by repeat (first | exact Mems.nil | refine Mems.cons Z.M ?_))) rfl rfl rfl (Rd.nilc rfl rfl) ?_
        refine WE.take 34 [] rfl Z.K (by repeat (first | exact List.Sublist.refl _ | exact List.nil_sublist _ | apply List.Sublist.cons_cons | apply List.Sublist.cons)) (HeldL.mk2 [] Z.K Z.S Z.O (by repeat (first | exact Mems.nil | refine Mems.cons Z.M ?_))) rfl rfl rfl ((by exact Rd.field rfl F105_1 rfl rfl)) ?_
        refine WE.one 35 rfl Z.K rfl ?_
        refine OpW.store1 rfl Z42 rfl rfl (by assumption) Z.T (by (simp; done)) rfl ?_
        refine ⟨(HeldL.mk2 [] Z.K Z.S Z.O (by repeat (first | exact Mems.nil | refine Mems.cons Z.M ?_))), ?_⟩
        refine WE.take 36 [] rfl Z.K (by repeat (first | exact List.Sublist.refl _ | exact List.nil_sublist _ | apply List.Sublist.cons_cons | apply List.Sublist.cons)) (HeldL.mk2 [] Z.K Z.S Z.O (by repeat (first | exact Mems.nil | refine Mems.cons Z.M ?_))) rfl rfl rfl (Rd.nilc rfl rfl) ?_
        refine WE.take 37 [] rfl Z.K (by repeat (first | exact List.Sublist.refl _ | exact List.nil_sublist _ | apply List.Sublist.cons_cons | apply List.Sublist.cons)) (HeldL.mk2 [] Z.K Z.S Z.O (by repeat (first | exact Mems.nil | refine Mems.cons Z.M ?_))) rfl rfl rfl ((by exact Rd.field rfl F105_2 rfl rfl)) ?_
        refine WE.one 38 rfl Z.K rfl ?_
        refine OpW.store1 rfl Z42 rfl rfl (by assumption) Z.T (by (simp; done)) rfl ?_
        refine ⟨(HeldL.mk2 [] Z.K Z.S Z.O (by repeat (first | exact Mems.nil | refine Mems.cons Z.M ?_))), ?_⟩
        refine WE.done Z.K ?_
        refine blockQ.normal ?_
        refine thenQ.normal ?_
        refine WC.region ?_
        refine WL.rd rfl rfl rfl (Rd.add rfl rfl rfl Z.W) ?_
        refine WL.rd rfl rfl rfl (Rd.move rfl rfl) ?_
        refine WL.nil ?_
        exact loopQ4.mk (i + 1) v44 v52 v60 Z.W Z.W (by repeat (first | exact Sub.nil | refine Sub.cons rfl (by rfl) ?_)) (fun w h => by rw [chars_next Z.W, nx0_next, pr0_next]; exact Z.Fw h)
      ·
       refine ⟨_, rfl, rfl, ?_⟩
       refine OpW.buildSl (ps := [(0, _)]) rfl S42 Z.E rfl rfl Z.C Z.K rfl rfl rfl ?_; intro b59
       refine ⟨(HeldL.mk2 [rowW b15 pv nv qv b13 nilS] Z.K Z.S Z.O (by repeat (first | exact Mems.nil | refine Mems.cons Z.M ?_))), ?_⟩
       refine WE.one 13 rfl Z.K rfl ?_
       refine OpW.appendRow (enc := SL.one vs) rfl S85 rfl rfl Z.T Z.T [[word[i]!]] rfl (by rfl) rfl (by intro x; rfl) (by intro x; rfl) hr1 rfl rfl ?_; intro v44 hv44
       refine ⟨(HeldL.mk2 [rowW b15 pv nv qv b13 nilS] Z.K Z.S Z.O (by repeat (first | exact Mems.nil | refine Mems.cons Z.M ?_))), ?_⟩
       refine WE.one 21 rfl Z.K rfl ?_
       refine OpW.appendRow (enc := SL.one vi) rfl S42 rfl rfl Z.T Z.T [(i : Int) + 1] rfl (by rfl) rfl (by intro x; rfl) (by intro x; rfl) hr2 rfl rfl ?_; intro v52 hv52
       refine ⟨(HeldL.mk2 [rowW b15 pv nv qv b13 nilS] Z.K Z.S Z.O (by repeat (first | exact Mems.nil | refine Mems.cons Z.M ?_))), ?_⟩
       refine WE.one 29 rfl Z.K rfl ?_
       refine OpW.appendRow (enc := SL.one vi) rfl S42 rfl rfl Z.T Z.T [(i : Int) - 1] rfl (by rfl) rfl (by intro x; rfl) (by intro x; rfl) hr3 rfl rfl ?_; intro v60 hv60
       refine ⟨(HeldL.mk2 [rowW b15 pv nv qv b13 nilS] Z.K Z.S Z.O (by repeat (first | exact Mems.nil | refine Mems.cons Z.M ?_))), ?_⟩
       refine WE.take 30 [] rfl Z.K (by repeat (first | exact List.Sublist.refl _ | exact List.nil_sublist _ | apply List.Sublist.cons_cons | apply List.Sublist.cons)) (HeldL.mk2 [rowW b15 pv nv qv b13 nilS] Z.K Z.S Z.O (by repeat (first | exact Mems.nil | refine Mems.cons Z.M ?_))) rfl rfl rfl (Rd.nilc rfl rfl) ?_
       refine WE.take 31 [] rfl Z.K (by repeat (first | exact List.Sublist.refl _ | exact List.nil_sublist _ | apply List.Sublist.cons_cons | apply List.Sublist.cons)) (HeldL.mk2 [rowW b15 pv nv qv b13 nilS] Z.K Z.S Z.O (by repeat (first | exact Mems.nil | refine Mems.cons Z.M ?_))) rfl rfl rfl ((by exact Rd.field rfl F105_0 rfl rfl)) ?_
       refine WE.one 32 rfl Z.K rfl ?_
       refine OpW.store1 rfl Z85 rfl rfl (by assumption) Z.T (by (simp; done)) rfl ?_
       refine ⟨(HeldL.mk2 [] Z.K Z.S Z.O (by repeat (first | exact Mems.nil | refine Mems.cons Z.M ?_))), ?_⟩
       refine WE.take 33 [] rfl Z.K (by repeat (first | exact List.Sublist.refl _ | exact List.nil_sublist _ | apply List.Sublist.cons_cons | apply List.Sublist.cons)) (HeldL.mk2 [] Z.K Z.S Z.O (by repeat (first | exact Mems.nil | refine Mems.cons Z.M ?_))) rfl rfl rfl (Rd.nilc rfl rfl) ?_
       refine WE.take 34 [] rfl Z.K (by repeat (first | exact List.Sublist.refl _ | exact List.nil_sublist _ | apply List.Sublist.cons_cons | apply List.Sublist.cons)) (HeldL.mk2 [] Z.K Z.S Z.O (by repeat (first | exact Mems.nil | refine Mems.cons Z.M ?_))) rfl rfl rfl ((by exact Rd.field rfl F105_1 rfl rfl)) ?_
       refine WE.one 35 rfl Z.K rfl ?_
       refine OpW.store1 rfl Z42 rfl rfl (by assumption) Z.T (by (simp; done)) rfl ?_
       refine ⟨(HeldL.mk2 [] Z.K Z.S Z.O (by repeat (first | exact Mems.nil | refine Mems.cons Z.M ?_))), ?_⟩
       refine WE.take 36 [] rfl Z.K (by repeat (first | exact List.Sublist.refl _ | exact List.nil_sublist _ | apply List.Sublist.cons_cons | apply List.Sublist.cons)) (HeldL.mk2 [] Z.K Z.S Z.O (by repeat (first | exact Mems.nil | refine Mems.cons Z.M ?_))) rfl rfl rfl (Rd.nilc rfl rfl) ?_
       refine WE.take 37 [] rfl Z.K (by repeat (first | exact List.Sublist.refl _ | exact List.nil_sublist _ | apply List.Sublist.cons_cons | apply List.Sublist.cons)) (HeldL.mk2 [] Z.K Z.S Z.O (by repeat (first | exact Mems.nil | refine Mems.cons Z.M ?_))) rfl rfl rfl ((by exact Rd.field rfl F105_2 rfl rfl)) ?_
       refine WE.one 38 rfl Z.K rfl ?_
       refine OpW.store1 rfl Z42 rfl rfl (by assumption) Z.T (by (simp; done)) rfl ?_
       refine ⟨(HeldL.mk2 [] Z.K Z.S Z.O (by repeat (first | exact Mems.nil | refine Mems.cons Z.M ?_))), ?_⟩
       refine WE.done Z.K ?_
       refine blockQ.normal ?_
       refine thenQ.normal ?_
       refine WC.region ?_
       refine WL.rd rfl rfl rfl (Rd.add rfl rfl rfl Z.W) ?_
       refine WL.rd rfl rfl rfl (Rd.move rfl rfl) ?_
       refine WL.nil ?_
       exact loopQ4.mk (i + 1) v44 v52 v60 Z.W Z.W (by repeat (first | exact Sub.nil | refine Sub.cons rfl (by rfl) ?_)) (fun w h => by rw [chars_next Z.W, nx0_next, pr0_next]; exact Z.Fw h)
     ·
      refine ⟨_, rfl, rfl, ?_⟩
      refine OpW.buildSl (ps := [(0, _)]) rfl S42 Z.E rfl rfl Z.C Z.K rfl rfl rfl ?_; intro b59
      refine ⟨(HeldL.mk2 [rowW b15 pv nv qv b13 nilS] Z.K Z.S Z.O (by repeat (first | exact Mems.nil | refine Mems.cons Z.M ?_))), ?_⟩
      refine WE.many [13, 20] Z.K (by simp) ?_
      intro i hi; simp only [List.mem_cons, List.not_mem_nil, or_false] at hi; rcases hi with rfl | rfl
      ·
       refine ⟨_, rfl, rfl, ?_⟩
       refine OpW.appendRow (enc := SL.one vs) rfl S85 rfl rfl Z.T Z.T [[word[i]!]] rfl (by rfl) rfl (by intro x; rfl) (by intro x; rfl) hr1 rfl rfl ?_; intro v44 hv44
       refine ⟨(HeldL.mk2 [rowW b15 pv nv qv b13 nilS] Z.K Z.S Z.O (by repeat (first | exact Mems.nil | refine Mems.cons Z.M ?_))), ?_⟩
       refine WE.one 20 rfl Z.K rfl ?_
       refine OpW.buildSl (ps := [(0, _)]) rfl S42 Z.E rfl rfl Z.C Z.K rfl rfl rfl ?_; intro b51
       refine ⟨(HeldL.mk2 [rowW b15 pv nv qv b13 nilS] Z.K Z.S Z.O (by repeat (first | exact Mems.nil | refine Mems.cons Z.M ?_))), ?_⟩
       refine WE.one 21 rfl Z.K rfl ?_
       refine OpW.appendRow (enc := SL.one vi) rfl S42 rfl rfl Z.T Z.T [(i : Int) + 1] rfl (by rfl) rfl (by intro x; rfl) (by intro x; rfl) hr2 rfl rfl ?_; intro v52 hv52
       refine ⟨(HeldL.mk2 [rowW b15 pv nv qv b13 nilS] Z.K Z.S Z.O (by repeat (first | exact Mems.nil | refine Mems.cons Z.M ?_))), ?_⟩
       refine WE.one 29 rfl Z.K rfl ?_
       refine OpW.appendRow (enc := SL.one vi) rfl S42 rfl rfl Z.T Z.T [(i : Int) - 1] rfl (by rfl) rfl (by intro x; rfl) (by intro x; rfl) hr3 rfl rfl ?_; intro v60 hv60
       refine ⟨(HeldL.mk2 [rowW b15 pv nv qv b13 nilS] Z.K Z.S Z.O (by repeat (first | exact Mems.nil | refine Mems.cons Z.M ?_))), ?_⟩
       refine WE.take 30 [] rfl Z.K (by repeat (first | exact List.Sublist.refl _ | exact List.nil_sublist _ | apply List.Sublist.cons_cons | apply List.Sublist.cons)) (HeldL.mk2 [rowW b15 pv nv qv b13 nilS] Z.K Z.S Z.O (by repeat (first | exact Mems.nil | refine Mems.cons Z.M ?_))) rfl rfl rfl (Rd.nilc rfl rfl) ?_
       refine WE.take 31 [] rfl Z.K (by repeat (first | exact List.Sublist.refl _ | exact List.nil_sublist _ | apply List.Sublist.cons_cons | apply List.Sublist.cons)) (HeldL.mk2 [rowW b15 pv nv qv b13 nilS] Z.K Z.S Z.O (by repeat (first | exact Mems.nil | refine Mems.cons Z.M ?_))) rfl rfl rfl ((by exact Rd.field rfl F105_0 rfl rfl)) ?_
       refine WE.one 32 rfl Z.K rfl ?_
       refine OpW.store1 rfl Z85 rfl rfl (by assumption) Z.T (by (simp; done)) rfl ?_
       refine ⟨(HeldL.mk2 [] Z.K Z.S Z.O (by repeat (first | exact Mems.nil | refine Mems.cons Z.M ?_))), ?_⟩
       refine WE.take 33 [] rfl Z.K (by repeat (first | exact List.Sublist.refl _ | exact List.nil_sublist _ | apply List.Sublist.cons_cons | apply List.Sublist.cons)) (HeldL.mk2 [] Z.K Z.S Z.O (by repeat (first | exact Mems.nil | refine Mems.cons Z.M ?_))) rfl rfl rfl (Rd.nilc rfl rfl) ?_
       refine WE.take 34 [] rfl Z.K (by repeat (first | exact List.Sublist.refl _ | exact List.nil_sublist _ | apply List.Sublist.cons_cons | apply List.Sublist.cons)) (HeldL.mk2 [] Z.K Z.S Z.O (by repeat (first | exact Mems.nil | refine Mems.cons Z.M ?_))) rfl rfl rfl ((by exact Rd.field rfl F105_1 rfl rfl)) ?_
       refine WE.one 35 rfl Z.K rfl ?_
       refine OpW.store1 rfl Z42 rfl rfl (by assumption) Z.T (by (simp; done)) rfl ?_
       refine ⟨(HeldL.mk2 [] Z.K Z.S Z.O (by repeat (first | exact Mems.nil | refine Mems.cons Z.M ?_))), ?_⟩
       refine WE.take 36 [] rfl Z.K (by repeat (first | exact List.Sublist.refl _ | exact List.nil_sublist _ | apply List.Sublist.cons_cons | apply List.Sublist.cons)) (HeldL.mk2 [] Z.K Z.S Z.O (by repeat (first | exact Mems.nil | refine Mems.cons Z.M ?_))) rfl rfl rfl (Rd.nilc rfl rfl) ?_
       refine WE.take 37 [] rfl Z.K (by repeat (first | exact List.Sublist.refl _ | exact List.nil_sublist _ | apply List.Sublist.cons_cons | apply List.Sublist.cons)) (HeldL.mk2 [] Z.K Z.S Z.O (by repeat (first | exact Mems.nil | refine Mems.cons Z.M ?_))) rfl rfl rfl ((by exact Rd.field rfl F105_2 rfl rfl)) ?_
       refine WE.one 38 rfl Z.K rfl ?_
       refine OpW.store1 rfl Z42 rfl rfl (by assumption) Z.T (by (simp; done)) rfl ?_
       refine ⟨(HeldL.mk2 [] Z.K Z.S Z.O (by repeat (first | exact Mems.nil | refine Mems.cons Z.M ?_))), ?_⟩
       refine WE.done Z.K ?_
       refine blockQ.normal ?_
       refine thenQ.normal ?_
       refine WC.region ?_
       refine WL.rd rfl rfl rfl (Rd.add rfl rfl rfl Z.W) ?_
       refine WL.rd rfl rfl rfl (Rd.move rfl rfl) ?_
       refine WL.nil ?_
       exact loopQ4.mk (i + 1) v44 v52 v60 Z.W Z.W (by repeat (first | exact Sub.nil | refine Sub.cons rfl (by rfl) ?_)) (fun w h => by rw [chars_next Z.W, nx0_next, pr0_next]; exact Z.Fw h)
      ·
       refine ⟨_, rfl, rfl, ?_⟩
       refine OpW.buildSl (ps := [(0, _)]) rfl S42 Z.E rfl rfl Z.C Z.K rfl rfl rfl ?_; intro b51
       refine ⟨(HeldL.mk2 [rowW b15 pv nv qv b13 nilS] Z.K Z.S Z.O (by repeat (first | exact Mems.nil | refine Mems.cons Z.M ?_))), ?_⟩
       refine WE.one 13 rfl Z.K rfl ?_
       refine OpW.appendRow (enc := SL.one vs) rfl S85 rfl rfl Z.T Z.T [[word[i]!]] rfl (by rfl) rfl (by intro x; rfl) (by intro x; rfl) hr1 rfl rfl ?_; intro v44 hv44
       refine ⟨(HeldL.mk2 [rowW b15 pv nv qv b13 nilS] Z.K Z.S Z.O (by repeat (first | exact Mems.nil | refine Mems.cons Z.M ?_))), ?_⟩
       refine WE.one 21 rfl Z.K rfl ?_
       refine OpW.appendRow (enc := SL.one vi) rfl S42 rfl rfl Z.T Z.T [(i : Int) + 1] rfl (by rfl) rfl (by intro x; rfl) (by intro x; rfl) hr2 rfl rfl ?_; intro v52 hv52
       refine ⟨(HeldL.mk2 [rowW b15 pv nv qv b13 nilS] Z.K Z.S Z.O (by repeat (first | exact Mems.nil | refine Mems.cons Z.M ?_))), ?_⟩
       refine WE.one 29 rfl Z.K rfl ?_
       refine OpW.appendRow (enc := SL.one vi) rfl S42 rfl rfl Z.T Z.T [(i : Int) - 1] rfl (by rfl) rfl (by intro x; rfl) (by intro x; rfl) hr3 rfl rfl ?_; intro v60 hv60
       refine ⟨(HeldL.mk2 [rowW b15 pv nv qv b13 nilS] Z.K Z.S Z.O (by repeat (first | exact Mems.nil | refine Mems.cons Z.M ?_))), ?_⟩
       refine WE.take 30 [] rfl Z.K (by repeat (first | exact List.Sublist.refl _ | exact List.nil_sublist _ | apply List.Sublist.cons_cons | apply List.Sublist.cons)) (HeldL.mk2 [rowW b15 pv nv qv b13 nilS] Z.K Z.S Z.O (by repeat (first | exact Mems.nil | refine Mems.cons Z.M ?_))) rfl rfl rfl (Rd.nilc rfl rfl) ?_
       refine WE.take 31 [] rfl Z.K (by repeat (first | exact List.Sublist.refl _ | exact List.nil_sublist _ | apply List.Sublist.cons_cons | apply List.Sublist.cons)) (HeldL.mk2 [rowW b15 pv nv qv b13 nilS] Z.K Z.S Z.O (by repeat (first | exact Mems.nil | refine Mems.cons Z.M ?_))) rfl rfl rfl ((by exact Rd.field rfl F105_0 rfl rfl)) ?_
       refine WE.one 32 rfl Z.K rfl ?_
       refine OpW.store1 rfl Z85 rfl rfl (by assumption) Z.T (by (simp; done)) rfl ?_
       refine ⟨(HeldL.mk2 [] Z.K Z.S Z.O (by repeat (first | exact Mems.nil | refine Mems.cons Z.M ?_))), ?_⟩
       refine WE.take 33 [] rfl Z.K (by repeat (first | exact List.Sublist.refl _ | exact List.nil_sublist _ | apply List.Sublist.cons_cons | apply List.Sublist.cons)) (HeldL.mk2 [] Z.K Z.S Z.O (by repeat (first | exact Mems.nil | refine Mems.cons Z.M ?_))) rfl rfl rfl (Rd.nilc rfl rfl) ?_
       refine WE.take 34 [] rfl Z.K (by repeat (first | exact List.Sublist.refl _ | exact List.nil_sublist _ | apply List.Sublist.cons_cons | apply List.Sublist.cons)) (HeldL.mk2 [] Z.K Z.S Z.O (by repeat (first | exact Mems.nil | refine Mems.cons Z.M ?_))) rfl rfl rfl ((by exact Rd.field rfl F105_1 rfl rfl)) ?_
       refine WE.one 35 rfl Z.K rfl ?_
       refine OpW.store1 rfl Z42 rfl rfl (by assumption) Z.T (by (simp; done)) rfl ?_
       refine ⟨(HeldL.mk2 [] Z.K Z.S Z.O (by repeat (first | exact Mems.nil | refine Mems.cons Z.M ?_))), ?_⟩
       refine WE.take 36 [] rfl Z.K (by repeat (first | exact List.Sublist.refl _ | exact List.nil_sublist _ | apply List.Sublist.cons_cons | apply List.Sublist.cons)) (HeldL.mk2 [] Z.K Z.S Z.O (by repeat (first | exact Mems.nil | refine Mems.cons Z.M ?_))) rfl rfl rfl (Rd.nilc rfl rfl) ?_
       refine WE.take 37 [] rfl Z.K (by repeat (first | exact List.Sublist.refl _ | exact List.nil_sublist _ | apply List.Sublist.cons_cons | apply List.Sublist.cons)) (HeldL.mk2 [] Z.K Z.S Z.O (by repeat (first | exact Mems.nil | refine Mems.cons Z.M ?_))) rfl rfl rfl ((by exact Rd.field rfl F105_2 rfl rfl)) ?_
       refine WE.one 38 rfl Z.K rfl ?_
       refine OpW.store1 rfl Z42 rfl rfl (by assumption) Z.T (by (simp; done)) rfl ?_
       refine ⟨(HeldL.mk2 [] Z.K Z.S Z.O (by repeat (first | exact Mems.nil | refine Mems.cons Z.M ?_))), ?_⟩
       refine WE.done Z.K ?_
       refine blockQ.normal ?_
       refine thenQ.normal ?_
       refine WC.region ?_
       refine WL.rd rfl rfl rfl (Rd.add rfl rfl rfl Z.W) ?_
       refine WL.rd rfl rfl rfl (Rd.move rfl rfl) ?_
       refine WL.nil ?_
       exact loopQ4.mk (i + 1) v44 v52 v60 Z.W Z.W (by repeat (first | exact Sub.nil | refine Sub.cons rfl (by rfl) ?_)) (fun w h => by rw [chars_next Z.W, nx0_next, pr0_next]; exact Z.Fw h)
    ·
     refine ⟨_, rfl, rfl, ?_⟩
     refine OpW.buildSl (ps := [(0, _)]) rfl S42 Z.E rfl rfl Z.C Z.K rfl rfl rfl ?_; intro b51
     refine ⟨(HeldL.mk2 [rowW b15 pv nv qv b13 nilS] Z.K Z.S Z.O (by repeat (first | exact Mems.nil | refine Mems.cons Z.M ?_))), ?_⟩
     refine WE.many [12, 28] Z.K (by simp) ?_
     intro i hi; simp only [List.mem_cons, List.not_mem_nil, or_false] at hi; rcases hi with rfl | rfl
     ·
      refine ⟨_, rfl, rfl, ?_⟩
      refine OpW.buildSl (ps := [(0, _)]) rfl S85 Z.E rfl rfl Z.C Z.K rfl rfl rfl ?_; intro b43
      refine ⟨(HeldL.mk2 [rowW b15 pv nv qv b13 nilS] Z.K Z.S Z.O (by repeat (first | exact Mems.nil | refine Mems.cons Z.M ?_))), ?_⟩
      refine WE.many [13, 28] Z.K (by simp) ?_
      intro i hi; simp only [List.mem_cons, List.not_mem_nil, or_false] at hi; rcases hi with rfl | rfl
      ·
       refine ⟨_, rfl, rfl, ?_⟩
       refine OpW.appendRow (enc := SL.one vs) rfl S85 rfl rfl Z.T Z.T [[word[i]!]] rfl (by rfl) rfl (by intro x; rfl) (by intro x; rfl) hr1 rfl rfl ?_; intro v44 hv44
       refine ⟨(HeldL.mk2 [rowW b15 pv nv qv b13 nilS] Z.K Z.S Z.O (by repeat (first | exact Mems.nil | refine Mems.cons Z.M ?_))), ?_⟩
       refine WE.many [21, 28] Z.K (by simp) ?_
       intro i hi; simp only [List.mem_cons, List.not_mem_nil, or_false] at hi; rcases hi with rfl | rfl
       ·
        refine ⟨_, rfl, rfl, ?_⟩
        refine OpW.appendRow (enc := SL.one vi) rfl S42 rfl rfl Z.T Z.T [(i : Int) + 1] rfl (by rfl) rfl (by intro x; rfl) (by intro x; rfl) hr2 rfl rfl ?_; intro v52 hv52
        refine ⟨(HeldL.mk2 [rowW b15 pv nv qv b13 nilS] Z.K Z.S Z.O (by repeat (first | exact Mems.nil | refine Mems.cons Z.M ?_))), ?_⟩
        refine WE.one 28 rfl Z.K rfl ?_
        refine OpW.buildSl (ps := [(0, _)]) rfl S42 Z.E rfl rfl Z.C Z.K rfl rfl rfl ?_; intro b59
        refine ⟨(HeldL.mk2 [rowW b15 pv nv qv b13 nilS] Z.K Z.S Z.O (by repeat (first | exact Mems.nil | refine Mems.cons Z.M ?_))), ?_⟩
        refine WE.one 29 rfl Z.K rfl ?_
        refine OpW.appendRow (enc := SL.one vi) rfl S42 rfl rfl Z.T Z.T [(i : Int) - 1] rfl (by rfl) rfl (by intro x; rfl) (by intro x; rfl) hr3 rfl rfl ?_; intro v60 hv60
        refine ⟨(HeldL.mk2 [rowW b15 pv nv qv b13 nilS] Z.K Z.S Z.O (by repeat (first | exact Mems.nil | refine Mems.cons Z.M ?_))), ?_⟩
        refine WE.take 30 [] rfl Z.K (by repeat (first | exact List.Sublist.refl _ | exact List.nil_sublist _ | apply List.Sublist.cons_cons | apply List.Sublist.cons)) (HeldL.mk2 [rowW b15 pv nv qv b13 nilS] Z.K Z.S Z.O (by repeat (first | exact Mems.nil | refine Mems.cons Z.M ?_))) rfl rfl rfl (Rd.nilc rfl rfl) ?_
        refine WE.take 31 [] rfl Z.K (by repeat (first | exact List.Sublist.refl _ | exact List.nil_sublist _ | apply List.Sublist.cons_cons | apply List.Sublist.cons)) (HeldL.mk2 [rowW b15 pv nv qv b13 nilS] Z.K Z.S Z.O (by repeat (first | exact Mems.nil | refine Mems.cons Z.M ?_))) rfl rfl rfl ((by exact Rd.field rfl F105_0 rfl rfl)) ?_
        refine WE.one 32 rfl Z.K rfl ?_
        refine OpW.store1 rfl Z85 rfl rfl (by assumption) Z.T (by (simp; done)) rfl ?_
        refine ⟨(HeldL.mk2 [] Z.K Z.S Z.O (by repeat (first | exact Mems.nil | refine Mems.cons Z.M ?_))), ?_⟩
        refine WE.take 33 [] rfl Z.K (by repeat (first | exact List.Sublist.refl _ | exact List.nil_sublist _ | apply List.Sublist.cons_cons | apply List.Sublist.cons)) (HeldL.mk2 [] Z.K Z.S Z.O (by repeat (first | exact Mems.nil | refine Mems.cons Z.M ?_))) rfl rfl rfl (Rd.nilc rfl rfl) ?_
        refine WE.take 34 [] rfl Z.K (by repeat (first | exact List.Sublist.refl _ | exact List.nil_sublist _ | apply List.Sublist.cons_cons | apply List.Sublist.cons)) (HeldL.mk2 [] Z.K Z.S Z.O (by repeat (first | exact Mems.nil | refine Mems.cons Z.M ?_))) rfl rfl rfl ((by exact Rd.field rfl F105_1 rfl rfl)) ?_
        refine WE.one 35 rfl Z.K rfl ?_
        refine OpW.store1 rfl Z42 rfl rfl (by assumption) Z.T (by (simp; done)) rfl ?_
        refine ⟨(HeldL.mk2 [] Z.K Z.S Z.O (by repeat (first | exact Mems.nil | refine Mems.cons Z.M ?_))), ?_⟩
        refine WE.take 36 [] rfl Z.K (by repeat (first | exact List.Sublist.refl _ | exact List.nil_sublist _ | apply List.Sublist.cons_cons | apply List.Sublist.cons)) (HeldL.mk2 [] Z.K Z.S Z.O (by repeat (first | exact Mems.nil | refine Mems.cons Z.M ?_))) rfl rfl rfl (Rd.nilc rfl rfl) ?_
        refine WE.take 37 [] rfl Z.K (by repeat (first | exact List.Sublist.refl _ | exact List.nil_sublist _ | apply List.Sublist.cons_cons | apply List.Sublist.cons)) (HeldL.mk2 [] Z.K Z.S Z.O (by repeat (first | exact Mems.nil | refine Mems.cons Z.M ?_))) rfl rfl rfl ((by exact Rd.field rfl F105_2 rfl rfl)) ?_
        refine WE.one 38 rfl Z.K rfl ?_
        refine OpW.store1 rfl Z42 rfl rfl (by assumption) Z.T (by (simp; done)) rfl ?_
        refine ⟨(HeldL.mk2 [] Z.K Z.S Z.O (by repeat (first | exact Mems.nil | refine Mems.cons Z.M ?_))), ?_⟩
        refine WE.done Z.K ?_
        refine blockQ.normal ?_
        refine thenQ.normal ?_
        refine WC.region ?_
        refine WL.rd rfl rfl rfl (Rd.add rfl rfl rfl Z.W) ?_
        refine WL.rd rfl rfl rfl (Rd.move rfl rfl) ?_
        refine WL.nil ?_
        exact loopQ4.mk (i + 1) v44 v52 v60 Z.W Z.W (by repeat (first | exact Sub.nil | refine Sub.cons rfl (by rfl) ?_)) (fun w h => by rw [chars_next Z.W, nx0_next, pr0_next]; exact Z.Fw h)
       ·
        refine ⟨_, rfl, rfl, ?_⟩
        refine OpW.buildSl (ps := [(0, _)]) rfl S42 Z.E rfl rfl Z.C Z.K rfl rfl rfl ?_; intro b59
        refine ⟨(HeldL.mk2 [rowW b15 pv nv qv b13 nilS] Z.K Z.S Z.O (by repeat (first | exact Mems.nil | refine Mems.cons Z.M ?_))), ?_⟩
        refine WE.one 21 rfl Z.K rfl ?_
        refine OpW.appendRow (enc := SL.one vi) rfl S42 rfl rfl Z.T Z.T [(i : Int) + 1] rfl (by rfl) rfl (by intro x; rfl) (by intro x; rfl) hr2 rfl rfl ?_; intro v52 hv52
        refine ⟨(HeldL.mk2 [rowW b15 pv nv qv b13 nilS] Z.K Z.S Z.O (by repeat (first | exact Mems.nil | refine Mems.cons Z.M ?_))), ?_⟩
        refine WE.one 29 rfl Z.K rfl ?_
        refine OpW.appendRow (enc := SL.one vi) rfl S42 rfl rfl Z.T Z.T [(i : Int) - 1] rfl (by rfl) rfl (by intro x; rfl) (by intro x; rfl) hr3 rfl rfl ?_; intro v60 hv60
        refine ⟨(HeldL.mk2 [rowW b15 pv nv qv b13 nilS] Z.K Z.S Z.O (by repeat (first | exact Mems.nil | refine Mems.cons Z.M ?_))), ?_⟩
        refine WE.take 30 [] rfl Z.K (by repeat (first | exact List.Sublist.refl _ | exact List.nil_sublist _ | apply List.Sublist.cons_cons | apply List.Sublist.cons)) (HeldL.mk2 [rowW b15 pv nv qv b13 nilS] Z.K Z.S Z.O (by repeat (first | exact Mems.nil | refine Mems.cons Z.M ?_))) rfl rfl rfl (Rd.nilc rfl rfl) ?_
        refine WE.take 31 [] rfl Z.K (by repeat (first | exact List.Sublist.refl _ | exact List.nil_sublist _ | apply List.Sublist.cons_cons | apply List.Sublist.cons)) (HeldL.mk2 [rowW b15 pv nv qv b13 nilS] Z.K Z.S Z.O (by repeat (first | exact Mems.nil | refine Mems.cons Z.M ?_))) rfl rfl rfl ((by exact Rd.field rfl F105_0 rfl rfl)) ?_
        refine WE.one 32 rfl Z.K rfl ?_
        refine OpW.store1 rfl Z85 rfl rfl (by assumption) Z.T (by (simp; done)) rfl ?_
        refine ⟨(HeldL.mk2 [] Z.K Z.S Z.O (by repeat (first | exact Mems.nil | refine Mems.cons Z.M ?_))), ?_⟩
        refine WE.take 33 [] rfl Z.K (by repeat (first | exact List.Sublist.refl _ | exact List.nil_sublist _ | apply List.Sublist.cons_cons | apply List.Sublist.cons)) (HeldL.mk2 [] Z.K Z.S Z.O (by repeat (first | exact Mems.nil | refine Mems.cons Z.M ?_))) rfl rfl rfl (Rd.nilc rfl rfl) ?_
        refine WE.take 34 [] rfl Z.K (by repeat (first | exact List.Sublist.refl _ | exact List.nil_sublist _ | apply List.Sublist.cons_cons | apply List.Sublist.cons)) (HeldL.mk2 [] Z.K Z.S Z.O (by repeat (first | exact Mems.nil | refine Mems.cons Z.M ?_))) rfl rfl rfl ((by exact Rd.field rfl F105_1 rfl rfl)) ?_
        refine WE.one 35 rfl Z.K rfl ?_
        refine OpW.store1 rfl Z42 rfl rfl (by assumption) Z.T (by (simp; done)) rfl ?_
        refine ⟨(HeldL.mk2 [] Z.K Z.S Z.O (by repeat (first | exact Mems.nil | refine Mems.cons Z.M ?_))), ?_⟩
        refine WE.take 36 [] rfl Z.K (by repeat (first | exact List.Sublist.refl _ | exact List.nil_sublist _ | apply List.Sublist.cons_cons | apply List.Sublist.cons)) (HeldL.mk2 [] Z.K Z.S Z.O (by repeat (first | exact Mems.nil | refine Mems.cons Z.M ?_))) rfl rfl rfl (Rd.nilc rfl rfl) ?_
        refine WE.take 37 [] rfl Z.K (by repeat (first | exact List.Sublist.refl _ | exact List.nil_sublist _ | apply List.Sublist.cons_cons | apply List.Sublist.cons)) (HeldL.mk2 [] Z.K Z.S Z.O (by repeat (first | exact Mems.nil | refine Mems.cons Z.M ?_))) rfl rfl rfl ((by exact Rd.field rfl F105_2 rfl rfl)) ?_
        refine WE.one 38 rfl Z.K rfl ?_
        refine OpW.store1 rfl Z42 rfl rfl (by assumption) Z.T (by (simp; done)) rfl ?_
        refine ⟨(HeldL.mk2 [] Z.K Z.S Z.O (by repeat (first | exact Mems.nil | refine Mems.cons Z.M ?_))), ?_⟩
        refine WE.done Z.K ?_
        refine blockQ.normal ?_
        refine thenQ.normal ?_
        refine WC.region ?_
        refine WL.rd rfl rfl rfl (Rd.add rfl rfl rfl Z.W) ?_
        refine WL.rd rfl rfl rfl (Rd.move rfl rfl) ?_
        refine WL.nil ?_
        exact loopQ4.mk (i + 1) v44 v52 v60 Z.W Z.W (by repeat (first | exact Sub.nil | refine Sub.cons rfl (by rfl) ?_)) (fun w h => by rw [chars_next Z.W, nx0_next, pr0_next]; exact Z.Fw h)
      ·
       refine ⟨_, rfl, rfl, ?_⟩
       refine OpW.buildSl (ps := [(0, _)]) rfl S42 Z.E rfl rfl Z.C Z.K rfl rfl rfl ?_; intro b59
       refine ⟨(HeldL.mk2 [rowW b15 pv nv qv b13 nilS] Z.K Z.S Z.O (by repeat (first | exact Mems.nil | refine Mems.cons Z.M ?_))), ?_⟩
       refine WE.one 13 rfl Z.K rfl ?_
       refine OpW.appendRow (enc := SL.one vs) rfl S85 rfl rfl Z.T Z.T [[word[i]!]] rfl (by rfl) rfl (by intro x; rfl) (by intro x; rfl) hr1 rfl rfl ?_; intro v44 hv44
       refine ⟨(HeldL.mk2 [rowW b15 pv nv qv b13 nilS] Z.K Z.S Z.O (by repeat (first | exact Mems.nil | refine Mems.cons Z.M ?_))), ?_⟩
       refine WE.one 21 rfl Z.K rfl ?_
       refine OpW.appendRow (enc := SL.one vi) rfl S42 rfl rfl Z.T Z.T [(i : Int) + 1] rfl (by rfl) rfl (by intro x; rfl) (by intro x; rfl) hr2 rfl rfl ?_; intro v52 hv52
       refine ⟨(HeldL.mk2 [rowW b15 pv nv qv b13 nilS] Z.K Z.S Z.O (by repeat (first | exact Mems.nil | refine Mems.cons Z.M ?_))), ?_⟩
       refine WE.one 29 rfl Z.K rfl ?_
       refine OpW.appendRow (enc := SL.one vi) rfl S42 rfl rfl Z.T Z.T [(i : Int) - 1] rfl (by rfl) rfl (by intro x; rfl) (by intro x; rfl) hr3 rfl rfl ?_; intro v60 hv60
       refine ⟨(HeldL.mk2 [rowW b15 pv nv qv b13 nilS] Z.K Z.S Z.O (by repeat (first | exact Mems.nil | refine Mems.cons Z.M ?_))), ?_⟩
       refine WE.take 30 [] rfl Z.K (by repeat (first | exact List.Sublist.refl _ | exact List.nil_sublist _ | apply List.Sublist.cons_cons | apply List.Sublist.cons)) (HeldL.mk2 [rowW b15 pv nv qv b13 nilS] Z.K Z.S Z.O (by repeat (first | exact Mems.nil | refine Mems.cons Z.M ?_))) rfl rfl rfl (Rd.nilc rfl rfl) ?_
       refine WE.take 31 [] rfl Z.K (by repeat (first | exact List.Sublist.refl _ | exact List.nil_sublist _ | apply List.Sublist.cons_cons | apply List.Sublist.cons)) (HeldL.mk2 [rowW b15 pv nv qv b13 nilS] Z.K Z.S Z.O (by repeat (first | exact Mems.nil | refine Mems.cons Z.M ?_))) rfl rfl rfl ((by exact Rd.field rfl F105_0 rfl rfl)) ?_
       refine WE.one 32 rfl Z.K rfl ?_
       refine OpW.store1 rfl Z85 rfl rfl (by assumption) Z.T (by (simp; done)) rfl ?_
       refine ⟨(HeldL.mk2 [] Z.K Z.S Z.O (by repeat (first | exact Mems.nil | refine Mems.cons Z.M ?_))), ?_⟩
       refine WE.take 33 [] rfl Z.K (by repeat (first | exact List.Sublist.refl _ | exact List.nil_sublist _ | apply List.Sublist.cons_cons | apply List.Sublist.cons)) (HeldL.mk2 [] Z.K Z.S Z.O (by repeat (first | exact Mems.nil | refine Mems.cons Z.M ?_))) rfl rfl rfl (Rd.nilc rfl rfl) ?_
       refine WE.take 34 [] rfl Z.K (by repeat (first | exact List.Sublist.refl _ | exact List.nil_sublist _ | apply List.Sublist.cons_cons | apply List.Sublist.cons)) (HeldL.mk2 [] Z.K Z.S Z.O (by repeat (first | exact Mems.nil | refine Mems.cons Z.M ?_))) rfl rfl rfl ((by exact Rd.field rfl F105_1 rfl rfl)) ?_
       refine WE.one 35 rfl Z.K rfl ?_
       refine OpW.store1 rfl Z42 rfl rfl (by assumption) Z.T (by (simp; done)) rfl ?_
       refine ⟨(HeldL.mk2 [] Z.K Z.S Z.O (by repeat (first | exact Mems.nil | refine Mems.cons Z.M ?_))), ?_⟩
       refine WE.take 36 [] rfl Z.K (by repeat (first | exact List.Sublist.refl _ | exact List.nil_sublist _ | apply List.Sublist.cons_cons | apply List.Sublist.cons)) (HeldL.mk2 [] Z.K Z.S Z.O (by repeat (first | exact Mems.nil | refine Mems.cons Z.M ?_))) rfl rfl rfl (Rd.nilc rfl rfl) ?_
       refine WE.take 37 [] rfl Z.K (by repeat (first | exact List.Sublist.refl _ | exact List.nil_sublist _ | apply List.Sublist.cons_cons | apply List.Sublist.cons)) (HeldL.mk2 [] Z.K Z.S Z.O (by repeat (first | exact Mems.nil | refine Mems.cons Z.M ?_))) rfl rfl rfl ((by exact Rd.field rfl F105_2 rfl rfl)) ?_
       refine WE.one 38 rfl Z.K rfl ?_
       refine OpW.store1 rfl Z42 rfl rfl (by assumption) Z.T (by (simp; done)) rfl ?_
       refine ⟨(HeldL.mk2 [] Z.K Z.S Z.O (by repeat (first | exact Mems.nil | refine Mems.cons Z.M ?_))), ?_⟩
       refine WE.done Z.K ?_
       refine blockQ.normal ?_
       refine thenQ.normal ?_
       refine WC.region ?_
       refine WL.rd rfl rfl rfl (Rd.add rfl rfl rfl Z.W) ?_
       refine WL.rd rfl rfl rfl (Rd.move rfl rfl) ?_
       refine WL.nil ?_
       exact loopQ4.mk (i + 1) v44 v52 v60 Z.W Z.W (by repeat (first | exact Sub.nil | refine Sub.cons rfl (by rfl) ?_)) (fun w h => by rw [chars_next Z.W, nx0_next, pr0_next]; exact Z.Fw h)
     ·
      refine ⟨_, rfl, rfl, ?_⟩
      refine OpW.buildSl (ps := [(0, _)]) rfl S42 Z.E rfl rfl Z.C Z.K rfl rfl rfl ?_; intro b59
      refine ⟨(HeldL.mk2 [rowW b15 pv nv qv b13 nilS] Z.K Z.S Z.O (by repeat (first | exact Mems.nil | refine Mems.cons Z.M ?_))), ?_⟩
      refine WE.one 12 rfl Z.K rfl ?_
      refine OpW.buildSl (ps := [(0, _)]) rfl S85 Z.E rfl rfl Z.C Z.K rfl rfl rfl ?_; intro b43
      refine ⟨(HeldL.mk2 [rowW b15 pv nv qv b13 nilS] Z.K Z.S Z.O (by repeat (first | exact Mems.nil | refine Mems.cons Z.M ?_))), ?_⟩
      refine WE.one 13 rfl Z.K rfl ?_
      refine OpW.appendRow (enc := SL.one vs) rfl S85 rfl rfl Z.T Z.T [[word[i]!]] rfl (by rfl) rfl (by intro x; rfl) (by intro x; rfl) hr1 rfl rfl ?_; intro v44 hv44
      refine ⟨(HeldL.mk2 [rowW b15 pv nv qv b13 nilS] Z.K Z.S Z.O (by repeat (first | exact Mems.nil | refine Mems.cons Z.M ?_))), ?_⟩
      refine WE.one 21 rfl Z.K rfl ?_
      refine OpW.appendRow (enc := SL.one vi) rfl S42 rfl rfl Z.T Z.T [(i : Int) + 1] rfl (by rfl) rfl (by intro x; rfl) (by intro x; rfl) hr2 rfl rfl ?_; intro v52 hv52
      refine ⟨(HeldL.mk2 [rowW b15 pv nv qv b13 nilS] Z.K Z.S Z.O (by repeat (first | exact Mems.nil | refine Mems.cons Z.M ?_))), ?_⟩
      refine WE.one 29 rfl Z.K rfl ?_
      refine OpW.appendRow (enc := SL.one vi) rfl S42 rfl rfl Z.T Z.T [(i : Int) - 1] rfl (by rfl) rfl (by intro x; rfl) (by intro x; rfl) hr3 rfl rfl ?_; intro v60 hv60
      refine ⟨(HeldL.mk2 [rowW b15 pv nv qv b13 nilS] Z.K Z.S Z.O (by repeat (first | exact Mems.nil | refine Mems.cons Z.M ?_))), ?_⟩
      refine WE.take 30 [] rfl Z.K (by repeat (first | exact List.Sublist.refl _ | exact List.nil_sublist _ | apply List.Sublist.cons_cons | apply List.Sublist.cons)) (HeldL.mk2 [rowW b15 pv nv qv b13 nilS] Z.K Z.S Z.O (by repeat (first | exact Mems.nil | refine Mems.cons Z.M ?_))) rfl rfl rfl (Rd.nilc rfl rfl) ?_
      refine WE.take 31 [] rfl Z.K (by repeat (first | exact List.Sublist.refl _ | exact List.nil_sublist _ | apply List.Sublist.cons_cons | apply List.Sublist.cons)) (HeldL.mk2 [rowW b15 pv nv qv b13 nilS] Z.K Z.S Z.O (by repeat (first | exact Mems.nil | refine Mems.cons Z.M ?_))) rfl rfl rfl ((by exact Rd.field rfl F105_0 rfl rfl)) ?_
      refine WE.one 32 rfl Z.K rfl ?_
      refine OpW.store1 rfl Z85 rfl rfl (by assumption) Z.T (by (simp; done)) rfl ?_
      refine ⟨(HeldL.mk2 [] Z.K Z.S Z.O (by repeat (first | exact Mems.nil | refine Mems.cons Z.M ?_))), ?_⟩
      refine WE.take 33 [] rfl Z.K (by repeat (first | exact List.Sublist.refl _ | exact List.nil_sublist _ | apply List.Sublist.cons_cons | apply List.Sublist.cons)) (HeldL.mk2 [] Z.K Z.S Z.O (by repeat (first | exact Mems.nil | refine Mems.cons Z.M ?_))) rfl rfl rfl (Rd.nilc rfl rfl) ?_
      refine WE.take 34 [] rfl Z.K (by repeat (first | exact List.Sublist.refl _ | exact List.nil_sublist _ | apply List.Sublist.cons_cons | apply List.Sublist.cons)) (HeldL.mk2 [] Z.K Z.S Z.O (by repeat (first | exact Mems.nil | refine Mems.cons Z.M ?_))) rfl rfl rfl ((by exact Rd.field rfl F105_1 rfl rfl)) ?_
      refine WE.one 35 rfl Z.K rfl ?_
      refine OpW.store1 rfl Z42 rfl rfl (by assumption) Z.T (by (simp; done)) rfl ?_
      refine ⟨(HeldL.mk2 [] Z.K Z.S Z.O (by repeat (first | exact Mems.nil | refine Mems.cons Z.M ?_))), ?_⟩
      refine WE.take 36 [] rfl Z.K (by repeat (first | exact List.Sublist.refl _ | exact List.nil_sublist _ | apply List.Sublist.cons_cons | apply List.Sublist.cons)) (HeldL.mk2 [] Z.K Z.S Z.O (by repeat (first | exact Mems.nil | refine Mems.cons Z.M ?_))) rfl rfl rfl (Rd.nilc rfl rfl) ?_
      refine WE.take 37 [] rfl Z.K (by repeat (first | exact List.Sublist.refl _ | exact List.nil_sublist _ | apply List.Sublist.cons_cons | apply List.Sublist.cons)) (HeldL.mk2 [] Z.K Z.S Z.O (by repeat (first | exact Mems.nil | refine Mems.cons Z.M ?_))) rfl rfl rfl ((by exact Rd.field rfl F105_2 rfl rfl)) ?_
      refine WE.one 38 rfl Z.K rfl ?_
      refine OpW.store1 rfl Z42 rfl rfl (by assumption) Z.T (by (simp; done)) rfl ?_
      refine ⟨(HeldL.mk2 [] Z.K Z.S Z.O (by repeat (first | exact Mems.nil | refine Mems.cons Z.M ?_))), ?_⟩
      refine WE.done Z.K ?_
      refine blockQ.normal ?_
      refine thenQ.normal ?_
      refine WC.region ?_
      refine WL.rd rfl rfl rfl (Rd.add rfl rfl rfl Z.W) ?_
      refine WL.rd rfl rfl rfl (Rd.move rfl rfl) ?_
      refine WL.nil ?_
      exact loopQ4.mk (i + 1) v44 v52 v60 Z.W Z.W (by repeat (first | exact Sub.nil | refine Sub.cons rfl (by rfl) ?_)) (fun w h => by rw [chars_next Z.W, nx0_next, pr0_next]; exact Z.Fw h)
    ·
     refine ⟨_, rfl, rfl, ?_⟩
     refine OpW.buildSl (ps := [(0, _)]) rfl S42 Z.E rfl rfl Z.C Z.K rfl rfl rfl ?_; intro b59
     refine ⟨(HeldL.mk2 [rowW b15 pv nv qv b13 nilS] Z.K Z.S Z.O (by repeat (first | exact Mems.nil | refine Mems.cons Z.M ?_))), ?_⟩
     refine WE.many [12, 20] Z.K (by simp) ?_
     intro i hi; simp only [List.mem_cons, List.not_mem_nil, or_false] at hi; rcases hi with rfl | rfl
     ·
      refine ⟨_, rfl, rfl, ?_⟩
      refine OpW.buildSl (ps := [(0, _)]) rfl S85 Z.E rfl rfl Z.C Z.K rfl rfl rfl ?_; intro b43
      refine ⟨(HeldL.mk2 [rowW b15 pv nv qv b13 nilS] Z.K Z.S Z.O (by repeat (first | exact Mems.nil | refine Mems.cons Z.M ?_))), ?_⟩
      refine WE.many [13, 20] Z.K (by simp) ?_
      intro i hi; simp only [List.mem_cons, List.not_mem_nil, or_false] at hi; rcases hi with rfl | rfl
      ·
       refine ⟨_, rfl, rfl, ?_⟩
       refine OpW.appendRow (enc := SL.one vs) rfl S85 rfl rfl Z.T Z.T [[word[i]!]] rfl (by rfl) rfl (by intro x; rfl) (by intro x; rfl) hr1 rfl rfl ?_; intro v44 hv44
       refine ⟨(HeldL.mk2 [rowW b15 pv nv qv b13 nilS] Z.K Z.S Z.O (by repeat (first | exact Mems.nil | refine Mems.cons Z.M ?_))), ?_⟩
       refine WE.one 20 rfl Z.K rfl ?_
       refine OpW.buildSl (ps := [(0, _)]) rfl S42 Z.E rfl rfl Z.C Z.K rfl rfl rfl ?_; intro b51
       refine ⟨(HeldL.mk2 [rowW b15 pv nv qv b13 nilS] Z.K Z.S Z.O (by repeat (first | exact Mems.nil | refine Mems.cons Z.M ?_))), ?_⟩
       refine WE.one 21 rfl Z.K rfl ?_
       refine OpW.appendRow (enc := SL.one vi) rfl S42 rfl rfl Z.T Z.T [(i : Int) + 1] rfl (by rfl) rfl (by intro x; rfl) (by intro x; rfl) hr2 rfl rfl ?_; intro v52 hv52
       refine ⟨(HeldL.mk2 [rowW b15 pv nv qv b13 nilS] Z.K Z.S Z.O (by repeat (first | exact Mems.nil | refine Mems.cons Z.M ?_))), ?_⟩
       refine WE.one 29 rfl Z.K rfl ?_
       refine OpW.appendRow (enc := SL.one vi) rfl S42 rfl rfl Z.T Z.T [(i : Int) - 1] rfl (by rfl) rfl (by intro x; rfl) (by intro x; rfl) hr3 rfl rfl ?_; intro v60 hv60
       refine ⟨(HeldL.mk2 [rowW b15 pv nv qv b13 nilS] Z.K Z.S Z.O (by repeat (first | exact Mems.nil | refine Mems.cons Z.M ?_))), ?_⟩
       refine WE.take 30 [] rfl Z.K (by repeat (first | exact List.Sublist.refl _ | exact List.nil_sublist _ | apply List.Sublist.cons_cons | apply List.Sublist.cons)) (HeldL.mk2 [rowW b15 pv nv qv b13 nilS] Z.K Z.S Z.O (by repeat (first | exact Mems.nil | refine Mems.cons Z.M ?_))) rfl rfl rfl (Rd.nilc rfl rfl) ?_
       refine WE.take 31 [] rfl Z.K (by repeat (first | exact List.Sublist.refl _ | exact List.nil_sublist _ | apply List.Sublist.cons_cons | apply List.Sublist.cons)) (HeldL.mk2 [rowW b15 pv nv qv b13 nilS] Z.K Z.S Z.O (by repeat (first | exact Mems.nil | refine Mems.cons Z.M ?_))) rfl rfl rfl ((by exact Rd.field rfl F105_0 rfl rfl)) ?_
       refine WE.one 32 rfl Z.K rfl ?_
       refine OpW.store1 rfl Z85 rfl rfl (by assumption) Z.T (by (simp; done)) rfl ?_
       refine ⟨(HeldL.mk2 [] Z.K Z.S Z.O (by repeat (first | exact Mems.nil | refine Mems.cons Z.M ?_))), ?_⟩
       refine WE.take 33 [] rfl Z.K (by repeat (first | exact List.Sublist.refl _ | exact List.nil_sublist _ | apply List.Sublist.cons_cons | apply List.Sublist.cons)) (HeldL.mk2 [] Z.K Z.S Z.O (by repeat (first | exact Mems.nil | refine Mems.cons Z.M ?_))) rfl rfl rfl (Rd.nilc rfl rfl) ?_
       refine WE.take 34 [] rfl Z.K (by repeat (first | exact List.Sublist.refl _ | exact List.nil_sublist _ | apply List.Sublist.cons_cons | apply List.Sublist.cons)) (HeldL.mk2 [] Z.K Z.S Z.O (by repeat (first | exact Mems.nil | refine Mems.cons Z.M ?_))) rfl rfl rfl ((by exact Rd.field rfl F105_1 rfl rfl)) ?_
       refine WE.one 35 rfl Z.K rfl ?_
       refine OpW.store1 rfl Z42 rfl rfl (by assumption) Z.T (by (simp; done)) rfl ?_
       refine ⟨(HeldL.mk2 [] Z.K Z.S Z.O (by repeat (first | exact Mems.nil | refine Mems.cons Z.M ?_))), ?_⟩
       refine WE.take 36 [] rfl Z.K (by repeat (first | exact List.Sublist.refl _ | exact List.nil_sublist _ | apply List.Sublist.cons_cons | apply List.Sublist.cons)) (HeldL.mk2 [] Z.K Z.S Z.O (by repeat (first | exact Mems.nil | refine Mems.cons Z.M ?_))) rfl rfl rfl (Rd.nilc rfl rfl) ?_
       refine WE.take 37 [] rfl Z.K (by repeat (first | exact List.Sublist.refl _ | exact List.nil_sublist _ | apply List.Sublist.cons_cons | apply List.Sublist.cons)) (HeldL.mk2 [] Z.K Z.S Z.O (by repeat (first | exact Mems.nil | refine Mems.cons Z.M ?_))) rfl rfl rfl ((by exact Rd.field rfl F105_2 rfl rfl)) ?_
       refine WE.one 38 rfl Z.K rfl ?_
       refine OpW.store1 rfl Z42 rfl rfl (by assumption) Z.T (by (simp; done)) rfl ?_
       refine ⟨(HeldL.mk2 [] Z.K Z.S Z.O (by repeat (first | exact Mems.nil | refine Mems.cons Z.M ?_))), ?_⟩
       refine WE.done Z.K ?_
       refine blockQ.normal ?_
       refine thenQ.normal ?_
       refine WC.region ?_
       refine WL.rd rfl rfl rfl (Rd.add rfl rfl rfl Z.W) ?_
       refine WL.rd rfl rfl rfl (Rd.move rfl rfl) ?_
       refine WL.nil ?_
       exact loopQ4.mk (i + 1) v44 v52 v60 Z.W Z.W (by repeat (first | exact Sub.nil | refine Sub.cons rfl (by rfl) ?_)) (fun w h => by rw [chars_next Z.W, nx0_next, pr0_next]; exact Z.Fw h)
      ·
       refine ⟨_, rfl, rfl, ?_⟩
       refine OpW.buildSl (ps := [(0, _)]) rfl S42 Z.E rfl rfl Z.C Z.K rfl rfl rfl ?_; intro b51
       refine ⟨(HeldL.mk2 [rowW b15 pv nv qv b13 nilS] Z.K Z.S Z.O (by repeat (first | exact Mems.nil | refine Mems.cons Z.M ?_))), ?_⟩
       refine WE.one 13 rfl Z.K rfl ?_
       refine OpW.appendRow (enc := SL.one vs) rfl S85 rfl rfl Z.T Z.T [[word[i]!]] rfl (by rfl) rfl (by intro x; rfl) (by intro x; rfl) hr1 rfl rfl ?_; intro v44 hv44
       refine ⟨(HeldL.mk2 [rowW b15 pv nv qv b13 nilS] Z.K Z.S Z.O (by repeat (first | exact Mems.nil | refine Mems.cons Z.M ?_))), ?_⟩
       refine WE.one 21 rfl Z.K rfl ?_
       refine OpW.appendRow (enc := SL.one vi) rfl S42 rfl rfl Z.T Z.T [(i : Int) + 1] rfl (by rfl) rfl (by intro x; rfl) (by intro x; rfl) hr2 rfl rfl ?_; intro v52 hv52
       refine ⟨(HeldL.mk2 [rowW b15 pv nv qv b13 nilS] Z.K Z.S Z.O (by repeat (first | exact Mems.nil | refine Mems.cons Z.M ?_))), ?_⟩
       refine WE.one 29 rfl Z.K rfl ?_
       refine OpW.appendRow (enc := SL.one vi) rfl S42 rfl rfl Z.T Z.T [(i : Int) - 1] rfl (by rfl) rfl (by intro x; rfl) (by intro x; rfl) hr3 rfl rfl ?_; intro v60 hv60
       refine ⟨(HeldL.mk2 [rowW b15 pv nv qv b13 nilS] Z.K Z.S Z.O (by repeat (first | exact Mems.nil | refine Mems.cons Z.M ?_))), ?_⟩
       refine WE.take 30 [] rfl Z.K (by repeat (first | exact List.Sublist.refl _ | exact List.nil_sublist _ | apply List.Sublist.cons_cons | apply List.Sublist.cons)) (HeldL.mk2 [rowW b15 pv nv qv b13 nilS] Z.K Z.S Z.O (by repeat (first | exact Mems.nil | refine Mems.cons Z.M ?_))) rfl rfl rfl (Rd.nilc rfl rfl) ?_
       refine WE.take 31 [] rfl Z.K (by repeat (first | exact List.Sublist.refl _ | exact List.nil_sublist _ | apply List.Sublist.cons_cons | apply List.Sublist.cons)) (HeldL.mk2 [rowW b15 pv nv qv b13 nilS] Z.K Z.S Z.O (by repeat (first | exact Mems.nil | refine Mems.cons Z.M ?_))) rfl rfl rfl ((by exact Rd.field rfl F105_0 rfl rfl)) ?_
       refine WE.one 32 rfl Z.K rfl ?_
       refine OpW.store1 rfl Z85 rfl rfl (by assumption) Z.T (by (simp; done)) rfl ?_
       refine ⟨(HeldL.mk2 [] Z.K Z.S Z.O (by repeat (first | exact Mems.nil | refine Mems.cons Z.M ?_))), ?_⟩
       refine WE.take 33 [] rfl Z.K (by repeat (first | exact List.Sublist.refl _ | exact List.nil_sublist _ | apply List.Sublist.cons_cons | apply List.Sublist.cons)) (HeldL.mk2 [] Z.K Z.S Z.O (by repeat (first | exact Mems.nil | refine Mems.cons Z.M ?_))) rfl rfl rfl (Rd.nilc rfl rfl) ?_
       refine WE.take 34 [] rfl Z.K (by repeat (first | exact List.Sublist.refl _ | exact List.nil_sublist _ | apply List.Sublist.cons_cons | apply List.Sublist.cons)) (HeldL.mk2 [] Z.K Z.S Z.O (by repeat (first | exact Mems.nil | refine Mems.cons Z.M ?_))) rfl rfl rfl ((by exact Rd.field rfl F105_1 rfl rfl)) ?_
       refine WE.one 35 rfl Z.K rfl ?_
       refine OpW.store1 rfl Z42 rfl rfl (by assumption) Z.T (by (simp; done)) rfl ?_
       refine ⟨(HeldL.mk2 [] Z.K Z.S Z.O (by repeat (first | exact Mems.nil | refine Mems.cons Z.M ?_))), ?_⟩
       refine WE.take 36 [] rfl Z.K (by repeat (first | exact List.Sublist.refl _ | exact List.nil_sublist _ | apply List.Sublist.cons_cons | apply List.Sublist.cons)) (HeldL.mk2 [] Z.K Z.S Z.O (by repeat (first | exact Mems.nil | refine Mems.cons Z.M ?_))) rfl rfl rfl (Rd.nilc rfl rfl) ?_
       refine WE.take 37 [] rfl Z.K (by repeat (first | exact List.Sublist.refl _ | exact List.nil_sublist _ | apply List.Sublist.cons_cons | apply List.Sublist.cons)) (HeldL.mk2 [] Z.K Z.S Z.O (by repeat (first | exact Mems.nil | refine Mems.cons Z.M ?_))) rfl rfl rfl ((by exact Rd.field rfl F105_2 rfl rfl)) ?_
       refine WE.one 38 rfl Z.K rfl ?_
       refine OpW.store1 rfl Z42 rfl rfl (by assumption) Z.T (by (simp; done)) rfl ?_
       refine ⟨(HeldL.mk2 [] Z.K Z.S Z.O (by repeat (first | exact Mems.nil | refine Mems.cons Z.M ?_))), ?_⟩
       refine WE.done Z.K ?_
       refine blockQ.normal ?_
       refine thenQ.normal ?_
       refine WC.region ?_
       refine WL.rd rfl rfl rfl (Rd.add rfl rfl rfl Z.W) ?_
       refine WL.rd rfl rfl rfl (Rd.move rfl rfl) ?_
       refine WL.nil ?_
       exact loopQ4.mk (i + 1) v44 v52 v60 Z.W Z.W (by repeat (first | exact Sub.nil | refine Sub.cons rfl (by rfl) ?_)) (fun w h => by rw [chars_next Z.W, nx0_next, pr0_next]; exact Z.Fw h)
     ·
      refine ⟨_, rfl, rfl, ?_⟩
      refine OpW.buildSl (ps := [(0, _)]) rfl S42 Z.E rfl rfl Z.C Z.K rfl rfl rfl ?_; intro b51
      refine ⟨(HeldL.mk2 [rowW b15 pv nv qv b13 nilS] Z.K Z.S Z.O (by repeat (first | exact Mems.nil | refine Mems.cons Z.M ?_))), ?_⟩
      refine WE.one 12 rfl Z.K rfl ?_
      refine OpW.buildSl (ps := [(0, _)]) rfl S85 Z.E rfl rfl Z.C Z.K rfl rfl rfl ?_; intro b43
      refine ⟨(HeldL.mk2 [rowW b15 pv nv qv b13 nilS] Z.K Z.S Z.O (by repeat (first | exact Mems.nil | refine Mems.cons Z.M ?_))), ?_⟩
      refine WE.one 13 rfl Z.K rfl ?_
      refine OpW.appendRow (enc := SL.one vs) rfl S85 rfl rfl Z.T Z.T [[word[i]!]] rfl (by rfl) rfl (by intro x; rfl) (by intro x; rfl) hr1 rfl rfl ?_; intro v44 hv44
      refine ⟨(HeldL.mk2 [rowW b15 pv nv qv b13 nilS] Z.K Z.S Z.O (by repeat (first | exact Mems.nil | refine Mems.cons Z.M ?_))), ?_⟩
      refine WE.one 21 rfl Z.K rfl ?_
      refine OpW.appendRow (enc := SL.one vi) rfl S42 rfl rfl Z.T Z.T [(i : Int) + 1] rfl (by rfl) rfl (by intro x; rfl) (by intro x; rfl) hr2 rfl rfl ?_; intro v52 hv52
      refine ⟨(HeldL.mk2 [rowW b15 pv nv qv b13 nilS] Z.K Z.S Z.O (by repeat (first | exact Mems.nil | refine Mems.cons Z.M ?_))), ?_⟩
      refine WE.one 29 rfl Z.K rfl ?_
      refine OpW.appendRow (enc := SL.one vi) rfl S42 rfl rfl Z.T Z.T [(i : Int) - 1] rfl (by rfl) rfl (by intro x; rfl) (by intro x; rfl) hr3 rfl rfl ?_; intro v60 hv60
      refine ⟨(HeldL.mk2 [rowW b15 pv nv qv b13 nilS] Z.K Z.S Z.O (by repeat (first | exact Mems.nil | refine Mems.cons Z.M ?_))), ?_⟩
      refine WE.take 30 [] rfl Z.K (by repeat (first | exact List.Sublist.refl _ | exact List.nil_sublist _ | apply List.Sublist.cons_cons | apply List.Sublist.cons)) (HeldL.mk2 [rowW b15 pv nv qv b13 nilS] Z.K Z.S Z.O (by repeat (first | exact Mems.nil | refine Mems.cons Z.M ?_))) rfl rfl rfl (Rd.nilc rfl rfl) ?_
      refine WE.take 31 [] rfl Z.K (by repeat (first | exact List.Sublist.refl _ | exact List.nil_sublist _ | apply List.Sublist.cons_cons | apply List.Sublist.cons)) (HeldL.mk2 [rowW b15 pv nv qv b13 nilS] Z.K Z.S Z.O (by repeat (first | exact Mems.nil | refine Mems.cons Z.M ?_))) rfl rfl rfl ((by exact Rd.field rfl F105_0 rfl rfl)) ?_
      refine WE.one 32 rfl Z.K rfl ?_
      refine OpW.store1 rfl Z85 rfl rfl (by assumption) Z.T (by (simp; done)) rfl ?_
      refine ⟨(HeldL.mk2 [] Z.K Z.S Z.O (by repeat (first | exact Mems.nil | refine Mems.cons Z.M ?_))), ?_⟩
      refine WE.take 33 [] rfl Z.K (by repeat (first | exact List.Sublist.refl _ | exact List.nil_sublist _ | apply List.Sublist.cons_cons | apply List.Sublist.cons)) (HeldL.mk2 [] Z.K Z.S Z.O (by repeat (first | exact Mems.nil | refine Mems.cons Z.M ?_))) rfl rfl rfl (Rd.nilc rfl rfl) ?_
      refine WE.take 34 [] rfl Z.K (by repeat (first | exact List.Sublist.refl _ | exact List.nil_sublist _ | apply List.Sublist.cons_cons | apply List.Sublist.cons)) (HeldL.mk2 [] Z.K Z.S Z.O (by repeat (first | exact Mems.nil | refine Mems.cons Z.M ?_))) rfl rfl rfl ((by exact Rd.field rfl F105_1 rfl rfl)) ?_
      refine WE.one 35 rfl Z.K rfl ?_
      refine OpW.store1 rfl Z42 rfl rfl (by assumption) Z.T (by (simp; done)) rfl ?_
      refine ⟨(HeldL.mk2 [] Z.K Z.S Z.O (by repeat (first | exact Mems.nil | refine Mems.cons Z.M ?_))), ?_⟩
      refine WE.take 36 [] rfl Z.K (by repeat (first | exact List.Sublist.refl _ | exact List.nil_sublist _ | apply List.Sublist.cons_cons | apply List.Sublist.cons)) (HeldL.mk2 [] Z.K Z.S Z.O (by repeat (first | exact Mems.nil | refine Mems.cons Z.M ?_))) rfl rfl rfl (Rd.nilc rfl rfl) ?_
      refine WE.take 37 [] rfl Z.K (by repeat (first | exact List.Sublist.refl _ | exact List.nil_sublist _ | apply List.Sublist.cons_cons | apply List.Sublist.cons)) (HeldL.mk2 [] Z.K Z.S Z.O (by repeat (first | exact Mems.nil | refine Mems.cons Z.M ?_))) rfl rfl rfl ((by exact Rd.field rfl F105_2 rfl rfl)) ?_
      refine WE.one 38 rfl Z.K rfl ?_
      refine OpW.store1 rfl Z42 rfl rfl (by assumption) Z.T (by (simp; done)) rfl ?_
      refine ⟨(HeldL.mk2 [] Z.K Z.S Z.O (by repeat (first | exact Mems.nil | refine Mems.cons Z.M ?_))), ?_⟩
      refine WE.done Z.K ?_
      refine blockQ.normal ?_
      refine thenQ.normal ?_
      refine WC.region ?_
      refine WL.rd rfl rfl rfl (Rd.add rfl rfl rfl Z.W) ?_
      refine WL.rd rfl rfl rfl (Rd.move rfl rfl) ?_
      refine WL.nil ?_
      exact loopQ4.mk (i + 1) v44 v52 v60 Z.W Z.W (by repeat (first | exact Sub.nil | refine Sub.cons rfl (by rfl) ?_)) (fun w h => by rw [chars_next Z.W, nx0_next, pr0_next]; exact Z.Fw h)
   ·
    refine WC.exit ?_
    refine thenQ.exit ?_
    refine loopQ4.exit ?_
    refine blockQ.exit ?_
    refine thenQ.normal ?_
    refine WC.seq ?_
    refine WC.seq ?_
    obtain rfl : i = word.length := by omega
    rw [List.take_length]
    have hL0 := links0 word
    have hf0 := chars_full word
    have ho0 := chars_off word
    have hcl := chars_len word
    refine WC.heap (fun w h => Sat.accNil (e := 157) (size := 4) (enc := encS) h) ?_
    refine WC.heap (R' := mapP vp vi b13 (mapFrom l 0) :: R) (O' := rowO b15 b13 pv nv qv nilS (chars word) (nx0 word.length) (pr0 word.length) [] (rowC b5 100 [rptr b15] :: dfC D0 :: O)) (fun w h => by unfold rowO; rw [chars_lay]; exact Z.Fw h) ?_
    refine WC.region ?_
    refine WL.rd rfl rfl rfl ((by exact Rd.row1 rfl C100 rfl Z.M (by rfl))) ?_
    refine WL.rd rfl rfl rfl (Rd.nilc rfl rfl) ?_
    refine WL.rd rfl rfl rfl ((by exact Rd.field rfl F105_0 rfl rfl)) ?_
    refine WL.rd rfl rfl rfl (Rd.row1 (b := b15) (off := 0) (u := pv) rfl C85 rfl Z.M rfl) ?_
    refine WL.rd rfl rfl rfl (Rd.lenA (enc := SL.one vs) (xs := lay (chars word)) rfl rfl Tryz.underlying85 Z.M) ?_
    refine WL.say 72 (u := vi word.length) rfl (by rw [chars_lay, hcl]) ?_
    refine WL.rd rfl rfl rfl (Rd.move rfl rfl) ?_
    refine WL.nil ?_
    refine thenQ.normal ?_
    refine WC.block ?_
    refine WC.pick [73, 5, 72] Z.P ?_
    refine WC.loop3 1 (fun (i : Nat) (sv : Value) (H : List Sp) => [(73, vi i)]) (fun (i : Nat) (sv : Value) (H : List Sp) => rowO b15 b13 pv nv qv sv (chars word) (nx0 word.length) (pr0 word.length) H (rowC b5 100 [rptr b15] :: dfC D0 :: O)) (fun (i : Nat) (sv : Value) (H : List Sp) => i ≤ word.length ∧ Sound l word.length H ∧ Hp spLt H ∧ H.length ≤ i ∧ ∀ u a b v r, chars word = u ++ a :: b :: v → off u < i → rk l (a, b) = some r → (⟨r, off u, a, b⟩ : Sp) ∈ H) (fun (i : Nat) (sv : Value) (H : List Sp) => word.length - i) (0) (nilS) ([]) Z.L ?hinv2 (by repeat (first | exact Sub.nil | refine Sub.cons rfl (by rfl) ?_)) (fun _ h => h) ?_
    case hinv2 =>
     exact ⟨Nat.zero_le _, fun s h => absurd h List.not_mem_nil, hp_nil, Nat.le_refl _, fun _ _ _ _ _ _ h => absurd h (Nat.not_lt_zero _)⟩
    intro i sv H
    rintro ⟨j1, j2, j3, j4, j5⟩
    refine WC.seq ?_
    refine WC.region ?_
    refine WL.rd rfl rfl rfl (Rd.lss rfl rfl rfl) ?_
    refine WL.nil ?_
    refine thenQ.normal ?_
    refine WC.seq ?_
    refine WC.ite rfl (fun hc3 => ?_) (fun hc3 => ?_)
    ·
     have hsp := chars_at (w := word) (i := i) Z.W
     have hou : off (chars (word.take i)) = i := by rw [chars_off, List.length_take]; omega
     refine WC.skip ?_
     refine thenQ.normal ?_
     refine WC.seq ?_
     refine WC.block ?_
     refine WC.seq ?_
     refine WC.region ?_
     refine WL.rd rfl rfl rfl (Rd.move rfl rfl) ?_
     refine WL.rd rfl rfl rfl (Rd.assign rfl rfl) ?_
     refine WL.nil ?_
     refine thenQ.normal ?_
     refine WC.region ?_
     refine WL.rd rfl rfl rfl (Rd.row1 (b := b5) (off := 0) (u := rptr b15) rfl C100 rfl Z.M rfl) ?_
     refine WL.rd rfl rfl rfl (Rd.move rfl rfl) ?_
     refine WL.say 77 (u := vi (off (chars (word.take i)))) rfl (by rw [hou]) ?_
     refine WL.op rfl ?_
     refine OpW.call rfl rfl Z.E Z.K rfl rfl rfl ?_
     refine Fun.heap (R' := mapP vp vi b13 (mapFrom l 0) :: R) (O' := rowO b15 b13 pv nv qv sv (chars (word.take i) ++ [word[i]!] :: chars (word.drop (i + 1))) (nx0 word.length) (pr0 word.length) H (rowC b5 100 [rptr b15] :: dfC D0 :: O)) (fun w h => by rw [← hsp]; exact Z.Fw h) ?_
     refine meet_spec (l := l) (n := word.length) (hsp ▸ hL0) (hsp ▸ hf0) (hsp ▸ ho0) Z.W List.mem_cons_self (mapFrom_rk l) j3 Z.W ?_
     intro sv' H' hM hh
     refine WL.nil ?_
     refine blockQ.normal ?_
     refine thenQ.normal ?_
     refine WC.region ?_
     refine WL.rd rfl rfl rfl (Rd.add rfl rfl rfl Z.W) ?_
     refine WL.rd rfl rfl rfl (Rd.move rfl rfl) ?_
     refine WL.nil ?_
     have hM3 := hM.cnt
     refine loopQ3.mk (i + 1) sv' H' ⟨by omega, fun t ht => ?_, hh, by omega, fun u a b v r e hlt hr => ?_⟩ Z.W (by repeat (first | exact Sub.nil | refine Sub.cons rfl (by rfl) ?_)) (fun w h => by rw [hsp]; exact Z.Fw h)
     ·
      rcases hM.new t ht with g | ⟨b, v', r', e, hr', rfl⟩
      ·
       exact j2 t g
      ·
       exact ⟨hr', by show off _ < _; omega, by simp⟩
     ·
      rcases Nat.lt_or_ge (off u) i with g | g
      ·
       exact hM.old _ (j5 u a b v r e g hr)
      ·
       obtain ⟨e1, e2, e3⟩ := place hf0 e hsp Z.W
       subst e1; subst e2
       exact hM.got b v r e3.symm hr
    ·
     obtain rfl : i = word.length := by omega
     have hI0 : Inv l word.length (chars word) H := ⟨hf0, ho0, j2, fun u a b v r e hr => .inl (j5 u a b v r e (by
      have ha := len_pos (hf0 a (by rw [e]; simp))
      rw [e, off_snoc] at ho0; omega) hr)⟩
     refine WC.exit ?_
     refine thenQ.exit ?_
     refine loopQ3.exit ?_
     refine blockQ.exit ?_
     refine thenQ.normal ?_
     refine WC.seq ?_
     refine WC.block ?_
     refine WC.pick [5] Z.P ?_
     refine WC.loop5 0 (fun (q : List T) (nx : List Int) (pr : List Int) (sw : Value) (G : List Sp) => []) (fun (q : List T) (nx : List Int) (pr : List Int) (sw : Value) (G : List Sp) => rowO b15 b13 pv nv qv sw q nx pr G (rowC b5 100 [rptr b15] :: dfC D0 :: O)) (fun (q : List T) (nx : List Int) (pr : List Int) (sw : Value) (G : List Sp) => Inv l word.length q G ∧ Links word.length q nx pr ∧ Hp spLt G ∧ (∀ out, Spl l q out → Spl l (chars word) out) ∧ q.flatten = word ∧ G.length + 3 * q.length ≤ 20000) (fun (q : List T) (nx : List Int) (pr : List Int) (sw : Value) (G : List Sp) => G.length + 3 * q.length) (chars word) (nx0 word.length) (pr0 word.length) (sv) (H) Z.L ?hinv3 (by repeat (first | exact Sub.nil | refine Sub.cons rfl (by rfl) ?_)) (fun _ h => h) ?_
     case hinv3 =>
      exact ⟨hI0, hL0, j3, fun _ h => h, chars_join word, by omega⟩
     intro q nx pr sw G
     rintro ⟨m1, m2, m3, m4, m5, m6⟩
     refine WC.seq ?_
     refine WC.seq ?_
     refine WC.region ?_
     refine WL.rd rfl rfl rfl (Rd.row1 (b := b5) (off := 0) (u := rptr b15) rfl C100 rfl Z.M rfl) ?_
     refine WL.rd rfl rfl rfl (Rd.nilc rfl rfl) ?_
     refine WL.rd rfl rfl rfl ((by exact Rd.field rfl F105_4 rfl rfl)) ?_
     refine WL.rd rfl rfl rfl (Rd.row1 (b := b15) (off := 4) (u := sw) rfl C103 rfl Z.M rfl) ?_
     refine WL.rd rfl rfl rfl (Rd.lenA (enc := encS) (xs := G) rfl rfl Tryz.underlying103 Z.M) ?_
     refine WL.rd rfl rfl rfl (Rd.gtr rfl rfl rfl) ?_
     refine WL.nil ?_
     refine thenQ.normal ?_
     refine WC.ite rfl (fun hc4 => ?_) (fun hc4 => ?_)
     ·
      refine WC.skip ?_
      refine thenQ.normal ?_
      refine WC.block ?_
      refine WC.region ?_
      refine WL.rd rfl rfl rfl (Rd.row1 (b := b5) (off := 0) (u := rptr b15) rfl C100 rfl Z.M rfl) ?_
      refine WL.op rfl ?_
      refine OpW.call rfl rfl Z.E Z.K rfl rfl rfl ?_
      refine round_spec (l := l) (n := word.length) m1 m2 m3 Z.W Z.W Z.W List.mem_cons_self (mapFrom_rk l) ?_
      intro sv' q' nx' pr' H' a1 a2 a3 a4 a5 a6
      refine WL.nil ?_
      refine blockQ.normal ?_
      exact loopQ5.mk q' nx' pr' sv' H' ⟨a1, a2, a3, fun out h => m4 out (a4 out h), a5.trans m5, by omega⟩ Z.W (by repeat (first | exact Sub.nil | refine Sub.cons rfl (by rfl) ?_)) Z.F
     ·
      obtain rfl : G = [] := List.length_eq_zero_iff.1 Z.W
      have hdone : Spl l q q := .done fun r ⟨u, a, b, v, e, hr⟩ => by
       rcases m1.cov u a b v r e hr with g | g | g <;> cases g
      have hql : (lay q).length = word.length := by rw [lay_len m1.full, m1.len]
      refine WC.exit ?_
      refine thenQ.exit ?_
      refine loopQ5.exit ?_
      refine blockQ.exit ?_
      refine thenQ.normal ?_
      refine WC.seq ?_
      refine WC.region ?_
      refine WL.rd rfl rfl rfl (Rd.row1 (b := b5) (off := 0) (u := rptr b15) rfl C100 rfl Z.M rfl) ?_
      refine WL.rd rfl rfl rfl (Rd.nilc rfl rfl) ?_
      refine WL.rd rfl rfl rfl ((by exact Rd.field rfl F105_0 rfl rfl)) ?_
      refine WL.rd rfl rfl rfl (Rd.row1 (b := b15) (off := 0) (u := pv) rfl C85 rfl Z.M rfl) ?_
      refine WL.op rfl ?_
      refine OpW.call rfl rfl Z.E Z.K rfl rfl rfl ?_
      refine Fun.heap (R' := mapP vp vi b13 (mapFrom l 0) :: R) (O' := accT pv (lay q) :: dfC D0 :: O) Z.F ?_
      refine delete_spec Z.W ?_
      intro u92
      rw [show (lay q).filter stays = q from lay_filter m1.full]
      refine WL.rd rfl rfl rfl (Rd.assign rfl rfl) ?_
      refine WL.nil ?_
      refine thenQ.normal ?_
      refine WC.heap (fun w h => Sat.shareA (xs := q) Z.T h) ?_
      refine WC.heap (R' := SlE (SL.one vs) u92 q :: R) (O' := dfC D0 :: O) Z.F ?_
      refine WC.retO (FinO.mark Z.T) (onlyRet.mk (Ret.one Tryz.results24 rfl ?_))
      exact hk _ q (.inr ⟨by omega, m4 q hdone, m5, m1.full⟩)
end
end Go.Proofs.YtkobjfjmkhmehaaGreatDoor.Mg
namespace Go.Proofs
open Go.Shelf
def Tryz.lays172_ren : Go.Shelf.Ren := ⟨fun | 172 => 33 | 244 => 66 | 245 => 67 | 247 => 106 | 279 => 107 | 280 => 108 | 281 => 109 | 282 => 110 | 287 => 148 | 316 => 149 | 171 => 21 | 205 => 150 | 321 => 172 | 322 => 173 | 243 => 34 | 246 => 68 | 283 => 111 | 284 => 112 | 285 => 113 | 286 => 114 | 129 => 152 | 317 => 151 | 318 => 153 | 319 => 154 | 320 => 155 | 337 => 174 | 338 => 175 | n => n, fun | 9 => 9 | 3 => 3 | 75 => 56 | 76 => 57 | 4 => 4 | 5 => 5 | 167 => 192 | 37 => 30 | 0 => 0 | 85 => 193 | 2 => 2 | 168 => 195 | 53 => 199 | 175 => 245 | 46 => 122 | 210 => 248 | 127 => 97 | 145 => 270 | 143 => 268 | 21 => 21 | 171 => 198 | 173 => 202 | 212 => 251 | 51 => 69 | 20 => 20 | 213 => 252 | 232 => 284 | 233 => 285 | 80 => 59 | n => n, fun | 15 => 1 | 16 => 2 | 17 => 3 | 18 => 6 | 19 => 7 | n => n⟩
def Tryz.laysM246_ren : Go.Shelf.Ren := ⟨fun | 246 => 68 | 283 => 111 | 284 => 112 | 285 => 113 | 286 => 114 | 129 => 152 | 317 => 151 | 318 => 153 | 319 => 154 | 320 => 155 | 337 => 174 | 338 => 175 | n => n, fun | 2 => 2 | 3 => 3 | 9 => 9 | 4 => 4 | 171 => 198 | 0 => 0 | 53 => 199 | 37 => 30 | 5 => 5 | 173 => 202 | 212 => 251 | 51 => 69 | 20 => 20 | 213 => 252 | 46 => 122 | 232 => 284 | 233 => 285 | n => n, fun | 17 => 3 | 18 => 6 | 19 => 7 | n => n⟩
def Tryz.laysM243_ren : Go.Shelf.Ren := ⟨fun | 243 => 34 | 246 => 68 | 283 => 111 | 284 => 112 | 285 => 113 | 286 => 114 | 129 => 152 | 317 => 151 | 318 => 153 | 319 => 154 | 320 => 155 | 337 => 174 | 338 => 175 | n => n, fun | 3 => 3 | 9 => 9 | 2 => 2 | 4 => 4 | 171 => 198 | 0 => 0 | 53 => 199 | 37 => 30 | 5 => 5 | 173 => 202 | 212 => 251 | 51 => 69 | 20 => 20 | 213 => 252 | 46 => 122 | 232 => 284 | 233 => 285 | n => n, fun | 17 => 3 | 18 => 6 | 19 => 7 | n => n⟩
def Tryz.laysM171_ren : Go.Shelf.Ren := ⟨fun | 171 => 21 | 243 => 34 | 246 => 68 | 283 => 111 | 284 => 112 | 285 => 113 | 286 => 114 | 129 => 152 | 317 => 151 | 318 => 153 | 319 => 154 | 320 => 155 | 337 => 174 | 338 => 175 | n => n, fun | 3 => 3 | 9 => 9 | 2 => 2 | 4 => 4 | 171 => 198 | 0 => 0 | 53 => 199 | 37 => 30 | 5 => 5 | 173 => 202 | 212 => 251 | 51 => 69 | 20 => 20 | 213 => 252 | 46 => 122 | 232 => 284 | 233 => 285 | n => n, fun | 17 => 3 | 18 => 6 | 19 => 7 | n => n⟩
theorem Tryz.laysM171 : Go.Proofs.LaysM.n171 Tryz.prog Tryz.laysM171_ren := {
 mixed := by kernel_rfl
 f129 := Tryz.func152.trans (congrArg some (by kernel_rfl))
 f171 := Tryz.func21.trans (congrArg some (by kernel_rfl))
 f243 := Tryz.func34.trans (congrArg some (by kernel_rfl))
 f246 := Tryz.func68.trans (congrArg some (by kernel_rfl))
 f283 := Tryz.func111.trans (congrArg some (by kernel_rfl))
 f284 := Tryz.func112.trans (congrArg some (by kernel_rfl))
 f285 := Tryz.func113.trans (congrArg some (by kernel_rfl))
 f286 := Tryz.func114.trans (congrArg some (by kernel_rfl))
 f317 := Tryz.func151.trans (congrArg some (by kernel_rfl))
 f318 := Tryz.func153.trans (congrArg some (by kernel_rfl))
 f319 := Tryz.func154.trans (congrArg some (by kernel_rfl))
 f320 := Tryz.func155.trans (congrArg some (by kernel_rfl))
 f337 := Tryz.func174.trans (congrArg some (by kernel_rfl))
 f338 := Tryz.func175.trans (congrArg some (by kernel_rfl))
 t0 := Tryz.underlying0
 a0 := Tryz.isAgg0
 z0 := Tryz.sizeOf0
 v0 := Tryz.zeroValue0
 t2 := Tryz.underlying2
 a2 := Tryz.isAgg2
 z2 := Tryz.sizeOf2
 v2 := Tryz.zeroValue2
 t3 := Tryz.underlying3
 a3 := Tryz.isAgg3
 z3 := Tryz.sizeOf3
 v3 := Tryz.zeroValue3
 t4 := Tryz.underlying4
 a4 := Tryz.isAgg4
 z4 := Tryz.sizeOf4
 v4 := Tryz.zeroValue4
 t5 := Tryz.underlying5
 a5 := Tryz.isAgg5
 z5 := Tryz.sizeOf5
 v5 := Tryz.zeroValue5
 t9 := Tryz.underlying9
 a9 := Tryz.isAgg9
 z9 := Tryz.sizeOf9
 v9 := Tryz.zeroValue9
 t20 := Tryz.underlying20
 a20 := Tryz.isAgg20
 z20 := Tryz.sizeOf20
 v20 := Tryz.zeroValue20
 t37 := Tryz.underlying30
 a37 := Tryz.isAgg30
 z37 := Tryz.sizeOf30
 v37 := Tryz.zeroValue30
 t46 := Tryz.underlying122
 a46 := Tryz.isAgg122
 z46 := Tryz.sizeOf122
 v46 := Tryz.zeroValue122
 t51 := Tryz.underlying69
 a51 := Tryz.isAgg69
 z51 := Tryz.sizeOf69
 v51 := Tryz.zeroValue69
 t53 := Tryz.underlying199
 a53 := Tryz.isAgg199
 z53 := Tryz.sizeOf199
 v53 := Tryz.zeroValue199
 t171 := Tryz.underlying198
 a171 := Tryz.isAgg198
 z171 := Tryz.sizeOf198
 v171 := Tryz.zeroValue198
 t173 := Tryz.underlying202
 a173 := Tryz.isAgg202
 z173 := Tryz.sizeOf202
 v173 := Tryz.zeroValue202
 t212 := Tryz.underlying251
 a212 := Tryz.isAgg251
 z212 := Tryz.sizeOf251
 v212 := Tryz.zeroValue251
 t213 := Tryz.underlying252
 a213 := Tryz.isAgg252
 z213 := Tryz.sizeOf252
 t232 := Tryz.underlying284
 a232 := Tryz.isAgg284
 z232 := Tryz.sizeOf284
 v232 := Tryz.zeroValue284
 t233 := Tryz.underlying285
 a233 := Tryz.isAgg285
 z233 := Tryz.sizeOf285
 v233 := Tryz.zeroValue285
 g17 := by kernel_rfl
 g18 := by kernel_rfl
 g19 := by kernel_rfl
 i0 := by kernel_rfl
 i2 := by kernel_rfl
 i3 := by kernel_rfl
 i4 := by kernel_rfl
 i5 := by kernel_rfl
 i9 := by kernel_rfl
 i20 := by kernel_rfl
 i37 := by kernel_rfl
 i46 := by kernel_rfl
 i51 := by kernel_rfl
 i53 := by kernel_rfl
 i171 := by kernel_rfl
 i173 := by kernel_rfl
 i212 := by kernel_rfl
 i232 := by kernel_rfl
 i233 := by kernel_rfl
 m17 := by kernel_rfl
 m18 := by kernel_rfl
 m19 := by kernel_rfl }
open Go.RowKit Go.Sort Go.Lib in
/-- strconv.Itoa: "Itoa is equivalent to FormatInt(int64(i), 10).": i's DECIMAL NUMERAL ('Lib.itoa': a '-' where i is negative, then the digits), FOR EVERY int. The world behind the call: the world before it, new blocks behind the heap (the library's 'var a [24]byte'), draws. (LAID: no walk: one application.) -/
theorem Tryz.strconv_Itoa (n : Int) (h0 : -9223372036854775808 ≤ n) (h1 : n ≤ 9223372036854775807) (w : World) (htab : Lib.TabIs Tryz.prog w "internal/strconv.uint64pow10" .u64 Lib.pow10Tab) :
 Calls Tryz.prog 21 #[.int .i64 n] w fun e w' => e = .returned (.string ⟨(Lib.itoa n).toArray⟩) ∧ ∃ k os, w' = grow (w.drewN k) os := Any.strconv_Itoa Tryz.laysM171 n h0 h1 w htab
def Tryz.laysC172_ren : Go.Shelf.Ren := ⟨fun | 172 => 33 | 244 => 66 | 245 => 67 | 247 => 106 | 279 => 107 | 280 => 108 | 281 => 109 | 282 => 110 | 287 => 148 | 316 => 149 | 171 => 21 | 205 => 150 | 321 => 172 | 322 => 173 | 243 => 34 | 246 => 68 | 283 => 111 | 284 => 112 | 285 => 113 | 286 => 114 | 129 => 152 | 317 => 151 | 318 => 153 | 319 => 154 | 320 => 155 | 337 => 174 | 338 => 175 | n => n, fun | 9 => 9 | 3 => 3 | 75 => 56 | 76 => 57 | 4 => 4 | 5 => 5 | 167 => 192 | 37 => 30 | 0 => 0 | 85 => 193 | 2 => 2 | 168 => 195 | 53 => 199 | 175 => 245 | 46 => 122 | 210 => 248 | 127 => 97 | 145 => 270 | 143 => 268 | 21 => 21 | 171 => 198 | 173 => 202 | 212 => 251 | 51 => 69 | 20 => 20 | 213 => 252 | 232 => 284 | 233 => 285 | 80 => 59 | n => n, fun | 15 => 1 | 16 => 2 | 17 => 3 | 18 => 6 | 19 => 7 | n => n⟩
theorem Tryz.laysC172 : Go.Proofs.LaysC.n172 Tryz.prog Tryz.laysC172_ren := {
 mixed := by kernel_rfl
 f129 := Tryz.func152.trans (congrArg some (by kernel_rfl))
 f171 := Tryz.func21.trans (congrArg some (by kernel_rfl))
 f172 := Tryz.func33.trans (congrArg some (by kernel_rfl))
 f205 := Tryz.func150.trans (congrArg some (by kernel_rfl))
 f243 := Tryz.func34.trans (congrArg some (by kernel_rfl))
 f244 := Tryz.func66.trans (congrArg some (by kernel_rfl))
 f245 := Tryz.func67.trans (congrArg some (by kernel_rfl))
 f246 := Tryz.func68.trans (congrArg some (by kernel_rfl))
 f247 := Tryz.func106.trans (congrArg some (by kernel_rfl))
 f279 := Tryz.func107.trans (congrArg some (by kernel_rfl))
 f280 := Tryz.func108.trans (congrArg some (by kernel_rfl))
 f281 := Tryz.func109.trans (congrArg some (by kernel_rfl))
 f282 := Tryz.func110.trans (congrArg some (by kernel_rfl))
 f283 := Tryz.func111.trans (congrArg some (by kernel_rfl))
 f284 := Tryz.func112.trans (congrArg some (by kernel_rfl))
 f285 := Tryz.func113.trans (congrArg some (by kernel_rfl))
 f286 := Tryz.func114.trans (congrArg some (by kernel_rfl))
 f287 := Tryz.func148.trans (congrArg some (by kernel_rfl))
 f316 := Tryz.func149.trans (congrArg some (by kernel_rfl))
 f317 := Tryz.func151.trans (congrArg some (by kernel_rfl))
 f318 := Tryz.func153.trans (congrArg some (by kernel_rfl))
 f319 := Tryz.func154.trans (congrArg some (by kernel_rfl))
 f320 := Tryz.func155.trans (congrArg some (by kernel_rfl))
 f321 := Tryz.func172.trans (congrArg some (by kernel_rfl))
 f322 := Tryz.func173.trans (congrArg some (by kernel_rfl))
 f337 := Tryz.func174.trans (congrArg some (by kernel_rfl))
 f338 := Tryz.func175.trans (congrArg some (by kernel_rfl))
 t0 := Tryz.underlying0
 a0 := Tryz.isAgg0
 z0 := Tryz.sizeOf0
 v0 := Tryz.zeroValue0
 t2 := Tryz.underlying2
 a2 := Tryz.isAgg2
 z2 := Tryz.sizeOf2
 v2 := Tryz.zeroValue2
 t3 := Tryz.underlying3
 a3 := Tryz.isAgg3
 z3 := Tryz.sizeOf3
 v3 := Tryz.zeroValue3
 t4 := Tryz.underlying4
 a4 := Tryz.isAgg4
 z4 := Tryz.sizeOf4
 v4 := Tryz.zeroValue4
 t5 := Tryz.underlying5
 a5 := Tryz.isAgg5
 z5 := Tryz.sizeOf5
 v5 := Tryz.zeroValue5
 t9 := Tryz.underlying9
 a9 := Tryz.isAgg9
 z9 := Tryz.sizeOf9
 v9 := Tryz.zeroValue9
 t20 := Tryz.underlying20
 a20 := Tryz.isAgg20
 z20 := Tryz.sizeOf20
 v20 := Tryz.zeroValue20
 t21 := Tryz.underlying21
 a21 := Tryz.isAgg21
 z21 := Tryz.sizeOf21
 v21 := Tryz.zeroValue21
 t37 := Tryz.underlying30
 a37 := Tryz.isAgg30
 z37 := Tryz.sizeOf30
 v37 := Tryz.zeroValue30
 t46 := Tryz.underlying122
 a46 := Tryz.isAgg122
 z46 := Tryz.sizeOf122
 v46 := Tryz.zeroValue122
 t51 := Tryz.underlying69
 a51 := Tryz.isAgg69
 z51 := Tryz.sizeOf69
 v51 := Tryz.zeroValue69
 t53 := Tryz.underlying199
 a53 := Tryz.isAgg199
 z53 := Tryz.sizeOf199
 v53 := Tryz.zeroValue199
 t75 := Tryz.underlying56
 a75 := Tryz.isAgg56
 z75 := Tryz.sizeOf56
 v75 := Tryz.zeroValue56
 t76 := Tryz.underlying57
 a76 := Tryz.isAgg57
 z76 := Tryz.sizeOf57
 v76 := Tryz.zeroValue57
 t85 := Tryz.underlying193
 a85 := Tryz.isAgg193
 z85 := Tryz.sizeOf193
 v85 := Tryz.zeroValue193
 t127 := Tryz.underlying97
 a127 := Tryz.isAgg97
 z127 := Tryz.sizeOf97
 v127 := Tryz.zeroValue97
 t143 := Tryz.underlying268
 a143 := Tryz.isAgg268
 z143 := Tryz.sizeOf268
 v143 := Tryz.zeroValue268
 t145 := Tryz.underlying270
 a145 := Tryz.isAgg270
 z145 := Tryz.sizeOf270
 v145 := Tryz.zeroValue270
 t167 := Tryz.underlying192
 a167 := Tryz.isAgg192
 z167 := Tryz.sizeOf192
 v167 := Tryz.zeroValue192
 t168 := Tryz.underlying195
 a168 := Tryz.isAgg195
 z168 := Tryz.sizeOf195
 v168 := Tryz.zeroValue195
 t171 := Tryz.underlying198
 a171 := Tryz.isAgg198
 z171 := Tryz.sizeOf198
 v171 := Tryz.zeroValue198
 t173 := Tryz.underlying202
 a173 := Tryz.isAgg202
 z173 := Tryz.sizeOf202
 v173 := Tryz.zeroValue202
 t175 := Tryz.underlying245
 a175 := Tryz.isAgg245
 z175 := Tryz.sizeOf245
 v175 := Tryz.zeroValue245
 t210 := Tryz.underlying248
 a210 := Tryz.isAgg248
 z210 := Tryz.sizeOf248
 v210 := Tryz.zeroValue248
 t212 := Tryz.underlying251
 a212 := Tryz.isAgg251
 z212 := Tryz.sizeOf251
 v212 := Tryz.zeroValue251
 t213 := Tryz.underlying252
 a213 := Tryz.isAgg252
 z213 := Tryz.sizeOf252
 t232 := Tryz.underlying284
 a232 := Tryz.isAgg284
 z232 := Tryz.sizeOf284
 v232 := Tryz.zeroValue284
 t233 := Tryz.underlying285
 a233 := Tryz.isAgg285
 z233 := Tryz.sizeOf285
 v233 := Tryz.zeroValue285
 g15 := by kernel_rfl
 g16 := by kernel_rfl
 g17 := by kernel_rfl
 g18 := by kernel_rfl
 g19 := by kernel_rfl
 t80 := Tryz.underlying59
 a80 := Tryz.isAgg59
 z80 := Tryz.sizeOf59
 v80 := Tryz.zeroValue59
 i0 := by kernel_rfl
 i2 := by kernel_rfl
 i3 := by kernel_rfl
 i4 := by kernel_rfl
 i5 := by kernel_rfl
 i9 := by kernel_rfl
 i20 := by kernel_rfl
 i21 := by kernel_rfl
 i37 := by kernel_rfl
 i46 := by kernel_rfl
 i51 := by kernel_rfl
 i53 := by kernel_rfl
 i75 := by kernel_rfl
 i76 := by kernel_rfl
 i80 := by kernel_rfl
 i85 := by kernel_rfl
 i127 := by kernel_rfl
 i143 := by kernel_rfl
 i145 := by kernel_rfl
 i167 := by kernel_rfl
 i168 := by kernel_rfl
 i171 := by kernel_rfl
 i173 := by kernel_rfl
 i175 := by kernel_rfl
 i210 := by kernel_rfl
 i212 := by kernel_rfl
 i232 := by kernel_rfl
 i233 := by kernel_rfl
 m15 := by kernel_rfl
 m16 := by kernel_rfl
 m17 := by kernel_rfl
 m18 := by kernel_rfl
 m19 := by kernel_rfl
 c0 := by kernel_rfl
 c2 := by kernel_rfl
 c3 := by kernel_rfl
 c4 := by kernel_rfl
 c5 := by kernel_rfl
 c9 := by kernel_rfl
 c20 := by kernel_rfl
 c21 := by kernel_rfl
 c37 := by kernel_rfl
 c46 := by kernel_rfl
 c51 := by kernel_rfl
 c53 := by kernel_rfl
 c75 := by kernel_rfl
 c76 := by kernel_rfl
 c80 := by kernel_rfl
 c85 := by kernel_rfl
 c127 := by kernel_rfl
 c143 := by kernel_rfl
 c145 := by kernel_rfl
 c167 := by kernel_rfl
 c168 := by kernel_rfl
 c171 := by kernel_rfl
 c173 := by kernel_rfl
 c175 := by kernel_rfl
 c210 := by kernel_rfl
 c212 := by kernel_rfl
 c213 := by kernel_rfl
 c232 := by kernel_rfl
 c233 := by kernel_rfl }
open Go.RowKit in
/-- strconv.Atoi, AT EVERY STRING THAT SPELLS AN int ('Lib.atoiAll .. = .ok v'; of whatever length: leading zeros count): v, AND NO ERROR. The world: as it was, or with the one new row that '[]byte(..)' lays. (LAID: no walk: one application.) -/
theorem Tryz.strconv_Atoi_ok (s : ByteArray) (hmax : s.size ≤ 9223372036854775806) (v : Int) (h : Lib.atoiAll s.data.toList = .ok v) (w : World) :
 Calls Tryz.prog 33 #[.string s] w fun e w' => e = .returned (.tuple #[.int .i64 v, .nilIface]) ∧ (w' = w ∨ ∃ t, w' = Lib.bytesWorld w 5 t) := Any.strconv_Atoi_ok Tryz.laysC172 s hmax v h w
def Tryz.lays219_ren : Go.Shelf.Ren := ⟨fun | 219 => 64 | 217 => 102 | 225 => 103 | 224 => 104 | 267 => 105 | 266 => 146 | 314 => 147 | n => n, fun | 9 => 9 | 3 => 3 | 4 => 4 | 5 => 5 | 46 => 122 | 146 => 215 | 51 => 69 | n => n, fun | 1 => 0 | n => n⟩
theorem Tryz.lays219 : Go.Proofs.Lays.n219 Tryz.prog Tryz.lays219_ren := {
 mixed := by kernel_rfl
 f217 := Tryz.func102.trans (congrArg some (by kernel_rfl))
 f219 := Tryz.func64.trans (congrArg some (by kernel_rfl))
 f224 := Tryz.func104.trans (congrArg some (by kernel_rfl))
 f225 := Tryz.func103.trans (congrArg some (by kernel_rfl))
 f266 := Tryz.func146.trans (congrArg some (by kernel_rfl))
 f267 := Tryz.func105.trans (congrArg some (by kernel_rfl))
 f314 := Tryz.func147.trans (congrArg some (by kernel_rfl))
 t3 := Tryz.underlying3
 a3 := Tryz.isAgg3
 z3 := Tryz.sizeOf3
 v3 := Tryz.zeroValue3
 t4 := Tryz.underlying4
 a4 := Tryz.isAgg4
 z4 := Tryz.sizeOf4
 v4 := Tryz.zeroValue4
 t5 := Tryz.underlying5
 a5 := Tryz.isAgg5
 z5 := Tryz.sizeOf5
 v5 := Tryz.zeroValue5
 t9 := Tryz.underlying9
 a9 := Tryz.isAgg9
 z9 := Tryz.sizeOf9
 v9 := Tryz.zeroValue9
 t46 := Tryz.underlying122
 a46 := Tryz.isAgg122
 z46 := Tryz.sizeOf122
 v46 := Tryz.zeroValue122
 t51 := Tryz.underlying69
 a51 := Tryz.isAgg69
 z51 := Tryz.sizeOf69
 v51 := Tryz.zeroValue69
 t146 := Tryz.underlying215
 a146 := Tryz.isAgg215
 z146 := Tryz.sizeOf215
 v146 := Tryz.zeroValue215
 g1 := by kernel_rfl }
open Go.RowKit Go.Lib in
/-- internal/stringslite.Index (what strings.Index calls) AT A substr OF ONE BYTE c: IT RETURNS 'Lib.indexByte s c'; the world is as it was. (LAID: no walk: one application.) -/
theorem Tryz.stringslite_Index_one (s : ByteArray) (c : UInt8) (w : World) :
 Calls Tryz.prog 64 #[.string s, .string ⟨#[c]⟩] w fun e w' => e = .returned (.int .i64 (Lib.indexByte s.data.toList c)) ∧ w' = w := Any.stringslite_Index_one Tryz.lays219 s c w
def Tryz.lays105_ren : Go.Shelf.Ren := ⟨fun | 105 => 78 | 212 => 77 | 99 => 123 | 165 => 124 | 166 => 18 | 170 => 25 | 169 => 19 | 263 => 121 | 264 => 122 | 206 => 160 | 240 => 32 | 241 => 161 | 276 => 65 | 277 => 184 | n => n, fun | 9 => 9 | 3 => 3 | 4 => 4 | 20 => 20 | 0 => 0 | 46 => 122 | 109 => 160 | 5 => 5 | 72 => 54 | 76 => 57 | 51 => 69 | 146 => 215 | 53 => 199 | 148 => 217 | 70 => 52 | 37 => 30 | 75 => 56 | 127 => 97 | 164 => 145 | 80 => 59 | n => n, fun | n => n⟩
theorem Tryz.lays105 : Go.Proofs.Lays.n105 Tryz.prog Tryz.lays105_ren := {
 mixed := by kernel_rfl
 f99 := Tryz.func123.trans (congrArg some (by kernel_rfl))
 f105 := Tryz.func78.trans (congrArg some (by kernel_rfl))
 f165 := Tryz.func124.trans (congrArg some (by kernel_rfl))
 f166 := Tryz.func18.trans (congrArg some (by kernel_rfl))
 f169 := Tryz.func19.trans (congrArg some (by kernel_rfl))
 f170 := Tryz.func25.trans (congrArg some (by kernel_rfl))
 f206 := Tryz.func160.trans (congrArg some (by kernel_rfl))
 f212 := Tryz.func77.trans (congrArg some (by kernel_rfl))
 f240 := Tryz.func32.trans (congrArg some (by kernel_rfl))
 f241 := Tryz.func161.trans (congrArg some (by kernel_rfl))
 f263 := Tryz.func121.trans (congrArg some (by kernel_rfl))
 f264 := Tryz.func122.trans (congrArg some (by kernel_rfl))
 f276 := Tryz.func65.trans (congrArg some (by kernel_rfl))
 f277 := Tryz.func184.trans (congrArg some (by kernel_rfl))
 t0 := Tryz.underlying0
 a0 := Tryz.isAgg0
 z0 := Tryz.sizeOf0
 v0 := Tryz.zeroValue0
 t3 := Tryz.underlying3
 a3 := Tryz.isAgg3
 z3 := Tryz.sizeOf3
 v3 := Tryz.zeroValue3
 t4 := Tryz.underlying4
 a4 := Tryz.isAgg4
 z4 := Tryz.sizeOf4
 v4 := Tryz.zeroValue4
 t5 := Tryz.underlying5
 a5 := Tryz.isAgg5
 z5 := Tryz.sizeOf5
 v5 := Tryz.zeroValue5
 t9 := Tryz.underlying9
 a9 := Tryz.isAgg9
 z9 := Tryz.sizeOf9
 v9 := Tryz.zeroValue9
 t20 := Tryz.underlying20
 a20 := Tryz.isAgg20
 z20 := Tryz.sizeOf20
 v20 := Tryz.zeroValue20
 t37 := Tryz.underlying30
 a37 := Tryz.isAgg30
 z37 := Tryz.sizeOf30
 v37 := Tryz.zeroValue30
 t46 := Tryz.underlying122
 a46 := Tryz.isAgg122
 z46 := Tryz.sizeOf122
 v46 := Tryz.zeroValue122
 t51 := Tryz.underlying69
 a51 := Tryz.isAgg69
 z51 := Tryz.sizeOf69
 v51 := Tryz.zeroValue69
 t53 := Tryz.underlying199
 a53 := Tryz.isAgg199
 z53 := Tryz.sizeOf199
 v53 := Tryz.zeroValue199
 t70 := Tryz.underlying52
 a70 := Tryz.isAgg52
 z70 := Tryz.sizeOf52
 v70 := Tryz.zeroValue52
 t72 := Tryz.underlying54
 a72 := Tryz.isAgg54
 z72 := Tryz.sizeOf54
 v72 := Tryz.zeroValue54
 t75 := Tryz.underlying56
 a75 := Tryz.isAgg56
 z75 := Tryz.sizeOf56
 v75 := Tryz.zeroValue56
 t76 := Tryz.underlying57
 a76 := Tryz.isAgg57
 z76 := Tryz.sizeOf57
 v76 := Tryz.zeroValue57
 t109 := Tryz.underlying160
 a109 := Tryz.isAgg160
 z109 := Tryz.sizeOf160
 v109 := Tryz.zeroValue160
 t127 := Tryz.underlying97
 a127 := Tryz.isAgg97
 z127 := Tryz.sizeOf97
 v127 := Tryz.zeroValue97
 t146 := Tryz.underlying215
 a146 := Tryz.isAgg215
 z146 := Tryz.sizeOf215
 v146 := Tryz.zeroValue215
 t148 := Tryz.underlying217
 a148 := Tryz.isAgg217
 z148 := Tryz.sizeOf217
 v148 := Tryz.zeroValue217
 t164 := Tryz.underlying145
 a164 := Tryz.isAgg145
 z164 := Tryz.sizeOf145
 v164 := Tryz.zeroValue145 }
theorem Tryz.Builder_Extra_105 : Builder.Extra Tryz.prog Tryz.lays105_ren := {
 sizeBuilder := by kernel_rfl
 liesBuilder := by kernel_rfl
 t5 := Tryz.underlying5
 a5 := Tryz.isAgg5
 z5 := Tryz.sizeOf5
 v5 := Tryz.zeroValue5
 infoByte := by kernel_rfl
 cellsByte := by kernel_rfl
 sizeByte := by kernel_rfl
 neB5 := by decide }
open Go.RowKit Go.Lib in
/-- **strings.Repeat: count ≥ 0, the result within one allocation: count copies of s.** (LAID: no walk: one application.) -/
theorem Tryz.strings_Repeat (s : ByteArray) (c : Nat) (w : World) (hc : c ≤ 9223372036854775807) (hlen : s.size * c ≤ 140737488355328) :
 Calls Tryz.prog 78 #[.string s, .int .i64 c] w fun e w' => e = .returned (.string ⟨(Lib.repeatL s.data.toList c).toArray⟩) ∧ Below w.heap.size w w' := Any.strings_Repeat Tryz.lays105 Tryz.Builder_Extra_105 s c w hc hlen
end Go.Proofs
namespace Go.Proofs.YtkobjfjmkhmehaaGreatDoor.Mg
open Go Go.SL
def cutA (c : UInt8) (s : T) : T := s.takeWhile fun x => decide (x ≠ c)
def cutB (c : UInt8) (s : T) : T := (s.dropWhile fun x => decide (x ≠ c)).tail
theorem cut_at {c : UInt8} : ∀ {s : T} {i : Nat}, i ≤ s.length → (∀ j, j < i → s[j]! ≠ c) → (i < s.length → s[i]! = c) → cutA c s = s.take i ∧ cutB c s = s.drop (i + 1) ∧ (c ∈ s ↔ i < s.length)
 | [], i, h1, _, _ => by
   obtain rfl : i = 0 := by simpa using h1
   exact ⟨rfl, rfl, by simp⟩
 | x :: s, 0, _, _, h3 => by
   have e : x = c := by simpa using h3 (by simp)
   subst e
   exact ⟨by simp [cutA, List.takeWhile], by simp [cutB, List.dropWhile], by simp⟩
 | x :: s, i + 1, h1, h2, h3 => by
   have hx : x ≠ c := by simpa using h2 0 Z.W
   obtain ⟨e1, e2, e3⟩ := cut_at (c := c) (s := s) (i := i) (by simpa using h1) (fun j hj => by simpa using h2 (j + 1) Z.W) (fun h => by simpa using h3 (by simpa using h))
   refine ⟨?_, ?_, ?_⟩
   · rw [List.take_succ_cons, ← e1, cutA, List.takeWhile_cons_of_pos (by simpa using hx)]; rfl
   · rw [List.drop_succ_cons, ← e2, cutB, List.dropWhile_cons_of_pos (by simpa using hx)]; rfl
   · rw [List.mem_cons, List.length_cons, e3]
     constructor
     · rintro (h | h)
       · exact absurd h.symm hx
       · omega
     · intro h; exact .inr Z.W
theorem cut_len {c : UInt8} (s : T) : (cutA c s).length ≤ s.length := by
 have := List.takeWhile_append_dropWhile (p := fun x : UInt8 => decide (x ≠ c)) (l := s)
 have h := congrArg List.length this
 rw [List.length_append] at h
 unfold cutA; omega
theorem cutB_len {c : UInt8} (s : T) : (cutB c s).length ≤ s.length := by
 have := List.takeWhile_append_dropWhile (p := fun x : UInt8 => decide (x ≠ c)) (l := s)
 have h := congrArg List.length this
 rw [List.length_append] at h
 unfold cutB
 rw [List.length_tail]; omega
theorem cutB_lt {c : UInt8} {s : T} (h : s ≠ []) : (cutB c s).length < s.length := by
 have := List.takeWhile_append_dropWhile (p := fun x : UInt8 => decide (x ≠ c)) (l := s)
 have h2 := congrArg List.length this
 rw [List.length_append] at h2
 have := List.length_pos_iff.2 h
 unfold cutB
 rw [List.length_tail]; omega
theorem index_cut {c : UInt8} : ∀ (s : T), Lib.indexByte s c = if c ∈ s then ((cutA c s).length : Int) else -1
 | [] => rfl
 | x :: s => by
   rw [Lib.indexByte]
   by_cases e : x = c
   · rw [if_pos (by simpa using e), if_pos (by simp [e]), cutA, List.takeWhile_cons_of_neg (by simpa using e)]; rfl
   · rw [if_neg (by simpa using e), index_cut s]
     by_cases h : c ∈ s
     · rw [if_pos h, if_pos (List.mem_cons_of_mem _ h), if_neg (by (simp; done)), cutA, cutA, List.takeWhile_cons_of_pos (by simpa using e), List.length_cons]; omega
     · rw [if_neg h, if_pos (by rfl), if_neg (by simp [h]; exact fun g => e g.symm)]
theorem cut_found {c : UInt8} : ∀ {s : T}, c ∈ s → (cutA c s).length < s.length ∧ cutA c s = s.take (cutA c s).length ∧ cutB c s = s.drop ((cutA c s).length + 1)
 | x :: s, h => by
   by_cases e : x = c
   · subst e
     have e0 : cutA x (x :: s) = [] := by rw [cutA, List.takeWhile_cons_of_neg (by simp)]
     rw [e0]
     exact ⟨by simp, rfl, by rw [cutB, List.dropWhile_cons_of_neg (by simp)]; rfl⟩
   · obtain ⟨h1, h2, h3⟩ := cut_found (c := c) (s := s) (by rcases List.mem_cons.1 h with g | g; exact absurd g.symm e; exact g)
     have e0 : cutA c (x :: s) = x :: cutA c s := by rw [cutA, List.takeWhile_cons_of_pos (by simpa using e)]; rfl
     have e1 : cutB c (x :: s) = cutB c s := by rw [cutB, List.dropWhile_cons_of_pos (by simpa using e)]; rfl
     rw [e0, e1]
     exact ⟨by simp; omega, by rw [List.length_cons, List.take_succ_cons, ← h2], by rw [List.length_cons, List.drop_succ_cons]; exact h3⟩
theorem cut_none {c : UInt8} {s : T} (h : c ∉ s) : cutA c s = s ∧ cutB c s = [] := by
 obtain ⟨h1, h2, _⟩ := cut_at (c := c) (s := s) (i := s.length) (Nat.le_refl _) (fun j hj e => h (by rw [← e]; exact get!_mem hj)) (fun h => absurd h (Nat.lt_irrefl _))
 exact ⟨by rw [h1, List.take_length], by rw [h2, List.drop_of_length_le Z.W]⟩
def inside (c : UInt8) : Prop := 33 ≤ c.toNat ∧ c.toNat ≤ 126
def goodP (s : T) : Prop := (∀ i, i < s.length → inside s[i]!) ∧ 0 < s.length ∧ s.length < 65
instance (c : UInt8) : Decidable (inside c) := by unfold inside; infer_instance
instance (s : T) : Decidable (goodP s) := by unfold goodP; infer_instance
def LineOk (s : T) : Prop := (10 : UInt8) ∈ s ∧ (32 : UInt8) ∈ cutA 10 s ∧ goodP (cutA 32 (cutA 10 s)) ∧ goodP (cutB 32 (cutA 10 s))
def pairOf (s : T) : Pr := (cutA 32 (cutA 10 s), cutB 32 (cutA 10 s))
structure PRes where
 l : List Pr
 at_ : Int
 err : Int
inductive Prs : Nat → List Pr → T → PRes → Prop
 | done {n : Nat} {out : List Pr} : Prs n out [] ⟨out, 0, 0⟩
 | many {n : Nat} {out : List Pr} {s : T} (h : s ≠ []) (hn : 4096 < n) : Prs n out s ⟨[], n, 6⟩
 | form {n : Nat} {out : List Pr} {s : T} (h : s ≠ []) (hn : n ≤ 4096) (hl : ¬ LineOk s) : Prs n out s ⟨[], n, 2⟩
 | twice {n : Nat} {out : List Pr} {s : T} (h : s ≠ []) (hn : n ≤ 4096) (hl : LineOk s) (hp : pairOf s ∈ out) : Prs n out s ⟨[], n, 10⟩
 | next {n : Nat} {out : List Pr} {s : T} {r : PRes} (h : s ≠ []) (hn : n ≤ 4096) (hl : LineOk s) (hp : pairOf s ∉ out) (k : Prs (n + 1) (out ++ [pairOf s]) (cutB 10 s) r) : Prs n out s r
theorem Prs.uniq {n : Nat} {out : List Pr} {s : T} {r r' : PRes} (h : Prs n out s r) (h' : Prs n out s r') : r = r' := by
 induction h with
 | done => cases h' with
   | done => rfl
   | many h => exact absurd rfl h
   | form h => exact absurd rfl h
   | twice h => exact absurd rfl h
   | next h => exact absurd rfl h
 | many h hn => cases h' with
   | done => exact absurd rfl h
   | many => rfl
   | form _ g => omega
   | twice _ g => omega
   | next _ g => omega
 | form h hn hl => cases h' with
   | done => exact absurd rfl h
   | many _ g => omega
   | form => rfl
   | twice _ _ g => exact absurd g hl
   | next _ _ g => exact absurd g hl
 | twice h hn hl hp => cases h' with
   | done => exact absurd rfl h
   | many _ g => omega
   | form _ _ g => exact absurd hl g
   | twice => rfl
   | next _ _ _ g => exact absurd hp g
 | next h hn hl hp k ih => cases h' with
   | done => exact absurd rfl h
   | many _ g => omega
   | form _ _ g => exact absurd hl g
   | twice _ _ _ g => exact absurd g hp
   | next _ _ _ _ g => exact ih g
def ParseIs (s : T) (r : PRes) : Prop := (262144 < s.length ∧ r = ⟨[], 0, 6⟩) ∨ (s.length ≤ 262144 ∧ Prs 1 [] s r)
theorem ParseIs.uniq {s : T} {r r' : PRes} (h : ParseIs s r) (h' : ParseIs s r') : r = r' := by
 rcases h with ⟨h1, rfl⟩ | ⟨h1, h⟩ <;> rcases h' with ⟨g1, rfl⟩ | ⟨g1, g⟩
 · rfl
 · omega
 · omega
 · exact h.uniq g
section
variable {R : List RO} {O O' : List Own} {POST : Value → List RO → List Own → Prop}
set_option maxRecDepth 20000 in
theorem cut0_spec {s : T} {c : UInt8} (hs : s.length ≤ 9000000000000000000) (hk : POST (.tuple #[vs (cutA c s), vs (cutB c s), .bool (decide (c ∈ s))]) R O) : Fun Tryz.prog 31 #[vs s, vs [c]] R O POST := by
 have hcl := cut_len (c := c) s
 refine Fun.enter (l := [_, _]) Tryz.func31 rfl Tryz.ntmps31 rfl (L0 := [(0, _), (1, _)]) rfl ?_
 refine WC.seq ?_
 refine WC.region ?_
 refine WL.rd rfl rfl rfl (Rd.assign rfl rfl) ?_
 refine WL.rd rfl rfl rfl (Rd.assign rfl rfl) ?_
 refine WL.rd rfl rfl rfl (Rd.assign rfl rfl) ?_
 refine WL.nil ?_
 refine thenQ.normal ?_
 refine WC.seq ?_
 refine WC.seq ?_
 refine WC.region ?_
 refine WL.rd rfl rfl rfl (Rd.move rfl rfl) ?_
 refine WL.rd rfl rfl rfl (Rd.move rfl rfl) ?_
 refine WL.op rfl ?_
 refine OpW.call rfl rfl Z.E Z.K rfl rfl rfl ?_
 refine Fun.still (v := .int .i64 (if c ∈ s then ((cutA c s).length : Int) else -1)) (fun w => by rw [← index_cut]; exact Tryz.stringslite_Index_one ⟨s.toArray⟩ c w) ?_
 refine WL.rd rfl rfl rfl (Rd.assign rfl rfl) ?_
 refine WL.nil ?_
 refine thenQ.normal ?_
 refine WC.seq ?_
 refine WC.region ?_
 refine WL.rd rfl rfl rfl (Rd.move rfl rfl) ?_
 refine WL.rd rfl rfl rfl (Rd.geq rfl rfl rfl) ?_
 refine WL.nil ?_
 refine thenQ.normal ?_
 refine WC.ite rfl (fun hc1 => ?_) (fun hc1 => ?_)
 ·
  have hm : c ∈ s := Decidable.byContradiction fun g => by rw [if_neg g] at hc1; omega
  obtain ⟨h1, h2, h3⟩ := cut_found hm
  refine WC.say 7 (u := vi (cutA c s).length) rfl (by rw [if_pos hm]) ?_
  refine WC.seq ?_
  refine WC.still mixed Z.K ?_
  refine WA.rd rfl rfl rfl (Rd.move rfl rfl) ?_
  refine WA.rd rfl rfl rfl (Rd.move rfl rfl) ?_
  refine WA.rd rfl rfl rfl (Rd.scut_h (hi := (cutA c s).length) rfl Tryz.underlying9 rfl rfl Z.W Z.W) ?_
  refine WA.rd rfl rfl rfl (Rd.move rfl rfl) ?_
  refine WA.rd rfl rfl rfl (Rd.move rfl rfl) ?_
  refine WA.rd rfl rfl rfl (Rd.move rfl rfl) ?_
  refine WA.rd rfl rfl rfl (Rd.slen (ts := #[]) (ty := 0) rfl rfl Tryz.underlying9) ?_
  refine WA.rd rfl rfl rfl (Rd.add rfl rfl rfl (by simp only [List.length_cons, List.length_nil]; omega)) ?_
  refine WA.say 20 (u := vi ((cutA c s).length + 1 : Nat)) rfl (by simp) ?_
  refine WA.rd rfl rfl rfl (Rd.scut_l (lo := (cutA c s).length + 1) rfl Tryz.underlying9 rfl rfl Z.W Z.W) ?_
  refine WA.rd rfl rfl rfl (Rd.assign rfl rfl) ?_
  refine WA.rd rfl rfl rfl (Rd.assign rfl rfl) ?_
  refine WA.rd rfl rfl rfl (Rd.assign rfl rfl) ?_
  refine WA.nil ?_
  refine thenQ.normal ?_
  refine WC.ret (Ret.three Tryz.results31 rfl rfl rfl ?_)
  rw [← h2, ← h3, show decide (c ∈ s) = true from decide_eq_true hm] at *
  exact hk
 ·
  refine WC.skip ?_
  refine thenQ.normal ?_
  refine WC.seq ?_
  refine WC.region ?_
  refine WL.rd rfl rfl rfl (Rd.move rfl rfl) ?_
  refine WL.rd rfl rfl rfl (Rd.assign rfl rfl) ?_
  refine WL.rd rfl rfl rfl (Rd.assign rfl rfl) ?_
  refine WL.rd rfl rfl rfl (Rd.assign rfl rfl) ?_
  refine WL.nil ?_
  refine thenQ.normal ?_
  refine WC.ret (Ret.three Tryz.results31 rfl rfl rfl ?_)
  have hm : c ∉ s := fun g => by rw [if_pos g] at hc1; omega
  obtain ⟨h1, h2⟩ := cut_none hm
  rw [h1, h2, show decide (c ∈ s) = false from decide_eq_false hm] at hk
  exact hk
set_option maxRecDepth 20000 in
theorem cut_spec {s : T} {c : UInt8} (hs : s.length ≤ 9000000000000000000) (hk : POST (.tuple #[vs (cutA c s), vs (cutB c s), .bool (decide (c ∈ s))]) R O) : Fun Tryz.prog 17 #[vs s, vs [c]] R O POST := by
 refine Fun.enter (l := [_, _]) Tryz.func17 rfl Tryz.ntmps17 rfl (L0 := [(0, _), (1, _)]) rfl ?_
 refine WC.seq ?_
 refine WC.region ?_
 refine WL.rd rfl rfl rfl (Rd.assign rfl rfl) ?_
 refine WL.rd rfl rfl rfl (Rd.assign rfl rfl) ?_
 refine WL.rd rfl rfl rfl (Rd.assign rfl rfl) ?_
 refine WL.nil ?_
 refine thenQ.normal ?_
 refine WC.seq ?_
 refine WC.region ?_
 refine WL.rd rfl rfl rfl (Rd.move rfl rfl) ?_
 refine WL.rd rfl rfl rfl (Rd.move rfl rfl) ?_
 refine WL.op rfl ?_
 refine OpW.call rfl rfl Z.E Z.K rfl rfl rfl ?_
 refine cut0_spec hs ?_
 refine WL.rd rfl rfl rfl (Rd.extract rfl rfl rfl) ?_
 refine WL.rd rfl rfl rfl (Rd.extract rfl rfl rfl) ?_
 refine WL.rd rfl rfl rfl (Rd.extract rfl rfl rfl) ?_
 refine WL.rd rfl rfl rfl (Rd.assign rfl rfl) ?_
 refine WL.rd rfl rfl rfl (Rd.assign rfl rfl) ?_
 refine WL.rd rfl rfl rfl (Rd.assign rfl rfl) ?_
 refine WL.nil ?_
 refine thenQ.normal ?_
 refine WC.ret (Ret.three Tryz.results17 rfl rfl rfl ?_)
 exact hk
set_option maxRecDepth 20000 in
theorem good_spec {s : T} (hs : s.length ≤ 9000000000000000000) (hk : POST (.bool (decide (goodP s))) R O) : Fun Tryz.prog 5 #[vs s] R O POST := by
 refine Fun.enter (l := [_]) Tryz.func5 rfl Tryz.ntmps5 rfl (L0 := [(0, _)]) rfl ?_
 refine WC.seq ?_
 refine WC.region ?_
 refine WL.rd rfl rfl rfl (Rd.assign rfl rfl) ?_
 refine WL.nil ?_
 refine thenQ.normal ?_
 refine WC.seq ?_
 refine WC.pick [0] Z.P ?_
 refine WC.val 11 (.bool (decide (s.length < 1 ∨ 64 < s.length))) ?_ ?_
 ·
  refine WC.region ?_
  refine WL.rd rfl rfl rfl (Rd.move rfl rfl) ?_
  refine WL.rd rfl rfl rfl (Rd.slen (ts := #[]) (ty := 0) rfl rfl Tryz.underlying9) ?_
  refine WL.rd rfl rfl rfl (Rd.lss rfl rfl rfl) ?_
  refine WL.rd rfl rfl rfl (Rd.move rfl rfl) ?_
  refine WL.case 7 rfl (fun hg7 => ?_) (fun hg7 => ?_)
  ·
   refine WL.no rfl rfl rfl rfl rfl rfl ?_
   refine WL.no rfl rfl rfl rfl rfl rfl ?_
   refine WL.no rfl rfl rfl rfl rfl rfl ?_
   refine WL.rd rfl rfl rfl (Rd.pick_t rfl rfl rfl) ?_
   refine WL.nil ?_
   exact ⟨by repeat (first | exact Sub.nil | refine Sub.cons rfl (by first | rfl | (exact vb_t Z.W)) ?_), by exact (fun _ h => h.thin (SubL.mem Z.S))⟩
  ·
   refine WL.rd_yes rfl rfl rfl rfl rfl rfl (Rd.move rfl rfl) ?_
   refine WL.rd_yes rfl rfl rfl rfl rfl rfl (Rd.slen (ts := #[]) (ty := 0) rfl rfl Tryz.underlying9) ?_
   refine WL.rd_yes rfl rfl rfl rfl rfl rfl (Rd.gtr rfl rfl rfl) ?_
   refine WL.rd rfl rfl rfl (Rd.pick_f rfl rfl rfl) ?_
   refine WL.nil ?_
   exact ⟨by repeat (first | exact Sub.nil | refine Sub.cons rfl (by first | rfl | (exact vb ⟨fun h => .inr Z.W, fun h => by omega⟩)) ?_), by exact (fun _ h => h.thin (SubL.mem Z.S))⟩
 ·
  refine WC.ite rfl (fun hc1 => ?_) (fun hc1 => ?_)
  ·
   refine WC.seq ?_
   refine WC.region ?_
   refine WL.rd rfl rfl rfl (Rd.assign rfl rfl) ?_
   refine WL.nil ?_
   refine thenQ.normal ?_
   refine WC.ret (Ret.one Tryz.results5 rfl ?_)
   rw [show decide (goodP s) = false from decide_eq_false (fun h => by have := h.2; omega)] at hk
   exact hk
  ·
   refine WC.skip ?_
   refine thenQ.normal ?_
   refine WC.seq ?_
   refine WC.seq ?_
   refine WC.region ?_
   refine WL.rd rfl rfl rfl (Rd.move rfl rfl) ?_
   refine WL.rd rfl rfl rfl (Rd.slen (ts := #[]) (ty := 0) rfl rfl Tryz.underlying9) ?_
   refine WL.rd rfl rfl rfl (Rd.move rfl rfl) ?_
   refine WL.nil ?_
   refine thenQ.normal ?_
   refine WC.block ?_
   refine WC.pick [14, 0, 13] Z.P ?_
   refine WC.loop1o 1 (fun (i : Nat) => [(14, vi i)]) (fun (i : Nat) => i ≤ s.length ∧ ∀ j, j < i → inside s[j]!) (fun (i : Nat) => s.length - i) (0) Z.L ?hinv1 (by repeat (first | exact Sub.nil | refine Sub.cons rfl (by rfl) ?_)) (fun _ h => h) ?_
   case hinv1 =>
    exact ⟨Nat.zero_le _, fun j h => absurd h (Nat.not_lt_zero _)⟩
   intro i
   rintro ⟨i1, i2⟩
   refine WC.seq ?_
   refine WC.region ?_
   refine WL.rd rfl rfl rfl (Rd.lss rfl rfl rfl) ?_
   refine WL.nil ?_
   refine thenQ.normal ?_
   refine WC.seq ?_
   refine WC.ite rfl (fun hc2 => ?_) (fun hc2 => ?_)
   ·
    refine WC.skip ?_
    refine thenQ.normal ?_
    refine WC.seq ?_
    refine WC.block ?_
    refine WC.seq ?_
    refine WC.region ?_
    refine WL.rd rfl rfl rfl (Rd.move rfl rfl) ?_
    refine WL.rd rfl rfl rfl (Rd.assign rfl rfl) ?_
    refine WL.nil ?_
    refine thenQ.normal ?_
    refine WC.pick [0, 3, 13, 14] Z.P ?_
    refine WC.val 26 (.bool (decide (¬ inside s[i]!))) ?_ ?_
    ·
     refine WC.region ?_
     refine WL.rd rfl rfl rfl (Rd.move rfl rfl) ?_
     refine WL.rd rfl rfl rfl (Rd.move rfl rfl) ?_
     refine WL.rd rfl rfl rfl (Rd.sidx (k := i) rfl Tryz.underlying9 rfl rfl Z.W (by exact get!_of_lt Z.W)) ?_
     refine WL.rd rfl rfl rfl (Rd.lss rfl rfl rfl) ?_
     refine WL.rd rfl rfl rfl (Rd.move rfl rfl) ?_
     refine WL.case 21 rfl (fun hg21 => ?_) (fun hg21 => ?_)
     ·
      refine WL.no rfl rfl rfl rfl rfl rfl ?_
      refine WL.no rfl rfl rfl rfl rfl rfl ?_
      refine WL.no rfl rfl rfl rfl rfl rfl ?_
      refine WL.no rfl rfl rfl rfl rfl rfl ?_
      refine WL.rd rfl rfl rfl (Rd.pick_t rfl rfl rfl) ?_
      refine WL.nil ?_
      exact ⟨by repeat (first | exact Sub.nil | refine Sub.cons rfl (by first | rfl | (exact vb_t (fun h => by have := h.1; omega))) ?_), by exact (fun _ h => h.thin (SubL.mem Z.S))⟩
     ·
      refine WL.rd_yes rfl rfl rfl rfl rfl rfl (Rd.move rfl rfl) ?_
      refine WL.rd_yes rfl rfl rfl rfl rfl rfl (Rd.move rfl rfl) ?_
      refine WL.rd_yes rfl rfl rfl rfl rfl rfl (Rd.sidx (k := i) rfl Tryz.underlying9 rfl rfl Z.W (by exact get!_of_lt Z.W)) ?_
      refine WL.rd_yes rfl rfl rfl rfl rfl rfl (Rd.gtr rfl rfl rfl) ?_
      refine WL.rd rfl rfl rfl (Rd.pick_f rfl rfl rfl) ?_
      refine WL.nil ?_
      exact ⟨by repeat (first | exact Sub.nil | refine Sub.cons rfl (by first | rfl | (exact vb ⟨fun h g => by have := g.2; omega, fun h => by unfold inside at h; omega⟩)) ?_), by exact (fun _ h => h.thin (SubL.mem Z.S))⟩
    ·
     refine WC.ite rfl (fun hc3 => ?_) (fun hc3 => ?_)
     ·
      refine WC.seq ?_
      refine WC.region ?_
      refine WL.rd rfl rfl rfl (Rd.assign rfl rfl) ?_
      refine WL.nil ?_
      refine thenQ.normal ?_
      refine WC.ret (Ret.one Tryz.results5 rfl ?_)
      rw [show decide (goodP s) = false from decide_eq_false (fun h => hc3 (h.1 i Z.W))] at hk
      exact hk
     ·
      refine WC.skip ?_
      refine blockQ.normal ?_
      refine thenQ.normal ?_
      refine WC.region ?_
      refine WL.rd rfl rfl rfl (Rd.add rfl rfl rfl Z.W) ?_
      refine WL.rd rfl rfl rfl (Rd.move rfl rfl) ?_
      refine WL.nil ?_
      exact loopQ1.mk (i + 1) ⟨by omega, fun j hj => by
      rcases Nat.lt_or_ge j i with h | h
      · exact i2 j h
      · obtain rfl : j = i := by omega
        exact Decidable.not_not.1 hc3⟩ Z.W (by repeat (first | exact Sub.nil | refine Sub.cons rfl (by rfl) ?_)) Z.F
   ·
    refine WC.exit ?_
    refine thenQ.exit ?_
    refine loopQ1.exit ?_
    refine blockQ.exit ?_
    refine thenQ.normal ?_
    refine WC.seq ?_
    refine WC.region ?_
    refine WL.rd rfl rfl rfl (Rd.assign rfl rfl) ?_
    refine WL.nil ?_
    refine thenQ.normal ?_
    refine WC.ret (Ret.one Tryz.results5 rfl ?_)
    rw [show decide (goodP s) = true from decide_eq_true ⟨fun j hj => i2 j Z.W, by omega, by omega⟩] at hk
    exact hk
end
end Go.Proofs.YtkobjfjmkhmehaaGreatDoor.Mg
namespace Go.SL
open Go Go.RowKit
section ret
variable {P : Program} {fn : Func} {n : Sz} {L : Env} {R : List RO} {O : List Own} {post : Value → List RO → List Own → Prop}
theorem Ret.cellTmp {p t : Tmp} {ty : TypeId} {size b : Nat} {e : TypeId} {cs : List Value} {v : Value} (hr : fn.results = #[.cell p ty, .tmp t]) (ht : Env.find L p = some (.pointer (some ⟨b, 0, none⟩))) (h2 : Env.find L t = some v) (hp : rowC b e cs ∈ O) (hG : Agg P ty size) (hl : cs.length = size) (h : post (.tuple #[.agg cs.toArray, v]) R O) : retQ P fn n post .ret L R O :=
 ⟨_, fun a w _ hf ⟨_, hs⟩ => by
   have e1 := getD_of hf ht
   have e3 := getD_of hf h2
   have e2 := run_loadVar_agg hG hl (hs.see (List.mem_append_right _ hp))
   simp only [Array.getD_eq_getD_getElem?] at e1 e3
   simp [results, hr, e1, e3, asAddr, e2], h⟩
end ret
section
variable {P : Program} {o : Oper} {L : Env} {R : List RO} {O : List Own} {t t' : TypeId} {x y : Operand} {s r : List UInt8}
theorem Rd.sgeq (ho : o.op = .binOp .geq t x y t') (hx : ev L x = some (vs s)) (hy : ev L y = some (vs r)) : Rd P o L R O (.bool (!Op.bytesLess s r)) :=
 run_sbin ho hx hy fun w => by simp [binOp, Op.stringOp]
end
end Go.SL
namespace Go.Proofs.YtkobjfjmkhmehaaGreatDoor.Mg
open Go Go.SL
instance (s : T) : Decidable (LineOk s) := by unfold LineOk; infer_instance
section
variable {R : List RO} {O O' : List Own} {POST : Value → List RO → List Own → Prop}
abbrev accP (v : Value) (xs : List Pr) : Own := accC 27 2 encP v xs
set_option maxRecDepth 20000 in
theorem parse_spec {s : T} (hk : ∀ v r, ParseIs s r → POST (.tuple #[v, vi r.at_, vi r.err]) (SlE encP v r.l :: R) O) (hs : s.length ≤ 140737488351232) : Fun Tryz.prog 7 #[vs s] R O POST := by
 refine Fun.enter (l := [_]) Tryz.func7 rfl Tryz.ntmps7 rfl (L0 := [(0, _)]) rfl ?_
 refine WC.seq ?_
 refine WC.region ?_
 refine WL.rd rfl rfl rfl (Rd.assign rfl rfl) ?_
 refine WL.rd rfl rfl rfl (Rd.assign rfl rfl) ?_
 refine WL.rd rfl rfl rfl (Rd.assign rfl rfl) ?_
 refine WL.nil ?_
 refine thenQ.normal ?_
 refine WC.seq ?_
 refine WC.seq ?_
 refine WC.region ?_
 refine WL.rd rfl rfl rfl (Rd.move rfl rfl) ?_
 refine WL.rd rfl rfl rfl (Rd.slen (ts := #[]) (ty := 0) rfl rfl Tryz.underlying9) ?_
 refine WL.rd rfl rfl rfl (Rd.gtr rfl rfl rfl) ?_
 refine WL.nil ?_
 refine thenQ.normal ?_
 refine WC.ite rfl (fun hc1 => ?_) (fun hc1 => ?_)
 ·
  refine WC.seq ?_
  refine WC.region ?_
  refine WL.rd rfl rfl rfl (Rd.assign rfl rfl) ?_
  refine WL.rd rfl rfl rfl (Rd.assign rfl rfl) ?_
  refine WL.rd rfl rfl rfl (Rd.assign rfl rfl) ?_
  refine WL.nil ?_
  refine thenQ.normal ?_
  refine WC.heap (fun w h => Sat.nilE (enc := encP) h) ?_; refine WC.heap (R' := SlE encP nilS [] :: R) (O' := O) Z.F ?_
  refine WC.ret (Ret.three Tryz.results7 rfl rfl rfl ?_)
  exact hk _ _ (.inl ⟨by omega, rfl⟩)
 ·
  refine WC.skip ?_
  refine thenQ.normal ?_
  refine WC.seq ?_
  refine WC.region ?_
  refine WL.rd rfl rfl rfl (Rd.assign rfl rfl) ?_
  refine WL.nil ?_
  refine thenQ.normal ?_
  refine WC.seq ?_
  refine WC.region ?_
  refine WL.op rfl ?_
  refine OpW.makeMap vp vbl rfl rfl rfl ?_; intro b18
  refine WL.rd rfl rfl rfl (Rd.assign rfl rfl) ?_
  refine WL.nil ?_
  refine thenQ.normal ?_
  refine WC.seq ?_
  refine WC.seq ?_
  refine WC.region ?_
  refine WL.rd rfl rfl rfl (Rd.assign rfl rfl) ?_
  refine WL.nil ?_
  refine thenQ.normal ?_
  refine WC.block ?_
  refine WC.pick [0, 5, 7, 6] Z.P ?_
  refine WC.loop5 3 (fun (n : Nat) (u : T) (out : List Pr) (ov : Value) (m : GoMap Pr Bool) => [(0, vs u), (5, ov), (7, vi n)]) (fun (n : Nat) (u : T) (out : List Pr) (ov : Value) (m : GoMap Pr Bool) => accP ov out :: mapC vp vbl b18 m :: O) (fun (n : Nat) (u : T) (out : List Pr) (ov : Value) (m : GoMap Pr Bool) => (∀ r, Prs n out u r → Prs 1 [] s r) ∧ u.length ≤ s.length ∧ out.length + 1 = n ∧ n ≤ 4097 ∧ ∀ p, m.get p = if p ∈ out then some true else none) (fun (n : Nat) (u : T) (out : List Pr) (ov : Value) (m : GoMap Pr Bool) => u.length) (1) (s) ([]) (nilS) (GoMap.empty) Z.L ?hinv1 (by repeat (first | exact Sub.nil | refine Sub.cons rfl (by rfl) ?_)) (fun w h => by have := Sat.accNil (e := 27) (size := 2) (enc := encP) h; exact Z.Fw this) ?_
  case hinv1 =>
   exact ⟨fun r h => h, Nat.le_refl _, rfl, by omega, fun p => by simp⟩
  intro n u out ov m
  rintro ⟨i1, i2, i3, i4, i5⟩
  refine WC.seq ?_
  refine WC.seq ?_
  refine WC.region ?_
  refine WL.rd rfl rfl rfl (Rd.move rfl rfl) ?_
  refine WL.rd rfl rfl rfl (Rd.sneq rfl rfl rfl) ?_
  refine WL.nil ?_
  refine thenQ.normal ?_
  refine WC.ite rfl (fun hc2 => ?_) (fun hc2 => ?_)
  ·
   refine WC.skip ?_
   refine thenQ.normal ?_
   refine WC.seq ?_
   refine WC.block ?_
   refine WC.seq ?_
   refine WC.region ?_
   refine WL.rd rfl rfl rfl (Rd.move rfl rfl) ?_
   refine WL.op rfl ?_
   refine OpW.call rfl rfl Z.E Z.K rfl rfl rfl ?_
   refine cut_spec (c := 10) Z.W ?_
   refine WL.rd rfl rfl rfl (Rd.move rfl rfl) ?_
   refine WL.rd rfl rfl rfl (Rd.extract rfl rfl rfl) ?_
   refine WL.rd rfl rfl rfl (Rd.extract rfl rfl rfl) ?_
   refine WL.rd rfl rfl rfl (Rd.extract rfl rfl rfl) ?_
   refine WL.rd rfl rfl rfl (Rd.assign rfl rfl) ?_
   refine WL.rd rfl rfl rfl (Rd.assign rfl rfl) ?_
   refine WL.rd rfl rfl rfl (Rd.assign rfl rfl) ?_
   refine WL.nil ?_
   refine thenQ.normal ?_
   refine WC.seq ?_
   refine WC.region ?_
   refine WL.rd rfl rfl rfl (Rd.move rfl rfl) ?_
   refine WL.op rfl ?_
   refine OpW.call rfl rfl Z.E Z.K rfl rfl rfl ?_
   refine cut_spec (c := 32) (by have := cut_len (c := 10) u; omega) ?_
   refine WL.rd rfl rfl rfl (Rd.move rfl rfl) ?_
   refine WL.rd rfl rfl rfl (Rd.extract rfl rfl rfl) ?_
   refine WL.rd rfl rfl rfl (Rd.extract rfl rfl rfl) ?_
   refine WL.rd rfl rfl rfl (Rd.extract rfl rfl rfl) ?_
   refine WL.rd rfl rfl rfl (Rd.assign rfl rfl) ?_
   refine WL.rd rfl rfl rfl (Rd.assign rfl rfl) ?_
   refine WL.rd rfl rfl rfl (Rd.assign rfl rfl) ?_
   refine WL.nil ?_
   refine thenQ.normal ?_
   refine WC.seq ?_
   refine WC.region ?_
   refine WL.rd rfl rfl rfl (Rd.move rfl rfl) ?_
   refine WL.rd rfl rfl rfl (Rd.move rfl rfl) ?_
   refine WL.rd rfl rfl rfl (Rd.buildN (ps := [(0, _), (1, _)]) rfl Bs27 I27 rfl Z.E Z.C (by apply NFo.mk; repeat (first | exact NF.nil | apply NF.cons))) ?_
   refine WL.op rfl ?_
   refine OpW.alloc rfl I27 rfl Z.N rfl rfl ?_; intro b14
   refine WL.op rfl ?_
   refine OpW.storeS rfl G27 rfl rfl Z.N Z.T rfl rfl Z.N rfl ?_
   refine WL.nil ?_
   refine thenQ.normal ?_
   refine WC.seq ?_
   refine WC.block ?_
   refine WC.seq ?_
   refine WC.region ?_
   refine WL.rd rfl rfl rfl (Rd.move rfl rfl) ?_
   refine WL.rd rfl rfl rfl (Rd.gtr rfl rfl rfl) ?_
   refine WL.rd rfl rfl rfl (Rd.assign rfl rfl) ?_
   refine WL.nil ?_
   refine thenQ.normal ?_
   refine WC.ite rfl (fun hc3 => ?_) (fun hc3 => ?_)
   ·
    refine WC.seq ?_
    refine WC.region ?_
    refine WL.rd rfl rfl rfl (Rd.move rfl rfl) ?_
    refine WL.rd rfl rfl rfl (Rd.assign rfl rfl) ?_
    refine WL.rd rfl rfl rfl (Rd.assign rfl rfl) ?_
    refine WL.rd rfl rfl rfl (Rd.assign rfl rfl) ?_
    refine WL.nil ?_
    refine thenQ.normal ?_
    refine WC.heap (fun w h => Sat.nilE (enc := encP) h) ?_; refine WC.heap (R' := SlE encP nilS [] :: R) (O' := O) Z.F ?_
    refine WC.ret (Ret.three Tryz.results7 rfl rfl rfl ?_)
    exact hk nilS ⟨[], n, 6⟩ (.inr ⟨by omega, i1 _ (.many hc2 Z.W)⟩)
   ·
    refine WC.pick [5, 6, 7, 9, 10, 11, 12, 13, 14] Z.P ?_
    refine WC.val 42 (.bool (decide (¬ LineOk u))) ?_ ?_
    ·
     refine WC.region ?_
     refine WL.rd rfl rfl rfl (Rd.move rfl rfl) ?_
     refine WL.rd rfl rfl rfl ((by exact Rd.notd rfl rfl)) ?_
     refine WL.rd rfl rfl rfl (Rd.move rfl rfl) ?_
     refine WL.case 45 rfl (fun hg45 => ?_) (fun hg45 => ?_)
     ·
      refine WL.no rfl rfl rfl rfl rfl rfl ?_
      refine WL.no rfl rfl rfl rfl rfl rfl ?_
      refine WL.rd rfl rfl rfl (Rd.pick_t rfl rfl rfl) ?_
      refine WL.rd rfl rfl rfl (Rd.move rfl rfl) ?_
      refine WL.no rfl rfl rfl rfl rfl rfl ?_
      refine WL.no rfl rfl rfl rfl rfl rfl ?_
      refine WL.no rfl rfl rfl rfl rfl rfl ?_
      refine WL.rd rfl rfl rfl (Rd.pick_t rfl rfl rfl) ?_
      refine WL.rd rfl rfl rfl (Rd.move rfl rfl) ?_
      refine WL.no rfl rfl rfl rfl rfl rfl ?_
      refine WL.no rfl rfl rfl rfl rfl rfl ?_
      refine WL.no rfl rfl rfl rfl rfl rfl ?_
      refine WL.rd rfl rfl rfl (Rd.pick_t rfl rfl rfl) ?_
      refine WL.rd rfl rfl rfl (Rd.assign rfl rfl) ?_
      refine WL.nil ?_
      exact ⟨by repeat (first | exact Sub.nil | refine Sub.cons rfl (by first | rfl | (exact vb_t (fun h => hg45 h.1))) ?_), by exact (fun _ h => h.thin (SubL.mem Z.S))⟩
     ·
      refine WL.rd_yes rfl rfl rfl rfl rfl rfl (Rd.move rfl rfl) ?_
      refine WL.rd_yes rfl rfl rfl rfl rfl rfl ((by exact Rd.notd rfl rfl)) ?_
      refine WL.rd rfl rfl rfl (Rd.pick_f rfl rfl rfl) ?_
      refine WL.rd rfl rfl rfl (Rd.move rfl rfl) ?_
      refine WL.case 49 rfl (fun hg49 => ?_) (fun hg49 => ?_)
      ·
       refine WL.no rfl rfl rfl rfl rfl rfl ?_
       refine WL.no rfl rfl rfl rfl rfl rfl ?_
       refine WL.no rfl rfl rfl rfl rfl rfl ?_
       refine WL.rd rfl rfl rfl (Rd.pick_t rfl rfl rfl) ?_
       refine WL.rd rfl rfl rfl (Rd.move rfl rfl) ?_
       refine WL.no rfl rfl rfl rfl rfl rfl ?_
       refine WL.no rfl rfl rfl rfl rfl rfl ?_
       refine WL.no rfl rfl rfl rfl rfl rfl ?_
       refine WL.rd rfl rfl rfl (Rd.pick_t rfl rfl rfl) ?_
       refine WL.rd rfl rfl rfl (Rd.assign rfl rfl) ?_
       refine WL.nil ?_
       exact ⟨by repeat (first | exact Sub.nil | refine Sub.cons rfl (by first | rfl | (exact vb_t (fun h => hg49 h.2.1))) ?_), by exact (fun _ h => h.thin (SubL.mem Z.S))⟩
      ·
       refine WL.rd_yes rfl rfl rfl rfl rfl rfl (Rd.move rfl rfl) ?_
       refine WL.op_yes rfl rfl rfl rfl ?_
       refine OpW.call rfl rfl Z.E Z.K rfl rfl rfl ?_
       refine good_spec (by have := cut_len (c := 10) u; have := cut_len (c := 32) (cutA 10 u); omega) ?_
       refine WL.rd_yes rfl rfl rfl rfl rfl rfl ((by exact Rd.notd rfl rfl)) ?_
       refine WL.rd rfl rfl rfl (Rd.pick_f rfl rfl rfl) ?_
       refine WL.rd rfl rfl rfl (Rd.move rfl rfl) ?_
       refine WL.case 54 rfl (fun hg54 => ?_) (fun hg54 => ?_)
       ·
        refine WL.no rfl rfl rfl rfl rfl rfl ?_
        refine WL.no rfl rfl rfl rfl rfl rfl ?_
        refine WL.no rfl rfl rfl rfl rfl rfl ?_
        refine WL.rd rfl rfl rfl (Rd.pick_t rfl rfl rfl) ?_
        refine WL.rd rfl rfl rfl (Rd.assign rfl rfl) ?_
        refine WL.nil ?_
        exact ⟨by repeat (first | exact Sub.nil | refine Sub.cons rfl (by first | rfl | (exact vb_t (fun h => hg54 h.2.2.1))) ?_), by exact (fun _ h => h.thin (SubL.mem Z.S))⟩
       ·
        refine WL.rd_yes rfl rfl rfl rfl rfl rfl (Rd.move rfl rfl) ?_
        refine WL.op_yes rfl rfl rfl rfl ?_
        refine OpW.call rfl rfl Z.E Z.K rfl rfl rfl ?_
        refine good_spec (by have := cut_len (c := 10) u; have := cutB_len (c := 32) (cutA 10 u); omega) ?_
        refine WL.rd_yes rfl rfl rfl rfl rfl rfl ((by exact Rd.notd rfl rfl)) ?_
        refine WL.rd rfl rfl rfl (Rd.pick_f rfl rfl rfl) ?_
        refine WL.rd rfl rfl rfl (Rd.assign rfl rfl) ?_
        refine WL.nil ?_
        exact ⟨by repeat (first | exact Sub.nil | refine Sub.cons rfl (by first | rfl | (exact vb ⟨fun h g => h g.2.2.2, fun h g => h ⟨Decidable.not_not.1 hg45, Decidable.not_not.1 hg49, Decidable.not_not.1 hg54, g⟩⟩)) ?_), by exact (fun _ h => h.thin (SubL.mem Z.S))⟩
    ·
     refine WC.ite rfl (fun hc4 => ?_) (fun hc4 => ?_)
     ·
      refine WC.seq ?_
      refine WC.region ?_
      refine WL.rd rfl rfl rfl (Rd.move rfl rfl) ?_
      refine WL.rd rfl rfl rfl (Rd.assign rfl rfl) ?_
      refine WL.rd rfl rfl rfl (Rd.assign rfl rfl) ?_
      refine WL.rd rfl rfl rfl (Rd.assign rfl rfl) ?_
      refine WL.nil ?_
      refine thenQ.normal ?_
      refine WC.heap (fun w h => Sat.nilE (enc := encP) h) ?_; refine WC.heap (R' := SlE encP nilS [] :: R) (O' := O) Z.F ?_
      refine WC.ret (Ret.three Tryz.results7 rfl rfl rfl ?_)
      exact hk nilS ⟨[], n, 2⟩ (.inr ⟨by omega, i1 _ (.form hc2 Z.W hc4)⟩)
     ·
      have hl := Decidable.not_not.1 hc4
      refine WC.seq ?_
      refine WC.region ?_
      refine WL.rd rfl rfl rfl (Rd.move rfl rfl) ?_
      refine WL.rd rfl rfl rfl ((by exact Rd.rowS rfl G27 rfl Z.M Z.N rfl)) ?_
      refine WL.rd rfl rfl rfl (Rd.lookup (k := pairOf u) M49 KPr rfl rfl rfl Z.M rfl) ?_
      refine WL.say 63 (u := .bool (decide (pairOf u ∈ out))) rfl (by rw [i5]; by_cases h : pairOf u ∈ out <;> simp [h]) ?_
      refine WL.rd rfl rfl rfl (Rd.assign rfl rfl) ?_
      refine WL.nil ?_
      refine thenQ.normal ?_
      refine WC.ite rfl (fun hc5 => ?_) (fun hc5 => ?_)
      ·
       refine WC.seq ?_
       refine WC.region ?_
       refine WL.rd rfl rfl rfl (Rd.move rfl rfl) ?_
       refine WL.rd rfl rfl rfl (Rd.assign rfl rfl) ?_
       refine WL.rd rfl rfl rfl (Rd.assign rfl rfl) ?_
       refine WL.rd rfl rfl rfl (Rd.assign rfl rfl) ?_
       refine WL.nil ?_
       refine thenQ.normal ?_
       refine WC.heap (fun w h => Sat.nilE (enc := encP) h) ?_; refine WC.heap (R' := SlE encP nilS [] :: R) (O' := O) Z.F ?_
       refine WC.ret (Ret.three Tryz.results7 rfl rfl rfl ?_)
       exact hk nilS ⟨[], n, 10⟩ (.inr ⟨by omega, i1 _ (.twice hc2 Z.W hl hc5)⟩)
      ·
       refine WC.skip ?_
       refine blockQ.normal ?_
       refine thenQ.normal ?_
       refine WC.seq ?_
       refine WC.region ?_
       refine WL.rd rfl rfl rfl (Rd.move rfl rfl) ?_
       refine WL.rd rfl rfl rfl ((by exact Rd.rowS rfl G27 rfl Z.M Z.N rfl)) ?_
       refine WL.op rfl ?_
       refine OpW.mapUpdate (k := pairOf u) (v := true) M49 KPr rfl rfl rfl rfl Z.T rfl rfl rfl ?_
       refine WL.nil ?_
       refine thenQ.normal ?_
       refine WC.region ?_
       refine WL.rd rfl rfl rfl (Rd.move rfl rfl) ?_
       refine WL.rd rfl rfl rfl ((by exact Rd.rowS rfl G27 rfl Z.M Z.N rfl)) ?_
       refine WL.op rfl ?_
       refine OpW.buildSl (ps := [(0, _)]) rfl S24 Z.E rfl rfl Z.C Z.K rfl rfl rfl ?_; intro b69
       refine WL.op rfl ?_
       refine OpW.appendRow (enc := encP) rfl S24 rfl rfl Z.T Z.T [pairOf u] rfl (by rfl) rfl (by intro x; rfl) (by intro x; rfl) (by exact ⟨by simp only [maxLen, List.length_append, List.length_nil, List.length_cons, List.length_drop, List.length_take, List.length_map]; omega, by omega⟩) rfl rfl ?_; intro v70 hv70
       refine WL.rd rfl rfl rfl (Rd.move rfl rfl) ?_
       refine WL.rd rfl rfl rfl (Rd.assign rfl rfl) ?_
       refine WL.rd rfl rfl rfl (Rd.assign rfl rfl) ?_
       refine WL.nil ?_
       refine blockQ.normal ?_
       refine thenQ.normal ?_
       refine WC.region ?_
       refine WL.rd rfl rfl rfl (Rd.move rfl rfl) ?_
       refine WL.rd rfl rfl rfl (Rd.add rfl rfl rfl Z.W) ?_
       refine WL.rd rfl rfl rfl (Rd.assign rfl rfl) ?_
       refine WL.nil ?_
       exact loopQ5.mk (n + 1) (cutB 10 u) (out ++ [pairOf u]) v70 (m.set (pairOf u) true) ⟨fun r h => i1 r (.next hc2 Z.W hl hc5 h), by have := cutB_len (c := 10) u; omega, by rw [List.length_append]; simp; omega, by omega, fun p => by
       rw [GoMap.get_set, i5]
       by_cases e : p = pairOf u
       · simp [e]
       · simp [e]⟩ (cutB_lt hc2) (by repeat (first | exact Sub.nil | refine Sub.cons rfl (by rfl) ?_)) Z.F
  ·
   refine WC.exit ?_
   refine thenQ.exit ?_
   refine loopQ5.exit ?_
   refine blockQ.exit ?_
   refine thenQ.normal ?_
   refine WC.seq ?_
   refine WC.region ?_
   refine WL.rd rfl rfl rfl (Rd.move rfl rfl) ?_
   refine WL.rd rfl rfl rfl (Rd.assign rfl rfl) ?_
   refine WL.rd rfl rfl rfl (Rd.assign rfl rfl) ?_
   refine WL.rd rfl rfl rfl (Rd.assign rfl rfl) ?_
   refine WL.nil ?_
   refine thenQ.normal ?_
   refine WC.heap (fun w h => Sat.shareA (xs := out) Z.T h) ?_; refine WC.heap (R' := SlE encP ov out :: R) (O' := O) Z.F ?_
   refine WC.ret (Ret.three Tryz.results7 rfl rfl rfl ?_)
   obtain rfl : u = [] := Decidable.not_not.1 hc2
   exact hk ov ⟨out, 0, 0⟩ (.inr ⟨by omega, i1 _ .done⟩)
end
end Go.Proofs.YtkobjfjmkhmehaaGreatDoor.Mg
namespace Go.Proofs.YtkobjfjmkhmehaaGreatDoor
open Go Go.SL
section
variable {R : List RO} {O : List Own} {POST : Value → List RO → List Own → Prop} {b off : Nat} {e : TypeId} {cs : List Value} {p v : Value} {bs : List UInt8}
abbrev pself (b off : Nat) : Value := .pointer (some ⟨b, off, none⟩)
set_option maxRecDepth 20000 in
theorem bcc_new (h0 : cs[off]? = some (.pointer none)) (hl : liesAt Tryz.prog Tryz.prog.depth e (cs.length / Tryz.prog.cellsOf e) off 54 1 = true) (hk : POST (.tuple #[]) R (rowC b e (cs.set off (pself b off)) :: O)) :
 Fun Tryz.prog 32 #[pself b off] R (rowC b e cs :: O) POST := by
 have hlt := (List.getElem?_eq_some_iff.1 h0).1
 refine Fun.enter (l := [_]) Tryz.func32 rfl Tryz.ntmps32 rfl (L0 := [(0, _)]) rfl ?_
 refine WC.seq ?_
 refine WC.region ?_
 refine WL.rd rfl rfl rfl (Rd.move rfl rfl) ?_
 refine WL.rd rfl rfl rfl (Rd.nilc rfl rfl) ?_
 refine WL.rd rfl rfl rfl (Rd.field (off := off) (r := off) rfl F54_0 rfl rfl) ?_
 refine WL.rd rfl rfl rfl (Rd.row1 (off := off) rfl C52 rfl List.mem_cons_self h0) ?_
 refine WL.rd rfl rfl rfl (Rd.peq_nn rfl Tryz.underlying52 rfl rfl) ?_
 refine WL.nil ?_
 refine thenQ.normal ?_
 refine WC.cond rfl (fun hc1 => ?_) (fun hc1 => ?_)
 ·
  refine WC.region ?_
  refine WL.rd rfl rfl rfl (Rd.move rfl rfl) ?_
  refine WL.rd rfl rfl rfl (Rd.move rfl rfl) ?_
  refine WL.rd rfl rfl rfl (Rd.toUnsafe (off := off) rfl Tryz.underlying52 Tryz.underlying145 I54 (by decide) rfl List.mem_cons_self hlt) ?_
  refine WL.op rfl ?_
  refine OpW.rd rfl rfl (Rd.extern (ef := Extern.AbiNoEscape.same) rfl rfl Z.E Tryz.func65 rfl rfl Z.K Z.K (fun w => Lib.run_noEscape w _)) ?_
  refine WL.rd rfl rfl rfl (Rd.ofUnsafe (off := off) rfl Tryz.underlying145 Tryz.underlying52 I54 rfl List.mem_cons_self hl) ?_
  refine WL.rd rfl rfl rfl (Rd.nilc rfl rfl) ?_
  refine WL.rd rfl rfl rfl (Rd.field (off := off) (r := off) rfl F54_0 rfl rfl) ?_
  refine WL.op rfl ?_
  refine OpW.store1 (off := off) rfl Z52 rfl rfl (by exact ⟨rfl, rfl⟩) (Take.head _) hlt rfl ?_
  refine WL.nil ?_
  refine Ret.normal (Ret.zero Tryz.results32 ?_)
  exact hk
 ·
  simp at hc1
set_option maxRecDepth 20000 in
theorem bcc_used (h0 : cs[off]? = some (pself b off)) (hk : POST (.tuple #[]) R (rowC b e (cs.set off (pself b off)) :: O)) :
 Fun Tryz.prog 32 #[pself b off] R (rowC b e cs :: O) POST := by
 have hlt := (List.getElem?_eq_some_iff.1 h0).1
 have hs : cs.set off (pself b off) = cs := by
  apply List.ext_getElem? ; intro i
  rw [List.getElem?_set]
  split
  · rename_i h; subst h; rw [h0]
  · rfl
 rw [hs] at hk
 refine Fun.enter (l := [_]) Tryz.func32 rfl Tryz.ntmps32 rfl (L0 := [(0, _)]) rfl ?_
 refine WC.seq ?_
 refine WC.region ?_
 refine WL.rd rfl rfl rfl (Rd.move rfl rfl) ?_
 refine WL.rd rfl rfl rfl (Rd.nilc rfl rfl) ?_
 refine WL.rd rfl rfl rfl (Rd.field (off := off) (r := off) rfl F54_0 rfl rfl) ?_
 refine WL.rd rfl rfl rfl (Rd.row1 (off := off) rfl C52 rfl List.mem_cons_self h0) ?_
 refine WL.rd rfl rfl rfl (Rd.peq_sn rfl Tryz.underlying52 rfl rfl) ?_
 refine WL.nil ?_
 refine thenQ.normal ?_
 refine WC.cond rfl (fun hc1 => ?_) (fun hc1 => ?_)
 ·
  simp at hc1
 ·
  refine WC.seq ?_
  refine WC.region ?_
  refine WL.rd rfl rfl rfl (Rd.move rfl rfl) ?_
  refine WL.rd rfl rfl rfl (Rd.nilc rfl rfl) ?_
  refine WL.rd rfl rfl rfl (Rd.field (off := off) (r := off) rfl F54_0 rfl rfl) ?_
  refine WL.rd rfl rfl rfl (Rd.row1 (off := off) rfl C52 rfl List.mem_cons_self h0) ?_
  refine WL.rd rfl rfl rfl (Rd.move rfl rfl) ?_
  refine WL.rd rfl rfl rfl (Rd.pneq_self rfl Tryz.underlying52 I54 rfl rfl) ?_
  refine WL.nil ?_
  refine thenQ.normal ?_
  refine WC.cond rfl (fun hc2 => ?_) (fun hc2 => ?_)
  ·
   simp at hc2
  ·
   refine WC.skip ?_
   refine Ret.normal (Ret.zero Tryz.results32 ?_)
   exact hk
theorem bcc_spec (hp : p = .pointer none ∨ p = pself b off) (h0 : cs[off]? = some p) (hl : liesAt Tryz.prog Tryz.prog.depth e (cs.length / Tryz.prog.cellsOf e) off 54 1 = true) (hk : POST (.tuple #[]) R (rowC b e (cs.set off (pself b off)) :: O)) :
 Fun Tryz.prog 32 #[pself b off] R (rowC b e cs :: O) POST := by
 rcases hp with rfl | rfl
 · exact bcc_new h0 hl hk
 · exact bcc_used h0 hk
set_option maxRecDepth 20000 in
theorem bws_spec {s : List UInt8} (hp : p = .pointer none ∨ p = pself b off) (h0 : cs[off]? = some p) (h1 : cs[off + 1]? = some v) (hl : liesAt Tryz.prog Tryz.prog.depth e (cs.length / Tryz.prog.cellsOf e) off 54 1 = true) (hsz : bs.length + s.length ≤ 140737488355328)
 (hk : ∀ v', OneV v' → POST (.tuple #[.int .i64 s.length, .nilIface]) R (rowC b e ((cs.set off (pself b off)).set (off + 1) v') :: accC 5 1 (SL.one vy) v' (bs ++ s) :: O)) :
 Fun Tryz.prog 18 #[pself b off, vs s] R (rowC b e cs :: accC 5 1 (SL.one vy) v bs :: O) POST := by
 have hlt := (List.getElem?_eq_some_iff.1 h1).1
 have h1' : (cs.set off (pself b off))[off + 1]? = some v := by rw [List.getElem?_set_ne Z.W]; exact h1
 refine Fun.enter (l := [_, _]) Tryz.func18 rfl Tryz.ntmps18 rfl (L0 := [(0, _), (1, _)]) rfl ?_
 refine WC.seq ?_
 refine WC.region ?_
 refine WL.rd rfl rfl rfl (Rd.assign rfl rfl) ?_
 refine WL.rd rfl rfl rfl (Rd.assign rfl rfl) ?_
 refine WL.nil ?_
 refine thenQ.normal ?_
 refine WC.seq ?_
 refine WC.region ?_
 refine WL.rd rfl rfl rfl (Rd.move rfl rfl) ?_
 refine WL.op rfl ?_
 refine OpW.call rfl rfl Z.E Z.K rfl rfl rfl ?_
 refine bcc_spec hp h0 hl ?_
 refine WL.nil ?_
 refine thenQ.normal ?_
 refine WC.seq ?_
 refine WC.region ?_
 refine WL.rd rfl rfl rfl (Rd.move rfl rfl) ?_
 refine WL.rd rfl rfl rfl (Rd.move rfl rfl) ?_
 refine WL.rd rfl rfl rfl (Rd.nilc rfl rfl) ?_
 refine WL.rd rfl rfl rfl (Rd.field (off := off) (r := off + 1) rfl F54_1 rfl rfl) ?_
 refine WL.rd rfl rfl rfl (Rd.row1 (off := off + 1) rfl C30 rfl List.mem_cons_self h1') ?_
 refine WL.rd rfl rfl rfl (Rd.move rfl rfl) ?_
 refine WL.op rfl ?_
 refine OpW.appendStr rfl S30 Tryz.underlying9 rfl rfl Z.T (by exact ⟨by simp only [maxLen, List.length_append, List.length_nil, List.length_cons, List.length_drop, List.length_take, List.length_map]; omega, by omega⟩) rfl rfl ?_; intro v14 hv14
 refine WL.rd rfl rfl rfl (Rd.nilc rfl rfl) ?_
 refine WL.rd rfl rfl rfl (Rd.field (off := off) (r := off + 1) rfl F54_1 rfl rfl) ?_
 refine WL.op rfl ?_
 refine OpW.store1 (off := off + 1) rfl Z30 rfl rfl hv14 Z.T (by rw [List.length_set]; exact hlt) rfl ?_
 refine WL.nil ?_
 refine thenQ.normal ?_
 refine WC.seq ?_
 refine WC.region ?_
 refine WL.rd rfl rfl rfl (Rd.move rfl rfl) ?_
 refine WL.rd rfl rfl rfl (Rd.slen (ts := #[]) (ty := 0) rfl rfl Tryz.underlying9) ?_
 refine WL.rd rfl rfl rfl (Rd.assign rfl rfl) ?_
 refine WL.rd rfl rfl rfl (Rd.assign rfl rfl) ?_
 refine WL.nil ?_
 refine thenQ.normal ?_
 refine WC.ret (Ret.two Tryz.results18 rfl rfl ?_)
 exact hk _ hv14
set_option maxRecDepth 20000 in
theorem blen_spec (h1 : cs[off + 1]? = some v) (hk : POST (.int .i64 (bs.length : Nat)) R (rowC b e cs :: accC 5 1 (SL.one vy) v bs :: O)) :
 Fun Tryz.prog 25 #[pself b off] R (rowC b e cs :: accC 5 1 (SL.one vy) v bs :: O) POST := by
 refine Fun.enter (l := [_]) Tryz.func25 rfl Tryz.ntmps25 rfl (L0 := [(0, _)]) rfl ?_
 refine WC.seq ?_
 refine WC.region ?_
 refine WL.rd rfl rfl rfl (Rd.assign rfl rfl) ?_
 refine WL.nil ?_
 refine thenQ.normal ?_
 refine WC.seq ?_
 refine WC.region ?_
 refine WL.rd rfl rfl rfl (Rd.move rfl rfl) ?_
 refine WL.rd rfl rfl rfl (Rd.nilc rfl rfl) ?_
 refine WL.rd rfl rfl rfl (Rd.field (off := off) (r := off + 1) rfl F54_1 rfl rfl) ?_
 refine WL.rd rfl rfl rfl (Rd.row1 (off := off + 1) rfl C30 rfl List.mem_cons_self h1) ?_
 refine WL.rd rfl rfl rfl ((by exact Rd.lenA rfl rfl Tryz.underlying30 Z.M)) ?_
 refine WL.rd rfl rfl rfl (Rd.assign rfl rfl) ?_
 refine WL.nil ?_
 refine thenQ.normal ?_
 refine WC.ret (Ret.one Tryz.results25 rfl ?_)
 exact hk
set_option maxRecDepth 20000 in
theorem bstr_spec (h1 : cs[off + 1]? = some v) (hk : POST (vs bs) R (rowC b e cs :: O)) :
 Fun Tryz.prog 19 #[pself b off] R (rowC b e cs :: accC 5 1 (SL.one vy) v bs :: O) POST := by
 refine Fun.enter (l := [_]) Tryz.func19 rfl Tryz.ntmps19 rfl (L0 := [(0, _)]) rfl ?_
 refine WC.seq ?_
 refine WC.region ?_
 refine WL.rd rfl rfl rfl (Rd.assign rfl rfl) ?_
 refine WL.nil ?_
 refine thenQ.normal ?_
 refine WC.seq ?_
 refine WC.drawn (rowC b e cs :: O) 12 rfl mixed ?_
 refine WD.take 0 rfl Z.K Z.H rfl rfl rfl (Rd.move rfl rfl) ?_
 refine WD.take 1 rfl Z.K Z.H rfl rfl rfl (Rd.nilc rfl rfl) ?_
 refine WD.take 2 rfl Z.K Z.H rfl rfl rfl (Rd.field (off := off) (r := off + 1) rfl F54_1 rfl rfl) ?_
 refine WD.take 3 rfl Z.K Z.H rfl rfl rfl (Rd.row1 (off := off + 1) rfl C30 rfl List.mem_cons_self h1) ?_
 refine WD.take 5 rfl Z.K Z.H rfl rfl rfl (Rd.move rfl rfl) ?_
 refine WD.take 6 rfl Z.K Z.H rfl rfl rfl (Rd.nilc rfl rfl) ?_
 refine WD.take 7 rfl Z.K Z.H rfl rfl rfl (Rd.field (off := off) (r := off + 1) rfl F54_1 rfl rfl) ?_
 refine WD.take 8 rfl Z.K Z.H rfl rfl rfl (Rd.row1 (off := off + 1) rfl C30 rfl List.mem_cons_self h1) ?_
 refine WD.two 4 9 rfl rfl Z.K rfl rfl ?_ ?_
 ·
  refine OpW.sliceData rfl Tryz.underlying97 rfl Z.M rfl rfl ?_; intro q7 hq7
  refine ⟨Z.H, ?_⟩
  refine WD.one 9 rfl Z.K rfl ?_
  refine OpW.rd rfl rfl ((by exact Rd.lenA rfl rfl Tryz.underlying30 Z.M)) ?_
  refine ⟨Z.H, ?_⟩
  refine WD.one 10 rfl Z.K rfl ?_
  refine OpW.unsafeStr rfl Tryz.underlying97 Z.K rfl rfl rfl rfl Z.T hq7 rfl rfl ?_
  refine ⟨Z.H, ?_⟩
  refine WD.take 11 rfl Z.K Z.H rfl rfl rfl (Rd.assign rfl rfl) ?_
  refine WD.done Z.K ?_
  refine thenQ.normal ?_
  refine WC.ret (Ret.one Tryz.results19 rfl ?_)
  exact hk
 ·
  refine OpW.rd rfl rfl ((by exact Rd.lenA rfl rfl Tryz.underlying30 Z.M)) ?_
  refine ⟨Z.H, ?_⟩
  refine WD.one 4 rfl Z.K rfl ?_
  refine OpW.sliceData rfl Tryz.underlying97 rfl Z.M rfl rfl ?_; intro q7 hq7
  refine ⟨Z.H, ?_⟩
  refine WD.one 10 rfl Z.K rfl ?_
  refine OpW.unsafeStr rfl Tryz.underlying97 Z.K rfl rfl rfl rfl Z.T hq7 rfl rfl ?_
  refine ⟨Z.H, ?_⟩
  refine WD.take 11 rfl Z.K Z.H rfl rfl rfl (Rd.assign rfl rfl) ?_
  refine WD.done Z.K ?_
  refine thenQ.normal ?_
  refine WC.ret (Ret.one Tryz.results19 rfl ?_)
  exact hk
end
end Go.Proofs.YtkobjfjmkhmehaaGreatDoor
namespace Go.Proofs.YtkobjfjmkhmehaaGreatDoor.Mg
open Go Go.SL
def lineS (p : Pr) : T := p.1 ++ [32] ++ p.2 ++ [10]
def showL (l : List Pr) : T := l.flatMap lineS
theorem showL_app (l m : List Pr) : showL (l ++ m) = showL l ++ showL m := by simp [showL]
theorem showL_next {l : List Pr} {i : Nat} (h : i < l.length) : showL (l.take (i + 1)) = showL (l.take i) ++ lineS l[i]! := by rw [take_snoc' h, showL_app]; simp [showL]
theorem lineS_len (p : Pr) : (lineS p).length = p.1.length + p.2.length + 2 := by simp [lineS]; omega
theorem showL_take {l : List Pr} {i : Nat} : (showL (l.take i)).length ≤ (showL l).length := by
 have h := congrArg List.length (congrArg showL (List.take_append_drop i l))
 rw [showL_app, List.length_append] at h; omega
def known (pre : List Pr) (s : T) : Prop := s.length ≤ 1 ∨ ∃ p ∈ pre, p.1 ++ p.2 = s
instance (pre : List Pr) (s : T) : Decidable (known pre s) := by unfold known; infer_instance
def okAt (l : List Pr) (i : Nat) : Prop := known (l.take i) l[i]!.1 ∧ known (l.take i) l[i]!.2
instance (l : List Pr) (i : Nat) : Decidable (okAt l i) := by unfold okAt; infer_instance
def InvIs (l : List Pr) (k : Int) : Prop := (k = -1 ∧ ∀ j, j < l.length → okAt l j) ∨ ∃ i : Nat, k = i ∧ i < l.length ∧ ¬ okAt l i ∧ ∀ j, j < i → okAt l j
theorem InvIs.uniq {l : List Pr} {k k' : Int} (h : InvIs l k) (h' : InvIs l k') : k = k' := by
 rcases h with ⟨rfl, h⟩ | ⟨i, rfl, h1, h2, h3⟩ <;> rcases h' with ⟨rfl, g⟩ | ⟨j, rfl, g1, g2, g3⟩
 · rfl
 · exact absurd (h j g1) g2
 · exact absurd (g i h1) h2
 · rcases Nat.lt_trichotomy i j with e | e | e
   · exact absurd (g3 i e) h2
   · rw [e]
   · exact absurd (h3 j e) g2
section
variable {R : List RO} {O O' : List Own} {POST : Value → List RO → List Own → Prop} {l : List Pr} {lv : Value}
set_option maxRecDepth 20000 in
theorem show_spec (hR : SlE encP lv l ∈ R) (hsz : (showL l).length ≤ 140737488355328) (hk : POST (vs (showL l)) R O) : Fun Tryz.prog 8 #[lv] R O POST := by
 refine Fun.len hR fun hll => ?_
 refine Fun.enter (l := [_]) Tryz.func8 rfl Tryz.ntmps8 rfl (L0 := [(0, _)]) rfl ?_
 refine WC.seq ?_
 refine WC.region ?_
 refine WL.rd rfl rfl rfl (Rd.assign rfl rfl) ?_
 refine WL.nil ?_
 refine thenQ.normal ?_
 refine WC.seq ?_
 refine WC.region ?_
 refine WL.op rfl ?_
 refine OpW.alloc rfl I54 rfl Z.N rfl rfl ?_; intro b3
 refine WL.heap (fun w h => Sat.accNil (e := 5) (size := 1) (enc := SL.one vy) h) ?_
 refine WL.nil ?_
 refine thenQ.normal ?_
 refine WC.seq ?_
 refine WC.seq ?_
 refine WC.region ?_
 refine WL.rd rfl rfl rfl (Rd.move rfl rfl) ?_
 refine WL.rd rfl rfl rfl ((by exact Rd.lenE rfl rfl Tryz.underlying24 Z.M)) ?_
 refine WL.rd rfl rfl rfl (Rd.move rfl rfl) ?_
 refine WL.nil ?_
 refine thenQ.normal ?_
 refine WC.block ?_
 refine WC.pick [8, 3, 6, 7] Z.P ?_
 refine WC.loop3 1 (fun (i : Nat) (p : Value) (v : Value) => [(8, vi i)]) (fun (i : Nat) (p : Value) (v : Value) => rowC b3 54 [p, v] :: accC 5 1 (SL.one vy) v (showL (l.take i)) :: O) (fun (i : Nat) (p : Value) (v : Value) => i ≤ l.length ∧ (p = .pointer none ∨ p = pself b3 0)) (fun (i : Nat) (p : Value) (v : Value) => l.length - i) (0) (.pointer none) (nilS) Z.L ?hinv1 (by repeat (first | exact Sub.nil | refine Sub.cons rfl (by rfl) ?_)) Z.F ?_
 case hinv1 =>
  exact ⟨Nat.zero_le _, .inl rfl⟩
 intro i p v
 rintro ⟨i1, i2⟩
 refine WC.seq ?_
 refine WC.region ?_
 refine WL.rd rfl rfl rfl (Rd.lss rfl rfl rfl) ?_
 refine WL.nil ?_
 refine thenQ.normal ?_
 refine WC.seq ?_
 refine WC.ite rfl (fun hc1 => ?_) (fun hc1 => ?_)
 ·
  have hn := showL_next (l := l) (i := i) Z.W
  have hn2 := congrArg List.length hn
  have hn3 := showL_take (l := l) (i := i + 1)
  have hn4 := lineS_len l[i]!
  rw [List.length_append] at hn2
  refine WC.skip ?_
  refine thenQ.normal ?_
  refine WC.seq ?_
  refine WC.block ?_
  refine WC.seq ?_
  refine WC.region ?_
  refine WL.rd rfl rfl rfl ((by exact Rd.idx (k := i) rfl S24 rfl rfl Z.W Z.M Z.W)) ?_
  refine WL.rd rfl rfl rfl (Rd.getS (enc := encP) (size := 2) (xs := l) (k := i) (a := l[i]!) (cs := [vs l[i]!.1, vs l[i]!.2]) rfl G27 rfl hR (fun x => rfl) (get!_of_lt Z.W) (NF.refl _)) ?_
  refine WL.op rfl ?_
  refine OpW.alloc rfl I27 rfl Z.N rfl rfl ?_; intro b5
  refine WL.op rfl ?_
  refine OpW.storeS rfl G27 rfl rfl Z.N Z.T rfl rfl Z.N rfl ?_
  refine WL.nil ?_
  refine thenQ.normal ?_
  refine WC.region ?_
  refine WL.rd rfl rfl rfl ((by exact Rd.field rfl F27_0 rfl rfl)) ?_
  refine WL.rd rfl rfl rfl ((by exact Rd.row1 rfl C9 rfl Z.M (by rfl))) ?_
  refine WL.rd rfl rfl rfl (Rd.scat rfl rfl rfl (by simp only [List.length_cons, List.length_nil]; omega)) ?_
  refine WL.rd rfl rfl rfl ((by exact Rd.field rfl F27_1 rfl rfl)) ?_
  refine WL.rd rfl rfl rfl ((by exact Rd.row1 rfl C9 rfl Z.M (by rfl))) ?_
  refine WL.rd rfl rfl rfl (Rd.scat rfl rfl rfl (by simp only [List.length_append, List.length_cons, List.length_nil]; omega)) ?_
  refine WL.rd rfl rfl rfl (Rd.scat rfl rfl rfl (by simp only [List.length_append, List.length_cons, List.length_nil]; omega)) ?_
  refine WL.op rfl ?_
  refine OpW.call rfl rfl Z.E Z.K rfl rfl rfl ?_
  refine Fun.heap (R' := R) (O' := rowC b3 54 [p, v] :: accC 5 1 (SL.one vy) v (showL (l.take i)) :: O) Z.F ?_
  refine bws_spec (off := 0) (cs := [p, v]) (bs := showL (l.take i)) (s := lineS l[i]!) i2 rfl rfl Z.K Z.W ?_; intro v19 hv19
  refine WL.nil ?_
  refine blockQ.normal ?_
  refine thenQ.normal ?_
  refine WC.region ?_
  refine WL.rd rfl rfl rfl (Rd.add rfl rfl rfl Z.W) ?_
  refine WL.rd rfl rfl rfl (Rd.move rfl rfl) ?_
  refine WL.nil ?_
  exact loopQ3.mk (i + 1) (pself b3 0) v19 ⟨by omega, .inr rfl⟩ Z.W (by repeat (first | exact Sub.nil | refine Sub.cons rfl (by rfl) ?_)) (fun w h => by rw [hn]; exact Z.Fw h)
 ·
  refine WC.exit ?_
  refine thenQ.exit ?_
  refine loopQ3.exit ?_
  refine blockQ.exit ?_
  refine thenQ.normal ?_
  refine WC.seq ?_
  refine WC.region ?_
  refine WL.op rfl ?_
  refine OpW.call rfl rfl Z.E Z.K rfl rfl rfl ?_
  refine bstr_spec (off := 0) (cs := [p, v]) rfl ?_
  refine WL.rd rfl rfl rfl (Rd.assign rfl rfl) ?_
  refine WL.nil ?_
  refine thenQ.normal ?_
  refine WC.heap (R' := R) (O' := O) Z.F ?_
  refine WC.ret (Ret.one Tryz.results8 rfl ?_)
  obtain rfl : i = l.length := by omega
  rw [List.take_length]
  exact hk
set_option maxRecDepth 20000 in
theorem is_spec {s : T} {b3 b : Nat} {m : GoMap T Bool} {pre : List Pr} (h3 : rowC b3 48 [.map (some b)] ∈ O) (hm : mapC vs vbl b m ∈ O) (hp : ∀ s, m.get s = some true ↔ ∃ p ∈ pre, p.1 ++ p.2 = s)
 (hk : POST (.bool (decide (known pre s))) R O) : Fun Tryz.prog 16 #[vs s, .pointer (some ⟨b3, 0, none⟩)] R O POST := by
 refine Fun.enter (l := [_, _]) Tryz.func16 rfl Tryz.ntmps16 rfl (L0 := [(0, _), (1, _)]) rfl ?_
 refine WC.seq ?_
 refine WC.region ?_
 refine WL.rd rfl rfl rfl (Rd.assign rfl rfl) ?_
 refine WL.nil ?_
 refine thenQ.normal ?_
 refine WC.pick [0, 1] Z.P ?_
 refine WC.val 3 (.bool (decide (known pre s))) ?_ ?_
 ·
  refine WC.region ?_
  refine WL.rd rfl rfl rfl (Rd.move rfl rfl) ?_
  refine WL.rd rfl rfl rfl (Rd.slen (ts := #[]) (ty := 0) rfl rfl Tryz.underlying9) ?_
  refine WL.rd rfl rfl rfl (Rd.leq rfl rfl rfl) ?_
  refine WL.rd rfl rfl rfl (Rd.move rfl rfl) ?_
  refine WL.case 7 rfl (fun hg7 => ?_) (fun hg7 => ?_)
  ·
   refine WL.no rfl rfl rfl rfl rfl rfl ?_
   refine WL.no rfl rfl rfl rfl rfl rfl ?_
   refine WL.no rfl rfl rfl rfl rfl rfl ?_
   refine WL.rd rfl rfl rfl (Rd.pick_t rfl rfl rfl) ?_
   refine WL.rd rfl rfl rfl (Rd.assign rfl rfl) ?_
   refine WL.nil ?_
   exact ⟨by repeat (first | exact Sub.nil | refine Sub.cons rfl (by first | rfl | (exact vb_t (.inl Z.W))) ?_), by exact (fun _ h => h.thin (SubL.mem Z.S))⟩
  ·
   refine WL.rd_yes rfl rfl rfl rfl rfl rfl (Rd.row1 (off := 0) (u := .map (some b)) rfl C48 rfl h3 rfl) ?_
   refine WL.rd_yes rfl rfl rfl rfl rfl rfl (Rd.move rfl rfl) ?_
   refine WL.rd_yes rfl rfl rfl rfl rfl rfl (Rd.lookup (k := s) M48 K9 rfl rfl rfl hm rfl) ?_
   refine WL.say 10 (u := .bool (decide (m.get s = some true))) rfl (by cases m.get s with | none => rfl | some b => cases b <;> rfl) ?_
   refine WL.rd rfl rfl rfl (Rd.pick_f rfl rfl rfl) ?_
   refine WL.rd rfl rfl rfl (Rd.assign rfl rfl) ?_
   refine WL.nil ?_
   exact ⟨by repeat (first | exact Sub.nil | refine Sub.cons rfl (by first | rfl | (exact vb ⟨fun h => .inr ((hp s).1 h), fun h => (hp s).2 (h.elim (fun g => absurd g Z.W) id)⟩)) ?_), by exact (fun _ h => h.thin (SubL.mem Z.S))⟩
 ·
  refine WC.ret (Ret.one Tryz.results16 rfl ?_)
  exact hk
set_option maxRecDepth 20000 in
theorem invalid_spec (hR : SlE encP lv l ∈ R) (hq : ∀ p ∈ l, p.1.length + p.2.length ≤ 9000000000000000000) (hk : ∀ k, InvIs l k → POST (vi k) R O) : Fun Tryz.prog 6 #[lv] R O POST := by
 refine Fun.len hR fun hll => ?_
 refine Fun.enter (l := [_]) Tryz.func6 rfl Tryz.ntmps6 rfl (L0 := [(0, _)]) rfl ?_
 refine WC.seq ?_
 refine WC.region ?_
 refine WL.rd rfl rfl rfl (Rd.assign rfl rfl) ?_
 refine WL.nil ?_
 refine thenQ.normal ?_
 refine WC.seq ?_
 refine WC.region ?_
 refine WL.op rfl ?_
 refine OpW.makeMap vs vbl rfl rfl rfl ?_; intro b7
 refine WL.op rfl ?_
 refine OpW.alloc rfl I48 rfl Z.N rfl rfl ?_; intro b3
 refine WL.op rfl ?_
 refine OpW.store1 rfl Z48 rfl rfl (by exact ⟨rfl, rfl⟩) Z.T (by (simp; done)) rfl ?_
 refine WL.nil ?_
 refine thenQ.normal ?_
 refine WC.seq ?_
 refine WC.region ?_
 refine WL.rd rfl rfl rfl (Rd.func rfl Z.E Z.E ⟨_, rfl⟩) ?_
 refine WL.rd rfl rfl rfl (Rd.assign rfl rfl) ?_
 refine WL.nil ?_
 refine thenQ.normal ?_
 refine WC.seq ?_
 refine WC.seq ?_
 refine WC.region ?_
 refine WL.rd rfl rfl rfl (Rd.move rfl rfl) ?_
 refine WL.rd rfl rfl rfl ((by exact Rd.lenE rfl rfl Tryz.underlying24 Z.M)) ?_
 refine WL.rd rfl rfl rfl (Rd.move rfl rfl) ?_
 refine WL.nil ?_
 refine thenQ.normal ?_
 refine WC.block ?_
 refine WC.pick [11, 3, 4, 9, 10] Z.P ?_
 refine WC.loop2 1 (fun (i : Nat) (m : GoMap T Bool) => [(11, vi i)]) (fun (i : Nat) (m : GoMap T Bool) => rowC b3 48 [.map (some b7)] :: mapC vs vbl b7 m :: O) (fun (i : Nat) (m : GoMap T Bool) => i ≤ l.length ∧ (∀ s, m.get s = some true ↔ ∃ p ∈ l.take i, p.1 ++ p.2 = s) ∧ ∀ j, j < i → okAt l j) (fun (i : Nat) (m : GoMap T Bool) => l.length - i) (0) (GoMap.empty) Z.L ?hinv1 (by repeat (first | exact Sub.nil | refine Sub.cons rfl (by rfl) ?_)) (fun _ h => h) ?_
 case hinv1 =>
  exact ⟨Nat.zero_le _, fun s => by simp, fun j h => absurd h (Nat.not_lt_zero _)⟩
 intro i m
 rintro ⟨i1, i2, i3⟩
 refine WC.seq ?_
 refine WC.region ?_
 refine WL.rd rfl rfl rfl (Rd.lss rfl rfl rfl) ?_
 refine WL.nil ?_
 refine thenQ.normal ?_
 refine WC.seq ?_
 refine WC.ite rfl (fun hc1 => ?_) (fun hc1 => ?_)
 ·
  have hqi := hq l[i]! (get!_mem Z.W)
  refine WC.skip ?_
  refine thenQ.normal ?_
  refine WC.seq ?_
  refine WC.block ?_
  refine WC.seq ?_
  refine WC.region ?_
  refine WL.rd rfl rfl rfl (Rd.move rfl rfl) ?_
  refine WL.rd rfl rfl rfl ((by exact Rd.idx (k := i) rfl S24 rfl rfl Z.W Z.M Z.W)) ?_
  refine WL.rd rfl rfl rfl (Rd.getS (enc := encP) (size := 2) (xs := l) (k := i) (a := l[i]!) (cs := [vs l[i]!.1, vs l[i]!.2]) rfl G27 rfl hR (fun x => rfl) (get!_of_lt Z.W) (NF.refl _)) ?_
  refine WL.op rfl ?_
  refine OpW.alloc rfl I27 rfl Z.N rfl rfl ?_; intro b6
  refine WL.rd rfl rfl rfl (Rd.assign rfl rfl) ?_
  refine WL.op rfl ?_
  refine OpW.storeS rfl G27 rfl rfl Z.N Z.T rfl rfl Z.N rfl ?_
  refine WL.nil ?_
  refine thenQ.normal ?_
  refine WC.seq ?_
  refine WC.pick [3, 4, 5, 6, 9, 10, 11] Z.P ?_
  refine WC.val 27 (.bool (decide (¬ okAt l i))) ?_ ?_
  ·
   refine WC.region ?_
   refine WL.rd rfl rfl rfl (Rd.move rfl rfl) ?_
   refine WL.rd rfl rfl rfl ((by exact Rd.field rfl F27_0 rfl rfl)) ?_
   refine WL.rd rfl rfl rfl ((by exact Rd.row1 rfl C9 rfl Z.M (by rfl))) ?_
   refine WL.op rfl ?_
   refine OpW.call rfl rfl Z.E Z.K rfl rfl rfl ?_
   refine is_spec (pre := l.take i) Z.M Z.M i2 ?_
   refine WL.rd rfl rfl rfl ((by exact Rd.notd rfl rfl)) ?_
   refine WL.rd rfl rfl rfl (Rd.move rfl rfl) ?_
   refine WL.case 21 rfl (fun hg21 => ?_) (fun hg21 => ?_)
   ·
    refine WL.no rfl rfl rfl rfl rfl rfl ?_
    refine WL.no rfl rfl rfl rfl rfl rfl ?_
    refine WL.no rfl rfl rfl rfl rfl rfl ?_
    refine WL.no rfl rfl rfl rfl rfl rfl ?_
    refine WL.no rfl rfl rfl rfl rfl rfl ?_
    refine WL.rd rfl rfl rfl (Rd.pick_t rfl rfl rfl) ?_
    refine WL.nil ?_
    exact ⟨by repeat (first | exact Sub.nil | refine Sub.cons rfl (by first | rfl | (exact vb_t (fun h => hg21 h.1))) ?_), by exact (fun _ h => h.thin (SubL.mem Z.S))⟩
   ·
    refine WL.rd_yes rfl rfl rfl rfl rfl rfl (Rd.move rfl rfl) ?_
    refine WL.rd_yes rfl rfl rfl rfl rfl rfl ((by exact Rd.field rfl F27_1 rfl rfl)) ?_
    refine WL.rd_yes rfl rfl rfl rfl rfl rfl ((by exact Rd.row1 rfl C9 rfl Z.M (by rfl))) ?_
    refine WL.op_yes rfl rfl rfl rfl ?_
    refine OpW.call rfl rfl Z.E Z.K rfl rfl rfl ?_
    refine is_spec (pre := l.take i) Z.M Z.M i2 ?_
    refine WL.rd_yes rfl rfl rfl rfl rfl rfl ((by exact Rd.notd rfl rfl)) ?_
    refine WL.rd rfl rfl rfl (Rd.pick_f rfl rfl rfl) ?_
    refine WL.nil ?_
    exact ⟨by repeat (first | exact Sub.nil | refine Sub.cons rfl (by first | rfl | (exact vb ⟨fun h g => h g.2, fun h g => h ⟨Decidable.not_not.1 hg21, g⟩⟩)) ?_), by exact (fun _ h => h.thin (SubL.mem Z.S))⟩
  ·
   refine WC.ite rfl (fun hc2 => ?_) (fun hc2 => ?_)
   ·
    refine WC.seq ?_
    refine WC.region ?_
    refine WL.rd rfl rfl rfl (Rd.move rfl rfl) ?_
    refine WL.rd rfl rfl rfl (Rd.assign rfl rfl) ?_
    refine WL.nil ?_
    refine thenQ.normal ?_
    refine WC.heap (R' := R) (O' := O) Z.F ?_
    refine WC.ret (Ret.one Tryz.results6 rfl ?_)
    exact hk i (.inr ⟨i, rfl, by omega, hc2, i3⟩)
   ·
    refine WC.skip ?_
    refine thenQ.normal ?_
    refine WC.region ?_
    refine WL.rd rfl rfl rfl (Rd.row1 (b := b3) (off := 0) (u := .map (some b7)) rfl C48 rfl Z.M rfl) ?_
    refine WL.rd rfl rfl rfl ((by exact Rd.field rfl F27_0 rfl rfl)) ?_
    refine WL.rd rfl rfl rfl ((by exact Rd.row1 rfl C9 rfl Z.M (by rfl))) ?_
    refine WL.rd rfl rfl rfl ((by exact Rd.field rfl F27_1 rfl rfl)) ?_
    refine WL.rd rfl rfl rfl ((by exact Rd.row1 rfl C9 rfl Z.M (by rfl))) ?_
    refine WL.rd rfl rfl rfl (Rd.scat rfl rfl rfl Z.W) ?_
    refine WL.op rfl ?_
    refine OpW.mapUpdate (k := l[i]!.1 ++ l[i]!.2) (v := true) M48 K9 rfl rfl rfl rfl Z.T rfl rfl rfl ?_
    refine WL.nil ?_
    refine blockQ.normal ?_
    refine thenQ.normal ?_
    refine WC.region ?_
    refine WL.rd rfl rfl rfl (Rd.add rfl rfl rfl Z.W) ?_
    refine WL.rd rfl rfl rfl (Rd.move rfl rfl) ?_
    refine WL.nil ?_
    exact loopQ2.mk (i + 1) (m.set (l[i]!.1 ++ l[i]!.2) true) ⟨by omega, fun s => by
    rw [GoMap.get_set, take_snoc' (show i < l.length by omega)]
    by_cases e : s = l[i]!.1 ++ l[i]!.2
    · rw [if_pos e]
      exact ⟨fun _ => ⟨_, List.mem_append_right _ (List.mem_singleton.2 rfl), e.symm⟩, fun _ => rfl⟩
    · rw [if_neg e, i2]
      constructor
      · rintro ⟨p, hp, e2⟩; exact ⟨p, List.mem_append_left _ hp, e2⟩
      · rintro ⟨p, hp, e2⟩
        rcases List.mem_append.1 hp with g | g
        · exact ⟨p, g, e2⟩
        · rw [List.mem_singleton.1 g] at e2; exact absurd e2.symm e, fun j hj => by
    rcases Nat.lt_or_ge j i with g | g
    · exact i3 j g
    · obtain rfl : j = i := by omega
      exact Decidable.not_not.1 hc2⟩ Z.W (by repeat (first | exact Sub.nil | refine Sub.cons rfl (by rfl) ?_)) Z.F
 ·
  refine WC.exit ?_
  refine thenQ.exit ?_
  refine loopQ2.exit ?_
  refine blockQ.exit ?_
  refine thenQ.normal ?_
  refine WC.seq ?_
  refine WC.region ?_
  refine WL.rd rfl rfl rfl (Rd.assign rfl rfl) ?_
  refine WL.nil ?_
  refine thenQ.normal ?_
  refine WC.heap (R' := R) (O' := O) Z.F ?_
  refine WC.ret (Ret.one Tryz.results6 rfl ?_)
  exact hk (-1) (.inl ⟨rfl, fun j hj => i3 j Z.W⟩)
end
end Go.Proofs.YtkobjfjmkhmehaaGreatDoor.Mg
namespace Go.SL
open Go Go.RowKit Go.MapKept Go.ChangeMaps
section
variable {κ β : Type} {kenc : κ → Value} {venc : β → Value}
variable {P : Program} {n : Sz} {o : Oper} {L : Env} {R : List RO} {O O' : List Own} {K : Env → List RO → List Own → Prop} {t kt et : TypeId} {z : Value} {x y : Operand} {m : GoMap κ β} {b d it : Nat} {seen seen1 : List Nat}
theorem ent_born (m : GoMap κ β) : (m.l.map (ent kenc venc)).map (·.born) = m.l.map (·.2.2) := by
 rw [List.map_map]; rfl
end
theorem bless_eq : ∀ (x y : List UInt8), Op.bytesLess x y = decide (x < y)
 | [], [] => by simp [Op.bytesLess]
 | [], _ :: _ => by simp [Op.bytesLess]
 | _ :: _, [] => by simp [Op.bytesLess]
 | a :: x, b :: y => by
   rw [Op.bytesLess, bless_eq x y]
   simp only [List.cons_lt_cons_iff]
   by_cases h : a < b
   · simp [h]
   · by_cases h2 : b < a
     · have h3 : ¬ a = b := fun e => by subst e; exact absurd h2 (by simp)
       simp [h, h2, h3]
     · have h3 : a = b := UInt8.toNat_inj.1 (by simp only [UInt8.lt_iff_toNat_lt] at h h2; omega)
       subst h3
       simp
/-- Rising, none twice. -/
def Asc (l : List (List UInt8)) : Prop := l.Pairwise fun a b => Op.bytesLess a b = true
/-- The order of strings. -/
abbrev Lt (a b : List UInt8) : Prop := Op.bytesLess a b = true
theorem Lt.iff {a b : List UInt8} : Lt a b ↔ a < b := by show Op.bytesLess a b = true ↔ _; rw [bless_eq, decide_eq_true_eq]
theorem Lt.irrefl {a : List UInt8} : ¬ Lt a a := fun h => List.lt_irrefl _ (Lt.iff.1 h)
theorem Lt.trans {a b c : List UInt8} (h : Lt a b) (h' : Lt b c) : Lt a c := Lt.iff.2 (List.lt_trans (Lt.iff.1 h) (Lt.iff.1 h'))
theorem Lt.asymm {a b : List UInt8} (h : Lt a b) (h' : Lt b a) : False := Lt.irrefl (h.trans h')
theorem Lt.total {a b : List UInt8} (h : ¬ Lt a b) (hne : a ≠ b) : Lt b a := by
 rw [Lt.iff] at h ⊢
 rcases Classical.em (b < a) with h5 | h5
 · exact h5
 · exact absurd (List.le_antisymm (List.not_lt.1 h5) (List.not_lt.1 h)) hne
theorem Lt.flip (a b : List UInt8) : (Op.bytesLess a b || a == b) = decide (¬ Lt b a) := by
 by_cases h : Lt b a
 · rw [decide_eq_false (by simpa using h)]
   have h1 : ¬ Lt a b := fun h' => h'.asymm h
   have h2 : a ≠ b := fun e => by subst e; exact h.irrefl
   simp [show Op.bytesLess a b = false from Bool.eq_false_iff.2 h1, h2]
 · rw [decide_eq_true h]
   by_cases e : a = b
   · simp [e]
   · rw [show Op.bytesLess a b = true from Lt.total h (fun h => e h.symm)]; rfl
theorem Asc.nodup {l : List (List UInt8)} (h : Asc l) : l.Nodup := List.Pairwise.imp (fun h e => by subst e; exact Lt.irrefl h) h
end Go.SL
namespace Go.Proofs.YtkobjfjmkhmehaaGreatDoor
open Go Go.SL
abbrev kI : Int → Value := fun n => .int .i64 n
abbrev accI (v : Value) (xs : List Int) : Own := accC 3 1 (SL.one vi) v xs
abbrev nilS : Value := .slice none 0 0
theorem get!_mem {β : Type} [Inhabited β] {l : List β} {i : Nat} (hi : i < l.length) : l[i]! ∈ l := by rw [getElem!_pos l i hi]; exact List.getElem_mem _
theorem take_snoc' {α : Type} [Inhabited α] {l : List α} {i : Nat} (h : i < l.length) : l.take (i + 1) = l.take i ++ [l[i]!] := by
 rw [List.take_add_one, List.getElem?_eq_getElem h, getElem!_pos l i h]; rfl
end Go.Proofs.YtkobjfjmkhmehaaGreatDoor
namespace Go.SL
/-- What is known behind a call is said otherwise. -/
theorem Fun.turn {P : Program} {f : FuncId} {args : Array Value} {R : List RO} {O : List Own} {post : Value → List RO → List Own → Prop} (h : Fun P f args R O fun v R' O' => ∃ R2 O2, post v R2 O2 ∧ ∀ w, Sat R' O' w → Sat R2 O2 w) : Fun P f args R O post := h.thin fun _ _ _ h => h
end Go.SL
namespace Go.Proofs.YtkobjfjmkhmehaaGreatDoor.Mg
open Go Go.SL
def byteOf (n : Nat) : UInt8 := UInt8.ofNat (n % 256)
theorem byte_wrap (n : Nat) : IntKind.u8.wrap (n : Int) = ((byteOf n).toNat : Int) := by
 simp only [byteOf, IntKind.wrap, IntKind.signed, IntKind.bits, Bool.false_and, Bool.false_eq_true, if_false, UInt8.toNat_ofNat']
 omega
/-- A token more. -/
def addT (ts : List T) (s : T) : List T := if s ∈ ts ∨ ¬ goodP s then ts else ts ++ [s]
def chT (i : Nat) : T := [byteOf (33 + i)]
def baseT (j : Nat) : List T := (List.range j).map chT
def toksOf (l : List Pr) : List T := l.foldl (fun ts p => addT ts (p.1 ++ p.2)) (baseT 94)
abbrev Ent := Nat × T
def encE (x : Ent) : List Value := [.int .i64 (x.1 : Int), vs x.2]
abbrev ve (x : Ent) : Value := .agg #[.int .i64 (x.1 : Int), vs x.2]
def entsOf (ts : List T) : List Ent := ts.zipIdx.map fun x => (x.2, x.1)
theorem ents_len (ts : List T) : (entsOf ts).length = ts.length := by unfold entsOf; rw [List.length_map, List.length_zipIdx]
theorem ents_snoc (ts : List T) (s : T) : entsOf (ts ++ [s]) = entsOf ts ++ [(ts.length, s)] := by
 unfold entsOf
 rw [List.zipIdx_append, List.map_append]
 simp
theorem ents_at {ts : List T} {i : Nat} (h : i < ts.length) : (entsOf ts)[i]! = (i, ts[i]!) := by
 rw [getElem!_pos _ i (by rw [ents_len]; exact h), getElem!_pos ts i h]
 unfold entsOf
 simp
theorem base_len (j : Nat) : (baseT j).length = j := by unfold baseT; rw [List.length_map, List.length_range]
theorem base_snoc (j : Nat) : baseT (j + 1) = baseT j ++ [chT j] := by unfold baseT; rw [List.range_succ, List.map_append]; rfl
theorem ch_inj {i j : Nat} (hi : i < 94) (hj : j < 94) (h : chT i = chT j) : i = j := by
 unfold chT at h
 have h2 : byteOf (33 + i) = byteOf (33 + j) := by injection h
 unfold byteOf at h2
 have h3 := congrArg UInt8.toNat h2
 rw [UInt8.toNat_ofNat', UInt8.toNat_ofNat'] at h3
 omega
theorem ch_good {i : Nat} (h : i < 94) : goodP (chT i) := by
 refine ⟨fun k hk => ?_, by show 0 < 1; omega, by show 1 < 65; omega⟩
 have : k = 0 := by have : (chT i).length = 1 := rfl; omega
 subst this
 show inside (byteOf (33 + i))
 unfold inside byteOf
 rw [UInt8.toNat_ofNat']
 omega
theorem base_add {j : Nat} (h : j < 94) : addT (baseT j) (chT j) = baseT (j + 1) := by
 unfold addT
 rw [if_neg, base_snoc]
 rintro (hm | hg)
 · unfold baseT at hm
   obtain ⟨i, hi, e⟩ := List.mem_map.1 hm
   have hi := List.mem_range.1 hi
   have := ch_inj Z.W h e
   omega
 · exact hg (ch_good h)
/-- Tokens that are apart, and good. -/
structure Toks (ts : List T) : Prop where
 nd : ts.Nodup
 good : ∀ s ∈ ts, goodP s
theorem Toks.add {ts : List T} (h : Toks ts) (s : T) : Toks (addT ts s) := by
 unfold addT
 split
 · exact h
 · rename_i hn
   rw [not_or, Classical.not_not] at hn
   refine ⟨?_, fun x hx => ?_⟩
   · rw [List.nodup_append]
     exact ⟨h.nd, by simp, fun a ha b hb e => by rw [List.mem_singleton.1 hb] at e; exact hn.1 (e ▸ ha)⟩
   · rcases List.mem_append.1 hx with hx | hx
     · exact h.good x hx
     · rw [List.mem_singleton.1 hx]; exact hn.2
theorem toks_base : ∀ j, j ≤ 94 → Toks (baseT j)
 | 0, _ => ⟨by simp [baseT], fun s hs => by simp [baseT] at hs⟩
 | j + 1, h => by rw [← base_add Z.W]; exact (toks_base j Z.W).add _
theorem toks_fold : ∀ (l : List Pr) {ts : List T}, Toks ts → Toks (l.foldl (fun ts p => addT ts (p.1 ++ p.2)) ts)
 | [], _, h => h
 | p :: l, _, h => toks_fold l (h.add _)
theorem toks_of (l : List Pr) : Toks (toksOf l) := toks_fold l (toks_base 94 (Nat.le_refl _))
theorem add_sub {ts : List T} {s x : T} (h : x ∈ ts) : x ∈ addT ts s := by
 unfold addT
 split
 · exact h
 · exact List.mem_append_left _ h
theorem add_self {ts : List T} {s : T} (h : goodP s) : s ∈ addT ts s := by
 unfold addT
 split
 · rename_i hc
   rcases hc with hc | hc
   · exact hc
   · exact absurd h hc
 · exact List.mem_append_right _ List.mem_cons_self
theorem fold_sub : ∀ (l : List Pr) {ts : List T} {x : T}, x ∈ ts → x ∈ l.foldl (fun ts p => addT ts (p.1 ++ p.2)) ts
 | [], _, _, h => h
 | _ :: l, _, _, h => fold_sub l (add_sub h)
theorem fold_has : ∀ (l : List Pr) {ts : List T} {p : Pr}, p ∈ l → goodP (p.1 ++ p.2) → p.1 ++ p.2 ∈ l.foldl (fun ts p => addT ts (p.1 ++ p.2)) ts
 | q :: l, ts, p, hp, hg => by
   rcases List.mem_cons.1 hp with rfl | hp
   · exact fold_sub l (add_self hg)
   · exact fold_has l hp hg
theorem add_len (ts : List T) (s : T) : (addT ts s).length ≤ ts.length + 1 := by
 unfold addT
 split
 · omega
 · rw [List.length_append]; exact Nat.le_refl _
theorem fold_len : ∀ (l : List Pr) {ts : List T}, (l.foldl (fun ts p => addT ts (p.1 ++ p.2)) ts).length ≤ ts.length + l.length
 | [], _ => Nat.le_refl _
 | p :: l, ts => by
   have h1 := fold_len l (ts := addT ts (p.1 ++ p.2))
   have h2 := add_len ts (p.1 ++ p.2)
   rw [List.foldl_cons, List.length_cons]
   omega
theorem toks_len (l : List Pr) : (toksOf l).length ≤ 94 + l.length := by have := fold_len l (ts := baseT 94); rw [base_len] at this; exact this
theorem toks_ch {l : List Pr} {c : UInt8} (h : inside c) : [c] ∈ toksOf l := by
 refine fold_sub l ?_
 unfold baseT
 unfold inside at h
 refine List.mem_map.2 ⟨c.toNat - 33, List.mem_range.2 Z.W, ?_⟩
 unfold chT byteOf
 rw [show 33 + (c.toNat - 33) = c.toNat from by omega]
 congr 1
 apply UInt8.toNat_inj.1
 rw [UInt8.toNat_ofNat']
 have := UInt8.toNat_lt c
 omega
theorem toks_pair {l : List Pr} {p : Pr} (h : p ∈ l) (hg : goodP (p.1 ++ p.2)) : p.1 ++ p.2 ∈ toksOf l := fold_has l h hg
def lineE (x : Ent) : T := Lib.itoa (x.1 : Int) ++ [32] ++ x.2 ++ [10]
def showE (l : List Ent) : T := l.flatMap lineE
theorem showE_cons (x : Ent) (l : List Ent) : showE (x :: l) = lineE x ++ showE l := by unfold showE; rw [List.flatMap_cons]
theorem cut_app {c : UInt8} : ∀ {a : T} (b : T), c ∉ a → cutA c (a ++ c :: b) = a ∧ cutB c (a ++ c :: b) = b
 | [], b, _ => by simp [cutA, cutB]
 | x :: a, b, h => by
   have hx : x ≠ c := fun e => h (e ▸ List.mem_cons_self)
   obtain ⟨h1, h2⟩ := cut_app b (fun hh => h (List.mem_cons_of_mem _ hh))
   unfold cutA at h1 ⊢
   unfold cutB at h2 ⊢
   rw [List.cons_append, List.takeWhile_cons, List.dropWhile_cons, if_pos (by simpa using hx), if_pos (by simpa using hx), h1, h2]
   exact ⟨rfl, rfl⟩
theorem good_not {s : T} (h : goodP s) {c : UInt8} (hc : c.toNat < 33) : c ∉ s := fun hm => by
 obtain ⟨i, hi, e⟩ := List.getElem_of_mem hm
 have := h.1 i hi
 rw [getElem!_pos s i hi, e] at this
 have h2 := this.1
 omega
/-- The digits of the numbers that there are. -/
theorem digs : ∀ i : Nat, i < 256 → (∀ c ∈ Lib.itoa (i : Int), 48 ≤ c.toNat ∧ c.toNat ≤ 57) ∧ (Lib.itoa (i : Int)).length ≤ 3 ∧ Lib.atoiAll (Lib.itoa (i : Int)) = .ok (i : Int) := by
 intro i hi
 have h : ∀ k : Fin 256, (∀ c ∈ Lib.itoa (k.val : Int), 48 ≤ c.toNat ∧ c.toNat ≤ 57) ∧ (Lib.itoa (k.val : Int)).length ≤ 3 ∧ Lib.atoiAll (Lib.itoa (k.val : Int)) = .ok (k.val : Int) := by decide +kernel
 exact h ⟨i, hi⟩
theorem dig_not {i : Nat} (hi : i < 256) {c : UInt8} (hc : c.toNat < 48) : c ∉ Lib.itoa (i : Int) := fun hm => by have := ((digs i hi).1 c hm).1; omega
/-- A line of a vocabulary, cut. -/
theorem line_cut2 {i : Nat} {s r : T} (hi : i < 256) (hs : goodP s) : cutA 10 (lineE (i, s) ++ r) = Lib.itoa (i : Int) ++ 32 :: s ∧ cutB 10 (lineE (i, s) ++ r) = r ∧ (10 : UInt8) ∈ lineE (i, s) ++ r ∧
 cutA 32 (Lib.itoa (i : Int) ++ 32 :: s) = Lib.itoa (i : Int) ∧ cutB 32 (Lib.itoa (i : Int) ++ 32 :: s) = s := by
 have e : lineE (i, s) ++ r = (Lib.itoa (i : Int) ++ 32 :: s) ++ 10 :: r := by unfold lineE; simp
 have h1 : (10 : UInt8) ∉ Lib.itoa (i : Int) ++ 32 :: s := fun hm => by
  rcases List.mem_append.1 hm with hm | hm
  · exact dig_not hi (by decide) hm
  · rcases List.mem_cons.1 hm with hm | hm
    · revert hm; decide
    · exact good_not hs (by decide) hm
 obtain ⟨a1, a2⟩ := cut_app r h1
 obtain ⟨b1, b2⟩ := cut_app (c := 32) (a := Lib.itoa (i : Int)) s (dig_not hi (by decide))
 rw [e]
 exact ⟨a1, a2, List.mem_append_right _ List.mem_cons_self, b1, b2⟩
/-- A list of merges, shown, is read again. -/
theorem pair_cut {p : Pr} {r : T} (h1 : goodP p.1) (h2 : goodP p.2) : LineOk (lineS p ++ r) ∧ pairOf (lineS p ++ r) = p ∧ cutB 10 (lineS p ++ r) = r := by
 have e : lineS p ++ r = (p.1 ++ 32 :: p.2) ++ 10 :: r := by unfold lineS; simp
 have hn : (10 : UInt8) ∉ p.1 ++ 32 :: p.2 := fun hm => by
  rcases List.mem_append.1 hm with hm | hm
  · exact good_not h1 (by decide) hm
  · rcases List.mem_cons.1 hm with hm | hm
    · revert hm; decide
    · exact good_not h2 (by decide) hm
 obtain ⟨a1, a2⟩ := cut_app r hn
 obtain ⟨b1, b2⟩ := cut_app (c := 32) (a := p.1) p.2 (good_not h1 (by decide))
 rw [e]
 unfold LineOk pairOf
 rw [a1, a2, b1, b2]
 exact ⟨⟨List.mem_append_right _ List.mem_cons_self, List.mem_append_right _ List.mem_cons_self, h1, h2⟩, rfl, rfl⟩
theorem prs_show : ∀ {l : List Pr} {n : Nat} {out : List Pr}, (∀ p ∈ l, goodP p.1 ∧ goodP p.2) → (out ++ l).Nodup → n + l.length ≤ 4097 → Prs n out (showL l) ⟨out ++ l, 0, 0⟩
 | [], n, out, _, _, _ => by rw [List.append_nil]; exact .done
 | p :: l, n, out, hg, hnd, hn => by
   obtain ⟨g1, g2⟩ := hg p List.mem_cons_self
   obtain ⟨c1, c2, c3⟩ := pair_cut (r := showL l) g1 g2
   have e : showL (p :: l) = lineS p ++ showL l := by unfold showL; rw [List.flatMap_cons]
   have hp : p ∉ out := fun hm => by
    rw [List.nodup_append] at hnd
    exact hnd.2.2 p hm p List.mem_cons_self rfl
   rw [List.length_cons] at hn
   have ih := prs_show (l := l) (n := n + 1) (out := out ++ [p]) (fun q hq => hg q (List.mem_cons_of_mem _ hq)) (by rw [List.append_assoc]; exact hnd) Z.W
   rw [List.append_assoc] at ih
   rw [e]
   refine .next (fun h => ?_) Z.W c1 (by rw [c2]; exact hp) (by rw [c2, c3]; exact ih)
   have := congrArg List.length h
   unfold lineS at this
   simp at this
theorem showL_len : ∀ {l : List Pr}, (∀ p ∈ l, p.1.length + p.2.length ≤ 64) → (showL l).length ≤ 66 * l.length
 | [], _ => Nat.le_refl _
 | p :: l, h => by
   have e : showL (p :: l) = lineS p ++ showL l := by unfold showL; rw [List.flatMap_cons]
   have ih := showL_len (l := l) fun q hq => h q (List.mem_cons_of_mem _ hq)
   have hp := h p List.mem_cons_self
   rw [e, List.length_append, List.length_cons]
   unfold lineS
   simp only [List.length_append, List.length_cons, List.length_nil]
   omega
theorem parse_shown {l : List Pr} {r : PRes} (hg : ∀ p ∈ l, goodP p.1 ∧ goodP p.2) (hl : ∀ p ∈ l, p.1.length + p.2.length ≤ 64) (hnd : l.Nodup) (hn : l.length ≤ 40) (h : ParseIs (showL l) r) : r = ⟨l, 0, 0⟩ := by
 refine h.uniq (.inr ⟨by have := showL_len hl; omega, ?_⟩)
 have := prs_show (n := 1) (out := []) hg hnd Z.W
 exact this
/-- What the two maps of an index say of its tokens. -/
structure Maps (ts : List T) (m1 : GoMap T Int) (m2 : GoMap Int T) : Prop where
 ids : ∀ s, m1.get s = if s ∈ ts then some ((ts.idxOf s : Nat) : Int) else none
 toks : ∀ i : Nat, i < ts.length → m2.get (i : Int) = some ts[i]!
/-- The maps, made of the tokens from the j-th on. -/
structure MapsJ (ts : List T) (j : Nat) (m1 : GoMap T Int) (m2 : GoMap Int T) : Prop where
 ids : ∀ s, m1.get s = if s ∈ ts.drop j then some ((ts.idxOf s : Nat) : Int) else none
 toks : ∀ i : Nat, j ≤ i → i < ts.length → m2.get (i : Int) = some ts[i]!
theorem MapsJ.start (ts : List T) : MapsJ ts ts.length GoMap.empty GoMap.empty :=
 ⟨fun s => by rw [List.drop_length, if_neg List.not_mem_nil]; rfl, fun i h1 h2 => by omega⟩
theorem MapsJ.step {ts : List T} {j : Nat} {m1 : GoMap T Int} {m2 : GoMap Int T} (hnd : ts.Nodup) (hj : j < ts.length) (h : MapsJ ts (j + 1) m1 m2) : MapsJ ts j (m1.set ts[j]! (j : Int)) (m2.set (j : Int) ts[j]!) := by
 have hd : ts.drop j = ts[j]! :: ts.drop (j + 1) := by rw [List.drop_eq_getElem_cons hj, getElem!_pos ts j hj]
 have hix : ts.idxOf ts[j]! = j := by rw [getElem!_pos ts j hj]; exact hnd.idxOf_getElem j hj
 refine ⟨fun s => ?_, fun i h1 h2 => ?_⟩
 · rw [GoMap.get_set, h.ids, hd]
   by_cases e : s = ts[j]!
   · rw [if_pos e, e, if_pos List.mem_cons_self, hix]
   · rw [if_neg e]
     by_cases hm : s ∈ ts.drop (j + 1)
     · rw [if_pos hm, if_pos (List.mem_cons_of_mem _ hm)]
     · rw [if_neg hm, if_neg (fun hc => by rcases List.mem_cons.1 hc with hc | hc; exact e hc; exact hm hc)]
 · rw [GoMap.get_set]
   by_cases e : i = j
   · subst e; rw [if_pos rfl]
   · rw [if_neg Z.W]; exact h.toks i Z.W h2
theorem MapsJ.fin {ts : List T} {m1 : GoMap T Int} {m2 : GoMap Int T} (h : MapsJ ts 0 m1 m2) : Maps ts m1 m2 := ⟨h.ids, fun i hi => h.toks i (Nat.zero_le _) hi⟩
theorem Maps.back {ts : List T} {m1 : GoMap T Int} {m2 : GoMap Int T} (h : Maps ts m1 m2) {s : T} (hs : s ∈ ts) : m1.get s = some ((ts.idxOf s : Nat) : Int) ∧ m2.get ((ts.idxOf s : Nat) : Int) = some s := by
 have hl := List.idxOf_lt_length_of_mem hs
 refine ⟨by rw [h.ids, if_pos hs], ?_⟩
 rw [h.toks _ hl, getElem!_pos ts _ hl, List.getElem_idxOf]
end Go.Proofs.YtkobjfjmkhmehaaGreatDoor.Mg
