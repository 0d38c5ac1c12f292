/-
  Part 3 of the texts that the law TopLinked is proved with: Ob5, Ob6, Ob7, Ob8, Ob9, Ob10, Ob11, Sh1, Sh2, Sh3, Sh4, Sh5, Lk1, Rf, Wde, Rfb. No premise.
-/
import Derived.Test.YtlbdpcadaojcbaaGreatDoorZ2
import Derived.Lib.IndexLaws
import Derived.RangeFuncIn
import Derived.RangeFuncRecord
import Derived.RangeFuncSeq
import Derived.TacticsIn
import Derived.OrdersIn
namespace Go.Proofs.YtlbdpcadaojcbaaGreatDoor
open Go Go.SL Go.RowKit
def blobO (l : List (List UInt8)) : Ob × Bool := if l.length ≠ 1 then (zOb, false) else ({ zOb with kind := 1, body := l[0]! }, true)
def pairsE (l : List (List UInt8)) (n : Nat) : List ET := (List.range n).map fun j => (l[2 * j]!, l[2 * j + 1]!)
def treeO (l : List (List UInt8)) : Ob × Bool := ({ zOb with kind := 2, ents := pairsE l (l.length / 2) }, decide (l.length % 2 = 0))
def chunks (s : List UInt8) (n : Nat) : List (List UInt8) := (List.range n).map fun j => (s.drop (32 * j)).take 32
def commitOb (l : List (List UInt8)) : Ob := { zOb with kind := 3, tree := l[0]!, pars := chunks l[1]! (l[1]!.length / 32), author := l[2]!, text := l[3]!, time := (getE l[4]!).1 }
def commitO (l : List (List UInt8)) : Ob × Bool := if l.length ≠ 5 ∨ l[1]!.length % 32 ≠ 0 then (zOb, false) else (commitOb l, decide ((getE l[4]!).2.2 = 0 ∧ (getE l[4]!).2.1 = (l[4]!.length : Int)))
def tagO (l : List (List UInt8)) : Ob × Bool := if l.length ≠ 3 then (zOb, false) else ({ zOb with kind := 4, target := l[0]!, name := l[1]!, text := l[2]! }, true)
def obOf (k : Int) (l : List (List UInt8)) : Ob × Bool := if k = 1 then blobO l else if k = 2 then treeO l else if k = 3 then commitO l else tagO l
theorem pairs_next (l : List (List UInt8)) (n : Nat) : pairsE l (n + 1) = pairsE l n ++ [(l[2 * n]!, l[2 * n + 1]!)] := by unfold pairsE; rw [List.range_succ, List.map_append]; rfl
theorem chunks_next (s : List UInt8) (n : Nat) : chunks s (n + 1) = chunks s n ++ [(s.drop (32 * n)).take 32] := by unfold chunks; rw [List.range_succ, List.map_append]; rfl
theorem pairs_len (l : List (List UInt8)) (n : Nat) : (pairsE l n).length = n := by simp [pairsE]
theorem chunks_len (s : List UInt8) (n : Nat) : (chunks s n).length = n := by simp [chunks]
section
variable {R : List RO} {O : List Own} {POST : Value → List RO → List Own → Prop} {b : Nat} {o : Ob} {ev pv : Value}
set_option maxRecDepth 20000 in
theorem blobTexts_spec (hb : oRow b o ev pv ∈ O) (hkd : o.kind = 1) (hk : ∀ v, POST v (SlE (SL.one vs) v (texts o) :: R) O) : Fun Tryz.prog 24 #[.pointer (some ⟨b, 0, none⟩)] R O POST := by
 have ht : texts o = [o.body] := by unfold texts; rw [if_pos hkd]
 rw [ht] at hk
 refine Fun.enter (l := [_]) Tryz.func24 rfl Tryz.ntmps24 rfl (L0 := [(0, _)]) rfl ?_
 refine WC.seq ?_
 refine WC.region ?_
 refine WL.rd rfl rfl rfl (Rd.assign rfl rfl) ?_
 refine WL.nil ?_
 refine thenQ.normal ?_
 refine WC.seq ?_
 refine WC.region ?_
 refine WL.rd rfl rfl rfl (Rd.move rfl rfl) ?_
 refine WL.rd rfl rfl rfl (Rd.nilc rfl rfl) ?_
 refine WL.rd rfl rfl rfl ((by exact Rd.field rfl F30_1 rfl rfl)) ?_
 refine WL.rd rfl rfl rfl (Rd.row1 (b := b) (off := 1) rfl C9 rfl Z.M rfl) ?_
 refine WL.op rfl ?_
 refine OpW.buildSl (ps := [(0, _)]) rfl S22 Z.E rfl rfl Z.C Z.K rfl rfl rfl ?_; intro b7
 refine WL.rd rfl rfl rfl (Rd.assign rfl rfl) ?_
 refine WL.nil ?_
 refine thenQ.normal ?_
 refine WC.heap (R' := SlE (SL.one vs) (.slice (some ⟨b7, 0, none⟩) 1 1) [o.body] :: R) (O' := O) (fun w h => by
 have g1 := Sat.shareRow (enc := SL.one vs) (xs := [o.body]) (m := 1) Z.T rfl rfl (by decide) h
 exact Z.Fw g1) ?_
 refine WC.ret (Ret.one Tryz.results24 rfl ?_)
 exact hk _
set_option maxRecDepth 20000 in
theorem tagTexts_spec (hb : oRow b o ev pv ∈ O) (hkd : o.kind = 4) (hk : ∀ v, POST v (SlE (SL.one vs) v (texts o) :: R) O) : Fun Tryz.prog 33 #[.pointer (some ⟨b, 0, none⟩)] R O POST := by
 have ht : texts o = [o.target, o.name, o.text] := by unfold texts; rw [if_neg Z.W, if_neg Z.W, if_neg Z.W]
 rw [ht] at hk
 refine Fun.enter (l := [_]) Tryz.func33 rfl Tryz.ntmps33 rfl (L0 := [(0, _)]) rfl ?_
 refine WC.seq ?_
 refine WC.region ?_
 refine WL.rd rfl rfl rfl (Rd.assign rfl rfl) ?_
 refine WL.nil ?_
 refine thenQ.normal ?_
 refine WC.seq ?_
 refine WC.tail 12 mixed Z.K ?_
 refine WS.rd rfl rfl rfl (Rd.move rfl rfl) ?_
 refine WS.rd rfl rfl rfl (Rd.nilc rfl rfl) ?_
 refine WS.rd rfl rfl rfl ((by exact Rd.field rfl F30_8 rfl rfl)) ?_
 refine WS.rd rfl rfl rfl (Rd.row1 (b := b) (off := 8) rfl C9 rfl Z.M rfl) ?_
 refine WS.rd rfl rfl rfl (Rd.move rfl rfl) ?_
 refine WS.rd rfl rfl rfl (Rd.nilc rfl rfl) ?_
 refine WS.rd rfl rfl rfl ((by exact Rd.field rfl F30_9 rfl rfl)) ?_
 refine WS.rd rfl rfl rfl (Rd.row1 (b := b) (off := 9) rfl C9 rfl Z.M rfl) ?_
 refine WS.rd rfl rfl rfl (Rd.move rfl rfl) ?_
 refine WS.rd rfl rfl rfl (Rd.nilc rfl rfl) ?_
 refine WS.rd rfl rfl rfl ((by exact Rd.field rfl F30_6 rfl rfl)) ?_
 refine WS.rd rfl rfl rfl (Rd.row1 (b := b) (off := 6) rfl C9 rfl Z.M rfl) ?_
 refine WS.switch ?_
 refine WL.op rfl ?_
 refine OpW.buildSl (ps := [(0, _), (1, _), (2, _)]) rfl S22 Z.E rfl rfl Z.C Z.K rfl rfl rfl ?_; intro b15
 refine WL.rd rfl rfl rfl (Rd.assign rfl rfl) ?_
 refine WL.nil ?_
 refine thenQ.normal ?_
 refine WC.heap (R' := SlE (SL.one vs) (.slice (some ⟨b15, 0, none⟩) 3 3) [o.target, o.name, o.text] :: R) (O' := O) (fun w h => by
 have g1 := Sat.shareRow (enc := SL.one vs) (xs := [o.target, o.name, o.text]) (m := 3) Z.T rfl rfl (by decide) h
 exact Z.Fw g1) ?_
 refine WC.ret (Ret.one Tryz.results33 rfl ?_)
 exact hk _
set_option maxRecDepth 20000 in
theorem commitTexts_spec (hb : oRow b o ev pv ∈ O) (hp : SlE (SL.one vs) pv o.pars ∈ R) (hkd : o.kind = 3) (hr : RightP o) (hk : ∀ v, POST v (SlE (SL.one vs) v (texts o) :: R) O) : Fun Tryz.prog 30 #[.pointer (some ⟨b, 0, none⟩)] R O POST := by
 have ht : texts o = [o.tree, o.pars.flatten, o.author, o.text, putI o.time] := by unfold texts; rw [if_neg Z.W, if_neg Z.W, if_pos hkd]
 rw [ht] at hk
 obtain ⟨_, _, _, h3, _⟩ := hr
 obtain ⟨h4, h5, h6, _⟩ := h3 hkd
 have hfl : o.pars.flatten.length ≤ 140737488355328 := by
  have : ∀ l : List (List UInt8), (∀ x ∈ l, x.length = 32) → l.flatten.length = 32 * l.length := by
   intro l hl
   induction l with
   | nil => rfl
   | cons a r ih => rw [List.flatten_cons, List.length_append, ih (fun x hx => hl x (List.mem_cons_of_mem _ hx)), hl a List.mem_cons_self, List.length_cons]; omega
  rw [this o.pars (fun x hx => by
   obtain ⟨i, hi, rfl⟩ := List.getElem_of_mem hx
   have := (h4 i hi).1
   rwa [getElem!_pos o.pars i hi] at this)]
  omega
 refine Fun.enter (l := [_]) Tryz.func30 rfl Tryz.ntmps30 rfl (L0 := [(0, _)]) rfl ?_
 refine WC.seq ?_
 refine WC.region ?_
 refine WL.rd rfl rfl rfl (Rd.assign rfl rfl) ?_
 refine WL.nil ?_
 refine thenQ.normal ?_
 refine WC.seq ?_
 refine WC.drawnA 24 rfl mixed ?_
 refine WD.take 0 rfl Z.K Held.all rfl rfl rfl (Rd.move rfl rfl) ?_
 refine WD.take 1 rfl Z.K Held.all rfl rfl rfl (Rd.nilc rfl rfl) ?_
 refine WD.take 2 rfl Z.K Held.all rfl rfl rfl ((by exact Rd.field rfl F30_3 rfl rfl)) ?_
 refine WD.take 3 rfl Z.K Held.all rfl rfl rfl (Rd.row1 (b := b) (off := 3) rfl C9 rfl Z.M rfl) ?_
 refine WD.take 4 rfl Z.K Held.all rfl rfl rfl (Rd.move rfl rfl) ?_
 refine WD.take 5 rfl Z.K Held.all rfl rfl rfl (Rd.nilc rfl rfl) ?_
 refine WD.take 6 rfl Z.K Held.all rfl rfl rfl ((by exact Rd.field rfl F30_4 rfl rfl)) ?_
 refine WD.take 7 rfl Z.K Held.all rfl rfl rfl (Rd.row1 (b := b) (off := 4) (u := pv) rfl C22 rfl Z.M rfl) ?_
 refine WD.take 9 rfl Z.K Held.all rfl rfl rfl (Rd.move rfl rfl) ?_
 refine WD.take 10 rfl Z.K Held.all rfl rfl rfl (Rd.nilc rfl rfl) ?_
 refine WD.take 11 rfl Z.K Held.all rfl rfl rfl ((by exact Rd.field rfl F30_5 rfl rfl)) ?_
 refine WD.take 12 rfl Z.K Held.all rfl rfl rfl (Rd.row1 (b := b) (off := 5) rfl C9 rfl Z.M rfl) ?_
 refine WD.take 13 rfl Z.K Held.all rfl rfl rfl (Rd.move rfl rfl) ?_
 refine WD.take 14 rfl Z.K Held.all rfl rfl rfl (Rd.nilc rfl rfl) ?_
 refine WD.take 15 rfl Z.K Held.all rfl rfl rfl ((by exact Rd.field rfl F30_6 rfl rfl)) ?_
 refine WD.take 16 rfl Z.K Held.all rfl rfl rfl (Rd.row1 (b := b) (off := 6) rfl C9 rfl Z.M rfl) ?_
 refine WD.take 17 rfl Z.K Held.all rfl rfl rfl (Rd.move rfl rfl) ?_
 refine WD.take 18 rfl Z.K Held.all rfl rfl rfl (Rd.nilc rfl rfl) ?_
 refine WD.take 19 rfl Z.K Held.all rfl rfl rfl ((by exact Rd.field rfl F30_7 rfl rfl)) ?_
 refine WD.take 20 rfl Z.K Held.all rfl rfl rfl (Rd.row1 (b := b) (off := 7) rfl C3 rfl Z.M rfl) ?_
 refine WD.one 8 rfl Z.K rfl ?_
 refine OpW.call rfl rfl Z.E Z.K rfl rfl rfl ?_
 refine joins_spec (xs := o.pars) Z.M Z.W hfl ?_
 refine ⟨Z.H, ?_⟩
 refine WD.one 21 rfl Z.K rfl ?_
 refine OpW.call rfl rfl Z.E Z.K rfl rfl rfl ?_
 refine put_spec ?_
 refine ⟨Z.H, ?_⟩
 refine WD.one 22 rfl Z.K rfl ?_
 refine OpW.buildSl (ps := [(0, _), (1, _), (2, _), (3, _), (4, _)]) rfl S22 Z.E rfl rfl Z.C Z.K rfl rfl rfl ?_; intro b25
 refine ⟨Z.H, ?_⟩
 refine WD.take 23 rfl Z.K Z.H rfl rfl rfl (Rd.assign rfl rfl) ?_
 refine WD.done Z.K ?_
 refine thenQ.normal ?_
 refine WC.heap (R' := SlE (SL.one vs) (.slice (some ⟨b25, 0, none⟩) 5 5) [o.tree, o.pars.flatten, o.author, o.text, putI o.time] :: R) (O' := O) (fun w h => by
 have g1 := Sat.shareRow (enc := SL.one vs) (xs := [o.tree, o.pars.flatten, o.author, o.text, putI o.time]) (m := 5) Z.T rfl rfl (by decide) h
 exact Z.Fw g1) ?_
 refine WC.ret (Ret.one Tryz.results30 rfl ?_)
 exact hk _
set_option maxRecDepth 20000 in
set_option maxHeartbeats 1000000 in
theorem treeTexts_spec (hb : oRow b o ev pv ∈ O) (he : SlE encT ev o.ents ∈ R) (hkd : o.kind = 2) (hn : o.ents.length ≤ 5000) (hk : ∀ v, POST v (SlE (SL.one vs) v (texts o) :: R) O) : Fun Tryz.prog 27 #[.pointer (some ⟨b, 0, none⟩)] R O POST := by
 have ht : texts o = o.ents.flatMap fun x => [x.1, x.2] := by unfold texts; rw [if_neg Z.W, if_pos hkd]
 rw [ht] at hk
 refine Fun.enter (l := [_]) Tryz.func27 rfl Tryz.ntmps27 rfl (L0 := [(0, _)]) rfl ?_
 refine WC.seq ?_
 refine WC.region ?_
 refine WL.rd rfl rfl rfl (Rd.assign rfl rfl) ?_
 refine WL.nil ?_
 refine thenQ.normal ?_
 refine WC.seq ?_
 refine WC.region ?_
 refine WL.rd rfl rfl rfl (Rd.assign rfl rfl) ?_
 refine WL.nil ?_
 refine thenQ.normal ?_
 refine WC.seq ?_
 refine WC.seq ?_
 refine WC.region ?_
 refine WL.rd rfl rfl rfl (Rd.move rfl rfl) ?_
 refine WL.rd rfl rfl rfl (Rd.nilc rfl rfl) ?_
 refine WL.rd rfl rfl rfl ((by exact Rd.field rfl F30_2 rfl rfl)) ?_
 refine WL.rd rfl rfl rfl (Rd.row1 (b := b) (off := 2) (u := ev) rfl C28 rfl Z.M rfl) ?_
 refine WL.rd rfl rfl rfl (Rd.lenE (enc := encT) (xs := o.ents) rfl rfl Tryz.underlying28 Z.M) ?_
 refine WL.rd rfl rfl rfl (Rd.move rfl rfl) ?_
 refine WL.nil ?_
 refine thenQ.normal ?_
 refine WC.block ?_
 refine WC.pick [3, 11, 9, 10] Z.P ?_
 refine WC.loop2 2 (fun (i : Nat) (v : Value) => [(3, v), (11, .int .i64 (i : Int))]) (fun (i : Nat) (v : Value) => accC 9 1 (SL.one vs) v ((o.ents.take i).flatMap fun x => [x.1, x.2]) :: O) (fun (i : Nat) (v : Value) => i ≤ o.ents.length ∧ OneV v) (fun (i : Nat) (v : Value) => o.ents.length - i) (0) (.slice none 0 0) Z.L ?hinv1 (by repeat (first | exact Sub.nil | refine Sub.cons rfl (by rfl) ?_)) (fun w h => by
 have g1 := h.accNil (α := List UInt8) (e := 9) (size := 1) (enc := SL.one vs)
 exact Z.Fw g1) ?_
 case hinv1 =>
  exact ⟨Nat.zero_le _, OneV.sl⟩
 intro i v
 rintro ⟨i1, i2⟩
 refine WC.seq ?_
 refine WC.region ?_
 refine WL.rd rfl rfl rfl (Rd.lss rfl rfl rfl) ?_
 refine WL.nil ?_
 refine thenQ.normal ?_
 refine WC.seq ?_
 refine WC.ite rfl (fun hc1 => ?_) (fun hc1 => ?_)
 ·
  have hnx := flat_two (l := o.ents) (j := i) Z.W
  have hml := flat_two_len (o.ents.take i)
  rw [List.length_take, Nat.min_eq_left Z.W] at hml
  obtain ⟨cs, hcs⟩ : ∃ cs, cs = (o.ents.take i).flatMap (fun x : ET => [x.1, x.2]) := ⟨_, rfl⟩
  rw [← hcs] at hnx hml ⊢
  obtain ⟨x, hx⟩ : ∃ x, x = o.ents[i]! := ⟨_, rfl⟩
  rw [← hx] at hnx
  refine WC.skip ?_
  refine thenQ.normal ?_
  refine WC.seq ?_
  refine WC.block ?_
  refine WC.seq ?_
  refine WC.region ?_
  refine WL.rd rfl rfl rfl ((by exact Rd.idx rfl S28 rfl rfl rfl Z.M Z.W)) ?_
  refine WL.rd rfl rfl rfl (Rd.getS (k := i) (a := x) (cs := [vs x.1, vs x.2]) (enc := encT) (xs := o.ents) rfl G33 rfl Z.M (fun _ => rfl) (by rw [hx]; exact get!_of_lt Z.W) Z.N) ?_
  refine WL.op rfl ?_
  refine OpW.alloc rfl I33 rfl Z.N rfl rfl ?_; intro b5
  refine WL.op rfl ?_
  refine OpW.storeS rfl G33 rfl rfl Z.N Z.T rfl rfl Z.N rfl ?_
  refine WL.nil ?_
  refine thenQ.normal ?_
  refine WC.region ?_
  refine WL.rd rfl rfl rfl (Rd.move rfl rfl) ?_
  refine WL.rd rfl rfl rfl ((by exact Rd.field rfl F33_0 rfl rfl)) ?_
  refine WL.rd rfl rfl rfl (Rd.row1 (b := b5) (off := 0) (u := vs x.1) rfl C9 rfl Z.M rfl) ?_
  refine WL.rd rfl rfl rfl ((by exact Rd.field rfl F33_1 rfl rfl)) ?_
  refine WL.rd rfl rfl rfl (Rd.row1 (b := b5) (off := 1) (u := vs x.2) rfl C9 rfl Z.M rfl) ?_
  refine WL.op rfl ?_
  refine OpW.buildSl (ps := [(0, _), (1, _)]) rfl S22 Z.E rfl rfl Z.C Z.K rfl rfl rfl ?_; intro b20
  refine WL.op rfl ?_
  refine OpW.appendRow (enc := SL.one vs) rfl S22 rfl rfl Z.T Z.T [x.1, x.2] rfl (by rfl) rfl (by intro x; rfl) (by intro x; rfl) (by exact ⟨by simp only [maxLen, List.length_append, List.length_nil, List.length_cons, List.length_drop, List.length_take, List.length_map]; omega, by omega⟩) rfl rfl ?_; intro v21 hv21
  refine WL.rd rfl rfl rfl (Rd.assign rfl rfl) ?_
  refine WL.nil ?_
  refine blockQ.normal ?_
  refine thenQ.normal ?_
  refine WC.region ?_
  refine WL.rd rfl rfl rfl (Rd.add rfl rfl rfl Z.W) ?_
  refine WL.rd rfl rfl rfl (Rd.move rfl rfl) ?_
  refine WL.nil ?_
  exact loopQ2.mk (i + 1) v21 ⟨by omega, hv21⟩ Z.W (by repeat (first | exact Sub.nil | refine Sub.cons rfl (by rfl) ?_)) (fun w h => by rw [hnx]; exact Z.Fw h)
 ·
  refine WC.exit ?_
  refine thenQ.exit ?_
  refine loopQ2.exit ?_
  refine blockQ.exit ?_
  refine thenQ.normal ?_
  refine WC.seq ?_
  refine WC.region ?_
  refine WL.rd rfl rfl rfl (Rd.move rfl rfl) ?_
  refine WL.rd rfl rfl rfl (Rd.assign rfl rfl) ?_
  refine WL.nil ?_
  refine thenQ.normal ?_
  obtain rfl : i = o.ents.length := by omega
  rw [List.take_length]
  refine WC.heap (fun w h => Sat.shareA (xs := o.ents.flatMap fun x : ET => [x.1, x.2]) Z.T h) ?_
  refine WC.ret (Ret.one Tryz.results27 rfl ?_)
  exact hk v
set_option maxRecDepth 20000 in
theorem blob_spec {l : List (List UInt8)} {lv : Value} (hl : SlE (SL.one vs) lv l ∈ R) (hk : ∀ ev pv b2 cs, POST (.tuple #[obV (blobO l).1 ev pv, .bool (blobO l).2]) (SlE encT ev (blobO l).1.ents :: SlE (SL.one vs) pv (blobO l).1.pars :: R) (rowC b2 30 cs :: O)) : Fun Tryz.prog 25 #[lv] R O POST := by
 have hfin := blobO.eq_1 l
 refine Fun.enter (l := [_]) Tryz.func25 rfl Tryz.ntmps25 rfl (L0 := [(0, _)]) rfl ?_
 refine WC.seq ?_
 refine WC.region ?_
 refine WL.op rfl ?_
 refine OpW.alloc rfl I30 rfl Z.N rfl rfl ?_; intro b2
 refine WL.rd rfl rfl rfl (Rd.assign rfl rfl) ?_
 refine WL.nil ?_
 refine thenQ.normal ?_
 refine WC.seq ?_
 refine WC.seq ?_
 refine WC.region ?_
 refine WL.rd rfl rfl rfl (Rd.move rfl rfl) ?_
 refine WL.rd rfl rfl rfl ((by exact Rd.lenE rfl rfl Tryz.underlying22 Z.M)) ?_
 refine WL.rd rfl rfl rfl (Rd.neq rfl rfl rfl) ?_
 refine WL.nil ?_
 refine thenQ.normal ?_
 refine WC.ite rfl (fun hc1 => ?_) (fun hc1 => ?_)
 ·
  rw [if_pos Z.W] at hfin
  refine WC.seq ?_
  refine WC.region ?_
  refine WL.rd rfl rfl rfl (Rd.buildN (ps := []) rfl Bs30 I30 rfl Z.E Z.C (by apply NFo.mk; repeat (first | exact NF.nil | apply NF.cons))) ?_
  refine WL.op rfl ?_
  refine OpW.storeS rfl G30 rfl rfl Z.N Z.T rfl rfl Z.N rfl ?_
  refine WL.rd rfl rfl rfl (Rd.assign rfl rfl) ?_
  refine WL.nil ?_
  refine thenQ.normal ?_
  refine WC.heap (fun w h => Sat.nilE (α := List UInt8) (enc := SL.one vs) h) ?_
  refine WC.heap (fun w h => Sat.nilE (α := ET) (enc := encT) h) ?_
  refine WC.ret (Ret.cellTmp Tryz.results25 rfl rfl Z.M G30 rfl ?_)
  rw [hfin] at hk
  exact hk _ _ _ _
 ·
  rw [if_neg Z.W] at hfin
  refine WC.skip ?_
  refine thenQ.normal ?_
  refine WC.seq ?_
  refine WC.region ?_
  refine WL.rd rfl rfl rfl (Rd.move rfl rfl) ?_
  refine WL.rd rfl rfl rfl ((by exact Rd.idx1 (k := 0) rfl S22 rfl rfl rfl Z.M Z.W)) ?_
  refine WL.rd rfl rfl rfl (Rd.get (k := 0) (g := vs) (a := l[0]!) (xs := l) rfl C9 rfl Z.M (get!_of_lt Z.W)) ?_
  refine WL.rd rfl rfl rfl (Rd.buildN (ps := [(0, _), (1, _)]) rfl Bs30 I30 rfl Z.E Z.C (by apply NFo.mk; repeat (first | exact NF.nil | apply NF.cons))) ?_
  refine WL.op rfl ?_
  refine OpW.storeS rfl G30 rfl rfl Z.N Z.T rfl rfl Z.N rfl ?_
  refine WL.rd rfl rfl rfl (Rd.assign rfl rfl) ?_
  refine WL.nil ?_
  refine thenQ.normal ?_
  refine WC.heap (fun w h => Sat.nilE (α := List UInt8) (enc := SL.one vs) h) ?_
  refine WC.heap (fun w h => Sat.nilE (α := ET) (enc := encT) h) ?_
  refine WC.ret (Ret.cellTmp Tryz.results25 rfl rfl Z.M G30 rfl ?_)
  rw [hfin] at hk
  exact hk _ _ _ _
set_option maxRecDepth 20000 in
theorem tag_spec {l : List (List UInt8)} {lv : Value} (hl : SlE (SL.one vs) lv l ∈ R) (hk : ∀ ev pv b2 cs, POST (.tuple #[obV (tagO l).1 ev pv, .bool (tagO l).2]) (SlE encT ev (tagO l).1.ents :: SlE (SL.one vs) pv (tagO l).1.pars :: R) (rowC b2 30 cs :: O)) : Fun Tryz.prog 34 #[lv] R O POST := by
 have hfin := tagO.eq_1 l
 refine Fun.enter (l := [_]) Tryz.func34 rfl Tryz.ntmps34 rfl (L0 := [(0, _)]) rfl ?_
 refine WC.seq ?_
 refine WC.region ?_
 refine WL.op rfl ?_
 refine OpW.alloc rfl I30 rfl Z.N rfl rfl ?_; intro b2
 refine WL.rd rfl rfl rfl (Rd.assign rfl rfl) ?_
 refine WL.nil ?_
 refine thenQ.normal ?_
 refine WC.seq ?_
 refine WC.seq ?_
 refine WC.region ?_
 refine WL.rd rfl rfl rfl (Rd.move rfl rfl) ?_
 refine WL.rd rfl rfl rfl ((by exact Rd.lenE rfl rfl Tryz.underlying22 Z.M)) ?_
 refine WL.rd rfl rfl rfl (Rd.neq rfl rfl rfl) ?_
 refine WL.nil ?_
 refine thenQ.normal ?_
 refine WC.ite rfl (fun hc1 => ?_) (fun hc1 => ?_)
 ·
  rw [if_pos Z.W] at hfin
  refine WC.seq ?_
  refine WC.region ?_
  refine WL.rd rfl rfl rfl (Rd.buildN (ps := []) rfl Bs30 I30 rfl Z.E Z.C (by apply NFo.mk; repeat (first | exact NF.nil | apply NF.cons))) ?_
  refine WL.op rfl ?_
  refine OpW.storeS rfl G30 rfl rfl Z.N Z.T rfl rfl Z.N rfl ?_
  refine WL.rd rfl rfl rfl (Rd.assign rfl rfl) ?_
  refine WL.nil ?_
  refine thenQ.normal ?_
  refine WC.heap (fun w h => Sat.nilE (α := List UInt8) (enc := SL.one vs) h) ?_
  refine WC.heap (fun w h => Sat.nilE (α := ET) (enc := encT) h) ?_
  refine WC.ret (Ret.cellTmp Tryz.results34 rfl rfl Z.M G30 rfl ?_)
  rw [hfin] at hk
  exact hk _ _ _ _
 ·
  rw [if_neg Z.W] at hfin
  refine WC.skip ?_
  refine thenQ.normal ?_
  refine WC.seq ?_
  refine WC.tail 10 mixed Z.K ?_
  refine WS.rd rfl rfl rfl (Rd.move rfl rfl) ?_
  refine WS.rd rfl rfl rfl ((by exact Rd.idx1 (k := 0) rfl S22 rfl rfl rfl Z.M Z.W)) ?_
  refine WS.rd rfl rfl rfl (Rd.get (k := 0) (g := vs) (a := l[0]!) (xs := l) rfl C9 rfl Z.M (get!_of_lt Z.W)) ?_
  refine WS.rd rfl rfl rfl (Rd.move rfl rfl) ?_
  refine WS.rd rfl rfl rfl ((by exact Rd.idx1 (k := 1) rfl S22 rfl rfl rfl Z.M Z.W)) ?_
  refine WS.rd rfl rfl rfl (Rd.get (k := 1) (g := vs) (a := l[1]!) (xs := l) rfl C9 rfl Z.M (get!_of_lt Z.W)) ?_
  refine WS.rd rfl rfl rfl (Rd.move rfl rfl) ?_
  refine WS.rd rfl rfl rfl ((by exact Rd.idx1 (k := 2) rfl S22 rfl rfl rfl Z.M Z.W)) ?_
  refine WS.rd rfl rfl rfl (Rd.get (k := 2) (g := vs) (a := l[2]!) (xs := l) rfl C9 rfl Z.M (get!_of_lt Z.W)) ?_
  refine WS.rd rfl rfl rfl (Rd.buildN (ps := [(0, _), (8, _), (9, _), (6, _)]) rfl Bs30 I30 rfl Z.E Z.C (by apply NFo.mk; repeat (first | exact NF.nil | apply NF.cons))) ?_
  refine WS.switch ?_
  refine WL.op rfl ?_
  refine OpW.storeS rfl G30 rfl rfl Z.N Z.T rfl rfl Z.N rfl ?_
  refine WL.rd rfl rfl rfl (Rd.assign rfl rfl) ?_
  refine WL.nil ?_
  refine thenQ.normal ?_
  refine WC.heap (fun w h => Sat.nilE (α := List UInt8) (enc := SL.one vs) h) ?_
  refine WC.heap (fun w h => Sat.nilE (α := ET) (enc := encT) h) ?_
  refine WC.ret (Ret.cellTmp Tryz.results34 rfl rfl Z.M G30 rfl ?_)
  rw [hfin] at hk
  exact hk _ _ _ _
abbrev tC (k : Int) (ev : Value) : List Value := [.int .i64 k, vs [], ev, vs [], .slice none 0 0, vs [], vs [], .int .i64 0, vs [], vs []]
set_option maxRecDepth 20000 in
set_option maxHeartbeats 1000000 in
theorem tree_spec {l : List (List UInt8)} {lv : Value} (hl : SlE (SL.one vs) lv l ∈ R) (hn : l.length ≤ 1000000) (hk : ∀ ev pv b2 cs, POST (.tuple #[obV (treeO l).1 ev pv, .bool (treeO l).2]) (SlE encT ev (treeO l).1.ents :: SlE (SL.one vs) pv (treeO l).1.pars :: R) (rowC b2 30 cs :: O)) : Fun Tryz.prog 28 #[lv] R O POST := by
 refine Fun.enter (l := [_]) Tryz.func28 rfl Tryz.ntmps28 rfl (L0 := [(0, _)]) rfl ?_
 refine WC.seq ?_
 refine WC.region ?_
 refine WL.op rfl ?_
 refine OpW.alloc rfl I30 rfl Z.N rfl rfl ?_; intro b2
 refine WL.rd rfl rfl rfl (Rd.assign rfl rfl) ?_
 refine WL.nil ?_
 refine thenQ.normal ?_
 refine WC.seq ?_
 refine WC.region ?_
 refine WL.rd rfl rfl rfl (Rd.buildN (ps := [(0, _)]) rfl Bs30 I30 rfl Z.E Z.C (by apply NFo.mk; repeat (first | exact NF.nil | apply NF.cons))) ?_
 refine WL.op rfl ?_
 refine OpW.alloc rfl I30 rfl Z.N rfl rfl ?_; intro b4
 refine WL.op rfl ?_
 refine OpW.storeS rfl G30 rfl rfl Z.N Z.T rfl rfl Z.N rfl ?_
 refine WL.nil ?_
 refine thenQ.normal ?_
 refine WC.seq ?_
 refine WC.seq ?_
 refine WC.region ?_
 refine WL.rd rfl rfl rfl (Rd.assign rfl rfl) ?_
 refine WL.nil ?_
 refine thenQ.normal ?_
 refine WC.block ?_
 refine WC.pick [5, 0, 2, 4] Z.P ?_
 refine WC.loop2 1 (fun (j : Nat) (v : Value) => [(5, .int .i64 ((2 * j : Nat) : Int))]) (fun (j : Nat) (v : Value) => rowC b4 30 (tC 2 v) :: accC 33 2 encT v (pairsE l j) :: rowC b2 30 (tC 0 (.slice none 0 0)) :: O) (fun (j : Nat) (v : Value) => 2 * j ≤ l.length ∧ OneV v) (fun (j : Nat) (v : Value) => l.length - j) (0) (.slice none 0 0) Z.L ?hinv1 (by repeat (first | exact Sub.nil | refine Sub.cons rfl (by rfl) ?_)) (fun w h => by
 have g1 := h.accNil (α := ET) (e := 33) (size := 2) (enc := encT)
 exact Z.Fw g1) ?_
 case hinv1 =>
  exact ⟨Nat.zero_le _, OneV.sl⟩
 intro j v
 rintro ⟨i1, i2⟩
 refine WC.seq ?_
 refine WC.seq ?_
 refine WC.region ?_
 refine WL.rd rfl rfl rfl (Rd.move rfl rfl) ?_
 refine WL.rd rfl rfl rfl (Rd.add rfl rfl rfl Z.W) ?_
 refine WL.rd rfl rfl rfl (Rd.move rfl rfl) ?_
 refine WL.rd rfl rfl rfl ((by exact Rd.lenE rfl rfl Tryz.underlying22 Z.M)) ?_
 refine WL.rd rfl rfl rfl (Rd.lss rfl rfl rfl) ?_
 refine WL.nil ?_
 refine thenQ.normal ?_
 refine WC.ite rfl (fun hc1 => ?_) (fun hc1 => ?_)
 ·
  have hml := pairs_len l j
  have hnx := pairs_next l j
  obtain ⟨cs, hcs⟩ : ∃ cs, cs = pairsE l j := ⟨_, rfl⟩
  rw [← hcs] at hnx hml ⊢
  refine WC.skip ?_
  refine thenQ.normal ?_
  refine WC.seq ?_
  refine WC.block ?_
  refine WC.drawn (O) 16 rfl mixed ?_
  refine WD.take 0 rfl Z.K Z.H rfl rfl rfl ((by exact Rd.field rfl F30_2 rfl rfl)) ?_
  refine WD.take 2 rfl Z.K Z.H rfl rfl rfl (Rd.move rfl rfl) ?_
  refine WD.take 3 rfl Z.K Z.H rfl rfl rfl (Rd.move rfl rfl) ?_
  refine WD.take 4 rfl Z.K Z.H rfl rfl rfl (Rd.idx1 (k := 2 * j) rfl S22 rfl rfl rfl (enc := SL.one vs) (xs := l) Z.M Z.W) ?_
  refine WD.take 5 rfl Z.K Z.H rfl rfl rfl (Rd.get (k := 2 * j) (g := vs) (a := l[2 * j]!) (xs := l) rfl C9 rfl Z.M (get!_of_lt Z.W)) ?_
  refine WD.take 6 rfl Z.K Z.H rfl rfl rfl (Rd.move rfl rfl) ?_
  refine WD.take 7 rfl Z.K Z.H rfl rfl rfl (Rd.move rfl rfl) ?_
  refine WD.take 8 rfl Z.K Z.H rfl rfl rfl (Rd.add rfl rfl rfl Z.W) ?_
  refine WD.take 9 rfl Z.K Z.H rfl rfl rfl (Rd.idx1 (k := 2 * j + 1) rfl S22 rfl rfl rfl (enc := SL.one vs) (xs := l) Z.M Z.W) ?_
  refine WD.take 10 rfl Z.K Z.H rfl rfl rfl (Rd.get (k := 2 * j + 1) (g := vs) (a := l[2 * j + 1]!) (xs := l) rfl C9 rfl Z.M (get!_of_lt Z.W)) ?_
  refine WD.take 11 rfl Z.K Z.H rfl rfl rfl (Rd.buildN (ps := [(0, _), (1, _)]) rfl Bs33 I33 rfl Z.E Z.C (by apply NFo.mk; repeat (first | exact NF.nil | apply NF.cons))) ?_
  refine WD.two 1 12 rfl rfl Z.K rfl rfl ?_ ?_
  ·
   refine OpW.rd rfl rfl (Rd.row1 (b := b4) (off := 2) (u := v) rfl C28 rfl Z.M rfl) ?_
   refine ⟨Z.H, ?_⟩
   refine WD.one 12 rfl Z.K rfl ?_
   refine OpW.buildSl (ps := [(0, _)]) rfl S28 Z.E rfl rfl Z.C Z.K rfl rfl rfl ?_; intro b26
   refine ⟨Z.H, ?_⟩
   refine WD.one 13 rfl Z.K rfl ?_
   refine OpW.appendRow (enc := encT) rfl S28 rfl rfl Z.T Z.T [(l[2 * j]!, l[2 * j + 1]!)] rfl (by rfl) rfl (by intro x; rfl) (by intro x; rfl) (by exact ⟨by simp only [maxLen, List.length_append, List.length_nil, List.length_cons, List.length_drop, List.length_take, List.length_map]; omega, by omega⟩) rfl rfl ?_; intro v27 hv27
   refine ⟨Z.H, ?_⟩
   refine WD.take 14 rfl Z.K Z.H rfl rfl rfl ((by exact Rd.field rfl F30_2 rfl rfl)) ?_
   refine WD.one 15 rfl Z.K rfl ?_
   refine OpW.store1 rfl Z28 rfl rfl (by assumption) Z.T (by (simp; done)) rfl ?_
   refine ⟨Z.H, ?_⟩
   refine WD.done Z.K ?_
   refine blockQ.normal ?_
   refine thenQ.normal ?_
   refine WC.region ?_
   refine WL.rd rfl rfl rfl (Rd.move rfl rfl) ?_
   refine WL.rd rfl rfl rfl (Rd.add rfl rfl rfl Z.W) ?_
   refine WL.rd rfl rfl rfl (Rd.assign rfl rfl) ?_
   refine WL.nil ?_
   exact loopQ2.mk (j + 1) v27 ⟨by omega, hv27⟩ Z.W (by repeat (first | exact Sub.nil | refine Sub.cons rfl (by rfl) ?_)) (fun w h => by rw [hnx]; exact Z.Fw h)
  ·
   refine OpW.buildSl (ps := [(0, _)]) rfl S28 Z.E rfl rfl Z.C Z.K rfl rfl rfl ?_; intro b26
   refine ⟨Z.H, ?_⟩
   refine WD.one 1 rfl Z.K rfl ?_
   refine OpW.rd rfl rfl (Rd.row1 (b := b4) (off := 2) (u := v) rfl C28 rfl Z.M rfl) ?_
   refine ⟨Z.H, ?_⟩
   refine WD.one 13 rfl Z.K rfl ?_
   refine OpW.appendRow (enc := encT) rfl S28 rfl rfl Z.T Z.T [(l[2 * j]!, l[2 * j + 1]!)] rfl (by rfl) rfl (by intro x; rfl) (by intro x; rfl) (by exact ⟨by simp only [maxLen, List.length_append, List.length_nil, List.length_cons, List.length_drop, List.length_take, List.length_map]; omega, by omega⟩) rfl rfl ?_; intro v27 hv27
   refine ⟨Z.H, ?_⟩
   refine WD.take 14 rfl Z.K Z.H rfl rfl rfl ((by exact Rd.field rfl F30_2 rfl rfl)) ?_
   refine WD.one 15 rfl Z.K rfl ?_
   refine OpW.store1 rfl Z28 rfl rfl (by assumption) Z.T (by (simp; done)) rfl ?_
   refine ⟨Z.H, ?_⟩
   refine WD.done Z.K ?_
   refine blockQ.normal ?_
   refine thenQ.normal ?_
   refine WC.region ?_
   refine WL.rd rfl rfl rfl (Rd.move rfl rfl) ?_
   refine WL.rd rfl rfl rfl (Rd.add rfl rfl rfl Z.W) ?_
   refine WL.rd rfl rfl rfl (Rd.assign rfl rfl) ?_
   refine WL.nil ?_
   exact loopQ2.mk (j + 1) v27 ⟨by omega, hv27⟩ Z.W (by repeat (first | exact Sub.nil | refine Sub.cons rfl (by rfl) ?_)) (fun w h => by rw [hnx]; exact Z.Fw h)
 ·
  obtain rfl : j = l.length / 2 := by omega
  refine WC.exit ?_
  refine thenQ.exit ?_
  refine loopQ2.exit ?_
  refine blockQ.exit ?_
  refine thenQ.normal ?_
  refine WC.seq ?_
  refine WC.region ?_
  refine WL.rd rfl rfl rfl (Rd.rowS (b := b4) rfl G30 rfl Z.M Z.N rfl) ?_
  refine WL.rd rfl rfl rfl (Rd.move rfl rfl) ?_
  refine WL.rd rfl rfl rfl ((by exact Rd.lenE rfl rfl Tryz.underlying22 Z.M)) ?_
  refine WL.rd rfl rfl rfl (Rd.remN (b := 2) rfl rfl rfl rfl rfl (by decide)) ?_
  refine WL.rd rfl rfl rfl (Rd.eql rfl rfl rfl) ?_
  refine WL.say 33 (u := .bool (decide (l.length % 2 = 0))) rfl (vb Z.W) ?_
  refine WL.op rfl ?_
  refine OpW.storeS rfl G30 rfl rfl Z.N Z.T rfl rfl Z.N rfl (h1 := by have h1 := i2.one; simp only [List.all_cons, List.all_nil, h1]; rfl) ?_
  refine WL.rd rfl rfl rfl (Rd.assign rfl rfl) ?_
  refine WL.nil ?_
  refine thenQ.normal ?_
  refine WC.heap (R' := SlE encT v (pairsE l (l.length / 2)) :: SlE (SL.one vs) (.slice none 0 0) ([] : List (List UInt8)) :: R) (O' := rowC b2 30 (tC 2 v) :: O) (fun w h => by
  have g1 := Sat.shareA (xs := pairsE l (l.length / 2)) Z.T h
  have g2 := Sat.nilE (α := List UInt8) (enc := SL.one vs) g1
  exact Z.Fw g2) ?_
  refine WC.ret (Ret.cellTmp Tryz.results28 rfl rfl Z.M G30 rfl ?_)
  exact hk _ _ _ _
abbrev cC (l : List (List UInt8)) (pv : Value) (n : Int) : List Value := [.int .i64 3, vs [], .slice none 0 0, vs l[0]!, pv, vs l[2]!, vs l[3]!, .int .i64 n, vs [], vs []]
set_option maxRecDepth 20000 in
set_option maxHeartbeats 2000000 in
theorem commit_spec {l : List (List UInt8)} {lv : Value} (hl : SlE (SL.one vs) lv l ∈ R) (hn : ∀ x ∈ l, x.length ≤ 300000) (hk : ∀ ev pv b2 cs, POST (.tuple #[obV (commitO l).1 ev pv, .bool (commitO l).2]) (SlE encT ev (commitO l).1.ents :: SlE (SL.one vs) pv (commitO l).1.pars :: R) (rowC b2 30 cs :: O)) : Fun Tryz.prog 31 #[lv] R O POST := by
 have hfin := commitO.eq_1 l
 have hln : ∀ j, j < l.length → l[j]!.length ≤ 300000 := fun j hj => by rw [getElem!_pos l j hj]; exact hn _ (List.getElem_mem _)
 refine Fun.enter (l := [_]) Tryz.func31 rfl Tryz.ntmps31 rfl (L0 := [(0, _)]) rfl ?_
 refine WC.seq ?_
 refine WC.region ?_
 refine WL.op rfl ?_
 refine OpW.alloc rfl I30 rfl Z.N rfl rfl ?_; intro b2
 refine WL.rd rfl rfl rfl (Rd.assign rfl rfl) ?_
 refine WL.nil ?_
 refine thenQ.normal ?_
 refine WC.seq ?_
 refine WC.pick [0, 2] Z.P ?_
 refine WC.val 19 (.bool (decide (l.length ≠ 5 ∨ l[1]!.length % 32 ≠ 0))) ?_ ?_
 ·
  refine WC.region ?_
  refine WL.rd rfl rfl rfl (Rd.move rfl rfl) ?_
  refine WL.rd rfl rfl rfl ((by exact Rd.lenE rfl rfl Tryz.underlying22 Z.M)) ?_
  refine WL.rd rfl rfl rfl (Rd.neq rfl rfl rfl) ?_
  refine WL.rd rfl rfl rfl (Rd.move rfl rfl) ?_
  refine WL.case 12 rfl (fun hg12 => ?_) (fun hg12 => ?_)
  ·
   refine WL.no rfl rfl rfl rfl rfl rfl ?_
   refine WL.no rfl rfl rfl rfl rfl rfl ?_
   refine WL.no rfl rfl rfl rfl rfl rfl ?_
   refine WL.no rfl rfl rfl rfl rfl rfl ?_
   refine WL.no rfl rfl rfl rfl rfl rfl ?_
   refine WL.no rfl rfl rfl rfl rfl rfl ?_
   refine WL.rd rfl rfl rfl (Rd.pick_t rfl rfl rfl) ?_
   refine WL.nil ?_
   exact ⟨by repeat (first | exact Sub.nil | refine Sub.cons rfl (by first | rfl | ((refine vb_t ?_; omega))) ?_), by exact (fun _ h => h.thin (SubL.mem Z.S))⟩
  ·
   refine WL.rd_yes rfl rfl rfl rfl rfl rfl (Rd.move rfl rfl) ?_
   refine WL.rd_yes rfl rfl rfl rfl rfl rfl ((by exact Rd.idx1 (k := 1) rfl S22 rfl rfl rfl Z.M Z.W)) ?_
   refine WL.rd_yes rfl rfl rfl rfl rfl rfl (Rd.get (k := 1) (g := vs) (a := l[1]!) (xs := l) rfl C9 rfl Z.M (get!_of_lt Z.W)) ?_
   refine WL.rd_yes rfl rfl rfl rfl rfl rfl (Rd.slen (ts := #[]) (ty := 0) rfl rfl Tryz.underlying9) ?_
   refine WL.rd_yes rfl rfl rfl rfl rfl rfl (Rd.remN (b := 32) rfl rfl rfl rfl rfl (by decide)) ?_
   refine WL.rd_yes rfl rfl rfl rfl rfl rfl (Rd.neq rfl rfl rfl) ?_
   refine WL.rd rfl rfl rfl (Rd.pick_f rfl rfl rfl) ?_
   refine WL.nil ?_
   exact ⟨by repeat (first | exact Sub.nil | refine Sub.cons rfl (by first | rfl | ((refine vb ?_; omega))) ?_), by exact (fun _ h => h.thin (SubL.mem Z.S))⟩
 ·
  refine WC.ite rfl (fun hc1 => ?_) (fun hc1 => ?_)
  ·
   rw [if_pos hc1] at hfin
   refine WC.seq ?_
   refine WC.region ?_
   refine WL.rd rfl rfl rfl (Rd.buildN (ps := []) rfl Bs30 I30 rfl Z.E Z.C (by apply NFo.mk; repeat (first | exact NF.nil | apply NF.cons))) ?_
   refine WL.op rfl ?_
   refine OpW.storeS rfl G30 rfl rfl Z.N Z.T rfl rfl Z.N rfl ?_
   refine WL.rd rfl rfl rfl (Rd.assign rfl rfl) ?_
   refine WL.nil ?_
   refine thenQ.normal ?_
   refine WC.heap (fun w h => Sat.nilE (α := List UInt8) (enc := SL.one vs) h) ?_
   refine WC.heap (fun w h => Sat.nilE (α := ET) (enc := encT) h) ?_
   refine WC.ret (Ret.cellTmp Tryz.results31 rfl rfl Z.M G30 rfl ?_)
   rw [hfin] at hk
   exact hk _ _ _ _
  ·
   rw [if_neg hc1] at hfin
   have h1l := hln 1 Z.W
   have h4l := hln 4 Z.W
   obtain ⟨s, hs⟩ : ∃ s, s = l[1]! := ⟨_, rfl⟩
   obtain ⟨m, hm⟩ : ∃ m, s.length = 32 * m := ⟨s.length / 32, by rw [hs]; omega⟩
   have hm2 : l[1]!.length / 32 = m := by rw [← hs]; omega
   refine WC.skip ?_
   refine thenQ.normal ?_
   refine WC.seq ?_
   refine WC.drawnA 12 rfl mixed ?_
   refine WD.take 0 rfl Z.K Held.all rfl rfl rfl (Rd.move rfl rfl) ?_
   refine WD.take 1 rfl Z.K Held.all rfl rfl rfl ((by exact Rd.idx1 (k := 0) rfl S22 rfl rfl rfl Z.M Z.W)) ?_
   refine WD.take 2 rfl Z.K Held.all rfl rfl rfl (Rd.get (k := 0) (g := vs) (a := l[0]!) (xs := l) rfl C9 rfl Z.M (get!_of_lt Z.W)) ?_
   refine WD.take 3 rfl Z.K Held.all rfl rfl rfl (Rd.move rfl rfl) ?_
   refine WD.take 4 rfl Z.K Held.all rfl rfl rfl ((by exact Rd.idx1 (k := 2) rfl S22 rfl rfl rfl Z.M Z.W)) ?_
   refine WD.take 5 rfl Z.K Held.all rfl rfl rfl (Rd.get (k := 2) (g := vs) (a := l[2]!) (xs := l) rfl C9 rfl Z.M (get!_of_lt Z.W)) ?_
   refine WD.take 6 rfl Z.K Held.all rfl rfl rfl (Rd.move rfl rfl) ?_
   refine WD.take 7 rfl Z.K Held.all rfl rfl rfl ((by exact Rd.idx1 (k := 3) rfl S22 rfl rfl rfl Z.M Z.W)) ?_
   refine WD.take 8 rfl Z.K Held.all rfl rfl rfl (Rd.get (k := 3) (g := vs) (a := l[3]!) (xs := l) rfl C9 rfl Z.M (get!_of_lt Z.W)) ?_
   refine WD.take 9 rfl Z.K Held.all rfl rfl rfl (Rd.buildN (ps := [(0, _), (3, _), (5, _), (6, _)]) rfl Bs30 I30 rfl Z.E Z.C (by apply NFo.mk; repeat (first | exact NF.nil | apply NF.cons))) ?_
   refine WD.one 10 rfl Z.K rfl ?_
   refine OpW.alloc rfl I30 rfl Z.N rfl rfl ?_; intro b4
   refine ⟨Z.H, ?_⟩
   refine WD.one 11 rfl Z.K rfl ?_
   refine OpW.storeS rfl G30 rfl rfl Z.N Z.T rfl rfl Z.N rfl ?_
   refine ⟨Z.H, ?_⟩
   refine WD.done Z.K ?_
   refine thenQ.normal ?_
   refine WC.seq ?_
   refine WC.seq ?_
   refine WC.region ?_
   refine WL.rd rfl rfl rfl (Rd.move rfl rfl) ?_
   refine WL.rd rfl rfl rfl ((by exact Rd.idx1 (k := 1) rfl S22 rfl rfl rfl Z.M Z.W)) ?_
   refine WL.rd rfl rfl rfl (Rd.get (k := 1) (g := vs) (a := s) (xs := l) rfl C9 rfl Z.M (by rw [hs]; exact get!_of_lt Z.W)) ?_
   refine WL.rd rfl rfl rfl (Rd.assign rfl rfl) ?_
   refine WL.nil ?_
   refine thenQ.normal ?_
   refine WC.block ?_
   refine WC.pick [5, 0, 2, 4] Z.P ?_
   refine WC.loop2 1 (fun (j : Nat) (v : Value) => [(5, vs (s.drop (32 * j)))]) (fun (j : Nat) (v : Value) => rowC b4 30 (cC l v 0) :: accC 9 1 (SL.one vs) v (chunks s j) :: rowC b2 30 (tC 0 (.slice none 0 0)) :: O) (fun (j : Nat) (v : Value) => j ≤ m ∧ OneV v) (fun (j : Nat) (v : Value) => m - j) (0) (.slice none 0 0) Z.L ?hinv1 (by repeat (first | exact Sub.nil | refine Sub.cons rfl (by rfl) ?_)) (fun w h => by
   have g1 := h.accNil (α := List UInt8) (e := 9) (size := 1) (enc := SL.one vs)
   exact Z.Fw g1) ?_
   case hinv1 =>
    exact ⟨Nat.zero_le _, OneV.sl⟩
   intro j v
   rintro ⟨i1, i2⟩
   refine WC.seq ?_
   refine WC.seq ?_
   refine WC.region ?_
   refine WL.rd rfl rfl rfl (Rd.move rfl rfl) ?_
   refine WL.rd rfl rfl rfl (Rd.sneq rfl rfl rfl) ?_
   refine WL.nil ?_
   refine thenQ.normal ?_
   refine WC.ite rfl (fun hc2 => ?_) (fun hc2 => ?_)
   ·
    have hml := chunks_len s j
    have hnx := chunks_next s j
    have hjm : j < m := by
     rcases Nat.lt_or_ge j m with h | h
     · exact h
     · exact absurd (List.drop_of_length_le Z.W) hc2
    obtain ⟨cs, hcs⟩ : ∃ cs, cs = chunks s j := ⟨_, rfl⟩
    rw [← hcs] at hnx hml ⊢
    refine WC.skip ?_
    refine thenQ.normal ?_
    refine WC.seq ?_
    refine WC.block ?_
    refine WC.drawn (O) 8 rfl mixed ?_
    refine WD.take 0 rfl Z.K Z.H rfl rfl rfl ((by exact Rd.field rfl F30_4 rfl rfl)) ?_
    refine WD.take 2 rfl Z.K Z.H rfl rfl rfl (Rd.move rfl rfl) ?_
    refine WD.take 3 rfl Z.K Z.H rfl rfl rfl (Rd.scut_h (hi := 32) rfl Tryz.underlying9 rfl rfl rfl (by rw [List.length_drop]; omega)) ?_
    refine WD.two 1 4 rfl rfl Z.K rfl rfl ?_ ?_
    ·
     refine OpW.rd rfl rfl (Rd.row1 (b := b4) (off := 4) (u := v) rfl C22 rfl Z.M rfl) ?_
     refine ⟨Z.H, ?_⟩
     refine WD.one 4 rfl Z.K rfl ?_
     refine OpW.buildSl (ps := [(0, _)]) rfl S22 Z.E rfl rfl Z.C Z.K rfl rfl rfl ?_; intro b42
     refine ⟨Z.H, ?_⟩
     refine WD.one 5 rfl Z.K rfl ?_
     refine OpW.appendRow (enc := SL.one vs) rfl S22 rfl rfl Z.T Z.T [(s.drop (32 * j)).take 32] rfl (by rfl) rfl (by intro x; rfl) (by intro x; rfl) (by exact ⟨by simp only [maxLen, List.length_append, List.length_nil, List.length_cons, List.length_drop, List.length_take, List.length_map]; omega, by omega⟩) rfl rfl ?_; intro v43 hv43
     refine ⟨Z.H, ?_⟩
     refine WD.take 6 rfl Z.K Z.H rfl rfl rfl ((by exact Rd.field rfl F30_4 rfl rfl)) ?_
     refine WD.one 7 rfl Z.K rfl ?_
     refine OpW.store1 rfl Z22 rfl rfl (by assumption) Z.T (by (simp; done)) rfl ?_
     refine ⟨Z.H, ?_⟩
     refine WD.done Z.K ?_
     refine blockQ.normal ?_
     refine thenQ.normal ?_
     refine WC.region ?_
     refine WL.rd rfl rfl rfl (Rd.move rfl rfl) ?_
     refine WL.rd rfl rfl rfl (Rd.scut_l (lo := 32) rfl Tryz.underlying9 rfl rfl rfl (by rw [List.length_drop]; omega)) ?_
     refine WL.rd rfl rfl rfl (Rd.assign rfl rfl) ?_
     refine WL.nil ?_
     exact loopQ2.mk (j + 1) v43 ⟨by omega, hv43⟩ Z.W (by refine Sub.cons rfl (by rw [List.drop_drop, show 32 * (j + 1) = 32 * j + 32 from by omega]) ?_; exact (by repeat (first | exact Sub.nil | refine Sub.cons rfl (by rfl) ?_))) (fun w h => by rw [hnx]; exact Z.Fw h)
    ·
     refine OpW.buildSl (ps := [(0, _)]) rfl S22 Z.E rfl rfl Z.C Z.K rfl rfl rfl ?_; intro b42
     refine ⟨Z.H, ?_⟩
     refine WD.one 1 rfl Z.K rfl ?_
     refine OpW.rd rfl rfl (Rd.row1 (b := b4) (off := 4) (u := v) rfl C22 rfl Z.M rfl) ?_
     refine ⟨Z.H, ?_⟩
     refine WD.one 5 rfl Z.K rfl ?_
     refine OpW.appendRow (enc := SL.one vs) rfl S22 rfl rfl Z.T Z.T [(s.drop (32 * j)).take 32] rfl (by rfl) rfl (by intro x; rfl) (by intro x; rfl) (by exact ⟨by simp only [maxLen, List.length_append, List.length_nil, List.length_cons, List.length_drop, List.length_take, List.length_map]; omega, by omega⟩) rfl rfl ?_; intro v43 hv43
     refine ⟨Z.H, ?_⟩
     refine WD.take 6 rfl Z.K Z.H rfl rfl rfl ((by exact Rd.field rfl F30_4 rfl rfl)) ?_
     refine WD.one 7 rfl Z.K rfl ?_
     refine OpW.store1 rfl Z22 rfl rfl (by assumption) Z.T (by (simp; done)) rfl ?_
     refine ⟨Z.H, ?_⟩
     refine WD.done Z.K ?_
     refine blockQ.normal ?_
     refine thenQ.normal ?_
     refine WC.region ?_
     refine WL.rd rfl rfl rfl (Rd.move rfl rfl) ?_
     refine WL.rd rfl rfl rfl (Rd.scut_l (lo := 32) rfl Tryz.underlying9 rfl rfl rfl (by rw [List.length_drop]; omega)) ?_
     refine WL.rd rfl rfl rfl (Rd.assign rfl rfl) ?_
     refine WL.nil ?_
     exact loopQ2.mk (j + 1) v43 ⟨by omega, hv43⟩ Z.W (by refine Sub.cons rfl (by rw [List.drop_drop, show 32 * (j + 1) = 32 * j + 32 from by omega]) ?_; exact (by repeat (first | exact Sub.nil | refine Sub.cons rfl (by rfl) ?_))) (fun w h => by rw [hnx]; exact Z.Fw h)
   ·
    have hjm : j = m := by
     have h := Decidable.not_not.1 hc2
     have := congrArg List.length h
     rw [List.length_drop, List.length_nil] at this
     omega
    subst hjm
    refine WC.exit ?_
    refine thenQ.exit ?_
    refine loopQ2.exit ?_
    refine blockQ.exit ?_
    refine thenQ.normal ?_
    refine WC.seq ?_
    refine WC.region ?_
    refine WL.rd rfl rfl rfl (Rd.move rfl rfl) ?_
    refine WL.rd rfl rfl rfl ((by exact Rd.idx1 (k := 4) rfl S22 rfl rfl rfl Z.M Z.W)) ?_
    refine WL.rd rfl rfl rfl (Rd.get (k := 4) (g := vs) (a := l[4]!) (xs := l) rfl C9 rfl Z.M (get!_of_lt Z.W)) ?_
    refine WL.op rfl ?_
    refine OpW.call rfl rfl Z.E Z.K rfl rfl rfl ?_
    refine get_spec Z.W ?_
    refine WL.rd rfl rfl rfl (Rd.move rfl rfl) ?_
    refine WL.rd rfl rfl rfl (Rd.extract rfl rfl rfl) ?_
    refine WL.rd rfl rfl rfl (Rd.extract rfl rfl rfl) ?_
    refine WL.rd rfl rfl rfl (Rd.extract rfl rfl rfl) ?_
    refine WL.rd rfl rfl rfl (Rd.assign rfl rfl) ?_
    refine WL.rd rfl rfl rfl (Rd.assign rfl rfl) ?_
    refine WL.rd rfl rfl rfl (Rd.assign rfl rfl) ?_
    refine WL.nil ?_
    refine thenQ.normal ?_
    refine WC.seq ?_
    refine WC.region ?_
    refine WL.rd rfl rfl rfl (Rd.move rfl rfl) ?_
    refine WL.rd rfl rfl rfl ((by exact Rd.field rfl F30_7 rfl rfl)) ?_
    refine WL.op rfl ?_
    refine OpW.store1 rfl Z3 rfl rfl (by exact ⟨rfl, rfl⟩) Z.T (by (simp; done)) rfl ?_
    refine WL.nil ?_
    refine thenQ.normal ?_
    refine WC.seq ?_
    refine WC.drawn (rowC b4 30 (cC l v (getE l[4]!).1) :: O) 13 rfl mixed ?_
    refine WD.take 0 rfl Z.K Z.H rfl rfl rfl (Rd.rowS (b := b4) rfl G30 rfl Z.M Z.N rfl) ?_
    refine WD.take 1 rfl Z.K Z.H rfl rfl rfl (Rd.move rfl rfl) ?_
    refine WD.take 2 rfl Z.K Z.H rfl rfl rfl (Rd.eql rfl rfl rfl) ?_
    refine WD.take 3 rfl Z.K Z.H rfl rfl rfl (Rd.move rfl rfl) ?_
    refine WD.case 58 rfl (fun hg58 => ?_) (fun hg58 => ?_)
    ·
     refine WD.take_yes 4 rfl Z.K Z.H rfl rfl rfl rfl rfl rfl (Rd.move rfl rfl) ?_
     refine WD.take_yes 5 rfl Z.K Z.H rfl rfl rfl rfl rfl rfl (Rd.move rfl rfl) ?_
     refine WD.take_yes 6 rfl Z.K Z.H rfl rfl rfl rfl rfl rfl ((by exact Rd.idx1 (k := 4) rfl S22 rfl rfl rfl Z.M Z.W)) ?_
     refine WD.take_yes 7 rfl Z.K Z.H rfl rfl rfl rfl rfl rfl (Rd.get (k := 4) (g := vs) (a := l[4]!) (xs := l) rfl C9 rfl Z.M (get!_of_lt Z.W)) ?_
     refine WD.take_yes 8 rfl Z.K Z.H rfl rfl rfl rfl rfl rfl (Rd.slen (ts := #[]) (ty := 0) rfl rfl Tryz.underlying9) ?_
     refine WD.take_yes 9 rfl Z.K Z.H rfl rfl rfl rfl rfl rfl (Rd.eql rfl rfl rfl) ?_
     refine WD.take 10 rfl Z.K Z.H rfl rfl rfl (Rd.pick_t rfl rfl rfl) ?_
     refine WD.say 65 (u := .bool (decide ((getE l[4]!).2.2 = 0 ∧ (getE l[4]!).2.1 = (l[4]!.length : Int)))) rfl (by exact vb ⟨fun h => ⟨hg58, h⟩, fun h => h.2⟩) ?_
     refine WD.one 11 rfl Z.K rfl ?_
     refine OpW.storeS rfl G30 rfl rfl Z.N Z.T rfl rfl Z.N rfl (h1 := by have h1 := i2.one; simp only [List.all_cons, List.all_nil, h1]; rfl) ?_
     refine ⟨Z.H, ?_⟩
     refine WD.take 12 rfl Z.K Z.H rfl rfl rfl (Rd.assign rfl rfl) ?_
     refine WD.done Z.K ?_
     refine thenQ.normal ?_
     refine WC.heap (R' := SlE encT (.slice none 0 0) ([] : List ET) :: SlE (SL.one vs) v (chunks s j) :: R) (O' := rowC b2 30 (cC l v (getE l[4]!).1) :: O) (fun w h => by
     have g1 := Sat.shareA (xs := chunks s j) Z.T h
     have g2 := Sat.nilE (α := ET) (enc := encT) g1
     exact Z.Fw g2) ?_
     refine WC.ret (Ret.cellTmp Tryz.results31 rfl rfl Z.M G30 rfl ?_)
     have hcm : commitOb l = { zOb with kind := 3, tree := l[0]!, pars := chunks s j, author := l[2]!, text := l[3]!, time := (getE l[4]!).1 } := by unfold commitOb; rw [hm2, hs]
     rw [hfin, hcm] at hk
     exact hk _ _ _ _
    ·
     refine WD.take_no 4 rfl Z.K Z.H rfl rfl rfl rfl rfl rfl ?_
     refine WD.take_no 5 rfl Z.K Z.H rfl rfl rfl rfl rfl rfl ?_
     refine WD.take_no 6 rfl Z.K Z.H rfl rfl rfl rfl rfl rfl ?_
     refine WD.take_no 7 rfl Z.K Z.H rfl rfl rfl rfl rfl rfl ?_
     refine WD.take_no 8 rfl Z.K Z.H rfl rfl rfl rfl rfl rfl ?_
     refine WD.take_no 9 rfl Z.K Z.H rfl rfl rfl rfl rfl rfl ?_
     refine WD.take 10 rfl Z.K Z.H rfl rfl rfl (Rd.pick_f rfl rfl rfl) ?_
     refine WD.say 65 (u := .bool (decide ((getE l[4]!).2.2 = 0 ∧ (getE l[4]!).2.1 = (l[4]!.length : Int)))) rfl (by exact vb_f (fun h => hg58 h.1)) ?_
     refine WD.one 11 rfl Z.K rfl ?_
     refine OpW.storeS rfl G30 rfl rfl Z.N Z.T rfl rfl Z.N rfl (h1 := by have h1 := i2.one; simp only [List.all_cons, List.all_nil, h1]; rfl) ?_
     refine ⟨Z.H, ?_⟩
     refine WD.take 12 rfl Z.K Z.H rfl rfl rfl (Rd.assign rfl rfl) ?_
     refine WD.done Z.K ?_
     refine thenQ.normal ?_
     refine WC.heap (R' := SlE encT (.slice none 0 0) ([] : List ET) :: SlE (SL.one vs) v (chunks s j) :: R) (O' := rowC b2 30 (cC l v (getE l[4]!).1) :: O) (fun w h => by
     have g1 := Sat.shareA (xs := chunks s j) Z.T h
     have g2 := Sat.nilE (α := ET) (enc := encT) g1
     exact Z.Fw g2) ?_
     refine WC.ret (Ret.cellTmp Tryz.results31 rfl rfl Z.M G30 rfl ?_)
     have hcm : commitOb l = { zOb with kind := 3, tree := l[0]!, pars := chunks s j, author := l[2]!, text := l[3]!, time := (getE l[4]!).1 } := by unfold commitOb; rw [hm2, hs]
     rw [hfin, hcm] at hk
     exact hk _ _ _ _
end
end Go.Proofs.YtlbdpcadaojcbaaGreatDoor
namespace Go.Proofs.YtlbdpcadaojcbaaGreatDoor
open Go Go.SL Go.RowKit
def Names (o : Ob) : Prop := (∀ x ∈ o.ents, x.1.length ≤ 9223372036854775000) ∧ o.name.length ≤ 9223372036854775000
def encB (o : Ob) : List UInt8 := UInt8.ofNat o.kind.toNat :: joinE (texts o)
def encE (o : Ob) : List UInt8 × Nat :=
 if o.kind < 1 ∨ 4 < o.kind then ([], 15) else if ¬ RightP o then ([], 1) else if 262208 < (encB o).length then ([], 6) else (encB o, 0)
theorem joinE_leB {B : Nat} : ∀ {l : List (List UInt8)}, (∀ t ∈ l, t.length ≤ B) → B ≤ 1099511627776 → (joinE l).length ≤ (B + 6) * l.length
 | [], _, _ => by simp [joinE]
 | t :: l, h, hB => by
   have ht := h t List.mem_cons_self
   have ih := joinE_leB (l := l) (fun x hx => h x (List.mem_cons_of_mem _ hx)) hB
   rw [joinE_cons, List.length_append, List.length_append, List.length_cons, putI_nat Z.W]
   have := putE_short (n := t.length) Z.W
   rw [Nat.mul_add, Nat.mul_one]
   omega
theorem flatten_len : ∀ {l : List (List UInt8)}, (∀ x ∈ l, x.length = 32) → l.flatten.length = 32 * l.length
 | [], _ => rfl
 | a :: r, hl => by rw [List.flatten_cons, List.length_append, flatten_len (fun x hx => hl x (List.mem_cons_of_mem _ hx)), hl a List.mem_cons_self, List.length_cons]; omega
theorem pars32 {o : Ob} (h : ∀ i, i < o.pars.length → ParP o.pars i) : ∀ x ∈ o.pars, x.length = 32 := fun x hx => by
 obtain ⟨i, hi, rfl⟩ := List.getElem_of_mem hx
 have := (h i hi).1
 rwa [getElem!_pos o.pars i hi] at this
theorem putI_short (p : Int) : (putI p).length ≤ 6 := by
 unfold putI
 split
 · exact Nat.zero_le _
 · exact putE_short Z.W
/-- The texts of an object that is right: how many, how long. -/
theorem texts_le {o : Ob} (hk : 1 ≤ o.kind ∧ o.kind ≤ 4) (hr : RightP o) : (∀ t ∈ texts o, t.length ≤ 262144) ∧ (texts o).length ≤ 8192 := by
 obtain ⟨_, h1, h2, h3, h4⟩ := hr
 unfold texts
 split
 · rename_i e
   exact ⟨fun t ht => by rw [List.mem_singleton] at ht; subst ht; exact h1 e, by simp⟩
 · split
   · rename_i e
     obtain ⟨g1, g2⟩ := h2 e
     refine ⟨fun t ht => ?_, by rw [flat_two_len]; omega⟩
     obtain ⟨x, hx, ht⟩ := List.mem_flatMap.1 ht
     obtain ⟨i, hi, rfl⟩ := List.getElem_of_mem hx
     have := g1 i hi
     rw [EntP, getElem!_pos o.ents i hi] at this
     obtain ⟨a1, a2, _⟩ := this
     have a3 := a1.2.2
     simp only [List.mem_cons, List.not_mem_nil, or_false] at ht
     rcases ht with rfl | rfl
     · omega
     · omega
   · split
     · rename_i e
       obtain ⟨g1, g2, g3, g4, g5, _⟩ := h3 e
       refine ⟨fun t ht => ?_, by simp⟩
       have hf := flatten_len (pars32 g1)
       have hp := putI_short o.time
       simp only [List.mem_cons, List.not_mem_nil, or_false] at ht
       rcases ht with rfl | rfl | rfl | rfl | rfl <;> omega
     · obtain ⟨g1, g2, g3⟩ := h4 Z.W
       have := g2.2.2
       refine ⟨fun t ht => ?_, by simp⟩
       simp only [List.mem_cons, List.not_mem_nil, or_false] at ht
       rcases ht with rfl | rfl | rfl <;> omega
theorem texts_join {o : Ob} (hk : 1 ≤ o.kind ∧ o.kind ≤ 4) (hr : RightP o) : (joinE (texts o)).length ≤ 3000000000 := by
 obtain ⟨h1, h2⟩ := texts_le hk hr
 have := joinE_leB h1 Z.W
 have h3 : (262144 + 6) * (texts o).length ≤ (262144 + 6) * 8192 := Nat.mul_le_mul_left _ h2
 omega
abbrev fnV (r : Nat) : Value := .func (.func r) #[] #[]
structure FormP (k : Int) (r t u : Nat) : Prop where
 hr : hasBody Tryz.prog r = true
 ht : hasBody Tryz.prog t = true
 hu : hasBody Tryz.prog u = true
 right : ∀ {R : List RO} {O : List Own} {POST : Value → List RO → List Own → Prop} {b : Nat} {o : Ob} {ev pv : Value}, oRow b o ev pv ∈ O → SlE encT ev o.ents ∈ R → SlE (SL.one vs) pv o.pars ∈ R → o.kind = k → Names o → POST (.bool (decide (RightP o))) R O → Fun Tryz.prog r #[.pointer (some ⟨b, 0, none⟩)] R O POST
 texts : ∀ {R : List RO} {O : List Own} {POST : Value → List RO → List Own → Prop} {b : Nat} {o : Ob} {ev pv : Value}, oRow b o ev pv ∈ O → SlE encT ev o.ents ∈ R → SlE (SL.one vs) pv o.pars ∈ R → o.kind = k → RightP o → (∀ v, POST v (SlE (SL.one vs) v (texts o) :: R) O) → Fun Tryz.prog t #[.pointer (some ⟨b, 0, none⟩)] R O POST
 object : ∀ {R : List RO} {O : List Own} {POST : Value → List RO → List Own → Prop} {l : List (List UInt8)} {lv : Value}, SlE (SL.one vs) lv l ∈ R → l.length ≤ 1000000 → (∀ x ∈ l, x.length ≤ 300000) → (∀ ev pv b2 cs, POST (.tuple #[obV (obOf k l).1 ev pv, .bool (obOf k l).2]) (SlE encT ev (obOf k l).1.ents :: SlE (SL.one vs) pv (obOf k l).1.pars :: R) (rowC b2 30 cs :: O)) → Fun Tryz.prog u #[lv] R O POST
theorem form1 : FormP 1 23 24 25 where
 hr := by kernel_rfl
 ht := by kernel_rfl
 hu := by kernel_rfl
 right := fun hb he hp hk _ h => blobRight_spec hb he hp hk h
 texts := fun hb _ _ hk _ h => blobTexts_spec hb hk h
 object := fun hl _ _ h => blob_spec hl h
theorem form2 : FormP 2 26 27 28 where
 hr := by kernel_rfl
 ht := by kernel_rfl
 hu := by kernel_rfl
 right := fun hb he hp hk hn h => treeRight_spec hb he hp hk hn.1 h
 texts := fun hb he _ hk hr h => treeTexts_spec hb he hk (by have := (hr.2.2.1 hk).2; omega) h
 object := fun hl hn _ h => tree_spec hl hn h
theorem form3 : FormP 3 29 30 31 where
 hr := by kernel_rfl
 ht := by kernel_rfl
 hu := by kernel_rfl
 right := fun hb he hp hk _ h => commitRight_spec hb he hp hk h
 texts := fun hb _ hp hk hr h => commitTexts_spec hb hp hk hr h
 object := fun hl _ hn h => commit_spec hl hn h
theorem form4 : FormP 4 32 33 34 where
 hr := by kernel_rfl
 ht := by kernel_rfl
 hu := by kernel_rfl
 right := fun hb he hp hk hn h => tagRight_spec hb he hp hk hn.2 h
 texts := fun hb _ _ hk _ h => tagTexts_spec hb hk h
 object := fun hl _ _ h => tag_spec hl h
section
variable {R : List RO} {O : List Own} {POST : Value → List RO → List Own → Prop} {b : Nat} {o : Ob} {ev pv : Value}
set_option maxRecDepth 20000 in
theorem forms_spec {k : Int} (hk1 : 1 ≤ k ∧ k ≤ 4 → ∀ r t u b2 cs, FormP k r t u → POST (.tuple #[.agg #[fnV r, fnV t, fnV u], .bool true]) R (rowC b2 44 cs :: O))
 (hk0 : ¬ (1 ≤ k ∧ k ≤ 4) → ∀ b2 cs, POST (.tuple #[.agg #[.nilFunc, .nilFunc, .nilFunc], .bool false]) R (rowC b2 44 cs :: O)) : Fun Tryz.prog 11 #[.int .i64 k] R O POST := by
 refine Fun.enter (l := [_]) Tryz.func11 rfl Tryz.ntmps11 rfl (L0 := [(0, _)]) rfl ?_
 refine WC.seq ?_
 refine WC.region ?_
 refine WL.op rfl ?_
 refine OpW.alloc rfl I44 rfl Z.N rfl rfl ?_; intro b2
 refine WL.rd rfl rfl rfl (Rd.assign rfl rfl) ?_
 refine WL.nil ?_
 refine thenQ.normal ?_
 refine WC.seq ?_
 refine WC.seq ?_
 refine WC.region ?_
 refine WL.rd rfl rfl rfl (Rd.move rfl rfl) ?_
 refine WL.nil ?_
 refine thenQ.normal ?_
 refine WC.block ?_
 refine WC.seq ?_
 refine WC.region ?_
 refine WL.rd rfl rfl rfl (Rd.eql rfl rfl rfl) ?_
 refine WL.rd rfl rfl rfl (Rd.assign rfl rfl) ?_
 refine WL.nil ?_
 refine thenQ.normal ?_
 refine WC.ite rfl (fun hc1 => ?_) (fun hc1 => ?_)
 ·
  refine WC.seq ?_
  refine WC.region ?_
  refine WL.rd rfl rfl rfl (Rd.buildN (ps := [(0, _), (1, _), (2, _)]) rfl Bs44 I44 rfl Z.E Z.C (by apply NFo.mk; repeat (first | exact NF.nil | apply NF.cons))) ?_
  refine WL.op rfl ?_
  refine OpW.storeS rfl G44 rfl rfl Z.N Z.T rfl rfl Z.N rfl ?_
  refine WL.rd rfl rfl rfl (Rd.assign rfl rfl) ?_
  refine WL.nil ?_
  refine thenQ.normal ?_
  refine WC.ret (Ret.cellTmp Tryz.results11 rfl rfl Z.M G44 rfl ?_)
  obtain rfl : k = 1 := hc1
  exact hk1 Z.W _ _ _ _ _ form1
 ·
  refine WC.seq ?_
  refine WC.region ?_
  refine WL.rd rfl rfl rfl (Rd.eql rfl rfl rfl) ?_
  refine WL.rd rfl rfl rfl (Rd.assign rfl rfl) ?_
  refine WL.nil ?_
  refine thenQ.normal ?_
  refine WC.ite rfl (fun hc2 => ?_) (fun hc2 => ?_)
  ·
   refine WC.seq ?_
   refine WC.region ?_
   refine WL.rd rfl rfl rfl (Rd.buildN (ps := [(0, _), (1, _), (2, _)]) rfl Bs44 I44 rfl Z.E Z.C (by apply NFo.mk; repeat (first | exact NF.nil | apply NF.cons))) ?_
   refine WL.op rfl ?_
   refine OpW.storeS rfl G44 rfl rfl Z.N Z.T rfl rfl Z.N rfl ?_
   refine WL.rd rfl rfl rfl (Rd.assign rfl rfl) ?_
   refine WL.nil ?_
   refine thenQ.normal ?_
   refine WC.ret (Ret.cellTmp Tryz.results11 rfl rfl Z.M G44 rfl ?_)
   obtain rfl : k = 2 := hc2
   exact hk1 Z.W _ _ _ _ _ form2
  ·
   refine WC.seq ?_
   refine WC.region ?_
   refine WL.rd rfl rfl rfl (Rd.eql rfl rfl rfl) ?_
   refine WL.rd rfl rfl rfl (Rd.assign rfl rfl) ?_
   refine WL.nil ?_
   refine thenQ.normal ?_
   refine WC.ite rfl (fun hc3 => ?_) (fun hc3 => ?_)
   ·
    refine WC.seq ?_
    refine WC.region ?_
    refine WL.rd rfl rfl rfl (Rd.buildN (ps := [(0, _), (1, _), (2, _)]) rfl Bs44 I44 rfl Z.E Z.C (by apply NFo.mk; repeat (first | exact NF.nil | apply NF.cons))) ?_
    refine WL.op rfl ?_
    refine OpW.storeS rfl G44 rfl rfl Z.N Z.T rfl rfl Z.N rfl ?_
    refine WL.rd rfl rfl rfl (Rd.assign rfl rfl) ?_
    refine WL.nil ?_
    refine thenQ.normal ?_
    refine WC.ret (Ret.cellTmp Tryz.results11 rfl rfl Z.M G44 rfl ?_)
    obtain rfl : k = 3 := hc3
    exact hk1 Z.W _ _ _ _ _ form3
   ·
    refine WC.seq ?_
    refine WC.region ?_
    refine WL.rd rfl rfl rfl (Rd.eql rfl rfl rfl) ?_
    refine WL.rd rfl rfl rfl (Rd.assign rfl rfl) ?_
    refine WL.nil ?_
    refine thenQ.normal ?_
    refine WC.ite rfl (fun hc4 => ?_) (fun hc4 => ?_)
    ·
     refine WC.seq ?_
     refine WC.region ?_
     refine WL.rd rfl rfl rfl (Rd.buildN (ps := [(0, _), (1, _), (2, _)]) rfl Bs44 I44 rfl Z.E Z.C (by apply NFo.mk; repeat (first | exact NF.nil | apply NF.cons))) ?_
     refine WL.op rfl ?_
     refine OpW.storeS rfl G44 rfl rfl Z.N Z.T rfl rfl Z.N rfl ?_
     refine WL.rd rfl rfl rfl (Rd.assign rfl rfl) ?_
     refine WL.nil ?_
     refine thenQ.normal ?_
     refine WC.ret (Ret.cellTmp Tryz.results11 rfl rfl Z.M G44 rfl ?_)
     obtain rfl : k = 4 := hc4
     exact hk1 Z.W _ _ _ _ _ form4
    ·
     refine WC.skip ?_
     refine blockQ.normal ?_
     refine thenQ.normal ?_
     refine WC.seq ?_
     refine WC.region ?_
     refine WL.rd rfl rfl rfl (Rd.buildN (ps := []) rfl Bs44 I44 rfl Z.E Z.C (by apply NFo.mk; repeat (first | exact NF.nil | apply NF.cons))) ?_
     refine WL.op rfl ?_
     refine OpW.storeS rfl G44 rfl rfl Z.N Z.T rfl rfl Z.N rfl ?_
     refine WL.rd rfl rfl rfl (Rd.assign rfl rfl) ?_
     refine WL.nil ?_
     refine thenQ.normal ?_
     refine WC.ret (Ret.cellTmp Tryz.results11 rfl rfl Z.M G44 rfl ?_)
     exact hk0 Z.W _ _
def FormsOk (k : Int) (va vb vc : Value) : Prop := 1 ≤ k ∧ k ≤ 4 → ∃ r t u, va = fnV r ∧ vb = fnV t ∧ vc = fnV u ∧ FormP k r t u
theorem OneV.fn (r : Nat) : OneV (fnV r) := ⟨rfl, rfl⟩
theorem OneV.nf : OneV .nilFunc := ⟨rfl, rfl⟩
theorem forms2_spec {k : Int} (hk : ∀ va vb vc, OneV va → OneV vb → OneV vc → FormsOk k va vb vc → POST (.tuple #[.agg #[va, vb, vc], .bool (decide (1 ≤ k ∧ k ≤ 4))]) R O) : Fun Tryz.prog 11 #[.int .i64 k] R O POST := by
 refine Fun.thin (post' := fun v R' O' => ∃ va vb vc, OneV va ∧ OneV vb ∧ OneV vc ∧ FormsOk k va vb vc ∧ v = .tuple #[.agg #[va, vb, vc], .bool (decide (1 ≤ k ∧ k ≤ 4))] ∧ R' = R ∧ ∃ b2 cs, O' = rowC b2 44 cs :: O) ?_ ?_
 · refine forms_spec (fun hkk r t u b2 cs hF => ?_) (fun hkk b2 cs => ?_)
   · exact ⟨_, _, _, OneV.fn r, OneV.fn t, OneV.fn u, fun _ => ⟨r, t, u, rfl, rfl, rfl, hF⟩, by rw [decide_eq_true hkk], rfl, b2, cs, rfl⟩
   · exact ⟨_, _, _, OneV.nf, OneV.nf, OneV.nf, fun h => absurd h hkk, by rw [decide_eq_false hkk], rfl, b2, cs, rfl⟩
 · rintro v R' O' ⟨va, vb, vc, h1, h2, h3, h4, rfl, rfl, b2, cs, rfl⟩
   exact ⟨R', O, hk va vb vc h1 h2 h3 h4, fun w h => h.drop⟩
set_option maxRecDepth 20000 in
set_option maxHeartbeats 1000000 in
theorem encode_spec (he : SlE encT ev o.ents ∈ R) (hp : SlE (SL.one vs) pv o.pars ∈ R) (hn : Names o) (hk : POST (.tuple #[vs (encE o).1, .int .i64 ((encE o).2 : Nat)]) R O) : Fun Tryz.prog 5 #[obV o ev pv] R O POST := by
 refine Fun.oneV he fun hev => ?_
 refine Fun.oneV hp fun hpv => ?_
 have hfin := encE.eq_1 o
 refine Fun.enter (l := [_]) Tryz.func5 rfl Tryz.ntmps5 rfl (L0 := [(0, _)]) rfl ?_
 refine WC.seq ?_
 refine WC.region ?_
 refine WL.op rfl ?_
 refine OpW.box rfl rfl Z.N rfl rfl ?_; intro b1
 refine WL.rd rfl rfl rfl (Rd.assign rfl rfl) ?_
 refine WL.rd rfl rfl rfl (Rd.assign rfl rfl) ?_
 refine WL.nil ?_
 refine thenQ.normal ?_
 refine WC.seq ?_
 refine WC.region ?_
 refine WL.rd rfl rfl rfl ((by exact Rd.field rfl F30_0 rfl rfl)) ?_
 refine WL.rd rfl rfl rfl (Rd.row1 (b := b1) (off := 0) (u := .int .i64 o.kind) rfl C3 rfl Z.M rfl) ?_
 refine WL.op rfl ?_
 refine OpW.call rfl rfl Z.E Z.K rfl rfl rfl ?_
 refine forms2_spec ?_; intro va vb vc ha hb hc hF
 refine WL.rd rfl rfl rfl (Rd.move rfl rfl) ?_
 refine WL.rd rfl rfl rfl (Rd.extract rfl rfl rfl) ?_
 refine WL.rd rfl rfl rfl (Rd.extract rfl rfl rfl) ?_
 refine WL.op rfl ?_
 refine OpW.alloc rfl I44 rfl Z.N rfl rfl ?_; intro b4
 refine WL.op rfl ?_
 refine OpW.storeS rfl G44 rfl rfl Z.N Z.T rfl rfl Z.N rfl (h1 := by have h1 := ha.one; have h2 := hb.one; have h3 := hc.one; simp only [List.all_cons, List.all_nil, h1, h2, h3]; rfl) ?_
 refine WL.rd rfl rfl rfl (Rd.assign rfl rfl) ?_
 refine WL.nil ?_
 refine thenQ.normal ?_
 refine WC.seq ?_
 refine WC.seq ?_
 refine WC.region ?_
 refine WL.rd rfl rfl rfl (Rd.move rfl rfl) ?_
 refine WL.rd rfl rfl rfl ((by exact Rd.notd rfl rfl)) ?_
 refine WL.nil ?_
 refine thenQ.normal ?_
 refine WC.ite rfl (fun hc1 => ?_) (fun hc1 => ?_)
 ·
  rw [if_pos Z.W] at hfin
  refine WC.seq ?_
  refine WC.region ?_
  refine WL.rd rfl rfl rfl (Rd.assign rfl rfl) ?_
  refine WL.rd rfl rfl rfl (Rd.assign rfl rfl) ?_
  refine WL.nil ?_
  refine thenQ.normal ?_
  refine WC.heap (R' := R) (O' := O) Z.F ?_
  refine WC.ret (Ret.two Tryz.results5 rfl rfl ?_)
  rw [hfin] at hk
  exact hk
 ·
  have hkk : 1 ≤ o.kind ∧ o.kind ≤ 4 := Decidable.not_not.1 hc1
  rw [if_neg Z.W] at hfin
  obtain ⟨r, t, u, rfl, rfl, rfl, hG⟩ := hF hkk
  refine WC.skip ?_
  refine thenQ.normal ?_
  refine WC.seq ?_
  refine WC.seq ?_
  refine WC.region ?_
  refine WL.rd rfl rfl rfl ((by exact Rd.field rfl F44_0 rfl rfl)) ?_
  refine WL.rd rfl rfl rfl (Rd.row1 (b := b4) (off := 0) (u := fnV r) rfl C40 rfl Z.M rfl) ?_
  refine WL.op rfl ?_
  refine OpW.call rfl rfl Z.E hG.hr rfl rfl rfl ?_
  refine hG.right (o := o) (ev := ev) (pv := pv) Z.M Z.M Z.M rfl hn ?_
  refine WL.rd rfl rfl rfl ((by exact Rd.notd rfl rfl)) ?_
  refine WL.nil ?_
  refine thenQ.normal ?_
  refine WC.ite rfl (fun hc2 => ?_) (fun hc2 => ?_)
  ·
   rw [if_pos hc2] at hfin
   refine WC.seq ?_
   refine WC.region ?_
   refine WL.rd rfl rfl rfl (Rd.assign rfl rfl) ?_
   refine WL.rd rfl rfl rfl (Rd.assign rfl rfl) ?_
   refine WL.nil ?_
   refine thenQ.normal ?_
   refine WC.heap (R' := R) (O' := O) Z.F ?_
   refine WC.ret (Ret.two Tryz.results5 rfl rfl ?_)
   rw [hfin] at hk
   exact hk
  ·
   have hrr := Decidable.not_not.1 hc2
   rw [if_neg hc2] at hfin
   have hjl := texts_join hkk hrr
   refine WC.skip ?_
   refine thenQ.normal ?_
   refine WC.seq ?_
   refine WC.drawnA 11 rfl mixed ?_
   refine WD.take 0 rfl Z.K Held.all rfl rfl rfl ((by exact Rd.field rfl F30_0 rfl rfl)) ?_
   refine WD.take 1 rfl Z.K Held.all rfl rfl rfl (Rd.row1 (b := b1) (off := 0) (u := .int .i64 o.kind) rfl C3 rfl Z.M rfl) ?_
   refine WD.take 2 rfl Z.K Held.all rfl rfl rfl (Rd.convw (kd' := .u8) rfl rfl Tryz.underlying5 (hS := Tryz.underlying3)) ?_
   refine WD.say 21 (u := vy (UInt8.ofNat o.kind.toNat)) rfl (by
   have : IntKind.u8.wrap o.kind = ((UInt8.ofNat o.kind.toNat).toNat : Int) := by
    have h1 := wrap_byte o.kind.toNat
    rw [show ((o.kind.toNat : Nat) : Int) = o.kind from by omega] at h1
    rw [h1]; simp
   rw [this]) ?_
   refine WD.take 5 rfl Z.K Held.all rfl rfl rfl ((by exact Rd.field rfl F44_1 rfl rfl)) ?_
   refine WD.take 6 rfl Z.K Held.all rfl rfl rfl (Rd.row1 (b := b4) (off := 1) (u := fnV t) rfl C41 rfl Z.M rfl) ?_
   refine WD.two 3 7 rfl rfl Z.K rfl rfl ?_ ?_
   ·
    refine OpW.buildSl (ps := [(0, _)]) rfl S48 Z.E rfl rfl Z.C Z.K rfl rfl rfl ?_; intro b22
    refine ⟨Z.H, ?_⟩
    refine WD.two 4 7 rfl rfl Z.K rfl rfl ?_ ?_
    ·
     refine OpW.rd rfl rfl (Rd.strOfR (bs := [UInt8.ofNat o.kind.toNat]) rfl Tryz.underlying48 Tryz.underlying9 Tryz.underlying5 rfl Z.M rfl rfl (by decide)) ?_
     refine ⟨Z.H, ?_⟩
     refine WD.one 7 rfl Z.K rfl ?_
     refine OpW.call rfl rfl Z.E hG.ht rfl rfl rfl ?_
     refine hG.texts (o := o) (ev := ev) (pv := pv) Z.M Z.M Z.M rfl hrr ?_; intro v26
     refine ⟨Z.H, ?_⟩
     refine WD.one 8 rfl Z.K rfl ?_
     refine OpW.call rfl rfl Z.E Z.K rfl rfl rfl ?_
     refine join_spec (l := texts o) Z.M Z.W ?_
     refine ⟨Z.H, ?_⟩
     refine WD.take 9 rfl Z.K Z.H rfl rfl rfl (Rd.scat rfl rfl rfl (by simp; omega)) ?_
     refine WD.say 28 (u := vs (encB o)) rfl rfl ?_
     refine WD.take 10 rfl Z.K Z.H rfl rfl rfl (Rd.assign rfl rfl) ?_
     refine WD.done Z.K ?_
     refine thenQ.normal ?_
     refine WC.seq ?_
     refine WC.seq ?_
     refine WC.region ?_
     refine WL.rd rfl rfl rfl (Rd.move rfl rfl) ?_
     refine WL.rd rfl rfl rfl (Rd.slen (ts := #[]) (ty := 0) rfl rfl Tryz.underlying9) ?_
     refine WL.rd rfl rfl rfl (Rd.gtr rfl rfl rfl) ?_
     refine WL.nil ?_
     refine thenQ.normal ?_
     refine WC.ite rfl (fun hc3 => ?_) (fun hc3 => ?_)
     ·
      rw [if_pos Z.W] at hfin
      refine WC.seq ?_
      refine WC.region ?_
      refine WL.rd rfl rfl rfl (Rd.assign rfl rfl) ?_
      refine WL.rd rfl rfl rfl (Rd.assign rfl rfl) ?_
      refine WL.nil ?_
      refine thenQ.normal ?_
      refine WC.heap (R' := R) (O' := O) Z.F ?_
      refine WC.ret (Ret.two Tryz.results5 rfl rfl ?_)
      rw [hfin] at hk
      exact hk
     ·
      rw [if_neg Z.W] at hfin
      refine WC.skip ?_
      refine thenQ.normal ?_
      refine WC.seq ?_
      refine WC.region ?_
      refine WL.rd rfl rfl rfl (Rd.move rfl rfl) ?_
      refine WL.rd rfl rfl rfl (Rd.assign rfl rfl) ?_
      refine WL.rd rfl rfl rfl (Rd.assign rfl rfl) ?_
      refine WL.nil ?_
      refine thenQ.normal ?_
      refine WC.heap (R' := R) (O' := O) Z.F ?_
      refine WC.ret (Ret.two Tryz.results5 rfl rfl ?_)
      rw [hfin] at hk
      exact hk
    ·
     refine OpW.call rfl rfl Z.E hG.ht rfl rfl rfl ?_
     refine hG.texts (o := o) (ev := ev) (pv := pv) Z.M Z.M Z.M rfl hrr ?_; intro v26
     refine ⟨Z.H, ?_⟩
     refine WD.two 4 8 rfl rfl Z.K rfl rfl ?_ ?_
     ·
      refine OpW.rd rfl rfl (Rd.strOfR (bs := [UInt8.ofNat o.kind.toNat]) rfl Tryz.underlying48 Tryz.underlying9 Tryz.underlying5 rfl Z.M rfl rfl (by decide)) ?_
      refine ⟨Z.H, ?_⟩
      refine WD.one 8 rfl Z.K rfl ?_
      refine OpW.call rfl rfl Z.E Z.K rfl rfl rfl ?_
      refine join_spec (l := texts o) Z.M Z.W ?_
      refine ⟨Z.H, ?_⟩
      refine WD.take 9 rfl Z.K Z.H rfl rfl rfl (Rd.scat rfl rfl rfl (by simp; omega)) ?_
      refine WD.say 28 (u := vs (encB o)) rfl rfl ?_
      refine WD.take 10 rfl Z.K Z.H rfl rfl rfl (Rd.assign rfl rfl) ?_
      refine WD.done Z.K ?_
      refine thenQ.normal ?_
      refine WC.seq ?_
      refine WC.seq ?_
      refine WC.region ?_
      refine WL.rd rfl rfl rfl (Rd.move rfl rfl) ?_
      refine WL.rd rfl rfl rfl (Rd.slen (ts := #[]) (ty := 0) rfl rfl Tryz.underlying9) ?_
      refine WL.rd rfl rfl rfl (Rd.gtr rfl rfl rfl) ?_
      refine WL.nil ?_
      refine thenQ.normal ?_
      refine WC.ite rfl (fun hc3 => ?_) (fun hc3 => ?_)
      ·
       rw [if_pos Z.W] at hfin
       refine WC.seq ?_
       refine WC.region ?_
       refine WL.rd rfl rfl rfl (Rd.assign rfl rfl) ?_
       refine WL.rd rfl rfl rfl (Rd.assign rfl rfl) ?_
       refine WL.nil ?_
       refine thenQ.normal ?_
       refine WC.heap (R' := R) (O' := O) Z.F ?_
       refine WC.ret (Ret.two Tryz.results5 rfl rfl ?_)
       rw [hfin] at hk
       exact hk
      ·
       rw [if_neg Z.W] at hfin
       refine WC.skip ?_
       refine thenQ.normal ?_
       refine WC.seq ?_
       refine WC.region ?_
       refine WL.rd rfl rfl rfl (Rd.move rfl rfl) ?_
       refine WL.rd rfl rfl rfl (Rd.assign rfl rfl) ?_
       refine WL.rd rfl rfl rfl (Rd.assign rfl rfl) ?_
       refine WL.nil ?_
       refine thenQ.normal ?_
       refine WC.heap (R' := R) (O' := O) Z.F ?_
       refine WC.ret (Ret.two Tryz.results5 rfl rfl ?_)
       rw [hfin] at hk
       exact hk
     ·
      refine OpW.call rfl rfl Z.E Z.K rfl rfl rfl ?_
      refine join_spec (l := texts o) Z.M Z.W ?_
      refine ⟨Z.H, ?_⟩
      refine WD.one 4 rfl Z.K rfl ?_
      refine OpW.rd rfl rfl (Rd.strOfR (bs := [UInt8.ofNat o.kind.toNat]) rfl Tryz.underlying48 Tryz.underlying9 Tryz.underlying5 rfl Z.M rfl rfl (by decide)) ?_
      refine ⟨Z.H, ?_⟩
      refine WD.take 9 rfl Z.K Z.H rfl rfl rfl (Rd.scat rfl rfl rfl (by simp; omega)) ?_
      refine WD.say 28 (u := vs (encB o)) rfl rfl ?_
      refine WD.take 10 rfl Z.K Z.H rfl rfl rfl (Rd.assign rfl rfl) ?_
      refine WD.done Z.K ?_
      refine thenQ.normal ?_
      refine WC.seq ?_
      refine WC.seq ?_
      refine WC.region ?_
      refine WL.rd rfl rfl rfl (Rd.move rfl rfl) ?_
      refine WL.rd rfl rfl rfl (Rd.slen (ts := #[]) (ty := 0) rfl rfl Tryz.underlying9) ?_
      refine WL.rd rfl rfl rfl (Rd.gtr rfl rfl rfl) ?_
      refine WL.nil ?_
      refine thenQ.normal ?_
      refine WC.ite rfl (fun hc3 => ?_) (fun hc3 => ?_)
      ·
       rw [if_pos Z.W] at hfin
       refine WC.seq ?_
       refine WC.region ?_
       refine WL.rd rfl rfl rfl (Rd.assign rfl rfl) ?_
       refine WL.rd rfl rfl rfl (Rd.assign rfl rfl) ?_
       refine WL.nil ?_
       refine thenQ.normal ?_
       refine WC.heap (R' := R) (O' := O) Z.F ?_
       refine WC.ret (Ret.two Tryz.results5 rfl rfl ?_)
       rw [hfin] at hk
       exact hk
      ·
       rw [if_neg Z.W] at hfin
       refine WC.skip ?_
       refine thenQ.normal ?_
       refine WC.seq ?_
       refine WC.region ?_
       refine WL.rd rfl rfl rfl (Rd.move rfl rfl) ?_
       refine WL.rd rfl rfl rfl (Rd.assign rfl rfl) ?_
       refine WL.rd rfl rfl rfl (Rd.assign rfl rfl) ?_
       refine WL.nil ?_
       refine thenQ.normal ?_
       refine WC.heap (R' := R) (O' := O) Z.F ?_
       refine WC.ret (Ret.two Tryz.results5 rfl rfl ?_)
       rw [hfin] at hk
       exact hk
   ·
    refine OpW.call rfl rfl Z.E hG.ht rfl rfl rfl ?_
    refine hG.texts (o := o) (ev := ev) (pv := pv) Z.M Z.M Z.M rfl hrr ?_; intro v26
    refine ⟨Z.H, ?_⟩
    refine WD.two 3 8 rfl rfl Z.K rfl rfl ?_ ?_
    ·
     refine OpW.buildSl (ps := [(0, _)]) rfl S48 Z.E rfl rfl Z.C Z.K rfl rfl rfl ?_; intro b22
     refine ⟨Z.H, ?_⟩
     refine WD.two 4 8 rfl rfl Z.K rfl rfl ?_ ?_
     ·
      refine OpW.rd rfl rfl (Rd.strOfR (bs := [UInt8.ofNat o.kind.toNat]) rfl Tryz.underlying48 Tryz.underlying9 Tryz.underlying5 rfl Z.M rfl rfl (by decide)) ?_
      refine ⟨Z.H, ?_⟩
      refine WD.one 8 rfl Z.K rfl ?_
      refine OpW.call rfl rfl Z.E Z.K rfl rfl rfl ?_
      refine join_spec (l := texts o) Z.M Z.W ?_
      refine ⟨Z.H, ?_⟩
      refine WD.take 9 rfl Z.K Z.H rfl rfl rfl (Rd.scat rfl rfl rfl (by simp; omega)) ?_
      refine WD.say 28 (u := vs (encB o)) rfl rfl ?_
      refine WD.take 10 rfl Z.K Z.H rfl rfl rfl (Rd.assign rfl rfl) ?_
      refine WD.done Z.K ?_
      refine thenQ.normal ?_
      refine WC.seq ?_
      refine WC.seq ?_
      refine WC.region ?_
      refine WL.rd rfl rfl rfl (Rd.move rfl rfl) ?_
      refine WL.rd rfl rfl rfl (Rd.slen (ts := #[]) (ty := 0) rfl rfl Tryz.underlying9) ?_
      refine WL.rd rfl rfl rfl (Rd.gtr rfl rfl rfl) ?_
      refine WL.nil ?_
      refine thenQ.normal ?_
      refine WC.ite rfl (fun hc3 => ?_) (fun hc3 => ?_)
      ·
       rw [if_pos Z.W] at hfin
       refine WC.seq ?_
       refine WC.region ?_
       refine WL.rd rfl rfl rfl (Rd.assign rfl rfl) ?_
       refine WL.rd rfl rfl rfl (Rd.assign rfl rfl) ?_
       refine WL.nil ?_
       refine thenQ.normal ?_
       refine WC.heap (R' := R) (O' := O) Z.F ?_
       refine WC.ret (Ret.two Tryz.results5 rfl rfl ?_)
       rw [hfin] at hk
       exact hk
      ·
       rw [if_neg Z.W] at hfin
       refine WC.skip ?_
       refine thenQ.normal ?_
       refine WC.seq ?_
       refine WC.region ?_
       refine WL.rd rfl rfl rfl (Rd.move rfl rfl) ?_
       refine WL.rd rfl rfl rfl (Rd.assign rfl rfl) ?_
       refine WL.rd rfl rfl rfl (Rd.assign rfl rfl) ?_
       refine WL.nil ?_
       refine thenQ.normal ?_
       refine WC.heap (R' := R) (O' := O) Z.F ?_
       refine WC.ret (Ret.two Tryz.results5 rfl rfl ?_)
       rw [hfin] at hk
       exact hk
     ·
      refine OpW.call rfl rfl Z.E Z.K rfl rfl rfl ?_
      refine join_spec (l := texts o) Z.M Z.W ?_
      refine ⟨Z.H, ?_⟩
      refine WD.one 4 rfl Z.K rfl ?_
      refine OpW.rd rfl rfl (Rd.strOfR (bs := [UInt8.ofNat o.kind.toNat]) rfl Tryz.underlying48 Tryz.underlying9 Tryz.underlying5 rfl Z.M rfl rfl (by decide)) ?_
      refine ⟨Z.H, ?_⟩
      refine WD.take 9 rfl Z.K Z.H rfl rfl rfl (Rd.scat rfl rfl rfl (by simp; omega)) ?_
      refine WD.say 28 (u := vs (encB o)) rfl rfl ?_
      refine WD.take 10 rfl Z.K Z.H rfl rfl rfl (Rd.assign rfl rfl) ?_
      refine WD.done Z.K ?_
      refine thenQ.normal ?_
      refine WC.seq ?_
      refine WC.seq ?_
      refine WC.region ?_
      refine WL.rd rfl rfl rfl (Rd.move rfl rfl) ?_
      refine WL.rd rfl rfl rfl (Rd.slen (ts := #[]) (ty := 0) rfl rfl Tryz.underlying9) ?_
      refine WL.rd rfl rfl rfl (Rd.gtr rfl rfl rfl) ?_
      refine WL.nil ?_
      refine thenQ.normal ?_
      refine WC.ite rfl (fun hc3 => ?_) (fun hc3 => ?_)
      ·
       rw [if_pos Z.W] at hfin
       refine WC.seq ?_
       refine WC.region ?_
       refine WL.rd rfl rfl rfl (Rd.assign rfl rfl) ?_
       refine WL.rd rfl rfl rfl (Rd.assign rfl rfl) ?_
       refine WL.nil ?_
       refine thenQ.normal ?_
       refine WC.heap (R' := R) (O' := O) Z.F ?_
       refine WC.ret (Ret.two Tryz.results5 rfl rfl ?_)
       rw [hfin] at hk
       exact hk
      ·
       rw [if_neg Z.W] at hfin
       refine WC.skip ?_
       refine thenQ.normal ?_
       refine WC.seq ?_
       refine WC.region ?_
       refine WL.rd rfl rfl rfl (Rd.move rfl rfl) ?_
       refine WL.rd rfl rfl rfl (Rd.assign rfl rfl) ?_
       refine WL.rd rfl rfl rfl (Rd.assign rfl rfl) ?_
       refine WL.nil ?_
       refine thenQ.normal ?_
       refine WC.heap (R' := R) (O' := O) Z.F ?_
       refine WC.ret (Ret.two Tryz.results5 rfl rfl ?_)
       rw [hfin] at hk
       exact hk
    ·
     refine OpW.call rfl rfl Z.E Z.K rfl rfl rfl ?_
     refine join_spec (l := texts o) Z.M Z.W ?_
     refine ⟨Z.H, ?_⟩
     refine WD.one 3 rfl Z.K rfl ?_
     refine OpW.buildSl (ps := [(0, _)]) rfl S48 Z.E rfl rfl Z.C Z.K rfl rfl rfl ?_; intro b22
     refine ⟨Z.H, ?_⟩
     refine WD.one 4 rfl Z.K rfl ?_
     refine OpW.rd rfl rfl (Rd.strOfR (bs := [UInt8.ofNat o.kind.toNat]) rfl Tryz.underlying48 Tryz.underlying9 Tryz.underlying5 rfl Z.M rfl rfl (by decide)) ?_
     refine ⟨Z.H, ?_⟩
     refine WD.take 9 rfl Z.K Z.H rfl rfl rfl (Rd.scat rfl rfl rfl (by simp; omega)) ?_
     refine WD.say 28 (u := vs (encB o)) rfl rfl ?_
     refine WD.take 10 rfl Z.K Z.H rfl rfl rfl (Rd.assign rfl rfl) ?_
     refine WD.done Z.K ?_
     refine thenQ.normal ?_
     refine WC.seq ?_
     refine WC.seq ?_
     refine WC.region ?_
     refine WL.rd rfl rfl rfl (Rd.move rfl rfl) ?_
     refine WL.rd rfl rfl rfl (Rd.slen (ts := #[]) (ty := 0) rfl rfl Tryz.underlying9) ?_
     refine WL.rd rfl rfl rfl (Rd.gtr rfl rfl rfl) ?_
     refine WL.nil ?_
     refine thenQ.normal ?_
     refine WC.ite rfl (fun hc3 => ?_) (fun hc3 => ?_)
     ·
      rw [if_pos Z.W] at hfin
      refine WC.seq ?_
      refine WC.region ?_
      refine WL.rd rfl rfl rfl (Rd.assign rfl rfl) ?_
      refine WL.rd rfl rfl rfl (Rd.assign rfl rfl) ?_
      refine WL.nil ?_
      refine thenQ.normal ?_
      refine WC.heap (R' := R) (O' := O) Z.F ?_
      refine WC.ret (Ret.two Tryz.results5 rfl rfl ?_)
      rw [hfin] at hk
      exact hk
     ·
      rw [if_neg Z.W] at hfin
      refine WC.skip ?_
      refine thenQ.normal ?_
      refine WC.seq ?_
      refine WC.region ?_
      refine WL.rd rfl rfl rfl (Rd.move rfl rfl) ?_
      refine WL.rd rfl rfl rfl (Rd.assign rfl rfl) ?_
      refine WL.rd rfl rfl rfl (Rd.assign rfl rfl) ?_
      refine WL.nil ?_
      refine thenQ.normal ?_
      refine WC.heap (R' := R) (O' := O) Z.F ?_
      refine WC.ret (Ret.two Tryz.results5 rfl rfl ?_)
      rw [hfin] at hk
      exact hk
end
end Go.Proofs.YtlbdpcadaojcbaaGreatDoor
namespace Go.SL
open Go Go.RowKit
section
variable {P : Program} {n : Sz} {L : Env} {R : List RO} {O : List Own}
theorem WL.know2 {ops : Array Oper} {Q : Post} {rest : List Oper} {p : RO} {φ : Prop} (hp : p ∈ R) (hφ : ∀ w, p w → φ) (h : φ → WL P n ops Q rest L R O) : WL P n ops Q rest L R O := fun a w hf hs => h (hφ w (hs.read hp)) a w hf hs
end
end Go.SL
namespace Go.Proofs.YtlbdpcadaojcbaaGreatDoor
open Go Go.SL Go.RowKit
def kOf (s : List UInt8) : Int := (s[0]!.toNat : Int)
def DecP (s : List UInt8) (o : Ob) (e : Int) : Prop :=
 if s = [] then o = zOb ∧ e = 3 else if ¬ (1 ≤ kOf s ∧ kOf s ≤ 4) then o = zOb ∧ e = 15 else if 262208 < s.length then o = zOb ∧ e = 6 else
 ∃ l r, Parts (s.drop 1) l r ∧ (r ≠ [] ∧ (nextE r).2.2 ≠ 0 ∧ e = (nextE r).2.2 ∧ o = zOb ∨ r = [] ∧ if (obOf (kOf s) l).2 = true ∧ RightP (obOf (kOf s) l).1 then o = (obOf (kOf s) l).1 ∧ e = 0 else o = zOb ∧ e = 2)
theorem obOf_names {k : Int} {l : List (List UInt8)} (h : ∀ x ∈ l, x.length ≤ 300000) : Names (obOf k l).1 := by
 have hg : ∀ j : Nat, (l[j]!).length ≤ 300000 := fun j => by
  by_cases hj : j < l.length
  · rw [getElem!_pos l j hj]; exact h _ (List.getElem_mem _)
  · rw [getElem!_neg l j hj]; exact Nat.zero_le _
 have hz : Names zOb := ⟨fun x hx => absurd hx List.not_mem_nil, Nat.zero_le _⟩
 unfold obOf
 split
 · unfold blobO; split
   · exact hz
   · exact ⟨fun x hx => absurd hx List.not_mem_nil, Nat.zero_le _⟩
 · split
   · refine ⟨fun x hx => ?_, Nat.zero_le _⟩
     obtain ⟨j, _, rfl⟩ := List.mem_map.1 hx
     have := hg (2 * j)
     show l[2 * j]!.length ≤ _
     omega
   · split
     · unfold commitO; split
       · exact hz
       · exact ⟨fun x hx => absurd hx List.not_mem_nil, Nat.zero_le _⟩
     · unfold tagO; split
       · exact hz
       · refine ⟨fun x hx => absurd hx List.not_mem_nil, ?_⟩
         have := hg 1
         show l[1]!.length ≤ _
         omega
theorem obOf_kind {k : Int} {l : List (List UInt8)} (hk : 1 ≤ k ∧ k ≤ 4) (h : (obOf k l).2 = true) : (obOf k l).1.kind = k := by
 unfold obOf at h ⊢
 split
 · rename_i e
   rw [if_pos e] at h
   unfold blobO at h ⊢
   split at h
   · cases h
   · rename_i h2
     rw [if_neg h2]; exact e.symm
 · rename_i e1
   rw [if_neg e1] at h
   split
   · rename_i e; exact e.symm
   · rename_i e2
     rw [if_neg e2] at h
     split
     · rename_i e
       rw [if_pos e] at h
       unfold commitO at h ⊢
       split at h
       · cases h
       · rename_i h2
         rw [if_neg h2]; exact e.symm
     · rename_i e3
       rw [if_neg e3] at h
       unfold tagO at h ⊢
       split at h
       · cases h
       · rename_i h2
         rw [if_neg h2]; show (4 : Int) = k; omega
section
variable {R : List RO} {O : List Own} {POST : Value → List RO → List Own → Prop} {b : Nat} {o : Ob} {ev pv : Value}
abbrev zC : List Value := tC 0 (.slice none 0 0)
set_option maxRecDepth 20000 in
set_option maxHeartbeats 2000000 in
theorem decode_spec {s : List UInt8} (hs : s.length ≤ 8000000000000) (hk : ∀ o e ev pv b2 cs, DecP s o e → POST (.tuple #[obV o ev pv, .int .i64 e]) (SlE encT ev o.ents :: SlE (SL.one vs) pv o.pars :: R) (rowC b2 30 cs :: O)) : Fun Tryz.prog 7 #[vs s] R O POST := by
 have hfin : ∀ o e, DecP s o e = _ := fun o e => DecP.eq_1 s o e
 refine Fun.enter (l := [_]) Tryz.func7 rfl Tryz.ntmps7 rfl (L0 := [(0, _)]) rfl ?_
 refine WC.seq ?_
 refine WC.region ?_
 refine WL.op rfl ?_
 refine OpW.alloc rfl I30 rfl Z.N rfl rfl ?_; intro b2
 refine WL.rd rfl rfl rfl (Rd.assign rfl rfl) ?_
 refine WL.nil ?_
 refine thenQ.normal ?_
 refine WC.seq ?_
 refine WC.seq ?_
 refine WC.region ?_
 refine WL.rd rfl rfl rfl (Rd.move rfl rfl) ?_
 refine WL.rd rfl rfl rfl (Rd.seql rfl rfl rfl) ?_
 refine WL.nil ?_
 refine thenQ.normal ?_
 refine WC.ite rfl (fun hc1 => ?_) (fun hc1 => ?_)
 ·
  simp only [if_pos hc1] at hfin
  refine WC.seq ?_
  refine WC.region ?_
  refine WL.rd rfl rfl rfl (Rd.buildN (ps := []) rfl Bs30 I30 rfl Z.E Z.C (by apply NFo.mk; repeat (first | exact NF.nil | apply NF.cons))) ?_
  refine WL.op rfl ?_
  refine OpW.storeS rfl G30 rfl rfl Z.N Z.T rfl rfl Z.N rfl ?_
  refine WL.rd rfl rfl rfl (Rd.assign rfl rfl) ?_
  refine WL.nil ?_
  refine thenQ.normal ?_
  refine WC.heap (fun w h => Sat.nilE (α := List UInt8) (enc := SL.one vs) h) ?_
  refine WC.heap (fun w h => Sat.nilE (α := ET) (enc := encT) h) ?_
  refine WC.ret (Ret.cellTmp Tryz.results7 rfl rfl Z.M G30 rfl ?_)
  exact hk zOb 3 _ _ _ _ (by rw [hfin]; exact ⟨rfl, rfl⟩)
 ·
  have h0 : 0 < s.length := List.length_pos_iff.2 hc1
  simp only [if_neg hc1] at hfin
  refine WC.skip ?_
  refine thenQ.normal ?_
  refine WC.seq ?_
  refine WC.region ?_
  refine WL.rd rfl rfl rfl (Rd.move rfl rfl) ?_
  refine WL.rd rfl rfl rfl (Rd.sidx (k := 0) (b := s[0]!) rfl Tryz.underlying9 rfl rfl rfl (get!_of_lt Z.W)) ?_
  refine WL.rd rfl rfl rfl (Rd.conv (kd' := .i64) rfl rfl Tryz.underlying3 (wrap_i64 (by have := UInt8.toNat_lt s[0]!; omega)) (hS := Tryz.underlying5)) ?_
  refine WL.say 15 (u := .int .i64 (kOf s)) rfl rfl ?_
  refine WL.op rfl ?_
  refine OpW.call rfl rfl Z.E Z.K rfl rfl rfl ?_
  refine forms2_spec ?_; intro va vb vc ha hb hc hF
  refine WL.rd rfl rfl rfl (Rd.move rfl rfl) ?_
  refine WL.rd rfl rfl rfl (Rd.extract rfl rfl rfl) ?_
  refine WL.rd rfl rfl rfl (Rd.extract rfl rfl rfl) ?_
  refine WL.op rfl ?_
  refine OpW.alloc rfl I44 rfl Z.N rfl rfl ?_; intro b4
  refine WL.op rfl ?_
  refine OpW.storeS rfl G44 rfl rfl Z.N Z.T rfl rfl Z.N rfl (h1 := by have h1 := ha.one; have h2 := hb.one; have h3 := hc.one; simp only [List.all_cons, List.all_nil, h1, h2, h3]; rfl) ?_
  refine WL.rd rfl rfl rfl (Rd.assign rfl rfl) ?_
  refine WL.nil ?_
  refine thenQ.normal ?_
  refine WC.seq ?_
  refine WC.block ?_
  refine WC.seq ?_
  refine WC.region ?_
  refine WL.rd rfl rfl rfl (Rd.move rfl rfl) ?_
  refine WL.rd rfl rfl rfl ((by exact Rd.notd rfl rfl)) ?_
  refine WL.rd rfl rfl rfl (Rd.assign rfl rfl) ?_
  refine WL.nil ?_
  refine thenQ.normal ?_
  refine WC.ite rfl (fun hc2 => ?_) (fun hc2 => ?_)
  ·
   simp only [if_pos hc2] at hfin
   refine WC.seq ?_
   refine WC.region ?_
   refine WL.rd rfl rfl rfl (Rd.buildN (ps := []) rfl Bs30 I30 rfl Z.E Z.C (by apply NFo.mk; repeat (first | exact NF.nil | apply NF.cons))) ?_
   refine WL.op rfl ?_
   refine OpW.storeS rfl G30 rfl rfl Z.N Z.T rfl rfl Z.N rfl ?_
   refine WL.rd rfl rfl rfl (Rd.assign rfl rfl) ?_
   refine WL.nil ?_
   refine thenQ.normal ?_
   refine WC.heap (R' := SlE encT (.slice none 0 0) ([] : List ET) :: SlE (SL.one vs) (.slice none 0 0) ([] : List (List UInt8)) :: R) (O' := rowC b2 30 zC :: O) (fun w h => by
   have g1 := Sat.nilE (α := List UInt8) (enc := SL.one vs) h
   have g2 := Sat.nilE (α := ET) (enc := encT) g1
   exact Z.Fw g2) ?_
   refine WC.ret (Ret.cellTmp Tryz.results7 rfl rfl Z.M G30 rfl ?_)
   exact hk zOb 15 _ _ _ _ (by rw [hfin]; exact ⟨rfl, rfl⟩)
  ·
   have hkk : 1 ≤ kOf s ∧ kOf s ≤ 4 := Decidable.not_not.1 hc2
   simp only [if_neg hc2] at hfin
   obtain ⟨r1, t1, u1, rfl, rfl, rfl, hG⟩ := hF hkk
   refine WC.seq ?_
   refine WC.region ?_
   refine WL.rd rfl rfl rfl (Rd.move rfl rfl) ?_
   refine WL.rd rfl rfl rfl (Rd.slen (ts := #[]) (ty := 0) rfl rfl Tryz.underlying9) ?_
   refine WL.rd rfl rfl rfl (Rd.gtr rfl rfl rfl) ?_
   refine WL.rd rfl rfl rfl (Rd.assign rfl rfl) ?_
   refine WL.nil ?_
   refine thenQ.normal ?_
   refine WC.ite rfl (fun hc3 => ?_) (fun hc3 => ?_)
   ·
    simp only [if_pos (show 262208 < s.length by omega)] at hfin
    refine WC.seq ?_
    refine WC.region ?_
    refine WL.rd rfl rfl rfl (Rd.buildN (ps := []) rfl Bs30 I30 rfl Z.E Z.C (by apply NFo.mk; repeat (first | exact NF.nil | apply NF.cons))) ?_
    refine WL.op rfl ?_
    refine OpW.storeS rfl G30 rfl rfl Z.N Z.T rfl rfl Z.N rfl ?_
    refine WL.rd rfl rfl rfl (Rd.assign rfl rfl) ?_
    refine WL.nil ?_
    refine thenQ.normal ?_
    refine WC.heap (R' := SlE encT (.slice none 0 0) ([] : List ET) :: SlE (SL.one vs) (.slice none 0 0) ([] : List (List UInt8)) :: R) (O' := rowC b2 30 zC :: O) (fun w h => by
    have g1 := Sat.nilE (α := List UInt8) (enc := SL.one vs) h
    have g2 := Sat.nilE (α := ET) (enc := encT) g1
    exact Z.Fw g2) ?_
    refine WC.ret (Ret.cellTmp Tryz.results7 rfl rfl Z.M G30 rfl ?_)
    exact hk zOb 6 _ _ _ _ (by rw [hfin]; exact ⟨rfl, rfl⟩)
   ·
    simp only [if_neg (show ¬ 262208 < s.length by omega)] at hfin
    refine WC.skip ?_
    refine blockQ.normal ?_
    refine thenQ.normal ?_
    refine WC.seq ?_
    refine WC.region ?_
    refine WL.rd rfl rfl rfl (Rd.move rfl rfl) ?_
    refine WL.rd rfl rfl rfl (Rd.scut_l (lo := 1) rfl Tryz.underlying9 rfl rfl rfl Z.W) ?_
    refine WL.op rfl ?_
    refine OpW.call rfl rfl Z.E Z.K rfl rfl rfl ?_
    refine split_spec (by rw [List.length_drop]; omega) ?_; intro v31 e31 out31 l r hP hcase
    refine WL.rd rfl rfl rfl (Rd.move rfl rfl) ?_
    refine WL.rd rfl rfl rfl (Rd.extract rfl rfl rfl) ?_
    refine WL.rd rfl rfl rfl (Rd.extract rfl rfl rfl) ?_
    refine WL.rd rfl rfl rfl (Rd.assign rfl rfl) ?_
    refine WL.rd rfl rfl rfl (Rd.assign rfl rfl) ?_
    refine WL.nil ?_
    refine thenQ.normal ?_
    refine WC.seq ?_
    refine WC.seq ?_
    refine WC.region ?_
    refine WL.rd rfl rfl rfl (Rd.move rfl rfl) ?_
    refine WL.rd rfl rfl rfl (Rd.neq rfl rfl rfl) ?_
    refine WL.nil ?_
    refine thenQ.normal ?_
    refine WC.ite rfl (fun hc4 => ?_) (fun hc4 => ?_)
    ·
     refine WC.seq ?_
     refine WC.region ?_
     refine WL.rd rfl rfl rfl (Rd.buildN (ps := []) rfl Bs30 I30 rfl Z.E Z.C (by apply NFo.mk; repeat (first | exact NF.nil | apply NF.cons))) ?_
     refine WL.rd rfl rfl rfl (Rd.move rfl rfl) ?_
     refine WL.op rfl ?_
     refine OpW.storeS rfl G30 rfl rfl Z.N Z.T rfl rfl Z.N rfl ?_
     refine WL.rd rfl rfl rfl (Rd.assign rfl rfl) ?_
     refine WL.nil ?_
     refine thenQ.normal ?_
     refine WC.heap (R' := SlE encT (.slice none 0 0) ([] : List ET) :: SlE (SL.one vs) (.slice none 0 0) ([] : List (List UInt8)) :: R) (O' := rowC b2 30 zC :: O) (fun w h => by
     have g1 := Sat.nilE (α := List UInt8) (enc := SL.one vs) h
     have g2 := Sat.nilE (α := ET) (enc := encT) g1
     exact Z.Fw g2) ?_
     refine WC.ret (Ret.cellTmp Tryz.results7 rfl rfl Z.M G30 rfl ?_)
     exact hk zOb e31 _ _ _ _ (by
     rw [hfin]
     rcases hcase with ⟨h, _⟩ | ⟨h1, h2, h3, _⟩
     · exact absurd h hc4
     · exact ⟨l, r, hP, .inl ⟨h3, by rw [← h1]; exact h2, h1, rfl⟩⟩)
    ·
     obtain ⟨e0, hr0, hout⟩ : e31 = 0 ∧ r = [] ∧ out31 = l := by
      rcases hcase with h | ⟨_, h2, _⟩
      · exact h
      · exact absurd (Decidable.not_not.1 hc4) h2
     subst hr0
     subst hout
     obtain ⟨hj1, hj2, hj3⟩ := hP.join
     rw [List.length_drop] at hj3
     have hsm : ∀ x ∈ out31, x.length ≤ 300000 := fun x hx => by have := hj2 x hx; omega
     have hnm := obOf_names (k := kOf s) hsm
     refine WC.skip ?_
     refine thenQ.normal ?_
     refine WC.seq ?_
     refine WC.region ?_
     refine WL.rd rfl rfl rfl ((by exact Rd.field rfl F44_2 rfl rfl)) ?_
     refine WL.rd rfl rfl rfl (Rd.row1 (b := b4) (off := 2) (u := fnV u1) rfl C42 rfl Z.M rfl) ?_
     refine WL.rd rfl rfl rfl (Rd.move rfl rfl) ?_
     refine WL.op rfl ?_
     refine OpW.call rfl rfl Z.E hG.hu rfl rfl rfl ?_
     refine hG.object (l := out31) Z.M Z.W hsm ?_; intro ev pv b42 cs42
     obtain ⟨q, hq⟩ : ∃ q, q = obOf (kOf s) out31 := ⟨_, rfl⟩
     have hqk := obOf_kind (l := out31) hkk
     rw [← hq] at hnm hqk ⊢
     refine WL.rd rfl rfl rfl (Rd.move rfl rfl) ?_
     refine WL.rd rfl rfl rfl (Rd.extract rfl rfl rfl) ?_
     refine WL.know2 (p := SlE encT ev q.1.ents) Z.M (fun w h => h.oneV) fun hev => ?_
     refine WL.know2 (p := SlE (SL.one vs) pv q.1.pars) Z.M (fun w h => h.oneV) fun hpv => ?_
     refine WL.rd rfl rfl rfl (Rd.extract rfl rfl rfl) ?_
     refine WL.say 44 (u := .bool (decide (q.2 = true))) rfl (by rw [Bool.decide_eq_true]; rfl) ?_
     refine WL.op rfl ?_
     refine OpW.alloc rfl I30 rfl Z.N rfl rfl ?_; intro b8
     refine WL.op rfl ?_
     refine OpW.storeS rfl G30 rfl rfl Z.N Z.T rfl rfl Z.N rfl (h1 := by have h1 := hev.one; have h2 := hpv.one; simp only [List.all_cons, List.all_nil, h1, h2]; rfl) ?_
     refine WL.rd rfl rfl rfl (Rd.assign rfl rfl) ?_
     refine WL.nil ?_
     refine thenQ.normal ?_
     refine WC.seq ?_
     refine WC.pick [2, 4, 5, 8] Z.P ?_
     refine WC.val 52 (.bool (decide (¬ (q.2 = true ∧ RightP q.1)))) ?_ ?_
     ·
      refine WC.region ?_
      refine WL.rd rfl rfl rfl (Rd.move rfl rfl) ?_
      refine WL.rd rfl rfl rfl ((by exact Rd.notd rfl rfl)) ?_
      refine WL.rd rfl rfl rfl (Rd.move rfl rfl) ?_
      refine WL.case 47 rfl (fun hg47 => ?_) (fun hg47 => ?_)
      ·
       refine WL.no rfl rfl rfl rfl rfl rfl ?_
       refine WL.no rfl rfl rfl rfl rfl rfl ?_
       refine WL.no rfl rfl rfl rfl rfl rfl ?_
       refine WL.no rfl rfl rfl rfl rfl rfl ?_
       refine WL.rd rfl rfl rfl (Rd.pick_t rfl rfl rfl) ?_
       refine WL.nil ?_
       exact ⟨by repeat (first | exact Sub.nil | refine Sub.cons rfl (by first | rfl | (exact vb_t (fun h => hg47 h.1))) ?_), by exact (fun _ h => h.thin (SubL.mem Z.S))⟩
      ·
       refine WL.rd_yes rfl rfl rfl rfl rfl rfl ((by exact Rd.field rfl F44_0 rfl rfl)) ?_
       refine WL.rd_yes rfl rfl rfl rfl rfl rfl (Rd.row1 (b := b4) (off := 0) (u := fnV r1) rfl C40 rfl Z.M rfl) ?_
       refine WL.op_yes rfl rfl rfl rfl ?_
       refine OpW.call rfl rfl Z.E hG.hr rfl rfl rfl ?_
       refine hG.right (o := q.1) (ev := ev) (pv := pv) Z.M Z.M Z.M (hqk (Decidable.not_not.1 hg47)) hnm ?_
       refine WL.rd_yes rfl rfl rfl rfl rfl rfl ((by exact Rd.notd rfl rfl)) ?_
       refine WL.rd rfl rfl rfl (Rd.pick_f rfl rfl rfl) ?_
       refine WL.nil ?_
       exact ⟨by repeat (first | exact Sub.nil | refine Sub.cons rfl (by first | rfl | (exact vb ⟨fun h h2 => h h2.2, fun h h2 => h ⟨Decidable.not_not.1 hg47, h2⟩⟩)) ?_), by exact (fun _ h => h.thin (SubL.mem Z.S))⟩
     ·
      refine WC.ite rfl (fun hc5 => ?_) (fun hc5 => ?_)
      ·
       refine WC.seq ?_
       refine WC.region ?_
       refine WL.rd rfl rfl rfl (Rd.buildN (ps := []) rfl Bs30 I30 rfl Z.E Z.C (by apply NFo.mk; repeat (first | exact NF.nil | apply NF.cons))) ?_
       refine WL.op rfl ?_
       refine OpW.storeS rfl G30 rfl rfl Z.N Z.T rfl rfl Z.N rfl ?_
       refine WL.rd rfl rfl rfl (Rd.assign rfl rfl) ?_
       refine WL.nil ?_
       refine thenQ.normal ?_
       refine WC.heap (R' := SlE encT (.slice none 0 0) ([] : List ET) :: SlE (SL.one vs) (.slice none 0 0) ([] : List (List UInt8)) :: R) (O' := rowC b2 30 zC :: O) (fun w h => by
       have g1 := Sat.nilE (α := List UInt8) (enc := SL.one vs) h
       have g2 := Sat.nilE (α := ET) (enc := encT) g1
       exact Z.Fw g2) ?_
       refine WC.ret (Ret.cellTmp Tryz.results7 rfl rfl Z.M G30 rfl ?_)
       exact hk zOb 2 _ _ _ _ (by
       rw [hfin]
       refine ⟨out31, [], hP, .inr ⟨rfl, ?_⟩⟩
       rw [← hq, if_neg hc5]
       exact ⟨rfl, rfl⟩)
      ·
       refine WC.skip ?_
       refine thenQ.normal ?_
       refine WC.seq ?_
       refine WC.region ?_
       refine WL.rd rfl rfl rfl (Rd.rowS (b := b8) rfl G30 rfl Z.M Z.N rfl) ?_
       refine WL.op rfl ?_
       refine OpW.storeS rfl G30 rfl rfl Z.N Z.T rfl rfl Z.N rfl (h1 := by have h1 := hev.one; have h2 := hpv.one; simp only [List.all_cons, List.all_nil, h1, h2]; rfl) ?_
       refine WL.rd rfl rfl rfl (Rd.assign rfl rfl) ?_
       refine WL.nil ?_
       refine thenQ.normal ?_
       refine WC.heap (R' := SlE encT ev q.1.ents :: SlE (SL.one vs) pv q.1.pars :: R) (O' := rowC b2 30 (obC q.1 ev pv) :: O) Z.F ?_
       refine WC.ret (Ret.cellTmp Tryz.results7 rfl rfl Z.M G30 rfl ?_)
       exact hk q.1 0 _ _ _ _ (by
       rw [hfin]
       refine ⟨out31, [], hP, .inr ⟨rfl, ?_⟩⟩
       rw [← hq, if_pos (Decidable.not_not.1 hc5)]
       exact ⟨rfl, rfl⟩)
end
end Go.Proofs.YtlbdpcadaojcbaaGreatDoor
namespace Go.Proofs.YtlbdpcadaojcbaaGreatDoor
open Go Go.SL Go.RowKit
/-- There are as many texts as the kind wants. -/
def ShapeP (k : Int) (l : List (List UInt8)) : Prop := (k = 1 → l.length = 1) ∧ (k = 2 → l.length % 2 = 0) ∧ (k = 3 → l.length = 5) ∧ (k = 4 → l.length = 3)
instance (k : Int) (l : List (List UInt8)) : Decidable (ShapeP k l) := by unfold ShapeP; infer_instance
theorem small_texts {o : Ob} (hk : 1 ≤ o.kind ∧ o.kind ≤ 4) (hr : RightP o) : Small (texts o) := (texts_le hk hr).1
end Go.Proofs.YtlbdpcadaojcbaaGreatDoor
namespace Go.Proofs.YtlbdpcadaojcbaaGreatDoor
open Go Go.SL Go.RowKit
theorem ob_ext {a b : Ob} (h1 : a.kind = b.kind) (h2 : a.body = b.body) (h3 : a.ents = b.ents) (h4 : a.tree = b.tree) (h5 : a.pars = b.pars) (h6 : a.author = b.author) (h7 : a.text = b.text) (h8 : a.time = b.time) (h9 : a.target = b.target) (h10 : a.name = b.name) : a = b := by
 cases a; cases b; simp only at *; subst h1 h2 h3 h4 h5 h6 h7 h8 h9 h10; rfl
theorem dec_uniq {s : List UInt8} {o o' : Ob} {e e' : Int} (h : DecP s o e) (h' : DecP s o' e') : o = o' ∧ e = e' := by
 unfold DecP at h h'
 split at h
 · rename_i g; rw [if_pos g] at h'; exact ⟨h.1.trans h'.1.symm, h.2.trans h'.2.symm⟩
 · rename_i g; rw [if_neg g] at h'
   split at h
   · rename_i g; rw [if_pos g] at h'; exact ⟨h.1.trans h'.1.symm, h.2.trans h'.2.symm⟩
   · rename_i g; rw [if_neg g] at h'
     split at h
     · rename_i g; rw [if_pos g] at h'; exact ⟨h.1.trans h'.1.symm, h.2.trans h'.2.symm⟩
     · rename_i g; rw [if_neg g] at h'
       obtain ⟨l, r, hP, hc⟩ := h
       obtain ⟨l', r', hP', hc'⟩ := h'
       obtain ⟨j1, s1, _⟩ := hP.join
       obtain ⟨j2, s2, _⟩ := hP'.join
       have st : Stuck r := hc.elim (fun h => .inr h.2.1) (fun h => .inl h.1)
       have st' : Stuck r' := hc'.elim (fun h => .inr h.2.1) (fun h => .inl h.1)
       obtain ⟨rfl, rfl⟩ := join_uniq s1 s2 st st' (j1.symm.trans j2)
       rcases hc with ⟨a1, a2, a3, a4⟩ | ⟨a1, a2⟩
       · rcases hc' with ⟨b1, b2, b3, b4⟩ | ⟨b1, b2⟩
         · exact ⟨a4.trans b4.symm, a3.trans b3.symm⟩
         · exact absurd b1 a1
       · rcases hc' with ⟨b1, b2, b3, b4⟩ | ⟨b1, b2⟩
         · exact absurd a1 b1
         · split at a2
           · rename_i g; rw [if_pos g] at b2; exact ⟨a2.1.trans b2.1.symm, a2.2.trans b2.2.symm⟩
           · rename_i g; rw [if_neg g] at b2; exact ⟨a2.1.trans b2.1.symm, a2.2.trans b2.2.symm⟩
theorem parts_join : ∀ {l : List (List UInt8)} (n : Nat), n ≤ l.length → Small l → Parts (joinE l) (l.take n) (joinE (l.drop n))
 | l, 0, _, _ => .nil
 | l, n + 1, hn, hs => by
   have ih := parts_join (l := l) n Z.W hs
   have ht : l.take (n + 1) = l.take n ++ [l[n]!] := by rw [List.take_add_one, get!_of_lt Z.W]; rfl
   have hm : l[n]!.length ≤ 262144 := by rw [getElem!_pos l n Z.W]; exact hs _ (List.getElem_mem _)
   have hd : joinE (l.drop n) = putE l[n]!.length ++ (l[n]! ++ joinE (l.drop (n + 1))) := by
    rw [List.drop_eq_getElem_cons (show n < l.length by omega), joinE_cons, getElem!_pos l n Z.W, putI_len (by rw [getElem!_pos l n Z.W] at hm; exact hm), List.append_assoc]
   have hx := nextE_put hm (joinE (l.drop (n + 1)))
   rw [← hd] at hx
   have := ih.snoc (by rw [hx])
   rw [hx] at this
   simp only [Int.toNat_natCast] at this
   rw [hd, ← List.append_assoc, ← List.length_append, List.drop_left] at this
   rw [ht]; exact this
theorem chunks_back : ∀ {l : List (List UInt8)}, (∀ x ∈ l, x.length = 32) → chunks l.flatten (l.flatten.length / 32) = l := by
 intro l hl
 have hlen := flatten_len hl
 have hdrop : ∀ (l : List (List UInt8)) (j : Nat), (∀ x ∈ l, x.length = 32) → l.flatten.drop (32 * j) = (l.drop j).flatten := by
  intro l j
  induction l generalizing j with
  | nil => intro _; simp
  | cons a r ih =>
    intro h
    match j with
    | 0 => rfl
    | j + 1 =>
      rw [List.flatten_cons, show 32 * (j + 1) = 32 + 32 * j from by omega, ← List.drop_drop, List.drop_left' (h a List.mem_cons_self), List.drop_succ_cons]
      exact ih j (fun x hx => h x (List.mem_cons_of_mem _ hx))
 rw [hlen, Nat.mul_div_cancel_left _ (by decide)]
 refine List.ext_getElem (chunks_len _ _) (fun j h1 h2 => ?_)
 have e : (chunks l.flatten l.length)[j] = (l.flatten.drop (32 * j)).take 32 := by simp [chunks]
 rw [e, hdrop l j hl, List.drop_eq_getElem_cons h2, List.flatten_cons, List.take_left' (hl _ (List.getElem_mem _))]
theorem pairs_at : ∀ (l : List ET) (j : Nat), j < l.length → (l.flatMap (fun x => [x.1, x.2]))[2 * j]? = some l[j]!.1 ∧ (l.flatMap (fun x => [x.1, x.2]))[2 * j + 1]? = some l[j]!.2
 | [], _, h => absurd h (Nat.not_lt_zero _)
 | c :: x, 0, _ => ⟨rfl, rfl⟩
 | c :: x, j + 1, h => by
   have := pairs_at x j (by rw [List.length_cons] at h; omega)
   rw [List.flatMap_cons, show 2 * (j + 1) = 2 * j + 1 + 1 from by omega]
   exact this
theorem pairs_back (l : List ET) : pairsE (l.flatMap fun x => [x.1, x.2]) ((l.flatMap fun x => [x.1, x.2]).length / 2) = l := by
 rw [flat_two_len, Nat.mul_div_cancel_left _ (by decide)]
 refine List.ext_getElem (pairs_len _ _) (fun j h1 h2 => ?_)
 obtain ⟨a, b⟩ := pairs_at l j h2
 have e : (pairsE (l.flatMap fun x => [x.1, x.2]) l.length)[j] = ((l.flatMap fun x => [x.1, x.2])[2 * j]!, (l.flatMap fun x => [x.1, x.2])[2 * j + 1]!) := by simp [pairsE]
 rw [e, List.getElem!_eq_getElem?_getD, List.getElem!_eq_getElem?_getD, a, b, getElem!_pos l j h2]
 rfl
theorem ob_back {o : Ob} (hk : 1 ≤ o.kind ∧ o.kind ≤ 4) (hr : RightP o) : obOf o.kind (texts o) = (o, true) := by
 obtain ⟨⟨b1, b2, b3, b4, b5⟩, h1, h2, h3, h4⟩ := hr
 unfold obOf texts
 split
 · rename_i e
   obtain ⟨c1, c2, c3, c4⟩ := b3 Z.W
   obtain ⟨d1, d2⟩ := b4 Z.W
   unfold blobO
   rw [if_neg (fun h => h rfl)]
   exact Prod.ext (ob_ext e.symm rfl (b2 Z.W).symm c1.symm c2.symm c3.symm (b5 Z.W).symm c4.symm d1.symm d2.symm) rfl
 · rename_i e1
   split
   · rename_i e
     obtain ⟨c1, c2, c3, c4⟩ := b3 Z.W
     obtain ⟨d1, d2⟩ := b4 Z.W
     unfold treeO
     rw [pairs_back, decide_eq_true (by rw [flat_two_len]; omega)]
     exact Prod.ext (ob_ext e.symm (b1 Z.W).symm rfl c1.symm c2.symm c3.symm (b5 Z.W).symm c4.symm d1.symm d2.symm) rfl
   · rename_i e2
     split
     · rename_i e
       obtain ⟨d1, d2⟩ := b4 Z.W
       obtain ⟨g1, g2, g3, g4, g5, g6, g7⟩ := h3 e
       have h32 := pars32 g1
       have hfl := flatten_len h32
       obtain ⟨n, hn⟩ : ∃ n : Nat, o.time = (n : Int) := ⟨o.time.toNat, by omega⟩
       have hnb : n ≤ 1099511627776 := by omega
       have hg := getE_put hnb []
       rw [List.append_nil] at hg
       have hpl := putE_length n
       have hpi : putI o.time = putE n := by rw [hn, putI_nat hnb]
       unfold commitO commitOb
       show (if ([o.tree, o.pars.flatten, o.author, o.text, putI o.time] : List (List UInt8)).length ≠ 5 ∨ o.pars.flatten.length % 32 ≠ 0 then (zOb, false) else (({ zOb with kind := 3, tree := o.tree, pars := chunks o.pars.flatten (o.pars.flatten.length / 32), author := o.author, text := o.text, time := (getE (putI o.time)).1 } : Ob), decide ((getE (putI o.time)).2.2 = 0 ∧ (getE (putI o.time)).2.1 = ((putI o.time).length : Int)))) = (o, true)
       rw [if_neg (by rw [hfl]; simp), chunks_back h32, hpi, hg, decide_eq_true ⟨rfl, by rw [hpl]; show (more n : Int) + 1 = _; omega⟩]
       exact Prod.ext (ob_ext e.symm (b1 Z.W).symm (b2 Z.W).symm rfl rfl rfl rfl hn.symm d1.symm d2.symm) rfl
     · rename_i e3
       obtain ⟨c1, c2, c3, c4⟩ := b3 Z.W
       unfold tagO
       rw [if_neg (fun h => h rfl)]
       exact Prod.ext (ob_ext (show (4 : Int) = o.kind by omega) (b1 Z.W).symm (b2 Z.W).symm c1.symm c2.symm c3.symm rfl c4.symm rfl rfl) rfl
theorem enc_ok {o : Ob} (h : (encE o).2 = 0) : (1 ≤ o.kind ∧ o.kind ≤ 4) ∧ RightP o ∧ (encE o).1 = encB o ∧ (encB o).length ≤ 262208 := by
 unfold encE at h ⊢
 split at h
 · exact absurd h (by decide)
 · rename_i g1
   split at h
   · exact absurd h (by decide)
   · rename_i g2
     split at h
     · exact absurd h (by decide)
     · rename_i g3
       rw [if_neg g1, if_neg g2, if_neg g3]
       exact ⟨by omega, Decidable.not_not.1 g2, rfl, by omega⟩
theorem enc_dec {o : Ob} (h : (encE o).2 = 0) : DecP (encE o).1 o 0 := by
 obtain ⟨hk, hr, he, hl⟩ := enc_ok h
 rw [he]
 have hko : kOf (encB o) = o.kind := by
  show ((UInt8.ofNat o.kind.toNat).toNat : Int) = _
  rw [UInt8.toNat_ofNat']; omega
 have hne : encB o ≠ [] := by unfold encB; simp
 have hsm := small_texts hk hr
 have hP := parts_join (texts o).length (Nat.le_refl _) hsm
 rw [List.take_length, List.drop_length] at hP
 unfold DecP
 rw [if_neg hne, hko, if_neg (fun h => h hk), if_neg Z.W]
 refine ⟨texts o, [], hP, .inr ⟨rfl, ?_⟩⟩
 rw [ob_back hk hr, if_pos ⟨rfl, hr⟩]
 exact ⟨rfl, rfl⟩
end Go.Proofs.YtlbdpcadaojcbaaGreatDoor
namespace Go.Proofs.YtlbdpcadaojcbaaGreatDoor
open Go Go.SL
abbrev vw (n : Nat) : Value := .int .u32 (n : Int)
def rotr (x n : Nat) : Nat := (x * 2 ^ (32 - n) % 2 ^ 32) ||| (x / 2 ^ n)
def ad (a b : Nat) : Nat := (a + b) % 4294967296
theorem ad_lt (a b : Nat) : ad a b < 2 ^ 32 := Nat.mod_lt _ (by decide)
theorem rotr_lt {x : Nat} (h : x < 2 ^ 32) (n : Nat) : rotr x n < 2 ^ 32 := Nat.or_lt_two_pow (Nat.mod_lt _ (by decide)) (Nat.lt_of_le_of_lt (Nat.div_le_self _ _) h)
theorem wrap_ad (a b : Nat) : IntKind.u32.wrap ((a : Int) + b) = ((ad a b : Nat) : Int) := by
 rw [ad]; simp only [IntKind.wrap, IntKind.signed, IntKind.bits, Bool.false_and, Bool.false_eq_true, if_false]; omega
theorem _root_.Go.SL.Rd.add32 {P : Program} {o : Oper} {L : Env} {R : List RO} {O : List Own} {t t' : TypeId} {x y : Operand} {a b : Nat} (ho : o.op = .binOp .add t x y t') (hx : ev L x = some (vw a)) (hy : ev L y = some (vw b)) : Rd P o L R O (vw (ad a b)) :=
 Rd.addk ho hx hy (wrap_ad a b)
theorem and31 (n : Nat) (h : 0 < n ∧ n < 32) : (18446744073709551616 - n) &&& 31 = 32 - n := by
 rw [show (31 : Nat) = 2 ^ 5 - 1 from rfl, Nat.and_two_pow_sub_one_eq_mod]; omega
set_option maxRecDepth 20000 in
theorem rotl_spec {R : List RO} {O : List Own} {POST : Value → List RO → List Own → Prop} {x n : Nat} (hx : x < 2 ^ 32) (hn : 0 < n ∧ n < 32)
 (hk : POST (vw (rotr x n)) R O) : Fun Tryz.prog 152 #[vw x, .int .i64 (-(n : Int))] R O POST := by
 refine Fun.enter (l := [_, _]) Tryz.func152 rfl Tryz.ntmps152 rfl (L0 := [(0, _), (1, _)]) rfl ?_
 refine WC.seq ?_
 refine WC.region ?_
 refine WL.rd rfl rfl rfl (Rd.assign rfl rfl) ?_
 refine WL.nil ?_
 refine thenQ.normal ?_
 refine WC.seq ?_
 refine WC.region ?_
 refine WL.rd rfl rfl rfl (Rd.move rfl rfl) ?_
 refine WL.rd rfl rfl rfl (Rd.convw rfl rfl Tryz.underlying135 (hS := Tryz.underlying3)) ?_
 refine WL.say 7 (u := .int .u64 ((18446744073709551616 - n : Nat) : Int)) rfl (by congr 1; simp only [IntKind.wrap, IntKind.signed, IntKind.bits, Bool.false_and, Bool.false_eq_true, if_false]; omega) ?_
 refine WL.rd rfl rfl rfl (Rd.andU (b := 31) rfl rfl rfl rfl rfl rfl (show _ < 18446744073709551616 by omega) (by decide)) ?_
 refine WL.say 8 (u := .int .u64 ((32 - n : Nat) : Int)) rfl (by rw [and31 n hn]) ?_
 refine WL.rd rfl rfl rfl (Rd.assign rfl rfl) ?_
 refine WL.nil ?_
 refine thenQ.normal ?_
 refine WC.seq ?_
 refine WC.region ?_
 refine WL.rd rfl rfl rfl (Rd.move rfl rfl) ?_
 refine WL.rd rfl rfl rfl (Rd.move rfl rfl) ?_
 refine WL.rd rfl rfl rfl (Rd.shl32 (a := x) (m := 32 - n) rfl rfl rfl rfl rfl Z.W) ?_
 refine WL.rd rfl rfl rfl (Rd.move rfl rfl) ?_
 refine WL.rd rfl rfl rfl (Rd.move rfl rfl) ?_
 refine WL.rd rfl rfl rfl (Rd.subk (r := (n : Int)) rfl rfl rfl (by rw [wrap_u64 Z.W]; omega)) ?_
 refine WL.rd rfl rfl rfl (Rd.shrN (a := x) (n := n) rfl rfl rfl rfl rfl (by show n ≤ 32; omega)) ?_
 refine WL.rd rfl rfl rfl (Rd.orU rfl rfl rfl rfl rfl rfl (Nat.mod_lt _ (by decide)) (Nat.lt_of_le_of_lt (Nat.div_le_self _ _) hx)) ?_
 refine WL.rd rfl rfl rfl (Rd.assign rfl rfl) ?_
 refine WL.nil ?_
 refine thenQ.normal ?_
 refine WC.ret (Ret.one Tryz.results152 rfl ?_)
 exact hk
set_option maxRecDepth 20000 in
theorem right_spec {R : List RO} {O : List Own} {POST : Value → List RO → List Own → Prop} {x n : Nat} (hx : x < 2 ^ 32) (hn : 0 < n ∧ n < 32)
 (hk : POST (vw (rotr x n)) R O) : Fun Tryz.prog 108 #[vw x, .int .i64 (n : Int)] R O POST := by
 refine Fun.enter (l := [_, _]) Tryz.func108 rfl Tryz.ntmps108 rfl (L0 := [(0, _), (1, _)]) rfl ?_
 refine WC.seq ?_
 refine WC.region ?_
 refine WL.rd rfl rfl rfl (Rd.assign rfl rfl) ?_
 refine WL.nil ?_
 refine thenQ.normal ?_
 refine WC.seq ?_
 refine WC.region ?_
 refine WL.rd rfl rfl rfl (Rd.move rfl rfl) ?_
 refine WL.rd rfl rfl rfl (Rd.move rfl rfl) ?_
 refine WL.rd rfl rfl rfl (Rd.neg rfl rfl Z.W) ?_
 refine WL.op rfl ?_
 refine OpW.call rfl rfl Z.E Z.K rfl rfl rfl ?_
 refine rotl_spec hx hn ?_
 refine WL.rd rfl rfl rfl (Rd.assign rfl rfl) ?_
 refine WL.nil ?_
 refine thenQ.normal ?_
 refine WC.ret (Ret.one Tryz.results108 rfl ?_)
 exact hk
def sg0 (x : Nat) : Nat := rotr x 7 ^^^ rotr x 18 ^^^ x / 2 ^ 3
def sg1 (x : Nat) : Nat := rotr x 17 ^^^ rotr x 19 ^^^ x / 2 ^ 10
theorem sh_lt {x : Nat} (h : x < 2 ^ 32) (n : Nat) : x / 2 ^ n < 2 ^ 32 := Nat.lt_of_le_of_lt (Nat.div_le_self _ _) h
/-- Bytes of a block, from place p on, as a number. -/
def wordK (s : List UInt8) (p : Nat) : Nat → Nat
 | 0 => 0
 | k + 1 => wordK s p k * 256 + s[p + k]!.toNat
theorem wordK_lt (s : List UInt8) (p : Nat) : ∀ k, wordK s p k < 256 ^ k
 | 0 => by rw [wordK]; decide
 | k + 1 => by
   have h := wordK_lt s p k
   have hc := UInt8.toNat_lt s[p + k]!
   rw [wordK, Nat.pow_succ]; omega
def mixW (w : List Nat) (i : Nat) : Nat := ad (ad (ad w[i - 16]! w[i - 7]!) (sg0 w[i - 15]!)) (sg1 w[i - 2]!)
def sched (s : List UInt8) : Nat → List Nat
 | 0 => []
 | i + 1 => sched s i ++ [if i < 16 then wordK s (4 * i) 4 else mixW (sched s i) i]
theorem vw_one {l : List Nat} : ((l.map vw).all Value.oneCell') = true := by
 rw [List.all_eq_true]; intro x hx; obtain ⟨n, _, rfl⟩ := List.mem_map.1 hx; rfl
theorem sched_length (s : List UInt8) : ∀ i, (sched s i).length = i
 | 0 => rfl
 | i + 1 => by rw [sched, List.length_append, sched_length s i]; rfl
theorem sched_lt (s : List UInt8) : ∀ i, ∀ x ∈ sched s i, x < 2 ^ 32
 | 0, x, h => by cases h
 | i + 1, x, h => by
   rw [sched] at h
   rcases List.mem_append.1 h with h | h
   · exact sched_lt s i x h
   · simp only [List.mem_singleton] at h
     subst h
     split
     · exact Nat.lt_of_lt_of_le (wordK_lt s _ 4) (by decide)
     · exact ad_lt _ _
theorem sched_get_lt (s : List UInt8) {i j : Nat} (h : j < i) : (sched s i)[j]! < 2 ^ 32 := by
 rw [getElem!_pos _ _ (by rw [sched_length]; exact h)]; exact sched_lt s i _ (List.getElem_mem _)
/-- The cells of the words when i of them are there; n stands in place i. -/
def wrow (s : List UInt8) (i : Nat) : List Value := (sched s i).map vw ++ List.replicate (64 - i) (vw 0)
theorem wrow_set {s : List UInt8} {i n : Nat} (h : i < 64) : (wrow s i).set i (vw n) = (sched s i).map vw ++ vw n :: List.replicate (63 - i) (vw 0) := by
 rw [wrow, List.set_append_right _ _ (by rw [List.length_map, sched_length]; exact Nat.le_refl _), List.length_map, sched_length, Nat.sub_self, show 64 - i = (63 - i) + 1 from by omega, List.replicate_succ]; rfl
theorem wrow_done {s : List UInt8} {i n : Nat} (h : i < 64) (hn : n = if i < 16 then wordK s (4 * i) 4 else mixW (sched s i) i) : (sched s i).map vw ++ vw n :: List.replicate (63 - i) (vw 0) = wrow s (i + 1) := by
 rw [wrow, sched, List.map_append, ← hn, show 64 - (i + 1) = 63 - i from by omega, List.append_assoc]; rfl
theorem wrow_cons {s : List UInt8} {i : Nat} (h : i < 64) : wrow s i = (sched s i).map vw ++ vw (wordK s (4 * i) 0) :: List.replicate (63 - i) (vw 0) := by
 rw [wrow, show 64 - i = (63 - i) + 1 from by omega, List.replicate_succ]; rfl
theorem sched_cell (s : List UInt8) {i j : Nat} (h : j < i) : ((sched s i).map vw)[j]? = some (vw (sched s i)[j]!) := by
 rw [List.getElem?_map, get!_of_lt (by rw [sched_length]; exact h)]; rfl
theorem mid_get {α : Type} (x : List α) (y : α) (z : List α) {k : Nat} (h : x.length = k) : (x ++ y :: z)[k]? = some y := by subst h; rw [List.getElem?_append_right (Nat.le_refl _), Nat.sub_self]; rfl
theorem mid_set {α : Type} (x : List α) (y v : α) (z : List α) {k : Nat} (h : x.length = k) : (x ++ y :: z).set k v = x ++ v :: z := by subst h; rw [List.set_append_right _ _ (Nat.le_refl _), Nat.sub_self]; rfl
theorem or_byte {a : Nat} (ha : a < 256 ^ 3) (c : UInt8) : (a * 2 ^ 8 % 2 ^ 32) ||| c.toNat = a * 256 + c.toNat := by
 rw [Nat.mod_eq_of_lt Z.W, Nat.mul_comm a, ← Nat.two_pow_add_eq_or_of_lt (UInt8.toNat_lt c)]
set_option maxRecDepth 20000 in
set_option maxHeartbeats 4000000 in
theorem words_spec {R : List RO} {O : List Own} {POST : Value → List RO → List Own → Prop} {s : List UInt8} (hs : s.length = 64)
 (hk : POST (.agg ((sched s 64).map vw).toArray) R O) : Fun Tryz.prog 107 #[vs s] R O POST := by
 refine Fun.thin (post' := fun v R' O' => v = .agg ((sched s 64).map vw).toArray ∧ R' = R ∧ ∃ b, O' = rowC b 193 ((sched s 64).map vw) :: O) ?_ (by rintro v R' O' ⟨rfl, rfl, b, rfl⟩; exact ⟨_, O, hk, fun w h => h.drop⟩)
 refine Fun.enter (l := [_]) Tryz.func107 rfl Tryz.ntmps107 rfl (L0 := [(0, _)]) rfl ?_
 refine WC.seq ?_
 refine WC.region ?_
 refine WL.op rfl ?_
 refine OpW.alloc rfl I193 rfl Z.N rfl rfl ?_; intro b2
 refine WL.nil ?_
 refine thenQ.normal ?_
 refine WC.seq ?_
 refine WC.region ?_
 refine WL.op rfl ?_
 refine OpW.alloc rfl I193 rfl Z.N rfl rfl ?_; intro b3
 refine WL.nil ?_
 refine thenQ.normal ?_
 refine WC.seq ?_
 refine WC.seq ?_
 refine WC.region ?_
 refine WL.rd rfl rfl rfl (Rd.move rfl rfl) ?_
 refine WL.nil ?_
 refine thenQ.normal ?_
 refine WC.block ?_
 refine WC.pick [9, 0, 2, 3] Z.P ?_
 refine WC.loop1 1 (fun (i : Nat) => [(9, .int .i64 (i : Int))]) (fun (i : Nat) => rowC b3 193 (wrow s i) :: rowC b2 193 (List.replicate 64 (vw 0)) :: O) (fun (i : Nat) => i ≤ 16) (fun (i : Nat) => 16 - i) (0) Z.L ?hinv1 (by repeat (first | exact Sub.nil | refine Sub.cons rfl (by rfl) ?_)) (fun _ h => h) ?_
 case hinv1 =>
  exact Nat.zero_le _
 intro i
 rintro i1
 refine WC.seq ?_
 refine WC.region ?_
 refine WL.rd rfl rfl rfl (Rd.lss rfl rfl rfl) ?_
 refine WL.nil ?_
 refine thenQ.normal ?_
 refine WC.seq ?_
 refine WC.ite rfl (fun hc1 => ?_) (fun hc1 => ?_)
 ·
  refine WC.heap (fun w h => by rw [wrow_cons Z.W] at h; exact h) ?_
  refine WC.skip ?_
  refine thenQ.normal ?_
  refine WC.seq ?_
  refine WC.block ?_
  refine WC.seq ?_
  refine WC.region ?_
  refine WL.rd rfl rfl rfl (Rd.move rfl rfl) ?_
  refine WL.rd rfl rfl rfl (Rd.assign rfl rfl) ?_
  refine WL.nil ?_
  refine thenQ.normal ?_
  refine WC.seq ?_
  refine WC.region ?_
  refine WL.rd rfl rfl rfl (Rd.move rfl rfl) ?_
  refine WL.nil ?_
  refine thenQ.normal ?_
  refine WC.block ?_
  refine WC.pick [12, 0, 2, 3, 4, 9] Z.P ?_
  refine WC.loop1 1 (fun (k : Nat) => [(12, .int .i64 (k : Int))]) (fun (k : Nat) => rowC b3 193 ((sched s i).map vw ++ vw (wordK s (4 * i) k) :: List.replicate (63 - i) (vw 0)) :: rowC b2 193 (List.replicate 64 (vw 0)) :: O) (fun (k : Nat) => k ≤ 4) (fun (k : Nat) => 4 - k) (0) Z.L ?hinv2 (by repeat (first | exact Sub.nil | refine Sub.cons rfl (by rfl) ?_)) (fun _ h => h) ?_
  case hinv2 =>
   exact Nat.zero_le _
  intro k
  rintro k1
  refine WC.seq ?_
  refine WC.region ?_
  refine WL.rd rfl rfl rfl (Rd.lss rfl rfl rfl) ?_
  refine WL.nil ?_
  refine thenQ.normal ?_
  refine WC.seq ?_
  refine WC.ite rfl (fun hc2 => ?_) (fun hc2 => ?_)
  ·
   have hw := wordK_lt s (4 * i) k
   have hw3 : wordK s (4 * i) k < 256 ^ 3 := Nat.lt_of_lt_of_le hw (Nat.pow_le_pow_right (by decide) Z.W)
   have hml : ((sched s i).map vw).length = i := by rw [List.length_map, sched_length]
   have hcl : ((sched s i).map vw ++ vw (wordK s (4 * i) k) :: List.replicate (63 - i) (vw 0)).length = 64 := by rw [List.length_append, hml, List.length_cons, List.length_replicate]; omega
   have hc : s[4 * i + k]!.toNat < 2 ^ 32 := Nat.lt_trans (UInt8.toNat_lt _) (by decide)
   refine WC.skip ?_
   refine thenQ.normal ?_
   refine WC.seq ?_
   refine WC.block ?_
   refine WC.seq ?_
   refine WC.region ?_
   refine WL.rd rfl rfl rfl (Rd.move rfl rfl) ?_
   refine WL.rd rfl rfl rfl (Rd.assign rfl rfl) ?_
   refine WL.nil ?_
   refine thenQ.normal ?_
   refine WC.tail 14 mixed Z.K ?_
   refine WS.rd rfl rfl rfl (Rd.move rfl rfl) ?_
   refine WS.rd rfl rfl rfl (Rd.move rfl rfl) ?_
   refine WS.rd rfl rfl rfl ((by exact Rd.idxArr1 (k := i) rfl A193 rfl rfl Z.W Z.W)) ?_
   refine WS.rd rfl rfl rfl (Rd.row1 rfl C79 rfl Z.M (mid_get _ _ _ hml)) ?_
   refine WS.rd rfl rfl rfl (Rd.shl32 (a := wordK s (4 * i) k) (m := 8) rfl rfl rfl rfl rfl (by decide)) ?_
   refine WS.rd rfl rfl rfl (Rd.move rfl rfl) ?_
   refine WS.rd rfl rfl rfl (Rd.move rfl rfl) ?_
   refine WS.rd rfl rfl rfl (Rd.mul rfl rfl rfl Z.W) ?_
   refine WS.rd rfl rfl rfl (Rd.move rfl rfl) ?_
   refine WS.rd rfl rfl rfl (Rd.add rfl rfl rfl Z.W) ?_
   refine WS.rd rfl rfl rfl (Rd.sidx (k := 4 * i + k) rfl Tryz.underlying9 rfl rfl Z.W (by exact get!_of_lt Z.W)) ?_
   refine WS.rd rfl rfl rfl (Rd.conv rfl rfl Tryz.underlying79 (wrap_natU rfl hc) (hS := Tryz.underlying5)) ?_
   refine WS.rd rfl rfl rfl (Rd.orU rfl rfl rfl rfl rfl rfl (Nat.mod_lt _ (by decide)) hc) ?_
   refine WS.say 27 (u := vw (wordK s (4 * i) (k + 1))) rfl (by rw [or_byte hw3]; rfl) ?_
   refine WS.rd rfl rfl rfl ((by exact Rd.idxArr1 (k := i) rfl A193 rfl rfl Z.W Z.W)) ?_
   refine WS.switch ?_
   refine WL.op rfl ?_
   refine OpW.store1 rfl Z79 rfl rfl (by exact ⟨rfl, rfl⟩) Z.T Z.W rfl ?_
   refine WL.heap (fun w h => by rw [mid_set _ _ _ _ hml] at h; exact h) ?_
   refine WL.nil ?_
   refine blockQ.normal ?_
   refine thenQ.normal ?_
   refine WC.region ?_
   refine WL.rd rfl rfl rfl (Rd.add rfl rfl rfl Z.W) ?_
   refine WL.rd rfl rfl rfl (Rd.move rfl rfl) ?_
   refine WL.nil ?_
   exact loopQ1.mk (k + 1) Z.W Z.W (by repeat (first | exact Sub.nil | refine Sub.cons rfl (by rfl) ?_)) Z.F
  ·
   refine WC.exit ?_
   refine thenQ.exit ?_
   refine loopQ1.exit ?_
   refine blockQ.exit ?_
   refine blockQ.normal ?_
   refine thenQ.normal ?_
   refine WC.region ?_
   refine WL.rd rfl rfl rfl (Rd.add rfl rfl rfl Z.W) ?_
   refine WL.rd rfl rfl rfl (Rd.move rfl rfl) ?_
   refine WL.nil ?_
   obtain rfl : k = 4 := by omega
   exact loopQ1.mk (i + 1) Z.W Z.W (by repeat (first | exact Sub.nil | refine Sub.cons rfl (by rfl) ?_)) (fun w h => by rw [← wrow_done (n := wordK s (4 * i) 4) Z.W (by rw [if_pos Z.W])]; exact Z.Fw h)
 ·
  refine WC.exit ?_
  refine thenQ.exit ?_
  refine loopQ1.exit ?_
  refine blockQ.exit ?_
  refine thenQ.normal ?_
  refine WC.seq ?_
  refine WC.seq ?_
  refine WC.region ?_
  refine WL.rd rfl rfl rfl (Rd.assign rfl rfl) ?_
  refine WL.nil ?_
  refine thenQ.normal ?_
  refine WC.block ?_
  refine WC.pick [6, 2, 3] Z.P ?_
  refine WC.loop1 1 (fun (j : Nat) => [(6, .int .i64 (j : Int))]) (fun (j : Nat) => rowC b3 193 (wrow s j) :: rowC b2 193 (List.replicate 64 (vw 0)) :: O) (fun (j : Nat) => 16 ≤ j ∧ j ≤ 64) (fun (j : Nat) => 64 - j) (16) Z.L ?hinv3 (by repeat (first | exact Sub.nil | refine Sub.cons rfl (by rfl) ?_)) (fun w h => by
  obtain rfl : i = 16 := by omega
  exact Z.Fw h) ?_
  case hinv3 =>
   exact ⟨Nat.le_refl _, by omega⟩
  intro j
  rintro ⟨j1, j2⟩
  refine WC.seq ?_
  refine WC.seq ?_
  refine WC.region ?_
  refine WL.rd rfl rfl rfl (Rd.move rfl rfl) ?_
  refine WL.rd rfl rfl rfl (Rd.lss rfl rfl rfl) ?_
  refine WL.nil ?_
  refine thenQ.normal ?_
  refine WC.ite rfl (fun hc3 => ?_) (fun hc3 => ?_)
  ·
   have g15 := sched_get_lt s (i := j) (j := j - 15) Z.W
   have g2 := sched_get_lt s (i := j) (j := j - 2) Z.W
   have hml : ((sched s j).map vw).length = j := by rw [List.length_map, sched_length]
   have hwl : (wrow s j).length = 64 := by rw [wrow, List.length_append, hml, List.length_replicate]; omega
   refine WC.skip ?_
   refine thenQ.normal ?_
   refine WC.seq ?_
   refine WC.block ?_
   refine WC.seq ?_
   refine WC.still mixed Z.K ?_
   refine WA.rd rfl rfl rfl (Rd.move rfl rfl) ?_
   refine WA.rd rfl rfl rfl (Rd.sub rfl rfl rfl Z.W) ?_
   refine WA.rd rfl rfl rfl ((by exact Rd.idxArr1 (k := j - 15) rfl A193 rfl rfl Z.W Z.W)) ?_
   refine WA.rd rfl rfl rfl (Rd.row1 rfl C79 rfl Z.M (pref_app _ _ (sched_cell s Z.W))) ?_
   refine WA.rd rfl rfl rfl (Rd.move rfl rfl) ?_
   refine WA.rd rfl rfl rfl (Rd.sub rfl rfl rfl Z.W) ?_
   refine WA.rd rfl rfl rfl ((by exact Rd.idxArr1 (k := j - 2) rfl A193 rfl rfl Z.W Z.W)) ?_
   refine WA.rd rfl rfl rfl (Rd.row1 rfl C79 rfl Z.M (pref_app _ _ (sched_cell s Z.W))) ?_
   refine WA.rd rfl rfl rfl (Rd.assign rfl rfl) ?_
   refine WA.rd rfl rfl rfl (Rd.assign rfl rfl) ?_
   refine WA.nil ?_
   refine thenQ.normal ?_
   refine WC.drawn (prefC b3 ((sched s j).map vw) :: rowC b2 193 (List.replicate 64 (vw 0)) :: O) 30 rfl mixed ?_
   refine WD.take 0 rfl Z.K (by exact Held.see Z.S Z.T (row_pref pref_app) Z.O) rfl rfl rfl (Rd.move rfl rfl) ?_
   refine WD.take 1 rfl Z.K (by exact Held.see Z.S Z.T (row_pref pref_app) Z.O) rfl rfl rfl (Rd.move rfl rfl) ?_
   refine WD.take 2 rfl Z.K (by exact Held.see Z.S Z.T (row_pref pref_app) Z.O) rfl rfl rfl (Rd.sub rfl rfl rfl Z.W) ?_
   refine WD.take 3 rfl Z.K (by exact Held.see Z.S Z.T (row_pref pref_app) Z.O) rfl rfl rfl ((by exact Rd.idxArr1 (k := j - 16) rfl A193 rfl rfl Z.W Z.W)) ?_
   refine WD.take 4 rfl Z.K (by exact Held.see Z.S Z.T (row_pref pref_app) Z.O) rfl rfl rfl (Rd.pref rfl C79 rfl Z.M (sched_cell s Z.W)) ?_
   refine WD.take 5 rfl Z.K (by exact Held.see Z.S Z.T (row_pref pref_app) Z.O) rfl rfl rfl (Rd.move rfl rfl) ?_
   refine WD.take 6 rfl Z.K (by exact Held.see Z.S Z.T (row_pref pref_app) Z.O) rfl rfl rfl (Rd.sub rfl rfl rfl Z.W) ?_
   refine WD.take 7 rfl Z.K (by exact Held.see Z.S Z.T (row_pref pref_app) Z.O) rfl rfl rfl ((by exact Rd.idxArr1 (k := j - 7) rfl A193 rfl rfl Z.W Z.W)) ?_
   refine WD.take 8 rfl Z.K (by exact Held.see Z.S Z.T (row_pref pref_app) Z.O) rfl rfl rfl (Rd.pref rfl C79 rfl Z.M (sched_cell s Z.W)) ?_
   refine WD.take 9 rfl Z.K (by exact Held.see Z.S Z.T (row_pref pref_app) Z.O) rfl rfl rfl (Rd.add32 rfl rfl rfl) ?_
   refine WD.take 10 rfl Z.K (by exact Held.see Z.S Z.T (row_pref pref_app) Z.O) rfl rfl rfl (Rd.move rfl rfl) ?_
   refine WD.take 12 rfl Z.K (by exact Held.see Z.S Z.T (row_pref pref_app) Z.O) rfl rfl rfl (Rd.move rfl rfl) ?_
   refine WD.take 15 rfl Z.K (by exact Held.see Z.S Z.T (row_pref pref_app) Z.O) rfl rfl rfl (Rd.move rfl rfl) ?_
   refine WD.take 16 rfl Z.K (by exact Held.see Z.S Z.T (row_pref pref_app) Z.O) rfl rfl rfl (Rd.shrN (a := (sched s j)[j - 15]!) (n := 3) rfl rfl rfl rfl rfl (by decide)) ?_
   refine WD.take 19 rfl Z.K (by exact Held.see Z.S Z.T (row_pref pref_app) Z.O) rfl rfl rfl (Rd.move rfl rfl) ?_
   refine WD.take 21 rfl Z.K (by exact Held.see Z.S Z.T (row_pref pref_app) Z.O) rfl rfl rfl (Rd.move rfl rfl) ?_
   refine WD.take 24 rfl Z.K (by exact Held.see Z.S Z.T (row_pref pref_app) Z.O) rfl rfl rfl (Rd.move rfl rfl) ?_
   refine WD.take 25 rfl Z.K (by exact Held.see Z.S Z.T (row_pref pref_app) Z.O) rfl rfl rfl (Rd.shrN (a := (sched s j)[j - 2]!) (n := 10) rfl rfl rfl rfl rfl (by decide)) ?_
   refine WD.one 11 rfl Z.K rfl ?_
   refine OpW.call rfl rfl Z.E Z.K rfl rfl rfl ?_
   refine right_spec g15 (by decide) ?_
   refine ⟨(by exact Held.see Z.S Z.T (row_pref pref_app) Z.O), ?_⟩
   refine WD.one 13 rfl Z.K rfl ?_
   refine OpW.call rfl rfl Z.E Z.K rfl rfl rfl ?_
   refine right_spec g15 (by decide) ?_
   refine ⟨(by exact Held.see Z.S Z.T (row_pref pref_app) Z.O), ?_⟩
   refine WD.take 14 rfl Z.K (by exact Held.see Z.S Z.T (row_pref pref_app) Z.O) rfl rfl rfl (Rd.xorU rfl rfl rfl rfl rfl rfl (rotr_lt g15 _) (rotr_lt g15 _)) ?_
   refine WD.take 17 rfl Z.K (by exact Held.see Z.S Z.T (row_pref pref_app) Z.O) rfl rfl rfl (Rd.xorU rfl rfl rfl rfl rfl rfl (Nat.xor_lt_two_pow (rotr_lt g15 _) (rotr_lt g15 _)) (sh_lt g15 _)) ?_
   refine WD.take 18 rfl Z.K (by exact Held.see Z.S Z.T (row_pref pref_app) Z.O) rfl rfl rfl (Rd.add32 rfl rfl rfl) ?_
   refine WD.one 20 rfl Z.K rfl ?_
   refine OpW.call rfl rfl Z.E Z.K rfl rfl rfl ?_
   refine right_spec g2 (by decide) ?_
   refine ⟨(by exact Held.see Z.S Z.T (row_pref pref_app) Z.O), ?_⟩
   refine WD.one 22 rfl Z.K rfl ?_
   refine OpW.call rfl rfl Z.E Z.K rfl rfl rfl ?_
   refine right_spec g2 (by decide) ?_
   refine ⟨(by exact Held.see Z.S Z.T (row_pref pref_app) Z.O), ?_⟩
   refine WD.take 23 rfl Z.K (by exact Held.see Z.S Z.T (row_pref pref_app) Z.O) rfl rfl rfl (Rd.xorU rfl rfl rfl rfl rfl rfl (rotr_lt g2 _) (rotr_lt g2 _)) ?_
   refine WD.take 26 rfl Z.K (by exact Held.see Z.S Z.T (row_pref pref_app) Z.O) rfl rfl rfl (Rd.xorU rfl rfl rfl rfl rfl rfl (Nat.xor_lt_two_pow (rotr_lt g2 _) (rotr_lt g2 _)) (sh_lt g2 _)) ?_
   refine WD.take 27 rfl Z.K (by exact Held.see Z.S Z.T (row_pref pref_app) Z.O) rfl rfl rfl (Rd.add32 rfl rfl rfl) ?_
   refine WD.take 28 rfl Z.K (by exact Held.see Z.S Z.T (row_pref pref_app) Z.O) rfl rfl rfl ((by exact Rd.idxArr1 (k := j) rfl A193 rfl rfl Z.W Z.W)) ?_
   refine WD.one 29 rfl Z.K rfl ?_
   refine OpW.store1 rfl Z79 rfl rfl (by exact ⟨rfl, rfl⟩) Z.T Z.W rfl ?_
   refine ⟨(by exact Held.see Z.S Z.T (row_pref (pref_set Z.W)) Z.O), ?_⟩
   refine WD.done Z.K ?_
   refine blockQ.normal ?_
   refine thenQ.normal ?_
   refine WC.region ?_
   refine WL.rd rfl rfl rfl (Rd.move rfl rfl) ?_
   refine WL.rd rfl rfl rfl (Rd.add rfl rfl rfl Z.W) ?_
   refine WL.rd rfl rfl rfl (Rd.assign rfl rfl) ?_
   refine WL.nil ?_
   exact loopQ1.mk (j + 1) ⟨by omega, by omega⟩ Z.W (by repeat (first | exact Sub.nil | refine Sub.cons rfl (by rfl) ?_)) (fun w h => by
   rw [wrow_set Z.W, wrow_done Z.W (by rw [if_neg Z.W]; rfl)] at h
   exact Z.Fw h)
  ·
   obtain rfl : j = 64 := by omega
   have hwz : wrow s 64 = (sched s 64).map vw := by rw [wrow, Nat.sub_self, List.replicate_zero, List.append_nil]
   have hwl : ((sched s 64).map vw).length = 64 := by rw [List.length_map, sched_length]
   refine WC.heap (fun w h => by rw [hwz] at h; exact h) ?_
   refine WC.exit ?_
   refine thenQ.exit ?_
   refine loopQ1.exit ?_
   refine blockQ.exit ?_
   refine thenQ.normal ?_
   refine WC.seq ?_
   refine WC.region ?_
   refine WL.rd rfl rfl rfl (Rd.rowW rfl G193 rfl Z.M hwl) ?_
   refine WL.op rfl ?_
   refine OpW.storeW rfl G193 rfl rfl Z.T hwl (by simp) vw_one rfl ?_
   refine WL.nil ?_
   refine thenQ.normal ?_
   refine WC.heap (R' := R) (O' := rowC b2 193 ((sched s 64).map vw) :: O) Z.F ?_
   refine WC.ret (Ret.cellRow Tryz.results107 rfl Z.M G193 hwl ?_)
   exact ⟨rfl, rfl, _, rfl⟩
end Go.Proofs.YtlbdpcadaojcbaaGreatDoor
namespace Go.Proofs.YtlbdpcadaojcbaaGreatDoor
open Go Go.SL
structure St8 where
 a : Nat
 b : Nat
 c : Nat
 d : Nat
 e : Nat
 f : Nat
 g : Nat
 h : Nat
def St8.cs (v : St8) : List Value := [vw v.a, vw v.b, vw v.c, vw v.d, vw v.e, vw v.f, vw v.g, vw v.h]
structure St8.Ok (v : St8) : Prop where
 a : v.a < 2 ^ 32
 b : v.b < 2 ^ 32
 c : v.c < 2 ^ 32
 d : v.d < 2 ^ 32
 e : v.e < 2 ^ 32
 f : v.f < 2 ^ 32
 g : v.g < 2 ^ 32
 h : v.h < 2 ^ 32
def first8 : St8 := ⟨1779033703, 3144134277, 1013904242, 2773480762, 1359893119, 2600822924, 528734635, 1541459225⟩
theorem first8_ok : first8.Ok := ⟨by decide, by decide, by decide, by decide, by decide, by decide, by decide, by decide⟩
def bg1 (e : Nat) : Nat := rotr e 6 ^^^ rotr e 11 ^^^ rotr e 25
def bg0 (a : Nat) : Nat := rotr a 2 ^^^ rotr a 13 ^^^ rotr a 22
def chE (e f g : Nat) : Nat := (e &&& f) ^^^ ((4294967295 - e) &&& g)
def majE (a b c : Nat) : Nat := (a &&& b) ^^^ (a &&& c) ^^^ (b &&& c)
def tE (v : St8) (k w : Nat) : Nat := ad (ad (ad (ad v.h (bg1 v.e)) (chE v.e v.f v.g)) k) w
def uE (v : St8) : Nat := ad (bg0 v.a) (majE v.a v.b v.c)
def St8.round (v : St8) (k w : Nat) : St8 := ⟨ad (tE v k w) (uE v), v.a, v.b, v.c, ad v.d (tE v k w), v.e, v.f, v.g⟩
theorem St8.Ok.round {v : St8} (h : v.Ok) (k w : Nat) : (v.round k w).Ok := ⟨ad_lt _ _, h.a, h.b, h.c, ad_lt _ _, h.e, h.f, h.g⟩
def St8.add (v x : St8) : St8 := ⟨ad v.a x.a, ad v.b x.b, ad v.c x.c, ad v.d x.d, ad v.e x.e, ad v.f x.f, ad v.g x.g, ad v.h x.h⟩
theorem St8.add_ok (v x : St8) : (v.add x).Ok := ⟨ad_lt _ _, ad_lt _ _, ad_lt _ _, ad_lt _ _, ad_lt _ _, ad_lt _ _, ad_lt _ _, ad_lt _ _⟩
def rootsN : List Nat := [
 1116352408, 1899447441, 3049323471, 3921009573, 961987163, 1508970993, 2453635748, 2870763221,
 3624381080, 310598401, 607225278, 1426881987, 1925078388, 2162078206, 2614888103, 3248222580,
 3835390401, 4022224774, 264347078, 604807628, 770255983, 1249150122, 1555081692, 1996064986,
 2554220882, 2821834349, 2952996808, 3210313671, 3336571891, 3584528711, 113926993, 338241895,
 666307205, 773529912, 1294757372, 1396182291, 1695183700, 1986661051, 2177026350, 2456956037,
 2730485921, 2820302411, 3259730800, 3345764771, 3516065817, 3600352804, 4094571909, 275423344,
 430227734, 506948616, 659060556, 883997877, 958139571, 1322822218, 1537002063, 1747873779,
 1955562222, 2024104815, 2227730452, 2361852424, 2428436474, 2756734187, 3204031479, 3329325298]
def rootsZ : List Int := rootsN.map fun n : Nat => (n : Int)
def rootsV : List Value := rootsZ.map fun z => .int .u32 z
abbrev rootsR : RO := garr 0 rootsV
theorem roots_get {k : Nat} (h : k < 64) : rootsV[k]? = some (vw rootsN[k]!) := by
 have hl : rootsN.length = 64 := by decide
 rw [rootsV, rootsZ, List.map_map, List.getElem?_map, get!_of_lt (by rw [hl]; exact h)]; rfl
def rounds (ws : List Nat) (v : St8) : Nat → St8
 | 0 => v
 | i + 1 => (rounds ws v i).round rootsN[i]! ws[i]!
theorem rounds_ok {ws : List Nat} {v : St8} (h : v.Ok) : ∀ i, (rounds ws v i).Ok
 | 0 => h
 | i + 1 => (rounds_ok h i).round _ _
/-- The state behind a block. -/
def nextS (v : St8) (s : List UInt8) : St8 := v.add (rounds (sched s 64) v 64)
theorem nextS_ok (v : St8) (s : List UInt8) : (nextS v s).Ok := St8.add_ok _ _
theorem not_lt (e : Nat) : 4294967295 - e < 2 ^ 32 := Nat.lt_of_le_of_lt (Nat.sub_le _ _) (by decide)
theorem and_lt {a : Nat} (h : a < 2 ^ 32) (b : Nat) : a &&& b < 2 ^ 32 := Nat.lt_of_le_of_lt Nat.and_le_left h
theorem _root_.Go.SL.Rd.not32 {P : Program} {o : Oper} {L : Env} {R : List RO} {O : List Own} {t : TypeId} {x : Operand} {a : Nat} (ho : o.op = .unOp .xor t x) (hx : ev L x = some (vw a)) (ha : a < 2 ^ 32) : Rd P o L R O (vw (4294967295 - a)) :=
 Rd.bnotU (k := .u32) ho hx rfl rfl ha rfl
/-- The cells of a state of which the first i are added up. -/
def mixC (v x : St8) (i : Nat) : List Value := (v.add x).cs.take i ++ v.cs.drop i
theorem cs_length (v : St8) : v.cs.length = 8 := rfl
theorem mixC_step (v x : St8) : ∀ i, i < 8 → ∃ p q, v.cs[i]? = some (vw p) ∧ x.cs[i]? = some (vw q) ∧ (mixC v x i)[i]? = some (vw p) ∧ (mixC v x i).set i (vw (ad p q)) = mixC v x (i + 1)
 | 0, _ => ⟨_, _, rfl, rfl, rfl, rfl⟩
 | 1, _ => ⟨_, _, rfl, rfl, rfl, rfl⟩
 | 2, _ => ⟨_, _, rfl, rfl, rfl, rfl⟩
 | 3, _ => ⟨_, _, rfl, rfl, rfl, rfl⟩
 | 4, _ => ⟨_, _, rfl, rfl, rfl, rfl⟩
 | 5, _ => ⟨_, _, rfl, rfl, rfl, rfl⟩
 | 6, _ => ⟨_, _, rfl, rfl, rfl, rfl⟩
 | 7, _ => ⟨_, _, rfl, rfl, rfl, rfl⟩
 | i + 8, h => by omega
set_option maxRecDepth 20000 in
set_option maxHeartbeats 4000000 in
theorem stateNext_spec {R : List RO} {O : List Own} {POST : Value → List RO → List Own → Prop} {v : St8} {s : List UInt8} (hr : rootsR ∈ R) (hv : v.Ok) (hs : s.length = 64)
 (hk : POST (.agg (nextS v s).cs.toArray) R O) : Fun Tryz.prog 65 #[.agg v.cs.toArray, vs s] R O POST := by
 refine Fun.thin (post' := fun r R' O' => r = .agg (nextS v s).cs.toArray ∧ R' = R ∧ ∃ b, O' = rowC b 81 (nextS v s).cs :: O) ?_ (by rintro r R' O' ⟨rfl, rfl, b, rfl⟩; exact ⟨_, O, hk, fun w h => h.drop⟩)
 refine Fun.enter (l := [_, _]) Tryz.func65 rfl Tryz.ntmps65 rfl (L0 := [(0, _), (1, _)]) rfl ?_
 refine WC.seq ?_
 refine WC.region ?_
 refine WL.op rfl ?_
 refine OpW.box rfl rfl Z.N rfl rfl ?_; intro b2
 refine WL.op rfl ?_
 refine OpW.alloc rfl I81 rfl Z.N rfl rfl ?_; intro b4
 refine WL.nil ?_
 refine thenQ.normal ?_
 refine WC.seq ?_
 refine WC.region ?_
 refine WL.rd rfl rfl rfl ((by exact Rd.rowS rfl G81 rfl Z.M Z.N rfl)) ?_
 refine WL.op rfl ?_
 refine OpW.alloc rfl I81 rfl Z.N rfl rfl ?_; intro b5
 refine WL.op rfl ?_
 refine OpW.storeS rfl G81 rfl rfl Z.N Z.T rfl rfl Z.N rfl ?_
 refine WL.nil ?_
 refine thenQ.normal ?_
 refine WC.seq ?_
 refine WC.seq ?_
 refine WC.region ?_
 refine WL.rd rfl rfl rfl (Rd.move rfl rfl) ?_
 refine WL.op rfl ?_
 refine OpW.call rfl rfl Z.E Z.K rfl rfl rfl ?_
 refine words_spec hs ?_
 refine WL.rd rfl rfl rfl (Rd.move rfl rfl) ?_
 refine WL.nil ?_
 refine thenQ.normal ?_
 refine WC.block ?_
 refine WC.pick [14, 2, 4, 5, 13] Z.P ?_
 refine WC.loop1 1 (fun (i : Nat) => [(14, .int .i64 (i : Int))]) (fun (i : Nat) => rowC b5 81 (rounds (sched s 64) v i).cs :: rowC b4 81 (List.replicate 8 (vw 0)) :: rowC b2 81 v.cs :: O) (fun (i : Nat) => i ≤ 64) (fun (i : Nat) => 64 - i) (0) Z.L ?hinv1 (by repeat (first | exact Sub.nil | refine Sub.cons rfl (by rfl) ?_)) (fun _ h => h) ?_
 case hinv1 =>
  exact Nat.zero_le _
 intro i
 rintro i1
 obtain ⟨x, hx⟩ : ∃ x, x = rounds (sched s 64) v i := ⟨_, rfl⟩
 have hxo := rounds_ok (ws := sched s 64) hv i
 rw [← hx] at hxo ⊢
 refine WC.seq ?_
 refine WC.region ?_
 refine WL.rd rfl rfl rfl (Rd.lss rfl rfl rfl) ?_
 refine WL.nil ?_
 refine thenQ.normal ?_
 refine WC.seq ?_
 refine WC.ite rfl (fun hc1 => ?_) (fun hc1 => ?_)
 ·
  have hwl := sched_get_lt s (i := 64) (j := i) Z.W
  have hst : rounds (sched s 64) v (i + 1) = x.round rootsN[i]! (sched s 64)[i]! := by rw [rounds, ← hx]
  refine WC.skip ?_
  refine thenQ.normal ?_
  refine WC.seq ?_
  refine WC.block ?_
  refine WC.seq ?_
  refine WC.region ?_
  refine WL.rd rfl rfl rfl (Rd.move rfl rfl) ?_
  refine WL.rd rfl rfl rfl (Rd.idxAgg (k := i) rfl A193 C79 rfl rfl Z.W Z.W (sched_cell s Z.W)) ?_
  refine WL.rd rfl rfl rfl (Rd.assign rfl rfl) ?_
  refine WL.rd rfl rfl rfl (Rd.assign rfl rfl) ?_
  refine WL.nil ?_
  refine thenQ.normal ?_
  refine WC.pick [2, 4, 5, 6, 7, 13, 14] Z.P ?_
  refine WC.val 8 (vw (tE x rootsN[i]! (sched s 64)[i]!)) ?_ ?_
  ·
   refine WC.drawnA 34 rfl mixed ?_
   refine WD.take 0 rfl Z.K Held.all rfl rfl rfl ((by exact Rd.idxArr1 (k := 7) rfl A81 rfl rfl rfl Z.W)) ?_
   refine WD.take 1 rfl Z.K Held.all rfl rfl rfl ((by exact Rd.row1 rfl C79 rfl Z.M (by rfl))) ?_
   refine WD.take 2 rfl Z.K Held.all rfl rfl rfl ((by exact Rd.idxArr1 (k := 4) rfl A81 rfl rfl rfl Z.W)) ?_
   refine WD.take 3 rfl Z.K Held.all rfl rfl rfl ((by exact Rd.row1 rfl C79 rfl Z.M (by rfl))) ?_
   refine WD.take 5 rfl Z.K Held.all rfl rfl rfl ((by exact Rd.idxArr1 (k := 4) rfl A81 rfl rfl rfl Z.W)) ?_
   refine WD.take 6 rfl Z.K Held.all rfl rfl rfl ((by exact Rd.row1 rfl C79 rfl Z.M (by rfl))) ?_
   refine WD.take 9 rfl Z.K Held.all rfl rfl rfl ((by exact Rd.idxArr1 (k := 4) rfl A81 rfl rfl rfl Z.W)) ?_
   refine WD.take 10 rfl Z.K Held.all rfl rfl rfl ((by exact Rd.row1 rfl C79 rfl Z.M (by rfl))) ?_
   refine WD.take 14 rfl Z.K Held.all rfl rfl rfl ((by exact Rd.idxArr1 (k := 4) rfl A81 rfl rfl rfl Z.W)) ?_
   refine WD.take 15 rfl Z.K Held.all rfl rfl rfl ((by exact Rd.row1 rfl C79 rfl Z.M (by rfl))) ?_
   refine WD.take 16 rfl Z.K Held.all rfl rfl rfl ((by exact Rd.idxArr1 (k := 5) rfl A81 rfl rfl rfl Z.W)) ?_
   refine WD.take 17 rfl Z.K Held.all rfl rfl rfl ((by exact Rd.row1 rfl C79 rfl Z.M (by rfl))) ?_
   refine WD.take 18 rfl Z.K Held.all rfl rfl rfl (Rd.andU rfl rfl rfl rfl rfl rfl hxo.e hxo.f) ?_
   refine WD.take 19 rfl Z.K Held.all rfl rfl rfl ((by exact Rd.idxArr1 (k := 4) rfl A81 rfl rfl rfl Z.W)) ?_
   refine WD.take 20 rfl Z.K Held.all rfl rfl rfl ((by exact Rd.row1 rfl C79 rfl Z.M (by rfl))) ?_
   refine WD.take 21 rfl Z.K Held.all rfl rfl rfl (Rd.not32 rfl rfl hxo.e) ?_
   refine WD.take 22 rfl Z.K Held.all rfl rfl rfl ((by exact Rd.idxArr1 (k := 6) rfl A81 rfl rfl rfl Z.W)) ?_
   refine WD.take 23 rfl Z.K Held.all rfl rfl rfl ((by exact Rd.row1 rfl C79 rfl Z.M (by rfl))) ?_
   refine WD.take 24 rfl Z.K Held.all rfl rfl rfl (Rd.andU rfl rfl rfl rfl rfl rfl (not_lt _) hxo.g) ?_
   refine WD.take 25 rfl Z.K Held.all rfl rfl rfl (Rd.xorU rfl rfl rfl rfl rfl rfl (and_lt hxo.e _) (and_lt (not_lt _) _)) ?_
   refine WD.take 27 rfl Z.K Held.all rfl rfl rfl (Rd.move rfl rfl) ?_
   refine WD.take 28 rfl Z.K Held.all rfl rfl rfl ((by exact Rd.idxArr1 (k := i) rfl A193 rfl rfl Z.W Z.W)) ?_
   refine WD.take 29 rfl Z.K Held.all rfl rfl rfl (Rd.getGl rfl C79 rfl hr (roots_get Z.W)) ?_
   refine WD.take 31 rfl Z.K Held.all rfl rfl rfl (Rd.move rfl rfl) ?_
   refine WD.one 4 rfl Z.K rfl ?_
   refine OpW.call rfl rfl Z.E Z.K rfl rfl rfl ?_
   refine right_spec hxo.e (by decide) ?_
   refine ⟨Z.H, ?_⟩
   refine WD.one 7 rfl Z.K rfl ?_
   refine OpW.call rfl rfl Z.E Z.K rfl rfl rfl ?_
   refine right_spec hxo.e (by decide) ?_
   refine ⟨Z.H, ?_⟩
   refine WD.take 8 rfl Z.K Z.H rfl rfl rfl (Rd.xorU rfl rfl rfl rfl rfl rfl (rotr_lt hxo.e _) (rotr_lt hxo.e _)) ?_
   refine WD.one 11 rfl Z.K rfl ?_
   refine OpW.call rfl rfl Z.E Z.K rfl rfl rfl ?_
   refine right_spec hxo.e (by decide) ?_
   refine ⟨Z.H, ?_⟩
   refine WD.take 12 rfl Z.K Z.H rfl rfl rfl (Rd.xorU rfl rfl rfl rfl rfl rfl (Nat.xor_lt_two_pow (rotr_lt hxo.e _) (rotr_lt hxo.e _)) (rotr_lt hxo.e _)) ?_
   refine WD.take 13 rfl Z.K Z.H rfl rfl rfl (Rd.add32 rfl rfl rfl) ?_
   refine WD.take 26 rfl Z.K Z.H rfl rfl rfl (Rd.add32 rfl rfl rfl) ?_
   refine WD.take 30 rfl Z.K Z.H rfl rfl rfl (Rd.add32 rfl rfl rfl) ?_
   refine WD.take 32 rfl Z.K Z.H rfl rfl rfl (Rd.add32 rfl rfl rfl) ?_
   refine WD.take 33 rfl Z.K Z.H rfl rfl rfl (Rd.assign rfl rfl) ?_
   refine WD.done Z.K ?_
   exact ⟨by repeat (first | exact Sub.nil | refine Sub.cons rfl (by rfl) ?_), by exact (fun _ h => h.thin (SubL.mem Z.S))⟩
  ·
   refine WC.pick [2, 4, 5, 8, 13, 14] Z.P ?_
   refine WC.val 9 (vw (uE x)) ?_ ?_
   ·
    refine WC.drawnA 30 rfl mixed ?_
    refine WD.take 0 rfl Z.K Held.all rfl rfl rfl ((by exact Rd.idxArr1 (k := 0) rfl A81 rfl rfl rfl Z.W)) ?_
    refine WD.take 1 rfl Z.K Held.all rfl rfl rfl ((by exact Rd.row1 rfl C79 rfl Z.M (by rfl))) ?_
    refine WD.take 3 rfl Z.K Held.all rfl rfl rfl ((by exact Rd.idxArr1 (k := 0) rfl A81 rfl rfl rfl Z.W)) ?_
    refine WD.take 4 rfl Z.K Held.all rfl rfl rfl ((by exact Rd.row1 rfl C79 rfl Z.M (by rfl))) ?_
    refine WD.take 7 rfl Z.K Held.all rfl rfl rfl ((by exact Rd.idxArr1 (k := 0) rfl A81 rfl rfl rfl Z.W)) ?_
    refine WD.take 8 rfl Z.K Held.all rfl rfl rfl ((by exact Rd.row1 rfl C79 rfl Z.M (by rfl))) ?_
    refine WD.take 11 rfl Z.K Held.all rfl rfl rfl ((by exact Rd.idxArr1 (k := 0) rfl A81 rfl rfl rfl Z.W)) ?_
    refine WD.take 12 rfl Z.K Held.all rfl rfl rfl ((by exact Rd.row1 rfl C79 rfl Z.M (by rfl))) ?_
    refine WD.take 13 rfl Z.K Held.all rfl rfl rfl ((by exact Rd.idxArr1 (k := 1) rfl A81 rfl rfl rfl Z.W)) ?_
    refine WD.take 14 rfl Z.K Held.all rfl rfl rfl ((by exact Rd.row1 rfl C79 rfl Z.M (by rfl))) ?_
    refine WD.take 15 rfl Z.K Held.all rfl rfl rfl (Rd.andU rfl rfl rfl rfl rfl rfl hxo.a hxo.b) ?_
    refine WD.take 16 rfl Z.K Held.all rfl rfl rfl ((by exact Rd.idxArr1 (k := 0) rfl A81 rfl rfl rfl Z.W)) ?_
    refine WD.take 17 rfl Z.K Held.all rfl rfl rfl ((by exact Rd.row1 rfl C79 rfl Z.M (by rfl))) ?_
    refine WD.take 18 rfl Z.K Held.all rfl rfl rfl ((by exact Rd.idxArr1 (k := 2) rfl A81 rfl rfl rfl Z.W)) ?_
    refine WD.take 19 rfl Z.K Held.all rfl rfl rfl ((by exact Rd.row1 rfl C79 rfl Z.M (by rfl))) ?_
    refine WD.take 20 rfl Z.K Held.all rfl rfl rfl (Rd.andU rfl rfl rfl rfl rfl rfl hxo.a hxo.c) ?_
    refine WD.take 21 rfl Z.K Held.all rfl rfl rfl (Rd.xorU rfl rfl rfl rfl rfl rfl (and_lt hxo.a _) (and_lt hxo.a _)) ?_
    refine WD.take 22 rfl Z.K Held.all rfl rfl rfl ((by exact Rd.idxArr1 (k := 1) rfl A81 rfl rfl rfl Z.W)) ?_
    refine WD.take 23 rfl Z.K Held.all rfl rfl rfl ((by exact Rd.row1 rfl C79 rfl Z.M (by rfl))) ?_
    refine WD.take 24 rfl Z.K Held.all rfl rfl rfl ((by exact Rd.idxArr1 (k := 2) rfl A81 rfl rfl rfl Z.W)) ?_
    refine WD.take 25 rfl Z.K Held.all rfl rfl rfl ((by exact Rd.row1 rfl C79 rfl Z.M (by rfl))) ?_
    refine WD.take 26 rfl Z.K Held.all rfl rfl rfl (Rd.andU rfl rfl rfl rfl rfl rfl hxo.b hxo.c) ?_
    refine WD.take 27 rfl Z.K Held.all rfl rfl rfl (Rd.xorU rfl rfl rfl rfl rfl rfl (Nat.xor_lt_two_pow (and_lt hxo.a _) (and_lt hxo.a _)) (and_lt hxo.b _)) ?_
    refine WD.one 2 rfl Z.K rfl ?_
    refine OpW.call rfl rfl Z.E Z.K rfl rfl rfl ?_
    refine right_spec hxo.a (by decide) ?_
    refine ⟨Z.H, ?_⟩
    refine WD.one 5 rfl Z.K rfl ?_
    refine OpW.call rfl rfl Z.E Z.K rfl rfl rfl ?_
    refine right_spec hxo.a (by decide) ?_
    refine ⟨Z.H, ?_⟩
    refine WD.take 6 rfl Z.K Z.H rfl rfl rfl (Rd.xorU rfl rfl rfl rfl rfl rfl (rotr_lt hxo.a _) (rotr_lt hxo.a _)) ?_
    refine WD.one 9 rfl Z.K rfl ?_
    refine OpW.call rfl rfl Z.E Z.K rfl rfl rfl ?_
    refine right_spec hxo.a (by decide) ?_
    refine ⟨Z.H, ?_⟩
    refine WD.take 10 rfl Z.K Z.H rfl rfl rfl (Rd.xorU rfl rfl rfl rfl rfl rfl (Nat.xor_lt_two_pow (rotr_lt hxo.a _) (rotr_lt hxo.a _)) (rotr_lt hxo.a _)) ?_
    refine WD.take 28 rfl Z.K Z.H rfl rfl rfl (Rd.add32 rfl rfl rfl) ?_
    refine WD.take 29 rfl Z.K Z.H rfl rfl rfl (Rd.assign rfl rfl) ?_
    refine WD.done Z.K ?_
    exact ⟨by repeat (first | exact Sub.nil | refine Sub.cons rfl (by rfl) ?_), by exact (fun _ h => h.thin (SubL.mem Z.S))⟩
   ·
    refine WC.region ?_
    refine WL.rd rfl rfl rfl (Rd.move rfl rfl) ?_
    refine WL.rd rfl rfl rfl (Rd.move rfl rfl) ?_
    refine WL.rd rfl rfl rfl (Rd.add32 rfl rfl rfl) ?_
    refine WL.rd rfl rfl rfl ((by exact Rd.idxArr1 (k := 0) rfl A81 rfl rfl rfl Z.W)) ?_
    refine WL.rd rfl rfl rfl ((by exact Rd.row1 rfl C79 rfl Z.M (by rfl))) ?_
    refine WL.rd rfl rfl rfl ((by exact Rd.idxArr1 (k := 1) rfl A81 rfl rfl rfl Z.W)) ?_
    refine WL.rd rfl rfl rfl ((by exact Rd.row1 rfl C79 rfl Z.M (by rfl))) ?_
    refine WL.rd rfl rfl rfl ((by exact Rd.idxArr1 (k := 2) rfl A81 rfl rfl rfl Z.W)) ?_
    refine WL.rd rfl rfl rfl ((by exact Rd.row1 rfl C79 rfl Z.M (by rfl))) ?_
    refine WL.rd rfl rfl rfl ((by exact Rd.idxArr1 (k := 3) rfl A81 rfl rfl rfl Z.W)) ?_
    refine WL.rd rfl rfl rfl ((by exact Rd.row1 rfl C79 rfl Z.M (by rfl))) ?_
    refine WL.rd rfl rfl rfl (Rd.move rfl rfl) ?_
    refine WL.rd rfl rfl rfl (Rd.add32 rfl rfl rfl) ?_
    refine WL.rd rfl rfl rfl ((by exact Rd.idxArr1 (k := 4) rfl A81 rfl rfl rfl Z.W)) ?_
    refine WL.rd rfl rfl rfl ((by exact Rd.row1 rfl C79 rfl Z.M (by rfl))) ?_
    refine WL.rd rfl rfl rfl ((by exact Rd.idxArr1 (k := 5) rfl A81 rfl rfl rfl Z.W)) ?_
    refine WL.rd rfl rfl rfl ((by exact Rd.row1 rfl C79 rfl Z.M (by rfl))) ?_
    refine WL.rd rfl rfl rfl ((by exact Rd.idxArr1 (k := 6) rfl A81 rfl rfl rfl Z.W)) ?_
    refine WL.rd rfl rfl rfl ((by exact Rd.row1 rfl C79 rfl Z.M (by rfl))) ?_
    refine WL.rd rfl rfl rfl (Rd.buildA (ps := [(0, _), (1, _), (2, _), (3, _), (4, _), (5, _), (6, _), (7, _)]) rfl A81 I81 rfl Z.K Z.E rfl Z.C Z.K rfl) ?_
    refine WL.op rfl ?_
    refine OpW.storeW (ds := (x.round rootsN[i]! (sched s 64)[i]!).cs) rfl G81 rfl rfl Z.T rfl rfl rfl rfl ?_
    refine WL.nil ?_
    refine blockQ.normal ?_
    refine thenQ.normal ?_
    refine WC.region ?_
    refine WL.rd rfl rfl rfl (Rd.add rfl rfl rfl Z.W) ?_
    refine WL.rd rfl rfl rfl (Rd.move rfl rfl) ?_
    refine WL.nil ?_
    exact loopQ1.mk (i + 1) Z.W Z.W (by repeat (first | exact Sub.nil | refine Sub.cons rfl (by rfl) ?_)) (fun w h => by rw [hst]; exact Z.Fw h)
 ·
  refine WC.exit ?_
  refine thenQ.exit ?_
  refine loopQ1.exit ?_
  refine blockQ.exit ?_
  refine thenQ.normal ?_
  refine WC.seq ?_
  refine WC.seq ?_
  refine WC.region ?_
  refine WL.rd rfl rfl rfl (Rd.move rfl rfl) ?_
  refine WL.nil ?_
  refine thenQ.normal ?_
  refine WC.block ?_
  refine WC.pick [101, 2, 4, 5] Z.P ?_
  refine WC.loop1 1 (fun (j : Nat) => [(101, .int .i64 (j : Int))]) (fun (j : Nat) => rowC b5 81 x.cs :: rowC b4 81 (List.replicate 8 (vw 0)) :: rowC b2 81 (mixC v x j) :: O) (fun (j : Nat) => j ≤ 8) (fun (j : Nat) => 8 - j) (0) Z.L ?hinv2 (by repeat (first | exact Sub.nil | refine Sub.cons rfl (by rfl) ?_)) (fun _ h => h) ?_
  case hinv2 =>
   exact Nat.zero_le _
  intro j
  rintro j1
  refine WC.seq ?_
  refine WC.region ?_
  refine WL.rd rfl rfl rfl (Rd.lss rfl rfl rfl) ?_
  refine WL.nil ?_
  refine thenQ.normal ?_
  refine WC.seq ?_
  refine WC.ite rfl (fun hc2 => ?_) (fun hc2 => ?_)
  ·
   obtain ⟨p, q, m1, m2, m3, m4⟩ := mixC_step v x j Z.W
   have m5 : (mixC v x j).length = 8 := by rw [mixC, List.length_append, List.length_take, List.length_drop, cs_length, cs_length]; omega
   refine WC.skip ?_
   refine thenQ.normal ?_
   refine WC.seq ?_
   refine WC.block ?_
   refine WC.seq ?_
   refine WC.region ?_
   refine WL.rd rfl rfl rfl (Rd.move rfl rfl) ?_
   refine WL.rd rfl rfl rfl (Rd.assign rfl rfl) ?_
   refine WL.nil ?_
   refine thenQ.normal ?_
   refine WC.tail 8 mixed Z.K ?_
   refine WS.rd rfl rfl rfl (Rd.move rfl rfl) ?_
   refine WS.rd rfl rfl rfl ((by exact Rd.idxArr1 (k := j) rfl A81 rfl rfl Z.W Z.W)) ?_
   refine WS.rd rfl rfl rfl (Rd.row1 rfl C79 rfl Z.M m3) ?_
   refine WS.rd rfl rfl rfl (Rd.move rfl rfl) ?_
   refine WS.rd rfl rfl rfl ((by exact Rd.idxArr1 (k := j) rfl A81 rfl rfl Z.W Z.W)) ?_
   refine WS.rd rfl rfl rfl (Rd.row1 rfl C79 rfl Z.M m2) ?_
   refine WS.rd rfl rfl rfl (Rd.add32 rfl rfl rfl) ?_
   refine WS.rd rfl rfl rfl ((by exact Rd.idxArr1 (k := j) rfl A81 rfl rfl Z.W Z.W)) ?_
   refine WS.switch ?_
   refine WL.op rfl ?_
   refine OpW.store1 rfl Z79 rfl rfl (by exact ⟨rfl, rfl⟩) Z.T Z.W rfl ?_
   refine WL.heap (fun w h => by rw [m4] at h; exact h) ?_
   refine WL.nil ?_
   refine blockQ.normal ?_
   refine thenQ.normal ?_
   refine WC.region ?_
   refine WL.rd rfl rfl rfl (Rd.add rfl rfl rfl Z.W) ?_
   refine WL.rd rfl rfl rfl (Rd.move rfl rfl) ?_
   refine WL.nil ?_
   exact loopQ1.mk (j + 1) Z.W Z.W (by repeat (first | exact Sub.nil | refine Sub.cons rfl (by rfl) ?_)) Z.F
  ·
   obtain rfl : j = 8 := by omega
   obtain rfl : i = 64 := by omega
   have hfin : mixC v x 8 = (nextS v s).cs := by rw [hx]; rfl
   refine WC.heap (fun w h => by rw [hfin] at h; exact h) ?_
   refine WC.exit ?_
   refine thenQ.exit ?_
   refine loopQ1.exit ?_
   refine blockQ.exit ?_
   refine thenQ.normal ?_
   refine WC.seq ?_
   refine WC.region ?_
   refine WL.rd rfl rfl rfl (Rd.rowW rfl G81 rfl Z.M rfl) ?_
   refine WL.op rfl ?_
   refine OpW.storeW rfl G81 rfl rfl Z.T rfl rfl rfl rfl ?_
   refine WL.nil ?_
   refine thenQ.normal ?_
   refine WC.heap (R' := R) (O' := rowC b4 81 (nextS v s).cs :: O) Z.F ?_
   refine WC.ret (Ret.cellRow Tryz.results65 rfl Z.M G81 rfl ?_)
   exact ⟨rfl, rfl, _, rfl⟩
set_option maxRecDepth 20000 in
theorem first_spec {R : List RO} {O : List Own} {POST : Value → List RO → List Own → Prop} (hk : POST (.agg first8.cs.toArray) R O) : Fun Tryz.prog 64 #[] R O POST := by
 refine Fun.thin (post' := fun r R' O' => r = .agg first8.cs.toArray ∧ R' = R ∧ ∃ b, O' = rowC b 81 first8.cs :: O) ?_ (by rintro r R' O' ⟨rfl, rfl, b, rfl⟩; exact ⟨_, O, hk, fun w h => h.drop⟩)
 refine Fun.enter (l := []) Tryz.func64 rfl Tryz.ntmps64 rfl (L0 := []) rfl ?_
 refine WC.seq ?_
 refine WC.region ?_
 refine WL.op rfl ?_
 refine OpW.alloc rfl I81 rfl Z.N rfl rfl ?_; intro b0
 refine WL.nil ?_
 refine thenQ.normal ?_
 refine WC.seq ?_
 refine WC.region ?_
 refine WL.rd rfl rfl rfl (Rd.buildA (ps := [(0, _), (1, _), (2, _), (3, _), (4, _), (5, _), (6, _), (7, _)]) rfl A81 I81 rfl Z.K Z.E rfl Z.C Z.K rfl) ?_
 refine WL.op rfl ?_
 refine OpW.storeW (ds := first8.cs) rfl G81 rfl rfl Z.T rfl rfl rfl rfl ?_
 refine WL.nil ?_
 refine thenQ.normal ?_
 refine WC.ret (Ret.cellRow Tryz.results64 rfl Z.M G81 rfl ?_)
 exact ⟨rfl, rfl, _, rfl⟩
end Go.Proofs.YtlbdpcadaojcbaaGreatDoor
namespace Go.Proofs.YtlbdpcadaojcbaaGreatDoor
open Go Go.SL
/-- The state behind all whole blocks, and what is left. -/
def blocks (v : St8) (r : List UInt8) : St8 × List UInt8 :=
 if r.length < 64 then (v, r) else blocks (nextS v (r.take 64)) (r.drop 64)
termination_by r.length
decreasing_by rw [List.length_drop]; omega
theorem blocks_lt {v : St8} {r : List UInt8} (h : r.length < 64) : blocks v r = (v, r) := by rw [blocks, if_pos h]
theorem blocks_ge {v : St8} {r : List UInt8} (h : ¬ r.length < 64) : blocks v r = blocks (nextS v (r.take 64)) (r.drop 64) := by rw [blocks, if_neg h]
theorem blocks_ok (v : St8) (r : List UInt8) (h : v.Ok) : (blocks v r).1.Ok := by
 by_cases h1 : r.length < 64
 · rw [blocks_lt h1]; exact h
 · rw [blocks_ge h1]; exact blocks_ok _ _ (nextS_ok _ _)
termination_by r.length
decreasing_by rw [List.length_drop]; omega
theorem blocks_rest (v : St8) (r : List UInt8) : (blocks v r).2.length < 64 ∧ (blocks v r).2.length % 64 = r.length % 64 := by
 by_cases h1 : r.length < 64
 · rw [blocks_lt h1]; exact ⟨h1, rfl⟩
 · rw [blocks_ge h1]
   have h := blocks_rest (nextS v (r.take 64)) (r.drop 64)
   rw [List.length_drop] at h
   exact ⟨h.1, by omega⟩
termination_by r.length
decreasing_by rw [List.length_drop]; omega
theorem blocks_append (v : St8) (r s : List UInt8) : blocks (blocks v r).1 ((blocks v r).2 ++ s) = blocks v (r ++ s) := by
 by_cases h1 : r.length < 64
 · rw [blocks_lt h1]
 · rw [blocks_ge h1, blocks_append (nextS v (r.take 64)) (r.drop 64) s]
   have h2 : ¬ (r ++ s).length < 64 := by rw [List.length_append]; omega
   rw [blocks_ge h2, List.take_append_of_le_length Z.W, List.drop_append_of_le_length Z.W]
termination_by r.length
decreasing_by rw [List.length_drop]; omega
/-- The cells of a Hasher. -/
def hcell (v : St8) (g : Bool) (r : List UInt8) (n : Nat) : List Value := [vw v.a, vw v.b, vw v.c, vw v.d, vw v.e, vw v.f, vw v.g, vw v.h, .bool g, vs r, .int .i64 n]
def St8.begun (v : St8) (g : Bool) : St8 := if g then v else first8
theorem begun_ok {v : St8} {g : Bool} (h : g = true → v.Ok) : (v.begun g).Ok := by
 cases g
 · exact first8_ok
 · exact h rfl
set_option maxRecDepth 20000 in
set_option maxHeartbeats 4000000 in
theorem hput_spec {R : List RO} {O : List Own} {POST : Value → List RO → List Own → Prop} {v : St8} {g : Bool} {r s : List UInt8} {b n : Nat} (hr : rootsR ∈ R) (hv : g = true → v.Ok) (hn : n + s.length ≤ 4611686018427387904) (hrl : r.length + s.length ≤ 4611686018427387904)
 (hk : POST (.tuple #[]) R (rowC b 83 (hcell (blocks (v.begun g) (r ++ s)).1 true (blocks (v.begun g) (r ++ s)).2 (n + s.length)) :: O)) :
 Fun Tryz.prog 38 #[.pointer (some ⟨b, 0, none⟩), vs s] R (rowC b 83 (hcell v g r n) :: O) POST := by
 refine Fun.enter (l := [_, _]) Tryz.func38 rfl Tryz.ntmps38 rfl (L0 := [(0, _), (1, _)]) rfl ?_
 refine WC.seq ?_
 refine WC.seq ?_
 refine WC.region ?_
 refine WL.rd rfl rfl rfl (Rd.move rfl rfl) ?_
 refine WL.rd rfl rfl rfl ((by exact Rd.peq_sn rfl Tryz.underlying137 rfl rfl)) ?_
 refine WL.nil ?_
 refine thenQ.normal ?_
 refine WC.cond rfl (fun hc1 => ?_) (fun hc1 => ?_)
 ·
  cases hc1
 ·
  refine WC.skip ?_
  refine thenQ.normal ?_
  refine WC.cut (α := Unit) (fun _ => [(0, .pointer (some ⟨b, 0, none⟩)), (1, vs s)]) (fun _ => R) (fun _ => rowC b 83 (hcell (v.begun g) true r n) :: O) (fun _ => True) ?_ ?_
  ·
   refine WC.seq ?_
   refine WC.region ?_
   refine WL.rd rfl rfl rfl (Rd.move rfl rfl) ?_
   refine WL.rd rfl rfl rfl (Rd.nilc rfl rfl) ?_
   refine WL.rd rfl rfl rfl ((by exact Rd.field rfl F83_1 rfl rfl)) ?_
   refine WL.rd rfl rfl rfl ((by exact Rd.row1 rfl C4 rfl Z.M (by rfl))) ?_
   refine WL.rd rfl rfl rfl ((by exact Rd.not rfl rfl)) ?_
   refine WL.nil ?_
   refine thenQ.normal ?_
   refine WC.cond rfl (fun hc2 => ?_) (fun hc2 => ?_)
   ·
    refine WC.region ?_
    refine WL.rd rfl rfl rfl (Rd.move rfl rfl) ?_
    refine WL.rd rfl rfl rfl (Rd.move rfl rfl) ?_
    refine WL.op rfl ?_
    refine OpW.call rfl rfl Z.E Z.K rfl rfl rfl ?_
    refine first_spec ?_
    refine WL.rd rfl rfl rfl (Rd.nilc rfl rfl) ?_
    refine WL.rd rfl rfl rfl ((by exact Rd.field rfl F83_0 rfl rfl)) ?_
    refine WL.op rfl ?_
    refine OpW.storeS rfl G81 rfl rfl Z.N Z.T rfl rfl Z.N rfl ?_
    refine WL.rd rfl rfl rfl (Rd.nilc rfl rfl) ?_
    refine WL.rd rfl rfl rfl ((by exact Rd.field rfl F83_1 rfl rfl)) ?_
    refine WL.op rfl ?_
    refine OpW.store1 rfl Z4 rfl rfl (by exact ⟨rfl, rfl⟩) Z.T (by (simp; done)) rfl ?_
    refine WL.nil ?_
    -- cut_c2 1
    obtain rfl : g = false := by simpa using hc2
    exact ⟨(), trivial, (by repeat (first | exact Sub.nil | refine Sub.cons rfl (by rfl) ?_)), Z.F⟩
   ·
    refine WC.skip ?_
    -- cut_c2 2
    obtain rfl : g = true := by simpa using hc2
    exact ⟨(), trivial, (by repeat (first | exact Sub.nil | refine Sub.cons rfl (by rfl) ?_)), Z.F⟩
  ·
   intro _ _
   have hvo := begun_ok hv
   generalize v.begun g = v0 at *
   refine WC.seq ?_
   refine WC.region ?_
   refine WL.rd rfl rfl rfl (Rd.move rfl rfl) ?_
   refine WL.rd rfl rfl rfl (Rd.nilc rfl rfl) ?_
   refine WL.rd rfl rfl rfl ((by exact Rd.field rfl F83_3 rfl rfl)) ?_
   refine WL.rd rfl rfl rfl ((by exact Rd.row1 rfl C3 rfl Z.M (by rfl))) ?_
   refine WL.rd rfl rfl rfl (Rd.move rfl rfl) ?_
   refine WL.rd rfl rfl rfl (Rd.slen (ts := #[]) (ty := 0) rfl rfl Tryz.underlying9) ?_
   refine WL.rd rfl rfl rfl (Rd.add rfl rfl rfl Z.W) ?_
   refine WL.rd rfl rfl rfl (Rd.nilc rfl rfl) ?_
   refine WL.rd rfl rfl rfl ((by exact Rd.field rfl F83_3 rfl rfl)) ?_
   refine WL.op rfl ?_
   refine OpW.store1 rfl Z3 rfl rfl (by exact ⟨rfl, rfl⟩) Z.T (by exact of_decide_eq_true rfl) rfl ?_
   refine WL.nil ?_
   refine thenQ.normal ?_
   refine WC.seq ?_
   refine WC.region ?_
   refine WL.rd rfl rfl rfl (Rd.move rfl rfl) ?_
   refine WL.rd rfl rfl rfl (Rd.nilc rfl rfl) ?_
   refine WL.rd rfl rfl rfl ((by exact Rd.field rfl F83_2 rfl rfl)) ?_
   refine WL.rd rfl rfl rfl ((by exact Rd.row1 rfl C9 rfl Z.M (by rfl))) ?_
   refine WL.rd rfl rfl rfl (Rd.move rfl rfl) ?_
   refine WL.rd rfl rfl rfl (Rd.scat rfl rfl rfl Z.W) ?_
   refine WL.rd rfl rfl rfl (Rd.nilc rfl rfl) ?_
   refine WL.rd rfl rfl rfl ((by exact Rd.field rfl F83_2 rfl rfl)) ?_
   refine WL.op rfl ?_
   refine OpW.store1 rfl Z9 rfl rfl (by exact ⟨rfl, rfl⟩) Z.T (by exact of_decide_eq_true rfl) rfl ?_
   refine WL.nil ?_
   refine thenQ.normal ?_
   refine WC.block ?_
   refine WC.pick [0] Z.P ?_
   refine WC.loop2 0 (fun (x : St8) (q : List UInt8) => []) (fun (x : St8) (q : List UInt8) => rowC b 83 (hcell x true q (n + s.length)) :: O) (fun (x : St8) (q : List UInt8) => x.Ok ∧ blocks x q = blocks v0 (r ++ s)) (fun (x : St8) (q : List UInt8) => q.length) (v0) (r ++ s) Z.L ?hinv1 (by repeat (first | exact Sub.nil | refine Sub.cons rfl (by rfl) ?_)) (fun _ h => h) ?_
   case hinv1 =>
    exact ⟨hvo, rfl⟩
   intro x q
   rintro ⟨h1, h2⟩
   refine WC.seq ?_
   refine WC.seq ?_
   refine WC.region ?_
   refine WL.rd rfl rfl rfl (Rd.move rfl rfl) ?_
   refine WL.rd rfl rfl rfl (Rd.nilc rfl rfl) ?_
   refine WL.rd rfl rfl rfl ((by exact Rd.field rfl F83_2 rfl rfl)) ?_
   refine WL.rd rfl rfl rfl ((by exact Rd.row1 rfl C9 rfl Z.M (by rfl))) ?_
   refine WL.rd rfl rfl rfl (Rd.slen (ts := #[]) (ty := 0) rfl rfl Tryz.underlying9) ?_
   refine WL.rd rfl rfl rfl (Rd.geq rfl rfl rfl) ?_
   refine WL.nil ?_
   refine thenQ.normal ?_
   refine WC.ite rfl (fun hc3 => ?_) (fun hc3 => ?_)
   ·
    have hbg := blocks_ge (v := x) (r := q) Z.W
    refine WC.skip ?_
    refine thenQ.normal ?_
    refine WC.block ?_
    refine WC.seq ?_
    refine WC.drawn (O) 14 rfl mixed ?_
    refine WD.take 0 rfl Z.K Z.H rfl rfl rfl (Rd.move rfl rfl) ?_
    refine WD.take 1 rfl Z.K Z.H rfl rfl rfl (Rd.move rfl rfl) ?_
    refine WD.take 2 rfl Z.K Z.H rfl rfl rfl (Rd.nilc rfl rfl) ?_
    refine WD.take 3 rfl Z.K Z.H rfl rfl rfl ((by exact Rd.field rfl F83_0 rfl rfl)) ?_
    refine WD.take 5 rfl Z.K Z.H rfl rfl rfl (Rd.move rfl rfl) ?_
    refine WD.take 6 rfl Z.K Z.H rfl rfl rfl (Rd.nilc rfl rfl) ?_
    refine WD.take 7 rfl Z.K Z.H rfl rfl rfl ((by exact Rd.field rfl F83_2 rfl rfl)) ?_
    refine WD.two 4 8 rfl rfl Z.K rfl rfl ?_ ?_
    ·
     refine OpW.rd rfl rfl ((by exact Rd.rowS rfl G81 rfl Z.M Z.N rfl)) ?_
     refine ⟨Z.H, ?_⟩
     refine WD.one 8 rfl Z.K rfl ?_
     refine OpW.rd rfl rfl ((by exact Rd.row1 rfl C9 rfl Z.M (by rfl))) ?_
     refine ⟨Z.H, ?_⟩
     refine WD.take 9 rfl Z.K Z.H rfl rfl rfl (Rd.scut_h (hi := 64) rfl Tryz.underlying9 rfl rfl rfl Z.W) ?_
     refine WD.one 10 rfl Z.K rfl ?_
     refine OpW.call rfl rfl Z.E Z.K rfl rfl rfl ?_
     refine stateNext_spec (v := x) (s := q.take 64) hr h1 (by rw [List.length_take]; omega) ?_
     refine ⟨Z.H, ?_⟩
     refine WD.take 11 rfl Z.K Z.H rfl rfl rfl (Rd.nilc rfl rfl) ?_
     refine WD.take 12 rfl Z.K Z.H rfl rfl rfl ((by exact Rd.field rfl F83_0 rfl rfl)) ?_
     refine WD.one 13 rfl Z.K rfl ?_
     refine OpW.storeS rfl G81 rfl rfl Z.N Z.T rfl rfl Z.N rfl ?_
     refine ⟨Z.H, ?_⟩
     refine WD.done Z.K ?_
     refine thenQ.normal ?_
     refine WC.region ?_
     refine WL.rd rfl rfl rfl (Rd.move rfl rfl) ?_
     refine WL.rd rfl rfl rfl (Rd.move rfl rfl) ?_
     refine WL.rd rfl rfl rfl (Rd.nilc rfl rfl) ?_
     refine WL.rd rfl rfl rfl ((by exact Rd.field rfl F83_2 rfl rfl)) ?_
     refine WL.rd rfl rfl rfl ((by exact Rd.row1 rfl C9 rfl Z.M (by rfl))) ?_
     refine WL.rd rfl rfl rfl (Rd.scut_l (lo := 64) rfl Tryz.underlying9 rfl rfl rfl Z.W) ?_
     refine WL.rd rfl rfl rfl (Rd.nilc rfl rfl) ?_
     refine WL.rd rfl rfl rfl ((by exact Rd.field rfl F83_2 rfl rfl)) ?_
     refine WL.op rfl ?_
     refine OpW.store1 rfl Z9 rfl rfl (by exact ⟨rfl, rfl⟩) Z.T (by (simp; done)) rfl ?_
     refine WL.nil ?_
     refine blockQ.normal ?_
     exact loopQ2.mk (nextS x (q.take 64)) (q.drop 64) ⟨nextS_ok _ _, by rw [← h2, hbg]⟩ (by rw [List.length_drop]; omega) (by repeat (first | exact Sub.nil | refine Sub.cons rfl (by rfl) ?_)) Z.F
    ·
     refine OpW.rd rfl rfl ((by exact Rd.row1 rfl C9 rfl Z.M (by rfl))) ?_
     refine ⟨Z.H, ?_⟩
     refine WD.take 9 rfl Z.K Z.H rfl rfl rfl (Rd.scut_h (hi := 64) rfl Tryz.underlying9 rfl rfl rfl Z.W) ?_
     refine WD.one 4 rfl Z.K rfl ?_
     refine OpW.rd rfl rfl ((by exact Rd.rowS rfl G81 rfl Z.M Z.N rfl)) ?_
     refine ⟨Z.H, ?_⟩
     refine WD.one 10 rfl Z.K rfl ?_
     refine OpW.call rfl rfl Z.E Z.K rfl rfl rfl ?_
     refine stateNext_spec (v := x) (s := q.take 64) hr h1 (by rw [List.length_take]; omega) ?_
     refine ⟨Z.H, ?_⟩
     refine WD.take 11 rfl Z.K Z.H rfl rfl rfl (Rd.nilc rfl rfl) ?_
     refine WD.take 12 rfl Z.K Z.H rfl rfl rfl ((by exact Rd.field rfl F83_0 rfl rfl)) ?_
     refine WD.one 13 rfl Z.K rfl ?_
     refine OpW.storeS rfl G81 rfl rfl Z.N Z.T rfl rfl Z.N rfl ?_
     refine ⟨Z.H, ?_⟩
     refine WD.done Z.K ?_
     refine thenQ.normal ?_
     refine WC.region ?_
     refine WL.rd rfl rfl rfl (Rd.move rfl rfl) ?_
     refine WL.rd rfl rfl rfl (Rd.move rfl rfl) ?_
     refine WL.rd rfl rfl rfl (Rd.nilc rfl rfl) ?_
     refine WL.rd rfl rfl rfl ((by exact Rd.field rfl F83_2 rfl rfl)) ?_
     refine WL.rd rfl rfl rfl ((by exact Rd.row1 rfl C9 rfl Z.M (by rfl))) ?_
     refine WL.rd rfl rfl rfl (Rd.scut_l (lo := 64) rfl Tryz.underlying9 rfl rfl rfl Z.W) ?_
     refine WL.rd rfl rfl rfl (Rd.nilc rfl rfl) ?_
     refine WL.rd rfl rfl rfl ((by exact Rd.field rfl F83_2 rfl rfl)) ?_
     refine WL.op rfl ?_
     refine OpW.store1 rfl Z9 rfl rfl (by exact ⟨rfl, rfl⟩) Z.T (by (simp; done)) rfl ?_
     refine WL.nil ?_
     refine blockQ.normal ?_
     exact loopQ2.mk (nextS x (q.take 64)) (q.drop 64) ⟨nextS_ok _ _, by rw [← h2, hbg]⟩ (by rw [List.length_drop]; omega) (by repeat (first | exact Sub.nil | refine Sub.cons rfl (by rfl) ?_)) Z.F
   ·
    have hbl := blocks_lt (v := x) (r := q) Z.W
    rw [hbl] at h2
    rw [← h2] at hk
    refine WC.exit ?_
    refine thenQ.exit ?_
    refine loopQ2.exit ?_
    refine blockQ.exit ?_
    refine Ret.normal (Ret.zero Tryz.results38 ?_)
    exact hk
end Go.Proofs.YtlbdpcadaojcbaaGreatDoor
namespace Go.Proofs.YtlbdpcadaojcbaaGreatDoor
open Go Go.SL
def padE (n : Nat) : List UInt8 := 128 :: List.replicate ((119 - n % 64) % 64) 0
def lenB (n i : Nat) : UInt8 := UInt8.ofNat (n * 8 / 2 ^ (56 - 8 * i) % 256)
def lenE (n : Nat) : List UInt8 := (List.range 8).map (lenB n)
def St8.wl (v : St8) : List Nat := [v.a, v.b, v.c, v.d, v.e, v.f, v.g, v.h]
theorem wl_cs (v : St8) : v.cs = v.wl.map vw := rfl
def be4 (n : Nat) : List UInt8 := [UInt8.ofNat (n / 2 ^ 24 % 256), UInt8.ofNat (n / 2 ^ 16 % 256), UInt8.ofNat (n / 2 ^ 8 % 256), UInt8.ofNat (n % 256)]
def digestS (v : St8) : List UInt8 := v.wl.flatMap be4
theorem digestS_length (v : St8) : (digestS v).length = 32 := rfl
def finS (v : St8) (r : List UInt8) (n : Nat) : St8 := (blocks v (r ++ padE n ++ lenE n)).1
/-- The digest of a text. -/
def shaE (t : List UInt8) : List UInt8 := digestS (finS first8 t t.length)
theorem shaE_length (t : List UInt8) : (shaE t).length = 32 := digestS_length _
/-- A Hasher that was given the text t. -/
def HashOf (v : St8) (g : Bool) (r : List UInt8) (n : Nat) (t : List UInt8) : Prop := (g = true → v.Ok) ∧ blocks first8 t = (v.begun g, r) ∧ n = t.length
theorem HashOf.new (v : St8) : HashOf v false [] 0 [] := ⟨(fun h => by cases h), blocks_lt (by decide), rfl⟩
theorem HashOf.put {v : St8} {g : Bool} {r : List UInt8} {n : Nat} {t : List UInt8} (h : HashOf v g r n t) (s : List UInt8) : HashOf (blocks (v.begun g) (r ++ s)).1 true (blocks (v.begun g) (r ++ s)).2 (n + s.length) (t ++ s) := by
 obtain ⟨h1, h2, h3⟩ := h
 have ha := blocks_append first8 t s
 rw [h2] at ha
 exact ⟨fun _ => blocks_ok _ _ (begun_ok h1), by rw [← ha]; rfl, by rw [h3, List.length_append]⟩
theorem HashOf.rest {v : St8} {g : Bool} {r : List UInt8} {n : Nat} {t : List UInt8} (h : HashOf v g r n t) : r.length < 64 ∧ r.length % 64 = n % 64 := by
 have h1 := blocks_rest first8 t
 rw [h.2.1, ← h.2.2] at h1
 exact h1
theorem HashOf.sum {v : St8} {g : Bool} {r : List UInt8} {n : Nat} {t : List UInt8} (h : HashOf v g r n t) : digestS (finS (v.begun g) r n) = shaE t := by
 have ha := blocks_append first8 t (padE n ++ lenE n)
 rw [h.2.1] at ha
 rw [shaE, finS, finS, ← h.2.2, List.append_assoc, ha, List.append_assoc]
theorem lenE_length (n : Nat) : (lenE n).length = 8 := by simp [lenE]
theorem len_step {n i : Nat} (hi : i < 7) : (n / 2 ^ (56 - 8 * i) * 8 % 256) ||| (n / 2 ^ (48 - 8 * i) &&& 255) / 2 ^ 5 = n * 8 / 2 ^ (56 - 8 * i) % 256 := by
 obtain ⟨q, hq⟩ : ∃ q, q = n / 2 ^ (48 - 8 * i) := ⟨_, rfl⟩
 have e1 : n / 2 ^ (56 - 8 * i) = q / 256 := by
  rw [hq, Nat.div_div_eq_div_mul, show 56 - 8 * i = (48 - 8 * i) + 8 from by omega, Nat.pow_add]
 have e2 : n * 8 / 2 ^ (56 - 8 * i) = q / 32 := by
  rw [hq, Nat.div_div_eq_div_mul, show 56 - 8 * i = ((48 - 8 * i) + 5) + 3 from by omega, Nat.pow_add _ _ 3, Nat.mul_div_mul_right _ _ (by decide), Nat.pow_add]
 rw [e1, e2, ← hq, show (255 : Nat) = 2 ^ 8 - 1 from rfl, Nat.and_two_pow_sub_one_eq_mod]
 have e3 : q / 256 * 8 % 256 = 2 ^ 3 * (q / 256 % 32) := by omega
 rw [e3, ← Nat.two_pow_add_eq_or_of_lt Z.W]
 omega
theorem last_step (n : Nat) : n / 2 ^ (56 - 8 * 7) * 8 % 256 = n * 8 / 2 ^ (56 - 8 * 7) % 256 := by simp
/-- The cells of the length when i bytes of it are there. -/
def hlrow (n i : Nat) : List Value := ((List.range i).map (lenB n)).map vy ++ List.replicate (8 - i) (vy 0)
theorem lrow_set {n i : Nat} (h : i < 8) (c : UInt8) : (hlrow n i).set i (vy c) = ((List.range i).map (lenB n)).map vy ++ vy c :: List.replicate (7 - i) (vy 0) := by
 rw [hlrow, List.set_append_right _ _ (by simp), List.length_map, List.length_map, List.length_range, Nat.sub_self, show 8 - i = (7 - i) + 1 from by omega, List.replicate_succ]; rfl
theorem lrow_done {n i : Nat} (h : i < 8) : ((List.range i).map (lenB n)).map vy ++ vy (lenB n i) :: List.replicate (7 - i) (vy 0) = hlrow n (i + 1) := by
 rw [hlrow, List.range_succ, List.map_append, List.map_append, show 8 - (i + 1) = 7 - i from by omega, List.append_assoc]; rfl
theorem flat_snoc {l : List Nat} {i : Nat} (h : i < l.length) : (l.take (i + 1)).flatMap be4 = (l.take i).flatMap be4 ++ be4 l[i]! := by
 rw [List.take_add_one, get!_of_lt h, List.flatMap_append]; simp
theorem be4_length (l : List Nat) : (l.flatMap be4).length = 4 * l.length := by
 induction l with
 | nil => rfl
 | cons a l ih => rw [List.flatMap_cons, List.length_append, ih, List.length_cons]; simp [be4]; omega
theorem repeat_zero (n : Nat) : Lib.repeatL [0] n = List.replicate n 0 := by
 have := Lib.repeatL_replicate 0 1 n
 rwa [Nat.mul_one] at this
theorem byte_wrapS (n : Nat) : IntKind.u8.wrap (n : Int) = ((UInt8.ofNat (n % 256)).toNat : Int) := by
 have : (UInt8.ofNat (n % 256)).toNat = n % 256 := by simp
 rw [this]; simp only [IntKind.wrap, IntKind.signed, IntKind.bits, Bool.false_and, Bool.false_eq_true, if_false]; omega
set_option maxRecDepth 20000 in
set_option maxHeartbeats 4000000 in
theorem hsum_spec {R : List RO} {O : List Own} {POST : Value → List RO → List Own → Prop} {v : St8} {g : Bool} {r t : List UInt8} {b n : Nat} (hr : rootsR ∈ R) (hh : HashOf v g r n t) (hn : n ≤ 281474976710656)
 (hk : POST (vs (shaE t)) R (rowC b 83 (hcell v g r n) :: O)) :
 Fun Tryz.prog 39 #[.pointer (some ⟨b, 0, none⟩)] R (rowC b 83 (hcell v g r n) :: O) POST := by
 obtain ⟨hr1, hr2⟩ := hh.rest
 have hpl : (padE n).length = (119 - n % 64) % 64 + 1 := by simp [padE]
 refine Fun.enter (l := [_]) Tryz.func39 rfl Tryz.ntmps39 rfl (L0 := [(0, _)]) rfl ?_
 refine WC.seq ?_
 refine WC.region ?_
 refine WL.rd rfl rfl rfl (Rd.assign rfl rfl) ?_
 refine WL.nil ?_
 refine thenQ.normal ?_
 refine WC.seq ?_
 refine WC.seq ?_
 refine WC.region ?_
 refine WL.rd rfl rfl rfl (Rd.move rfl rfl) ?_
 refine WL.rd rfl rfl rfl ((by exact Rd.peq_sn rfl Tryz.underlying137 rfl rfl)) ?_
 refine WL.nil ?_
 refine thenQ.normal ?_
 refine WC.cond rfl (fun hc1 => ?_) (fun hc1 => ?_)
 ·
  cases hc1
 ·
  refine WC.skip ?_
  refine thenQ.normal ?_
  refine WC.seq ?_
  refine WC.region ?_
  refine WL.rd rfl rfl rfl (Rd.move rfl rfl) ?_
  refine WL.rd rfl rfl rfl (Rd.nilc rfl rfl) ?_
  refine WL.rd rfl rfl rfl ((by exact Rd.rowS rfl G83 rfl Z.M Z.N rfl)) ?_
  refine WL.op rfl ?_
  refine OpW.alloc rfl I83 rfl Z.N rfl rfl ?_; intro b3
  refine WL.op rfl ?_
  refine OpW.storeS rfl G83 rfl rfl Z.N Z.T rfl rfl Z.N rfl ?_
  refine WL.nil ?_
  refine thenQ.normal ?_
  refine WC.seq ?_
  refine WC.region ?_
  refine WL.rd rfl rfl rfl (Rd.move rfl rfl) ?_
  refine WL.rd rfl rfl rfl (Rd.nilc rfl rfl) ?_
  refine WL.rd rfl rfl rfl ((by exact Rd.field rfl F83_3 rfl rfl)) ?_
  refine WL.rd rfl rfl rfl ((by exact Rd.row1 rfl C3 rfl Z.M (by rfl))) ?_
  refine WL.rd rfl rfl rfl (Rd.remN (a := n) (b := 64) rfl rfl rfl rfl rfl (by decide)) ?_
  refine WL.rd rfl rfl rfl (Rd.sub rfl rfl rfl Z.W) ?_
  refine WL.say 19 (u := .int .i64 ((119 - n % 64 : Nat) : Int)) rfl (by congr 1; omega) ?_
  refine WL.rd rfl rfl rfl (Rd.remN (a := 119 - n % 64) (b := 64) rfl rfl rfl rfl rfl (by decide)) ?_
  refine WL.op rfl ?_
  refine OpW.call rfl rfl Z.E Z.K rfl rfl rfl ?_
  refine Fun.below (v := vs (Lib.repeatL [0] ((119 - n % 64) % 64))) (fun w => Tryz.strings_Repeat ⟨#[0]⟩ ((119 - n % 64) % 64) w Z.W (by show 1 * _ ≤ _; omega)) ?_
  rw [repeat_zero]
  refine WL.rd rfl rfl rfl (Rd.scat rfl rfl rfl (by rw [List.length_replicate, List.length_singleton]; omega)) ?_
  refine WL.op rfl ?_
  refine OpW.call rfl rfl Z.E Z.K rfl rfl rfl ?_
  refine hput_spec (v := v) (g := g) (r := r) (s := padE n) hr hh.1 Z.W Z.W ?_
  obtain ⟨x, hx⟩ : ∃ x, x = blocks (v.begun g) (r ++ padE n) := ⟨_, rfl⟩
  have hxo := blocks_ok (v.begun g) (r ++ padE n) (begun_ok hh.1)
  have hxr := blocks_rest (v.begun g) (r ++ padE n)
  have hxa := blocks_append (v.begun g) (r ++ padE n) (lenE n)
  rw [← hx] at hxo hxr hxa ⊢
  refine WL.nil ?_
  refine thenQ.normal ?_
  refine WC.seq ?_
  refine WC.region ?_
  refine WL.op rfl ?_
  refine OpW.alloc rfl I141 rfl Z.N rfl rfl ?_; intro b4
  refine WL.nil ?_
  refine thenQ.normal ?_
  refine WC.seq ?_
  refine WC.seq ?_
  refine WC.region ?_
  refine WL.rd rfl rfl rfl (Rd.move rfl rfl) ?_
  refine WL.nil ?_
  refine thenQ.normal ?_
  refine WC.block ?_
  refine WC.pick [24, 0, 3, 4] Z.P ?_
  refine WC.loop1 1 (fun (i : Nat) => [(24, .int .i64 (i : Int))]) (fun (i : Nat) => rowC b4 141 (hlrow n i) :: rowC b3 83 (hcell x.1 true x.2 (n + (padE n).length)) :: rowC b 83 (hcell v g r n) :: O) (fun (i : Nat) => i ≤ 8) (fun (i : Nat) => 8 - i) (0) Z.L ?hinv1 (by repeat (first | exact Sub.nil | refine Sub.cons rfl (by rfl) ?_)) (fun _ h => h) ?_
  case hinv1 =>
   exact Nat.zero_le _
  intro i
  rintro i1
  refine WC.seq ?_
  refine WC.region ?_
  refine WL.rd rfl rfl rfl (Rd.lss rfl rfl rfl) ?_
  refine WL.nil ?_
  refine thenQ.normal ?_
  refine WC.seq ?_
  refine WC.ite rfl (fun hc2 => ?_) (fun hc2 => ?_)
  ·
   have hml : (((List.range i).map (lenB n)).map vy).length = i := by simp
   have hll : (hlrow n i).length = 8 := by rw [hlrow, List.length_append, hml, List.length_replicate]; omega
   have hd1 := Nat.div_le_self n (2 ^ (56 - 8 * i))
   have hd2 := Nat.div_le_self n (2 ^ (48 - 8 * i))
   refine WC.skip ?_
   refine thenQ.normal ?_
   refine WC.seq ?_
   refine WC.block ?_
   refine WC.seq ?_
   refine WC.region ?_
   refine WL.rd rfl rfl rfl (Rd.move rfl rfl) ?_
   refine WL.rd rfl rfl rfl (Rd.assign rfl rfl) ?_
   refine WL.nil ?_
   refine thenQ.normal ?_
   refine WC.seq ?_
   refine WC.region ?_
   refine WL.rd rfl rfl rfl (Rd.move rfl rfl) ?_
   refine WL.rd rfl rfl rfl (Rd.move rfl rfl) ?_
   refine WL.rd rfl rfl rfl (Rd.nilc rfl rfl) ?_
   refine WL.rd rfl rfl rfl ((by exact Rd.field rfl F83_3 rfl rfl)) ?_
   refine WL.rd rfl rfl rfl ((by exact Rd.row1 rfl C3 rfl Z.M (by rfl))) ?_
   refine WL.rd rfl rfl rfl (Rd.move rfl rfl) ?_
   refine WL.rd rfl rfl rfl (Rd.mul rfl rfl rfl Z.W) ?_
   refine WL.rd rfl rfl rfl (Rd.sub rfl rfl rfl Z.W) ?_
   refine WL.rd rfl rfl rfl (Rd.shrN (a := n) (n := 56 - 8 * i) rfl rfl rfl rfl Z.W (by show 56 - 8 * i ≤ 64; omega)) ?_
   refine WL.rd rfl rfl rfl (Rd.shlS (a := n / 2 ^ (56 - 8 * i)) (n := 3) rfl rfl rfl rfl rfl (by decide) Z.W) ?_
   refine WL.rd rfl rfl rfl (Rd.convw rfl rfl Tryz.underlying5 (hS := Tryz.underlying3)) ?_
   refine WL.say 37 (u := vy (UInt8.ofNat (n / 2 ^ (56 - 8 * i) * 8 % 256))) rfl (by rw [byte_wrapS]) ?_
   refine WL.rd rfl rfl rfl ((by exact Rd.idxArr1 (k := i) rfl A141 rfl rfl Z.W Z.W)) ?_
   refine WL.op rfl ?_
   refine OpW.store1 rfl Z5 rfl rfl (by exact ⟨rfl, rfl⟩) Z.T Z.W rfl ?_
   refine WL.heap (fun w h => by rw [lrow_set Z.W] at h; exact h) ?_
   refine WL.nil ?_
   refine thenQ.normal ?_
   refine WC.seq ?_
   refine WC.region ?_
   refine WL.rd rfl rfl rfl (Rd.move rfl rfl) ?_
   refine WL.rd rfl rfl rfl (Rd.lss rfl rfl rfl) ?_
   refine WL.nil ?_
   refine thenQ.normal ?_
   refine WC.ite rfl (fun hc3 => ?_) (fun hc3 => ?_)
   ·
    refine WC.tail 16 mixed Z.K ?_
    refine WS.rd rfl rfl rfl (Rd.move rfl rfl) ?_
    refine WS.rd rfl rfl rfl ((by exact Rd.idxArr1 (k := i) rfl A141 rfl rfl Z.W Z.W)) ?_
    refine WS.rd rfl rfl rfl (Rd.row1 rfl C5 rfl Z.M (mid_get _ _ _ hml)) ?_
    refine WS.rd rfl rfl rfl (Rd.move rfl rfl) ?_
    refine WS.rd rfl rfl rfl (Rd.nilc rfl rfl) ?_
    refine WS.rd rfl rfl rfl ((by exact Rd.field rfl F83_3 rfl rfl)) ?_
    refine WS.rd rfl rfl rfl ((by exact Rd.row1 rfl C3 rfl Z.M (by rfl))) ?_
    refine WS.rd rfl rfl rfl (Rd.move rfl rfl) ?_
    refine WS.rd rfl rfl rfl (Rd.mul rfl rfl rfl Z.W) ?_
    refine WS.rd rfl rfl rfl (Rd.sub rfl rfl rfl Z.W) ?_
    refine WS.rd rfl rfl rfl (Rd.shrN (a := n) (n := 48 - 8 * i) rfl rfl rfl rfl Z.W (by show 48 - 8 * i ≤ 64; omega)) ?_
    refine WS.rd rfl rfl rfl (Rd.andS (a := n / 2 ^ (48 - 8 * i)) (c := 255) rfl rfl rfl rfl rfl (show _ < 9223372036854775808 by omega) (by decide)) ?_
    refine WS.rd rfl rfl rfl (Rd.shrN (a := n / 2 ^ (48 - 8 * i) &&& 255) (n := 5) rfl rfl rfl rfl rfl (by decide)) ?_
    have h255 : n / 2 ^ (48 - 8 * i) &&& 255 ≤ 255 := Nat.and_le_right
    refine WS.rd rfl rfl rfl (Rd.conv rfl rfl Tryz.underlying5 (wrap_natU rfl (show _ < 256 by omega)) (hS := Tryz.underlying3)) ?_
    refine WS.rd rfl rfl rfl (Rd.orU rfl rfl rfl rfl rfl rfl (UInt8.toNat_lt _) (show _ < 256 by omega)) ?_
    refine WS.say 55 (u := vy (lenB n i)) rfl (by
    have e : ∀ m : Nat, m < 256 → (UInt8.ofNat m).toNat = m := fun m h => by simp; omega
    rw [e _ (Nat.mod_lt _ (by decide)), len_step Z.W, lenB, vy, e _ (Nat.mod_lt _ (by decide))]) ?_
    refine WS.rd rfl rfl rfl ((by exact Rd.idxArr1 (k := i) rfl A141 rfl rfl Z.W Z.W)) ?_
    refine WS.switch ?_
    refine WL.op rfl ?_
    refine OpW.store1 rfl Z5 rfl rfl (by exact ⟨rfl, rfl⟩) Z.T (by (simp; done)) rfl ?_
    refine WL.heap (fun w h => by rw [mid_set _ _ _ _ hml] at h; exact h) ?_
    refine WL.nil ?_
    refine blockQ.normal ?_
    refine thenQ.normal ?_
    refine WC.region ?_
    refine WL.rd rfl rfl rfl (Rd.add rfl rfl rfl Z.W) ?_
    refine WL.rd rfl rfl rfl (Rd.move rfl rfl) ?_
    refine WL.nil ?_
    exact loopQ1.mk (i + 1) Z.W Z.W (by repeat (first | exact Sub.nil | refine Sub.cons rfl (by rfl) ?_)) (fun w h => by rw [← lrow_done Z.W]; exact Z.Fw h)
   ·
    refine WC.skip ?_
    refine blockQ.normal ?_
    refine thenQ.normal ?_
    refine WC.region ?_
    refine WL.rd rfl rfl rfl (Rd.add rfl rfl rfl Z.W) ?_
    refine WL.rd rfl rfl rfl (Rd.move rfl rfl) ?_
    refine WL.nil ?_
    obtain rfl : i = 7 := by omega
    exact loopQ1.mk (7 + 1) Z.W Z.W (by repeat (first | exact Sub.nil | refine Sub.cons rfl (by rfl) ?_)) (fun w h => by rw [← lrow_done Z.W, lenB, ← last_step]; exact Z.Fw h)
  ·
   obtain rfl : i = 8 := by omega
   refine WC.heap (R' := R) (O' := rowC b4 141 ((lenE n).map vy) :: rowC b3 83 (hcell x.1 true x.2 (n + (padE n).length)) :: rowC b 83 (hcell v g r n) :: O) (fun w h => by
    have e : hlrow n 8 = (lenE n).map vy := by rw [hlrow, Nat.sub_self, List.replicate_zero, List.append_nil]; rfl
    rw [e] at h; exact h) ?_
   refine WC.exit ?_
   refine thenQ.exit ?_
   refine loopQ1.exit ?_
   refine blockQ.exit ?_
   refine thenQ.normal ?_
   refine WC.seq ?_
   refine WC.region ?_
   refine WL.rd rfl rfl rfl (Rd.sliceArr rfl A141 rfl (by decide)) ?_
   refine WL.rd rfl rfl rfl (Rd.strOfR (bs := lenE n) rfl Tryz.underlying48 Tryz.underlying9 Tryz.underlying5 rfl Z.M rfl (lenE_length n) Z.W) ?_
   refine WL.op rfl ?_
   refine OpW.call rfl rfl Z.E Z.K rfl rfl rfl ?_
   have hlE := lenE_length n
   refine Fun.heap (R' := R) (O' := rowC b3 83 (hcell x.1 true x.2 (n + (padE n).length)) :: rowC b 83 (hcell v g r n) :: O) Z.F ?_
   refine hput_spec (v := x.1) (g := true) (r := x.2) (s := lenE n) hr (fun _ => hxo) Z.W Z.W ?_
   rw [show x.1.begun true = x.1 from rfl, hxa]
   obtain ⟨y, hy⟩ : ∃ y, y = (blocks (v.begun g) (r ++ padE n ++ lenE n)).1 := ⟨_, rfl⟩
   rw [← hy]
   have hdg : digestS y = shaE t := by rw [hy]; exact hh.sum
   refine WL.nil ?_
   refine thenQ.normal ?_
   refine WC.seq ?_
   refine WC.region ?_
   refine WL.op rfl ?_
   refine OpW.make1 (m := 0) (c := 32) rfl S48 rfl rfl rfl rfl rfl Z.W Z.W Z.W rfl rfl ?_; intro b61
   refine WL.heap (fun w h => Sat.accCap (α := UInt8) (enc := SL.one vy) (size := 1) (c := 32) Z.T (by simp) (by decide) h) ?_
   refine WL.rd rfl rfl rfl (Rd.assign rfl rfl) ?_
   refine WL.nil ?_
   refine thenQ.normal ?_
   refine WC.seq ?_
   refine WC.seq ?_
   refine WC.region ?_
   refine WL.rd rfl rfl rfl ((by exact Rd.field rfl F83_0 rfl rfl)) ?_
   refine WL.rd rfl rfl rfl (Rd.rowS (ds := y.cs) rfl G81 rfl Z.M Z.N rfl) ?_
   refine WL.rd rfl rfl rfl (Rd.move rfl rfl) ?_
   refine WL.nil ?_
   refine thenQ.normal ?_
   refine WC.block ?_
   refine WC.pick [64, 6, 63] Z.P ?_
   refine WC.loop2 2 (fun (j : Nat) (u : Value) => [(64, .int .i64 (j : Int)), (6, u)]) (fun (j : Nat) (u : Value) => accC 5 1 (SL.one vy) u ((y.wl.take j).flatMap be4) :: rowC b3 83 (hcell y true (blocks (v.begun g) (r ++ padE n ++ lenE n)).2 (n + (padE n).length + (lenE n).length)) :: rowC b 83 (hcell v g r n) :: O) (fun (j : Nat) (u : Value) => j ≤ 8 ∧ OneV u) (fun (j : Nat) (u : Value) => 8 - j) (0) (.slice (some ⟨b61, 0, none⟩) 0 32) Z.L ?hinv2 (by repeat (first | exact Sub.nil | refine Sub.cons rfl (by rfl) ?_)) (fun _ h => h) ?_
   case hinv2 =>
    exact ⟨Nat.zero_le _, OneV.sl⟩
   intro j u
   rintro ⟨j1, j2⟩
   refine WC.seq ?_
   refine WC.region ?_
   refine WL.rd rfl rfl rfl (Rd.lss rfl rfl rfl) ?_
   refine WL.nil ?_
   refine thenQ.normal ?_
   refine WC.seq ?_
   refine WC.ite rfl (fun hc4 => ?_) (fun hc4 => ?_)
   ·
    have hyl : y.wl.length = 8 := rfl
    have hfs := flat_snoc (l := y.wl) (i := j) Z.W
    have hfl := be4_length (y.wl.take j)
    rw [List.length_take] at hfl
    refine WC.skip ?_
    refine thenQ.normal ?_
    refine WC.seq ?_
    refine WC.block ?_
    refine WC.seq ?_
    refine WC.region ?_
    refine WL.rd rfl rfl rfl (Rd.idxAgg (k := j) rfl A81 C79 rfl rfl Z.W Z.W (by rw [wl_cs, List.getElem?_map, get!_of_lt (xs := y.wl) Z.W]; rfl)) ?_
    refine WL.rd rfl rfl rfl (Rd.assign rfl rfl) ?_
    refine WL.nil ?_
    refine thenQ.normal ?_
    refine WC.region ?_
    refine WL.rd rfl rfl rfl (Rd.move rfl rfl) ?_
    refine WL.rd rfl rfl rfl (Rd.move rfl rfl) ?_
    refine WL.rd rfl rfl rfl (Rd.shrN (a := y.wl[j]!) (n := 24) rfl rfl rfl rfl rfl (by decide)) ?_
    refine WL.rd rfl rfl rfl ((by exact Rd.convw rfl rfl Tryz.underlying5 (hS := Tryz.underlying79))) ?_
    refine WL.say 70 (u := vy (UInt8.ofNat (y.wl[j]! / 2 ^ 24 % 256))) rfl (by rw [byte_wrapS]) ?_
    refine WL.rd rfl rfl rfl (Rd.move rfl rfl) ?_
    refine WL.rd rfl rfl rfl (Rd.shrN (a := y.wl[j]!) (n := 16) rfl rfl rfl rfl rfl (by decide)) ?_
    refine WL.rd rfl rfl rfl ((by exact Rd.convw rfl rfl Tryz.underlying5 (hS := Tryz.underlying79))) ?_
    refine WL.say 73 (u := vy (UInt8.ofNat (y.wl[j]! / 2 ^ 16 % 256))) rfl (by rw [byte_wrapS]) ?_
    refine WL.rd rfl rfl rfl (Rd.move rfl rfl) ?_
    refine WL.rd rfl rfl rfl (Rd.shrN (a := y.wl[j]!) (n := 8) rfl rfl rfl rfl rfl (by decide)) ?_
    refine WL.rd rfl rfl rfl ((by exact Rd.convw rfl rfl Tryz.underlying5 (hS := Tryz.underlying79))) ?_
    refine WL.say 76 (u := vy (UInt8.ofNat (y.wl[j]! / 2 ^ 8 % 256))) rfl (by rw [byte_wrapS]) ?_
    refine WL.rd rfl rfl rfl (Rd.move rfl rfl) ?_
    refine WL.rd rfl rfl rfl ((by exact Rd.convw rfl rfl Tryz.underlying5 (hS := Tryz.underlying79))) ?_
    refine WL.say 78 (u := vy (UInt8.ofNat (y.wl[j]! % 256))) rfl (by rw [byte_wrapS]) ?_
    refine WL.op rfl ?_
    refine OpW.buildSl (ps := [(0, _), (1, _), (2, _), (3, _)]) rfl S48 Z.E rfl rfl Z.C Z.K rfl rfl rfl ?_; intro b79
    refine WL.op rfl ?_
    refine OpW.appendRow (enc := SL.one vy) rfl S48 rfl rfl Z.T Z.T (be4 y.wl[j]!) rfl (by rfl) rfl (by intro x; rfl) (by intro x; rfl) (by exact ⟨by simp only [maxLen, List.length_append, List.length_nil, List.length_cons, List.length_drop, List.length_take, List.length_map]; omega, by omega⟩) rfl rfl ?_; intro v80 hv80
    refine WL.rd rfl rfl rfl (Rd.assign rfl rfl) ?_
    refine WL.nil ?_
    refine blockQ.normal ?_
    refine thenQ.normal ?_
    refine WC.region ?_
    refine WL.rd rfl rfl rfl (Rd.add rfl rfl rfl Z.W) ?_
    refine WL.rd rfl rfl rfl (Rd.move rfl rfl) ?_
    refine WL.nil ?_
    exact loopQ2.mk (j + 1) v80 ⟨by omega, hv80⟩ Z.W (by repeat (first | exact Sub.nil | refine Sub.cons rfl (by rfl) ?_)) (fun w h => by rw [hfs]; exact Z.Fw h)
   ·
    obtain rfl : j = 8 := by omega
    have hfin : (y.wl.take 8).flatMap be4 = shaE t := hdg
    refine WC.heap (fun w h => by rw [hfin] at h; exact h) ?_
    refine WC.exit ?_
    refine thenQ.exit ?_
    refine loopQ2.exit ?_
    refine blockQ.exit ?_
    refine thenQ.normal ?_
    refine WC.seq ?_
    refine WC.region ?_
    refine WL.rd rfl rfl rfl (Rd.move rfl rfl) ?_
    refine WL.rd rfl rfl rfl ((by exact Rd.strOfA rfl Tryz.underlying48 Tryz.underlying9 Tryz.underlying5 rfl Z.M)) ?_
    refine WL.rd rfl rfl rfl (Rd.assign rfl rfl) ?_
    refine WL.nil ?_
    refine thenQ.normal ?_
    refine WC.heap (R' := R) (O' := rowC b 83 (hcell v g r n) :: O) Z.F ?_
    refine WC.ret (Ret.one Tryz.results39 rfl ?_)
    exact hk
end Go.Proofs.YtlbdpcadaojcbaaGreatDoor
namespace Go.Proofs.YtlbdpcadaojcbaaGreatDoor
open Go Go.SL
theorem flatten_snoc {l : List (List UInt8)} {i : Nat} (h : i < l.length) : (l.take (i + 1)).flatten = (l.take i).flatten ++ l[i]! := by
 rw [List.take_add_one, get!_of_lt h, List.flatten_append]; simp
theorem flatten_take_le (l : List (List UInt8)) (i : Nat) : (l.take i).flatten.length ≤ l.flatten.length := by
 have h : l.flatten = (l.take i).flatten ++ (l.drop i).flatten := by rw [← List.flatten_append, List.take_append_drop]
 rw [h, List.length_append]; omega
set_option maxRecDepth 20000 in
set_option maxHeartbeats 1000000 in
theorem shaSum_spec {R : List RO} {O : List Own} {POST : Value → List RO → List Own → Prop} {l : List (List UInt8)} {lv : Value} (hr : rootsR ∈ R) (hl : SlE (SL.one vs) lv l ∈ R) (hn : l.flatten.length ≤ 281474976710656)
 (hk : POST (vs (shaE l.flatten)) R O) : Fun Tryz.prog 13 #[lv] R O POST := by
 refine Fun.len hl fun hll => ?_
 refine Fun.enter (l := [_]) Tryz.func13 rfl Tryz.ntmps13 rfl (L0 := [(0, _)]) rfl ?_
 refine WC.seq ?_
 refine WC.region ?_
 refine WL.rd rfl rfl rfl (Rd.assign rfl rfl) ?_
 refine WL.nil ?_
 refine thenQ.normal ?_
 refine WC.seq ?_
 refine WC.region ?_
 refine WL.op rfl ?_
 refine OpW.alloc rfl I83 rfl Z.N rfl rfl ?_; intro b3
 refine WL.nil ?_
 refine thenQ.normal ?_
 refine WC.seq ?_
 refine WC.seq ?_
 refine WC.region ?_
 refine WL.rd rfl rfl rfl (Rd.move rfl rfl) ?_
 refine WL.rd rfl rfl rfl ((by exact Rd.lenE rfl rfl Tryz.underlying22 Z.M)) ?_
 refine WL.rd rfl rfl rfl (Rd.move rfl rfl) ?_
 refine WL.nil ?_
 refine thenQ.normal ?_
 refine WC.block ?_
 refine WC.pick [8, 3, 6, 7] Z.P ?_
 refine WC.loop5 1 (fun (i : Nat) (v : St8) (g : Bool) (r : List UInt8) (n : Nat) => [(8, .int .i64 (i : Int))]) (fun (i : Nat) (v : St8) (g : Bool) (r : List UInt8) (n : Nat) => rowC b3 83 (hcell v g r n) :: O) (fun (i : Nat) (v : St8) (g : Bool) (r : List UInt8) (n : Nat) => i ≤ l.length ∧ HashOf v g r n (l.take i).flatten) (fun (i : Nat) (v : St8) (g : Bool) (r : List UInt8) (n : Nat) => l.length - i) (0) (⟨0, 0, 0, 0, 0, 0, 0, 0⟩) (false) ([]) (0) Z.L ?hinv1 (by repeat (first | exact Sub.nil | refine Sub.cons rfl (by rfl) ?_)) (fun _ h => h) ?_
 case hinv1 =>
  exact ⟨Nat.zero_le _, HashOf.new _⟩
 intro i v g r n
 rintro ⟨h1, h2⟩
 refine WC.seq ?_
 refine WC.region ?_
 refine WL.rd rfl rfl rfl (Rd.lss rfl rfl rfl) ?_
 refine WL.nil ?_
 refine thenQ.normal ?_
 refine WC.seq ?_
 refine WC.ite rfl (fun hc1 => ?_) (fun hc1 => ?_)
 ·
  have hf := flatten_snoc (l := l) (i := i) Z.W
  have hfl := congrArg List.length hf
  rw [List.length_append] at hfl
  have hfn := flatten_take_le l (i + 1)
  have hrr := h2.rest
  have hnn : n = (l.take i).flatten.length := h2.2.2
  refine WC.skip ?_
  refine thenQ.normal ?_
  refine WC.seq ?_
  refine WC.block ?_
  refine WC.seq ?_
  refine WC.region ?_
  refine WL.rd rfl rfl rfl ((by exact Rd.idx1 (k := i) rfl S22 rfl rfl Z.W Z.M Z.W)) ?_
  refine WL.rd rfl rfl rfl ((by exact Rd.get rfl C9 rfl Z.M (by exact get!_of_lt Z.W))) ?_
  refine WL.rd rfl rfl rfl (Rd.assign rfl rfl) ?_
  refine WL.nil ?_
  refine thenQ.normal ?_
  refine WC.region ?_
  refine WL.rd rfl rfl rfl (Rd.move rfl rfl) ?_
  refine WL.op rfl ?_
  refine OpW.call rfl rfl Z.E Z.K rfl rfl rfl ?_
  refine hput_spec hr h2.1 Z.W Z.W ?_
  refine WL.nil ?_
  refine blockQ.normal ?_
  refine thenQ.normal ?_
  refine WC.region ?_
  refine WL.rd rfl rfl rfl (Rd.add rfl rfl rfl Z.W) ?_
  refine WL.rd rfl rfl rfl (Rd.move rfl rfl) ?_
  refine WL.nil ?_
  exact loopQ5.mk (i + 1) _ _ _ _ ⟨by omega, by rw [hf]; exact h2.put _⟩ Z.W (by repeat (first | exact Sub.nil | refine Sub.cons rfl (by rfl) ?_)) Z.F
 ·
  have hi : l.take i = l := List.take_of_length_le Z.W
  rw [hi] at h2
  have hnn : n = l.flatten.length := h2.2.2
  refine WC.exit ?_
  refine thenQ.exit ?_
  refine loopQ5.exit ?_
  refine blockQ.exit ?_
  refine thenQ.normal ?_
  refine WC.seq ?_
  refine WC.region ?_
  refine WL.op rfl ?_
  refine OpW.call rfl rfl Z.E Z.K rfl rfl rfl ?_
  refine hsum_spec hr h2 Z.W ?_
  refine WL.rd rfl rfl rfl (Rd.assign rfl rfl) ?_
  refine WL.nil ?_
  refine thenQ.normal ?_
  refine WC.heap (R' := R) (O' := O) Z.F ?_
  refine WC.ret (Ret.one Tryz.results13 rfl ?_)
  exact hk
def digs : List UInt8 := [48, 49, 50, 51, 52, 53, 54, 55, 56, 57, 97, 98, 99, 100, 101, 102]
def dg (n : Nat) : UInt8 := digs[n]!
def val (c : UInt8) : Int := Lib.indexByte digs c
def hx (c : UInt8) : List UInt8 := [dg (c.toNat / 16), dg (c.toNat % 16)]
end Go.Proofs.YtlbdpcadaojcbaaGreatDoor
namespace Go.SL
/-- What is known behind a call is said otherwise. -/
theorem Fun.turn {P : Program} {f : FuncId} {args : Array Value} {R : List RO} {O : List Own} {post : Value → List RO → List Own → Prop} (h : Fun P f args R O fun v R' O' => ∃ R2 O2, post v R2 O2 ∧ ∀ w, Sat R' O' w → Sat R2 O2 w) : Fun P f args R O post := h.thin fun _ _ _ h => h
end Go.SL
namespace Go.Proofs.YtlbdpcadaojcbaaGreatDoor
open Go Go.SL
def obBlob (b : List UInt8) : Ob := { zOb with kind := 1, body := b }
def obTree (i : List UInt8) : Ob := { zOb with kind := 2, ents := [([102], i)] }
def obCommit (t : List UInt8) (ps : List (List UInt8)) (n : Int) : Ob := { zOb with kind := 3, tree := t, pars := ps, time := n }
theorem encE_ok {o : Ob} (hk : 1 ≤ o.kind ∧ o.kind ≤ 4) (hr : RightP o) (h1 : ∀ t ∈ texts o, t.length ≤ 500) (h2 : (texts o).length ≤ 5) : encE o = (encB o, 0) := by
 have hj := joinE_leB h1 Z.W
 have hm : (500 + 6) * (texts o).length ≤ (500 + 6) * 5 := Nat.mul_le_mul_left _ h2
 unfold encE
 rw [if_neg Z.W, if_neg (fun h => h hr), if_neg]
 unfold encB
 rw [List.length_cons]; omega
theorem blob_ok {b : List UInt8} (h : b.length ≤ 500) : encE (obBlob b) = (encB (obBlob b), 0) := by
 have hkd : (obBlob b).kind = 1 := rfl
 have ht : texts (obBlob b) = [b] := rfl
 refine encE_ok ⟨by rw [hkd]; decide, by rw [hkd]; decide⟩ ⟨⟨fun h => absurd rfl h, fun _ => rfl, fun _ => ⟨rfl, rfl, rfl, rfl⟩, fun _ => ⟨rfl, rfl⟩, fun _ => rfl⟩, fun _ => by show b.length ≤ _; omega, fun h => absurd (hkd.symm.trans h) (by decide), fun h => absurd (hkd.symm.trans h) (by decide), fun h => absurd (hkd.symm.trans h) (by decide)⟩ ?_ ?_
 · rw [ht]; intro t hm; rw [List.mem_singleton.1 hm]; exact h
 · rw [ht]; show 1 ≤ 5; omega
theorem good_f : GoodP [102] := by decide
theorem tree_ok {i : List UInt8} (h : i.length = 32) : encE (obTree i) = (encB (obTree i), 0) := by
 have hkd : (obTree i).kind = 2 := rfl
 have ht : texts (obTree i) = [[102], i] := rfl
 refine encE_ok ⟨by rw [hkd]; decide, by rw [hkd]; decide⟩ ⟨⟨fun _ => rfl, fun h => absurd rfl h, fun _ => ⟨rfl, rfl, rfl, rfl⟩, fun _ => ⟨rfl, rfl⟩, fun _ => rfl⟩, fun h => absurd (hkd.symm.trans h) (by decide), fun _ => ⟨fun k hk => ?_, by show 1 ≤ _; omega⟩, fun h => absurd (hkd.symm.trans h) (by decide), fun h => absurd (hkd.symm.trans h) (by decide)⟩ ?_ ?_
 · have : k = 0 := by have : k < 1 := hk; omega
   subst this
   exact ⟨good_f, h, fun h => absurd h (Nat.lt_irrefl 0)⟩
 · rw [ht]; intro t hm
   rcases List.mem_cons.1 hm with rfl | hm
   · decide
   · rw [List.mem_singleton.1 hm]; omega
 · rw [ht]; show 2 ≤ 5; omega
theorem commit_ok {t : List UInt8} {ps : List (List UInt8)} {n : Int} (h : t.length = 32) (hp : ps = [] ∨ ∃ p, ps = [p] ∧ p.length = 32) (hn : 0 ≤ n ∧ n ≤ 1099511627776) : encE (obCommit t ps n) = (encB (obCommit t ps n), 0) := by
 have hkd : (obCommit t ps n).kind = 3 := rfl
 have ht : texts (obCommit t ps n) = [t, ps.flatten, [], [], putI n] := rfl
 have hf : ps.flatten.length ≤ 32 := by
  rcases hp with rfl | ⟨p, rfl, hp⟩
  · exact Nat.zero_le _
  · simp; omega
 have hps := putI_short n
 refine encE_ok ⟨by rw [hkd]; decide, by rw [hkd]; decide⟩ ⟨⟨fun _ => rfl, fun _ => rfl, fun h => absurd rfl h, fun _ => ⟨rfl, rfl⟩, fun h => by rw [hkd] at h; omega⟩, fun h => absurd (hkd.symm.trans h) (by decide), fun h => absurd (hkd.symm.trans h) (by decide), fun _ => ⟨fun k hk => ?_, h, ?_, by show 0 ≤ _; omega, by show 0 ≤ _; omega, hn.1, hn.2⟩, fun h => absurd (hkd.symm.trans h) (by decide)⟩ ?_ ?_
 · have hk : k < ps.length := hk
   rcases hp with rfl | ⟨p, rfl, hp⟩
   · exact absurd hk (Nat.not_lt_zero _)
   · have : k = 0 := by have : k < 1 := hk; omega
     subst this
     exact ⟨hp, fun h => absurd h List.not_mem_nil⟩
 · show ps.length ≤ 8
   rcases hp with rfl | ⟨p, rfl, hp⟩
   · exact Nat.zero_le _
   · show 1 ≤ 8; omega
 · rw [ht]; intro x hm
   simp only [List.mem_cons, List.not_mem_nil, or_false] at hm
   rcases hm with rfl | rfl | rfl | rfl | rfl
   · omega
   · omega
   · exact Nat.zero_le _
   · exact Nat.zero_le _
   · omega
 · rw [ht]; show 5 ≤ 5; omega
end Go.Proofs.YtlbdpcadaojcbaaGreatDoor
namespace Go.SL
open Go Go.RowKit
def fw (ro : Option Nat) : Fence := { Fence.wide with round := ro }
theorem stepsIn_fw {P : Program} {ro : Option Nat} {m m' : Machine} : StepsIn (Machine.fenced P (fw ro)) P m m' ↔ Steps P m m' := stepsIn_wide
theorem callsIn_fw {P : Program} {ro : Option Nat} {k : Nat} {f : FuncId} {args : Array Value} {w : World} {R : Ending → World → Prop} : CallsIn (fw ro) k P f args w R ↔ Calls P f args w R := callsIn_wide (n := k)
def noDef (l : List Oper) : Bool := l.all fun o => match o.op with
 | .defer _ => false
 | _ => true
theorem noDef_spec {l : List Oper} (h : noDef l = true) {o : Oper} (ho : o ∈ l) : ∀ c, o.op ≠ .defer c := fun c e => by
 have := List.all_eq_true.1 h o ho
 rw [e] at this
 cases this
section
variable {P : Program} {ro : Option Nat} {o : Oper} {a : Act} {w : World} {K : Act → World → Prop} {Q : Exit → Act → World → Prop} {ops : Array Oper} {md : Region.Mode}
theorem wp_in (hd : ∀ c, o.op ≠ .defer c) (h : o.wp P a w K Q) : o.wpIn (fw ro) 0 P a w K Q := by
 refine ⟨fun _ _ => trivial, ?_⟩
 show o.uponIn _ _ _ _ _ _ ((o.semAt ro a.eval).run P w)
 rw [Oper.semAt_eq ro a.eval o hd]
 unfold Oper.wp at h
 generalize (execOp a.eval o).run P w = r at h ⊢
 have dep : (fw ro).depth.isSome = true → 1 ≤ 0 := fun hx => by cases hx
 cases r with
 | ok x w' =>
   cases x with
   | value v => exact h
   | skip => exact h
   | defer d => exact h
   | enter f args => exact ⟨dep, callsIn_fw.2 h⟩
   | row row args => exact ⟨dep, fun c cs _ => let ⟨v, w', r, s⟩ := h c cs; ⟨v, w', r, stepsIn_fw.2 s⟩⟩
   | round l f tmps assign body => exact h.elim
   | _ => exact h.elim
 | halt x w' => cases x <;> exact h
theorem wpOp_in {i : Nat} (hd : ∀ o ∈ ops.toList, ∀ c, o.op ≠ .defer c) (hQ : ¬ LetsOut Q) (h : wpOp P ops Q i K a w) : wpOpIn (fw ro) 0 P ops Q i K a w := by
 unfold wpOp at h
 unfold wpOpIn
 cases e : ops[i]? with
 | none => rw [e] at h; exact h
 | some o =>
   rw [e] at h
   simp only at h ⊢
   have hm : o ∈ ops.toList := Array.mem_toList_iff.2 (Array.mem_of_getElem? e)
   split
   · rename_i hw
     rw [if_pos hw] at h
     rcases h with h | h
     · exact wp_in (hd o hm) h
     · exact absurd h.2 hQ
   · rename_i hw
     rw [if_neg hw] at h
     exact ⟨fun _ _ => trivial, h⟩
theorem wpAny_in (hd : ∀ o ∈ ops.toList, ∀ c, o.op ≠ .defer c) (hQ : ¬ LetsOut Q) : ∀ (fuel : Nat) (listed : Array Bool) (a : Act) (w : World), wpAny P md ops Q fuel listed a w → wpAnyIn (fw ro) 0 P md ops Q fuel listed a w
 | 0, _, _, _, h => h
 | fuel + 1, listed, a, w, h => ⟨h.1, fun i hi => wpOpIn_mono (fun a w => wpAny_in hd hQ fuel _ a w) (wpOp_in hd hQ (h.2 i hi))⟩
theorem wpList_in (hQ : ¬ LetsOut Q) : ∀ (l : List Oper) (a : Act) (w : World), (∀ o ∈ l, ∀ c, o.op ≠ .defer c) → wpList P ops Q l a w → wpListIn (fw ro) 0 P ops Q l a w
 | [], _, _, _, h => h
 | o :: l, a, w, hd, h => by
   unfold wpList at h
   unfold wpListIn
   split
   · rename_i hw
     rw [if_pos hw] at h
     rcases h with h | h
     · exact Oper.wpIn_mono (fun a w => wpList_in hQ l a w (fun o ho => hd o (List.mem_cons_of_mem _ ho))) (wp_in (hd o List.mem_cons_self) h)
     · exact absurd h.2 hQ
   · rename_i hw
     rw [if_neg hw] at h
     exact ⟨fun _ _ => trivial, wpList_in hQ l _ w (fun o ho => hd o (List.mem_cons_of_mem _ ho)) h⟩
end
def WR (ro : Option Nat) (P : Program) (n : Sz) (c : Code) (Q : Post) (L : Env) (R : List RO) (O : List Own) : Prop :=
 ∀ a w, Fr n L a → Sat R O w → c.wpIn (fw ro) 0 P (lift n Q) a w
/-- The operations of a region of a function (not of a round), of which some may call yield. -/
def WY (P : Program) (n : Sz) (ops : Array Oper) (Q : Post) (rest : List Oper) (L : Env) (R : List RO) (O : List Own) : Prop :=
 ∀ a w, Fr n L a → Sat R O w → wpListIn (fw none) 0 P ops (lift n Q) rest a w
theorem lift_out {n : Sz} {Q : Post} : ¬ LetsOut (lift n Q) := fun ⟨_, _, h⟩ => h
section
variable {P : Program} {ro : Option Nat} {n : Sz} {ops : Array Oper} {Q : Post} {rest : List Oper} {o : Oper} {L : Env} {R : List RO} {O O' : List Own}
theorem WR.region {id : Nat} {l : List Oper} (h : WL P n l.toArray Q l L R O) (hd : noDef l = true := by kernel_rfl) : WR ro P n (.region id l.toArray false) Q L R O :=
 fun a w hf hs => wpIn_region_lit (wpList_in lift_out l a w (fun o ho => noDef_spec hd ho) (h a w hf hs))
theorem WR.drawn {id : Nat} {l : List Oper} (T : List Own) (m : Nat) (hlen : l.length = m) (hm : P.follows .mixedOrders = true) (h : WD P n l.toArray Q R T m (Array.replicate m false) L R O) (hd : noDef l = true := by kernel_rfl) : WR ro P n (.region id l.toArray true) Q L R O := by
 subst hlen
 intro a w hf hs
 exact wpIn_region_any hm (wpAny_in (fun o ho => noDef_spec hd (by simpa using ho)) lift_out _ _ _ _ (wpAny_of_held _ _ _ _ (h a _ hf (hs.drew _))))
theorem WY.nil (h : Q .normal L R O) : WY P n ops Q [] L R O := fun _ _ hf hs => wpListIn_nil (lift_normal h hf hs)
theorem WY.op (hg : o.guard = none) (h : OpW P n o L R O (fun L' R' O' => WY P n ops Q rest L' R' O')) (hd : noDef [o] = true := by kernel_rfl) : WY P n ops Q (o :: rest) L R O := by
 intro a w hf hs
 refine wpListIn_plain hg fun K hK => wp_in (noDef_spec hd List.mem_cons_self) ?_
 exact Oper.wp_mono (fun a' w' ⟨L', R', O', hk, hf', hs'⟩ => hK _ _ (hk a' w' hf' hs')) (h a w hf hs _)
theorem WY.say (t : Nat) {v u : Value} (ht : Env.find L t = some v) (e : v = u) (k : WY P n ops Q rest ((t, u) :: L) R O) : WY P n ops Q rest L R O :=
 fun a w hf hs => k a w (hf.known ht e) hs
theorem WY.heap {R' : List RO} {O' : List Own} (hs : ∀ w, Sat R O w → Sat R' O' w) (k : WY P n ops Q rest L R' O') : WY P n ops Q rest L R O := fun a w hf h => k a w hf (hs w h)
def thenR (ro : Option Nat) (P : Program) (n : Sz) (y : Code) (Q : Post) : Post
 | .normal, L, R, O => WR ro P n y Q L R O
 | e, L, R, O => Q e L R O
theorem thenR.normal {y : Code} (h : WR ro P n y Q L R O) : thenR ro P n y Q .normal L R O := h
theorem thenR.exit {y : Code} {id : Nat} (h : Q (.exit id) L R O) : thenR ro P n y Q (.exit id) L R O := h
theorem WR.seq {x y : Code} (h : WR ro P n x (thenR ro P n y Q) L R O) : WR ro P n (.seq x y) Q L R O := by
 intro a w hf hs
 refine wpIn_seq (wpIn_mono (h a w hf hs) fun e a' w' hq => ?_)
 cases e with
 | normal => obtain ⟨L', R', O', hk, hf', hs'⟩ := hq; exact hk a' w' hf' hs'
 | exit id => exact hq
 | goto l => exact hq
 | ret => exact hq
 | panic c => exact hq
 | outgrown => exact hq
theorem WR.skip (h : Q .normal L R O) : WR ro P n .skip Q L R O := fun _ _ hf hs => wpIn_skip (lift_normal h hf hs)
theorem WR.exit {id : Nat} (h : Q (.exit id) L R O) : WR ro P n (.exit id) Q L R O := fun _ _ hf hs => wpIn_exit ⟨_, _, _, h, hf, hs⟩
theorem WR.retO {O' : List Own} (hF : FinO n.ds O O') (h : Q .ret L R O') : WR ro P n .ret Q L R O := fun _ _ hf hs => wpIn_ret ⟨_, _, _, h, hf.own, by rw [hf.defers]; exact hF.fin hs⟩
theorem WR.ret (h : Q .ret L R O) (hF : FinO n.ds O O := by exact FinO.nil) : WR ro P n .ret Q L R O := WR.retO hF h
theorem WR.block {id : Nat} {c : Code} (h : WR ro P n c (blockQ id Q) L R O) : WR ro P n (.block id c) Q L R O := by
 intro a w hf hs
 refine wpIn_block (wpIn_mono (h a w hf hs) fun e a' w' hq => ?_)
 cases e with
 | normal => exact hq
 | exit id' =>
   obtain ⟨L', R', O', hk, hf', hs'⟩ := hq
   by_cases e : id' = id
   · subst e
     simp only [blockQ, Nat.beq_refl] at hk
     simp only [Exit.inBlock, if_true]
     exact ⟨_, _, _, hk, hf', hs'⟩
   · simp only [blockQ, show Nat.beq id' id = false from by rw [← Bool.not_eq_true, Nat.beq_eq]; exact e] at hk
     simp only [Exit.inBlock, e, if_false]
     exact ⟨_, _, _, hk, hf', hs'⟩
 | goto l => exact hq
 | ret => exact hq
 | panic c => exact hq
 | outgrown => exact hq
theorem WR.cond {c : Operand} {x y : Code} {b : Bool} (hc : ev L c = some (.bool b)) (ht : b = true → WR ro P n x Q L R O) (hf : b = false → WR ro P n y Q L R O) : WR ro P n (.cond c x y) Q L R O := by
 intro a w hfr hs
 exact wpIn_cond_split (hfr.ev hc) (fun h => ht h a w hfr hs) (fun h => hf h a w hfr hs)
theorem WR.no {c : Operand} {x y : Code} (hc : ev L c = some (.bool false)) (hf : WR ro P n y Q L R O) : WR ro P n (.cond c x y) Q L R O :=
 WR.cond hc (fun h => by cases h) (fun _ => hf)
theorem WR.frame {c : Code} {L' : Env} (hs : Sub L' L) (k : WR ro P n c Q L' R O) : WR ro P n c Q L R O := fun a w hf h => k a w (hf.sub hs) h
theorem WR.pick {c : Code} (ks : List Nat) {L' : Env} (hp : Pick L ks L') (k : WR ro P n c Q L' R O) : WR ro P n c Q L R O := WR.frame hp.sub k
theorem WR.heap {c : Code} {R' : List RO} {O' : List Own} (hs : ∀ w, Sat R O w → Sat R' O' w) (k : WR ro P n c Q L R' O') : WR ro P n c Q L R O := fun a w hf h => k a w hf (hs w h)
theorem WR.say {c : Code} (t : Nat) {v u : Value} (ht : Env.find L t = some v) (e : v = u) (k : WR ro P n c Q ((t, u) :: L) R O) : WR ro P n c Q L R O :=
 fun a w hf hs => k a w (hf.known ht e) hs
theorem WR.loop {c : Code} {α : Type} (LF : α → Env) (RF : α → List RO) (OF : α → List Own) (I : α → Prop) (μ : α → Nat) (x0 : α) (h0 : I x0) (hL : Sub (LF x0) L) (hS : ∀ w, Sat R O w → Sat (RF x0) (OF x0) w)
 (round : ∀ x, I x → WR ro P n c (loopQ LF RF OF I μ (μ x) Q) (LF x) (RF x) (OF x)) : WR ro P n (.loop c) Q L R O := by
 intro a0 w0 hf0 hs0
 have hst : ∀ a w, (∃ x, I x ∧ Fr n (LF x) a ∧ Sat (RF x) (OF x) w) → ∃ x, (I x ∧ Fr n (LF x) a ∧ Sat (RF x) (OF x) w) ∧ ∀ y, I y → Fr n (LF y) a → Sat (RF y) (OF y) w → μ x ≤ μ y := fun a w ⟨x, hx⟩ => by
  have : ∀ m x, μ x ≤ m → (I x ∧ Fr n (LF x) a ∧ Sat (RF x) (OF x) w) → ∃ x, (I x ∧ Fr n (LF x) a ∧ Sat (RF x) (OF x) w) ∧ ∀ y, I y → Fr n (LF y) a → Sat (RF y) (OF y) w → μ x ≤ μ y := by
   intro m
   induction m with
   | zero => exact fun x hm hx => ⟨x, hx, fun y _ _ _ => by omega⟩
   | succ m ih =>
     intro x hm hx
     by_cases h : ∃ y, (I y ∧ Fr n (LF y) a ∧ Sat (RF y) (OF y) w) ∧ μ y ≤ m
     · obtain ⟨y, hy, hl⟩ := h; exact ih y hl hy
     · exact ⟨x, hx, fun y h1 h2 h3 => Nat.le_of_not_lt fun hlt => h ⟨y, ⟨h1, h2, h3⟩, by omega⟩⟩
  exact this _ x (Nat.le_refl _) hx
 haveI : ∀ (a : Act) (w : World), Decidable (∃ x, I x ∧ Fr n (LF x) a ∧ Sat (RF x) (OF x) w) := fun _ _ => Classical.propDecidable _
 let M : Act → World → Nat := fun a w => if h : ∃ x, I x ∧ Fr n (LF x) a ∧ Sat (RF x) (OF x) w then μ (hst a w h).choose else 0
 refine wpIn_loop (fun a w => ∃ x, I x ∧ Fr n (LF x) a ∧ Sat (RF x) (OF x) w) M ⟨x0, h0, hf0.sub hL, hS _ hs0⟩ fun a w hI => ?_
 have hM : M a w = μ (hst a w hI).choose := dif_pos hI
 obtain ⟨⟨h1, h2, h3⟩, h4⟩ := (hst a w hI).choose_spec
 refine wpIn_mono (round _ h1 a w h2 h3) fun e a' w' hq => ?_
 cases e with
 | normal =>
   obtain ⟨L', R', O', ⟨y, hy, hlt, hL', hS'⟩, hf', hs'⟩ := hq
   have hJ : ∃ x, I x ∧ Fr n (LF x) a' ∧ Sat (RF x) (OF x) w' := ⟨y, hy, hf'.sub hL', hS' _ hs'⟩
   refine ⟨hJ, ?_⟩
   have hM' : M a' w' = μ (hst a' w' hJ).choose := dif_pos hJ
   rw [hM, hM']
   exact Nat.lt_of_le_of_lt ((hst a' w' hJ).choose_spec.2 y hy (hf'.sub hL') (hS' _ hs')) hlt
 | exit id => exact hq
 | goto l => exact hq
 | ret => exact hq
 | panic c => exact hq
 | outgrown => exact hq
/-- What one call of yield does. -/
def Yld (P : Program) (l : Nat) (args : List Value) (R : List RO) (O : List Own) (K : Bool → List RO → List Own → Prop) : Prop :=
 ∀ w, Sat R O w → YieldAt (fw none) 0 P l args.toArray w fun e w' => ∃ b R' O', e = .returned (.bool b) ∧ K b R' O' ∧ Sat R' O' w'
theorem WY.yield {l : Nat} {x : Operand} {xs : List Operand} {azs : List Value} {ts : Array TypeId} {d : Nat} (hg : o.guard = none) (ho : o.op = .call { callee := .value x, args := xs.toArray, argTypes := ts })
 (hx : ev L x = some (.func (.yield l) #[] #[])) (has : Evs L xs azs) (hd : o.dst = some d) (hn : Nat.blt d n.n = true)
 (h : Yld P l azs R O (fun b R' O' => WY P n ops Q rest ((d, .bool b) :: L) R' O')) : WY P n ops Q (o :: rest) L R O := by
 intro a w hf hs
 refine wpListIn_plain hg fun K hK => ⟨fun _ _ => trivial, ?_⟩
 have e1 : a.eval x = _ := hf.ev hx
 have e2 := has.eval (ρ := a.eval) (fun x u hx => hf.ev hx)
 obtain ⟨fn, tmps, assign, body, hy, hR⟩ := h w hs
 have hr : (execOp a.eval o).run P w = .ok (.round l fn tmps assign body) w := by
  simp only [execOp, ho, resolve, e1, Deferred.ofValue, List.map_toArray, e2, Sem.run_bind, Sem.run_pure, Result.andThen_ok, invoke]
  simpa using hy
 show o.uponIn _ _ _ _ _ _ ((o.semAt none a.eval).run P w)
 rw [Oper.semAt_none, hr, Oper.uponIn_round]
 refine ⟨fun hx => Bool.noConfusion hx, hR.mono fun e w' hq => ?_⟩
 obtain ⟨b, R', O', he, hk, hs'⟩ := hq
 subst he
 rw [hd]
 exact hK _ _ (hk _ _ (hf.put hn _) hs')
def recC (l : Nat) (n : Sz) (L : Env) (D : Nat) (st : LoopState) (pe : Option Code) (ps : Array Tmp) (assign body : Code) : Own :=
 ⟨[l], fun w => ∃ f tmps, w.heap[l]? = some (.loop { state := st, pending := pe, fn := f, tmps, params := ps, assign, body, defers := D }) ∧ Fr ⟨n.n, []⟩ L { tmps := tmps, defers := [] }⟩
def paramsEnv : List Nat → List Value → Env → Env
 | p :: ps, v :: vs, L => paramsEnv ps vs ((p, v) :: L)
 | _, _, L => L
theorem Fr.params : ∀ (ps : List Nat) (vs : List Value) {L : Env} {m : Nat} {tmps : Array Value}, ps.all (fun p => Nat.blt p m) = true → Fr ⟨m, []⟩ L { tmps := tmps, defers := [] } →
 Fr ⟨m, []⟩ (paramsEnv ps vs L) { tmps := (ps.zip vs).foldl (fun t (p, v) => t.setIfInBounds p v) tmps, defers := [] }
 | [], _, _, _, _, _, h => by simpa [paramsEnv] using h
 | _ :: _, [], _, _, _, _, h => by simpa [paramsEnv] using h
 | p :: ps, v :: vs, L, m, tmps, hp, h => by
   simp only [List.all_cons, Bool.and_eq_true] at hp
   simp only [List.zip_cons_cons, List.foldl_cons, paramsEnv]
   exact Fr.params ps vs hp.2 (h.put hp.1 v)
theorem Sat.loopPut {l : Nat} {n : Sz} {L : Env} {D : Nat} {st st' : LoopState} {pe pe' : Option Code} {ps : Array Tmp} {assign body : Code} {w : World} {f : FuncId} {tmps : Array Value}
 (h : Sat R (recC l n L D st pe ps assign body :: O) w) (hf : Fr ⟨n.n, []⟩ L { tmps := tmps, defers := [] }) :
 Sat R (recC l n L D st' pe' ps assign body :: O) (w.putObj l (.loop { state := st', pending := pe', fn := f, tmps, params := ps, assign, body, defers := D })) := by
 have hlt : l < w.heap.size := h.lt l (by simp [owned, recC])
 refine h.update _ ⟨rfl, rfl, rfl, by simp [World.putObj], fun k _ hn => World.putObj_heap_other (fun e => hn (by rw [e]; exact List.mem_singleton.2 rfl))⟩
  (fun k hk => .inl hk) (fun k hk => by rw [List.mem_singleton.1 hk]; simpa [World.putObj] using hlt) (by simp [recC]) (fun w2 ha _ => ⟨f, tmps, ?_, hf⟩)
 rw [ha.2.2.2.2 l (by simpa [World.putObj] using hlt) (fun hn => hn (by simp [recC]))]
 exact World.putObj_heap_same hlt
/-- How a round may end: off its body's end, or by 'return'. -/
def roundQ (l : Nat) (n : Sz) (L : Env) (D : Nat) (ps : Array Tmp) (assign body : Code) (K : Bool → List RO → List Own → Prop) : Post
 | .normal, _, R, O => ∃ O2, Take (recC l n L D .busy none ps assign body) O O2 ∧ K true R (recC l n L D .ready none ps assign body :: O2)
 | .ret, _, R, O => ∃ O2, Take (recC l n L D .busy none ps assign body) O O2 ∧ K false R (recC l n L D .done (some .ret) ps assign body :: O2)
 | _, _, _, _ => False
def assignQ (l : Nat) (P : Program) (n : Sz) (L : Env) (D : Nat) (ps : Array Tmp) (assign body : Code) (K : Bool → List RO → List Own → Prop) : Post
 | .normal, L', R, O => ∃ O2, Take (recC l n L D .ready none ps assign body) O O2 ∧ WR (some l) P ⟨n.n, []⟩ body (roundQ l n L D ps assign body K) L' R (recC l n L D .busy none ps assign body :: O2)
 | _, _, _, _ => False
theorem assignQ.mk {l : Nat} {Lr L' : Env} {D : Nat} {ps : Array Tmp} {assign body : Code} {K : Bool → List RO → List Own → Prop} {O2 : List Own} (hT : Take (recC l n Lr D .ready none ps assign body) O O2)
 (h : WR (some l) P ⟨n.n, []⟩ body (roundQ l n Lr D ps assign body K) L' R (recC l n Lr D .busy none ps assign body :: O2)) : assignQ l P n Lr D ps assign body K .normal L' R O := ⟨O2, hT, h⟩
theorem roundQ.on {l : Nat} {Lr L' : Env} {D : Nat} {ps : Array Tmp} {assign body : Code} {K : Bool → List RO → List Own → Prop} {O2 : List Own} (hT : Take (recC l n Lr D .busy none ps assign body) O O2)
 (h : K true R (recC l n Lr D .ready none ps assign body :: O2)) : roundQ l n Lr D ps assign body K .normal L' R O := ⟨O2, hT, h⟩
theorem Yld.round {l : Nat} {Lr : Env} {D : Nat} {ps : List Nat} {assign body : Code} {args : List Value} {K : Bool → List RO → List Own → Prop} {L0 : Env}
 (hT : Take (recC l n Lr D .ready none ps.toArray assign body) O O') (hsz : args.length = ps.length) (hps : ps.all (fun p => Nat.blt p n.n) = true) (hL0 : paramsEnv ps args Lr = L0)
 (h : WR (some l) P ⟨n.n, []⟩ assign (assignQ l P n Lr D ps.toArray assign body K) L0 R (recC l n Lr D .ready none ps.toArray assign body :: O')) : Yld P l args R O K := by
 intro w hs
 have hs1 := hs.perm hT.perm
 obtain ⟨f, tmps, hl, hf⟩ := hs1.see List.mem_cons_self
 have hy := run_yield (P := P) (args := args.toArray) hl (by simpa using hsz)
 refine ⟨f, _, assign, body, hy, ?_⟩
 refine roundIn_of_wpIn trivial ?_
 have hzip : (ps.toArray.zip args.toArray).foldl (fun t (p, v) => t.setIfInBounds p v) tmps = (ps.zip args).foldl (fun t (p, v) => t.setIfInBounds p v) tmps := by
  rw [← Array.foldl_toList]; simp
 have hf0 : Fr ⟨n.n, []⟩ L0 { tmps := (ps.toArray.zip args.toArray).foldl (fun t (p, v) => t.setIfInBounds p v) tmps, defers := [] } := by
  rw [hzip, ← hL0]; exact Fr.params ps args hps hf
 refine wpIn_mono (h _ w hf0 hs1) fun e a1 w1 hq => ?_
 cases e with
 | normal =>
   obtain ⟨L1, R1, O1, ⟨O2, hT1, hb⟩, hf1, hs1⟩ := hq
   have hs2 := hs1.perm hT1.perm
   obtain ⟨f1, tmps1, hl1, hfr1⟩ := hs2.see List.mem_cons_self
   refine ⟨_, run_beginRound hl1 rfl, ?_⟩
   refine wpIn_mono (hb a1 _ hf1 (hs2.loopPut hfr1)) fun e a2 w2 hq => ?_
   cases e with
   | normal =>
     obtain ⟨L2, R2, O3, ⟨O4, hT2, hk⟩, _, hs3⟩ := hq
     have hs4 := hs3.perm hT2.perm
     obtain ⟨f2, tmps2, hl2, hfr2⟩ := hs4.see List.mem_cons_self
     exact ⟨_, _, run_endRound none hl2, true, _, _, rfl, hk, hs4.loopPut hfr2⟩
   | ret =>
     obtain ⟨L2, R2, O3, ⟨O4, hT2, hk⟩, hfr, hfin⟩ := hq
     rcases hfin with ⟨_, hs3⟩ | ⟨D', _, hs3⟩
     · have hs4 := hs3.perm hT2.perm
       obtain ⟨f2, tmps2, hl2, hfr2⟩ := hs4.see List.mem_cons_self
       exact ⟨_, _, run_endRound (some .ret) hl2, false, _, _, rfl, hk, hs4.loopPut hfr2⟩
     · have hs4 := hs3.drop.perm hT2.perm
       obtain ⟨f2, tmps2, hl2, hfr2⟩ := hs4.see List.mem_cons_self
       exact ⟨_, _, run_endRound (some .ret) hl2, false, _, _, rfl, hk, hs4.loopPut hfr2⟩
   | exit id => obtain ⟨_, _, _, hk, _⟩ := hq; exact hk.elim
   | goto t => obtain ⟨_, _, _, hk, _⟩ := hq; exact hk.elim
   | panic c => exact hq.elim
   | outgrown => exact hq.elim
 | ret => obtain ⟨_, _, _, hk, _⟩ := hq; exact hk.elim
 | exit id => obtain ⟨_, _, _, hk, _⟩ := hq; exact hk.elim
 | goto t => obtain ⟨_, _, _, hk, _⟩ := hq; exact hk.elim
 | panic c => exact hq.elim
 | outgrown => exact hq.elim
theorem Yld.mono {l : Nat} {args : List Value} {K K' : Bool → List RO → List Own → Prop} (h : Yld P l args R O K) (hk : ∀ b R O, K b R O → K' b R O) : Yld P l args R O K' := fun w hs => by
 obtain ⟨fn, tmps, assign, body, hy, hR⟩ := h w hs
 exact ⟨fn, tmps, assign, body, hy, hR.mono fun e w' ⟨b, R', O', he, hK, hs'⟩ => ⟨b, R', O', he, hk _ _ _ hK, hs'⟩⟩
theorem Yld.heap {l : Nat} {args : List Value} {K : Bool → List RO → List Own → Prop} {R' : List RO} (hs : ∀ w, Sat R O w → Sat R' O' w) (h : Yld P l args R' O' K) : Yld P l args R O K := fun w h0 => h w (hs w h0)
/-- Only a return is taken. -/
def onlyRet (Q : Post) : Post
 | .ret, L, R, O => Q .ret L R O
 | _, _, _, _ => False
theorem onlyRet.mk {Q : Post} (h : Q .ret L R O) : onlyRet Q .ret L R O := h
abbrev markOf (D : Nat) : List Deferred := [{ target := .collected D, args := #[] }]
/-- What the statement asks, with what stands behind it in the function. -/
def RangeOk (P : Program) (n : Sz) (g : Operand) (ps : List Nat) (assign body y : Code) (Q : Post) (L : Env) (R : List RO) (O : List Own) : Prop :=
 ∃ gf lb, ev L g = some (.func (.func gf) #[] (List.toArray lb)) ∧ hasBody P gf = true ∧
  ∀ l D, Fun P gf (.func (.yield l) #[] #[] :: lb).toArray R (recC l n L D .ready none ps.toArray assign body :: dfC D :: O) (fun _ R' O' => ∃ O2, Take (recC l n L D .ready none ps.toArray assign body) O' O2 ∧ WC P ⟨n.n, markOf D⟩ y (onlyRet Q) L R' O2)
theorem RangeOk.mk {g : Operand} {ps : List Nat} {assign body y : Code} {gf : Nat} {lb : List Value} (hg : ev L g = some (.func (.func gf) #[] lb.toArray)) (hb : hasBody P gf = true)
 (h : ∀ l D, Fun P gf (.func (.yield l) #[] #[] :: lb).toArray R (recC l n L D .ready none ps.toArray assign body :: dfC D :: O) (fun _ R' O' => ∃ O2, Take (recC l n L D .ready none ps.toArray assign body) O' O2 ∧ WC P ⟨n.n, markOf D⟩ y (onlyRet Q) L R' O2)) :
 RangeOk P n g ps assign body y Q L R O := ⟨gf, lb, hg, hb, h⟩
def rangeQ (P : Program) (n : Sz) (g : Operand) (ps : List Nat) (assign body y : Code) (Q : Post) : Post
 | .normal, L, R, O => RangeOk P n g ps assign body y Q L R O
 | e, L, R, O => Q e L R O
theorem rangeQ.normal {g : Operand} {ps : List Nat} {assign body y : Code} (h : RangeOk P n g ps assign body y Q L R O) : rangeQ P n g ps assign body y Q .normal L R O := h
end
end Go.SL
namespace Go.SL
open Go Go.RowKit
section
variable {P : Program} {ops : Array Oper} {Q : Exit → Act → World → Prop} {md : Region.Mode} {S : Array Bool → World → Prop}
/-- Whatever order is picked from here on, and S, at what has come up, holds behind each operation. -/
def wpAnyL (P : Program) (md : Region.Mode) (ops : Array Oper) (Q : Exit → Act → World → Prop) (S : Array Bool → World → Prop) : Nat → Array Bool → Act → World → Prop
 | 0, listed, a, w => Region.ready md ops listed = [] ∧ Q .normal a w
 | fuel + 1, listed, a, w =>
   (Region.ready md ops listed = [] → Q .normal a w) ∧
   ∀ i ∈ Region.ready md ops listed, wpOp P ops Q i (fun a' w' => S (listed.setIfInBounds i true) w' ∧ wpAnyL P md ops Q S fuel (listed.setIfInBounds i true) a' w') a w
theorem wpAny_of_L : ∀ (fuel : Nat) (listed : Array Bool) (a : Act) (w : World), wpAnyL P md ops Q S fuel listed a w → wpAny P md ops Q fuel listed a w
 | 0, _, _, _, h => h
 | fuel + 1, _, _, _, h => ⟨h.1, fun i hi => wpOp_mono (fun a' w' h' => wpAny_of_L fuel _ a' w' h'.2) (h.2 i hi)⟩
/-- Operation j waits for i. -/
def Waits (md : Region.Mode) (ops : Array Oper) (i j : Nat) : Prop := ∃ oj, ops[j]? = some oj ∧ ∃ e ∈ oj.after, Region.binds md e = true ∧ e.on = i
def Early (md : Region.Mode) (ops : Array Oper) (i : Nat) (l : Array Bool) : Prop := ∀ j, Waits md ops i j → l.getD j true = false
theorem wpAnyL_first {i : Nat} {oi : Oper} {v : Value} (hi : ops[i]? = some oi) (hsel : ∀ (j : Nat) (o : Oper) cs b, ops[j]? = some o → o.op ≠ .select cs b)
 (hQ : ∀ c a w, Q (.panic c) (a.put oi.dst v) w → Q (.panic c) a w)
 (hmono : ∀ l w, S l w → S (l.setIfInBounds i true) w) (hback : ∀ l w, S (l.setIfInBounds i true) w → S l w) :
 ∀ (fuel : Nat) (listed : Array Bool) (a : Act) (w : World),
  (∀ j oj, ops[j]? = some oj → j ≠ i → listed.getD j true = false → (∀ e ∈ oj.after, Region.binds md e = true → e.on ≠ i) → oi.apart ops oj = true) →
  i ∈ Region.ready md ops listed → Early md ops i listed → YieldsIf P ops (fun w => ∃ l, Early md ops i l ∧ S l w) oi v a → S listed w →
  wpAnyL P md ops Q S fuel (listed.setIfInBounds i true) (a.put oi.dst v) w → wpAnyL P md ops Q S (fuel + 1) listed a w := by
 intro fuel
 induction fuel with
 | zero =>
   intro listed a w _ hr hE hy hS H
   refine ⟨fun h => (by rw [h] at hr; cases hr), fun j hj => ?_⟩
   by_cases hji : j = i
   · subst hji; exact hy.wpOp hi ⟨listed, hE, hS⟩ ⟨hmono _ _ hS, H⟩
   · have := ready_mono hj hji
     rw [H.1] at this
     cases this
 | succ fuel ih =>
   intro listed a w hfree hr hE hy hS H
   refine ⟨fun h => (by rw [h] at hr; cases hr), fun j hj => ?_⟩
   by_cases hji : j = i
   · subst hji; exact hy.wpOp hi ⟨listed, hE, hS⟩ ⟨hmono _ _ hS, H⟩
   · have h1 := H.2 j (ready_mono hj hji)
     obtain ⟨hjun, oj, hoj, hall⟩ := mem_ready.1 hj
     have hnot : ∀ e ∈ oj.after, Region.binds md e = true → e.on ≠ i := fun e he hb heq => by
      have h1 := hall e he hb
      have h0 := (mem_ready.1 hr).1
      rw [heq] at h1
      rcases Nat.lt_or_ge i listed.size with h' | h'
      · simp [h'] at h0 h1; rw [h0] at h1; cases h1
      · simp [Array.getElem?_eq_none h'] at h1
     have h2 := wpOp_putIf hoj (hfree j oj hoj hji hjun hnot) (fun cs b => hsel i oi cs b hi) (fun cs b => hsel j oj cs b hoj) hQ hy h1
     have hfree' : ∀ k ok, ops[k]? = some ok → k ≠ i → (listed.setIfInBounds j true).getD k true = false →
      (∀ e ∈ ok.after, Region.binds md e = true → e.on ≠ i) → oi.apart ops ok = true := fun k ok hk hki hun hno => by
      refine hfree k ok hk hki ?_ hno
      by_cases hjk : j = k
      · subst hjk; exact hjun
      · rw [getD_set_ne true hjk] at hun; exact hun
     have hE' : Early md ops i (listed.setIfInBounds j true) := fun k hk => by
      have hjk : j ≠ k := by
       rintro rfl
       obtain ⟨ok, hok, e, he, hb, heq⟩ := hk
       rw [hoj] at hok
       cases hok
       exact hnot e he hb heq
      rw [getD_set_ne true hjk]; exact hE k hk
     refine wpOp_mono (fun a' w' h3 => ?_) h2
     have hS' : S (listed.setIfInBounds j true) w' := hback _ _ (by rw [Array.setIfInBounds_comm _ _ hji]; exact h3.2.1)
     refine ⟨hS', ih (listed.setIfInBounds j true) a' w' hfree' (ready_mono hr (Ne.symm hji)) hE' h3.1 hS' ?_⟩
     rw [Array.setIfInBounds_comm _ _ hji]
     exact h3.2.2
end
section draw
variable {P : Program} {n : Sz} {ops : Array Oper} {Q : Post} {S : List RO} {T : List Own} {U : List (Nat × Own)} {fuel : Nat} {listed : Array Bool} {L : Env} {R : List RO} {O : List Own} {o : Oper}
/-- What readers lean on: S, T to the end; each of U until its store has come up. -/
def FactsL (S : List RO) (T : List Own) (U : List (Nat × Own)) (l : Array Bool) (w : World) : Prop := (∀ p ∈ S, p w) ∧ (∀ c ∈ T, c.pred w) ∧ ∀ u ∈ U, l.getD u.1 true = false → u.2.pred w
def WE (P : Program) (n : Sz) (ops : Array Oper) (Q : Post) (S : List RO) (T : List Own) (U : List (Nat × Own)) (fuel : Nat) (listed : Array Bool) (L : Env) (R : List RO) (O : List Own) : Prop :=
 ∀ a w, Fr n L a → Sat R O w → wpAnyL P .any ops (lift n Q) (FactsL S T U) fuel listed a w
def HeldL (S : List RO) (T : List Own) (U : List (Nat × Own)) (l : Array Bool) (R : List RO) (O : List Own) : Prop := ∀ w, Sat R O w → FactsL S T U l w
/-- Each store of U waits for i, and is not i. -/
def behindOk (ops : Array Oper) (U : List (Nat × Own)) (i : Nat) : Bool := U.all fun u => u.1 != i && (match ops[u.1]? with
 | some o => o.after.any fun e => Region.binds .any e && e.on == i
 | none => false)
theorem take_auxL {V : List (Nat × Own)} {i : Nat} {v : Value} {dst : Option Nat} {L' : Env} (hi : ops[i]? = some o) (hok : takeOk ops listed i = true) (hne : (U.all fun u => u.1 != i) = true) (hVU : V.Sublist U) (hb : behindOk ops V i = true) (hS : HeldL S T U listed R O) (hE : Early .any ops i listed) (hd : o.dst = dst) (hL : ∀ a, Fr n L a → Fr n L' (a.put dst v))
 (hy : ∀ a, Fr n L a → YieldsIf P ops (fun w => (∀ p ∈ S, p w) ∧ ∀ c ∈ V.map (·.2) ++ T, c.pred w) o v a) (k : WE P n ops Q S T U fuel (listed.setIfInBounds i true) L' R O) : WE P n ops Q S T U (fuel + 1) listed L R O := by
 intro a w hf hs
 simp only [takeOk, Bool.and_eq_true] at hok
 have hne2 : ∀ u ∈ U, u.1 ≠ i := fun u hu => by simpa using List.all_eq_true.1 hne u hu
 have hbw : ∀ u ∈ V, u.1 ≠ i ∧ Waits .any ops i u.1 := fun u hu => by
  have h := List.all_eq_true.1 hb u hu
  rw [Bool.and_eq_true] at h
  refine ⟨by simpa using h.1, ?_⟩
  have h2 := h.2
  cases ho : ops[u.1]? with
  | none => rw [ho] at h2; cases h2
  | some oj =>
    rw [ho] at h2
    obtain ⟨e, he, hee⟩ := Array.any_eq_true'.1 h2
    rw [Bool.and_eq_true] at hee
    exact ⟨oj, ho, e, he, hee.1, by simpa using hee.2⟩
 refine wpAnyL_first (v := v) hi (Region.noSelect_spec hok.1.1) (fun c a w h => h) ?_ ?_ fuel listed a w (Region.free_spec hi hok.1.2) (by simpa using hok.2) hE ?_ (hS w hs) ?_
 · rintro l w ⟨h1, h2, h3⟩
   exact ⟨h1, h2, fun u hu hl => h3 u hu (by rw [getD_set_ne true (Ne.symm (hne2 u hu))] at hl; exact hl)⟩
 · rintro l w ⟨h1, h2, h3⟩
   exact ⟨h1, h2, fun u hu hl => h3 u hu (by rw [getD_set_ne true (Ne.symm (hne2 u hu))]; exact hl)⟩
 · rcases hy a hf with ⟨h1, h2⟩ | h
   · refine .inl ⟨h1, fun w hw => h2 w ?_⟩
     obtain ⟨l, hEl, g1, g2, g3⟩ := hw
     refine ⟨g1, fun c hc => ?_⟩
     rcases List.mem_append.1 hc with hc | hc
     · obtain ⟨u, hu, rfl⟩ := List.mem_map.1 hc
       exact g3 u (hVU.subset hu) (hEl u.1 (hbw u hu).2)
     · exact g2 c hc
   · exact .inr h
 · rw [hd]
   exact k _ _ (hL a hf) hs
/-- No operation that waits for i has come up. -/
def earlyOk (ops : Array Oper) (listed : Array Bool) (i : Nat) : Bool := (List.range ops.size).all fun j => match ops[j]? with
 | some o => !(o.after.any fun e => Region.binds .any e && e.on == i) || (listed.getD j true == false)
 | none => true
theorem early_of {i : Nat} (h : earlyOk ops listed i = true) : Early .any ops i listed := by
 rintro j ⟨oj, hoj, e, he, hb, heq⟩
 have hj : j < ops.size := (Array.getElem?_eq_some_iff.1 hoj).1
 have h1 := List.all_eq_true.1 h j (List.mem_range.2 hj)
 rw [hoj] at h1
 simp only [Bool.or_eq_true, Bool.not_eq_true'] at h1
 rcases h1 with h1 | h1
 · have : (oj.after.any fun e => Region.binds .any e && e.on == i) = true := Array.any_eq_true'.2 ⟨e, he, by rw [hb, heq]; simp⟩
   rw [this] at h1; cases h1
 · simpa using h1
def readOk (ops : Array Oper) (listed : Array Bool) (U V : List (Nat × Own)) (i : Nat) : Bool := takeOk ops listed i && (behindOk ops V i && (earlyOk ops listed i && U.all fun u => u.1 != i))
theorem readOk_parts {V : List (Nat × Own)} {i : Nat} (h : readOk ops listed U V i = true) : takeOk ops listed i = true ∧ behindOk ops V i = true ∧ earlyOk ops listed i = true ∧ (U.all fun u => u.1 != i) = true := by
 unfold readOk at h
 rw [Bool.and_eq_true, Bool.and_eq_true, Bool.and_eq_true] at h
 exact ⟨h.1, h.2.1, h.2.2.1, h.2.2.2⟩
theorem WE.take (i : Nat) (V : List (Nat × Own)) {d : Nat} {v : Value} (hi : ops[i]? = some o) (hok : readOk ops listed U V i = true) (hVU : V.Sublist U) (hS : HeldL S T U listed R O) (hg : o.guard = none) (hd : o.dst = some d) (hn : Nat.blt d n.n = true) (h : Rd P o L S (V.map (·.2) ++ T) v)
 (k : WE P n ops Q S T U fuel (listed.setIfInBounds i true) ((d, v) :: L) R O) : WE P n ops Q S T U (fuel + 1) listed L R O :=
 take_auxL hi (readOk_parts hok).1 (readOk_parts hok).2.2.2 hVU (readOk_parts hok).2.1 hS (early_of (readOk_parts hok).2.2.1) hd (fun _ hf => hf.put hn v) (fun a hf => .inl ⟨by simp [Region.wanted, hg], fun w hw => h a.eval w (fun x u hx => hf.ev hx) hw.1 hw.2⟩) k
/-- The only operation that may come up now. -/
theorem WE.one (i : Nat) (hi : ops[i]? = some o) (hr : Region.ready .any ops listed = [i]) (hg : o.guard = none)
 (h : OpW P n o L R O (fun L' R' O' => HeldL S T U (listed.setIfInBounds i true) R' O' ∧ WE P n ops Q S T U fuel (listed.setIfInBounds i true) L' R' O')) : WE P n ops Q S T U (fuel + 1) listed L R O := by
 intro a w hf hs
 refine ⟨fun h0 => (by rw [hr] at h0; cases h0), fun j hj => ?_⟩
 rw [hr] at hj
 simp only [List.mem_singleton] at hj
 subst hj
 unfold wpOp
 rw [hi]
 simp only [Region.wanted, hg, if_true]
 exact .inl (Oper.wp_mono (fun a' w' ⟨L', R', O', hk, hf', hs'⟩ => ⟨hk.1 w' hs', hk.2 a' w' hf' hs'⟩) (h a w hf hs _))
/-- Several operations may come up now. -/
theorem WE.many (is : List Nat) (hr : Region.ready .any ops listed = is) (hne : is ≠ [])
 (h : ∀ i ∈ is, ∃ o, ops[i]? = some o ∧ o.guard = none ∧ OpW P n o L R O (fun L' R' O' => HeldL S T U (listed.setIfInBounds i true) R' O' ∧ WE P n ops Q S T U fuel (listed.setIfInBounds i true) L' R' O')) : WE P n ops Q S T U (fuel + 1) listed L R O := by
 intro a w hf hs
 refine ⟨fun h0 => absurd (hr ▸ h0) hne, fun x hx => ?_⟩
 rw [hr] at hx
 obtain ⟨o, ho, hg, hop⟩ := h x hx
 unfold wpOp
 rw [ho]
 simp only [Region.wanted, hg, if_true]
 exact .inl (Oper.wp_mono (fun a' w' ⟨L', R', O', hk, hf', hs'⟩ => ⟨hk.1 w' hs', hk.2 a' w' hf' hs'⟩) (hop a w hf hs _))
theorem WE.say (t : Nat) {v u : Value} (ht : Env.find L t = some v) (e : v = u) (k : WE P n ops Q S T U fuel listed ((t, u) :: L) R O) : WE P n ops Q S T U fuel listed L R O :=
 fun a w hf hs => k a w (hf.known ht e) hs
theorem WE.heap {R' : List RO} {O' : List Own} (hs : ∀ w, Sat R O w → Sat R' O' w) (c : WE P n ops Q S T U fuel listed L R' O') : WE P n ops Q S T U fuel listed L R O := fun a w hf h => c a w hf (hs w h)
theorem WE.done (hr : (Region.ready .any ops listed).isEmpty = true) (h : Q .normal L R O) : WE P n ops Q S T U fuel listed L R O := fun a w hf hs => by
 have hr' := List.isEmpty_iff.1 hr
 have hq := lift_normal h hf hs
 cases fuel with
 | zero => exact ⟨hr', hq⟩
 | succ m => exact ⟨fun _ => hq, fun i hi => by rw [hr'] at hi; cases hi⟩
end draw
end Go.SL
namespace Go.SL
open Go
section
variable {P : Program} {n : Sz} {ops : Array Oper} {Q : Post} {rest : List Oper} {o : Oper} {L L' : Env} {R : List RO} {O O' : List Own}
theorem blockQ.retR {id : Nat} (h : Q .ret L R O) : blockQ id Q .ret L R O := h
theorem thenQ.retR {y : Code} (h : Q .ret L R O) : thenQ P n y Q .ret L R O := h
theorem WY.case (t : Nat) {p : Prop} [Decidable p] (ht : Env.find L t = some (.bool (decide p))) (hy : p → WY P n ops Q rest ((t, .bool true) :: L) R O) (hno : ¬ p → WY P n ops Q rest ((t, .bool false) :: L) R O) : WY P n ops Q rest L R O := by
 intro a w hf hs
 by_cases h : p
 · exact hy h a w (hf.known ht (by simp [h])) hs
 · exact hno h a w (hf.known ht (by simp [h])) hs
theorem WY.no {j d e : Nat} {b : Bool} (hg : o.guard = some (j, b)) (hj : (ops[j]?).bind (·.dst) = some e) (hne : Nat.blt e n.n = true) (hb : Env.find L e = some (.bool (!b)))
 (hd : o.dst = some d) (_ : Nat.blt d n.n = true) (k : WY P n ops Q rest ((d, undef) :: L) R O) : WY P n ops Q (o :: rest) L R O := by
 rename_i hn
 intro a w hf hs
 unfold wpListIn
 rw [if_neg (by rw [wanted_of hf hg hj hne hb]; cases b <;> simp), hd]
 exact ⟨fun _ _ => trivial, k _ _ (hf.put hn _) hs⟩
/-- How a round may end: off its body's end, or by a jump to the end of block 'id'. -/
def roundB (id l : Nat) (n : Sz) (L : Env) (D : Nat) (ps : Array Tmp) (assign body : Code) (K : Bool → List RO → List Own → Prop) : Post
 | .normal, _, R, O => ∃ O2, Take (recC l n L D .busy none ps assign body) O O2 ∧ K true R (recC l n L D .ready none ps assign body :: O2)
 | .exit i, _, R, O => i = id ∧ ∃ O2, Take (recC l n L D .busy none ps assign body) O O2 ∧ K false R (recC l n L D .done (some (.exit id)) ps assign body :: O2)
 | _, _, _, _ => False
def assignB (id l : Nat) (P : Program) (n : Sz) (L : Env) (D : Nat) (ps : Array Tmp) (assign body : Code) (K : Bool → List RO → List Own → Prop) : Post
 | .normal, L', R, O => ∃ O2, Take (recC l n L D .ready none ps assign body) O O2 ∧ WR (some l) P ⟨n.n, []⟩ body (roundB id l n L D ps assign body K) L' R (recC l n L D .busy none ps assign body :: O2)
 | _, _, _, _ => False
theorem assignB.mk {id l : Nat} {Lr L' : Env} {D : Nat} {ps : Array Tmp} {assign body : Code} {K : Bool → List RO → List Own → Prop} {O2 : List Own} (hT : Take (recC l n Lr D .ready none ps assign body) O O2)
 (h : WR (some l) P ⟨n.n, []⟩ body (roundB id l n Lr D ps assign body K) L' R (recC l n Lr D .busy none ps assign body :: O2)) : assignB id l P n Lr D ps assign body K .normal L' R O := ⟨O2, hT, h⟩
theorem roundB.on {id l : Nat} {Lr L' : Env} {D : Nat} {ps : Array Tmp} {assign body : Code} {K : Bool → List RO → List Own → Prop} {O2 : List Own} (hT : Take (recC l n Lr D .busy none ps assign body) O O2)
 (h : K true R (recC l n Lr D .ready none ps assign body :: O2)) : roundB id l n Lr D ps assign body K .normal L' R O := ⟨O2, hT, h⟩
theorem roundB.off {id l : Nat} {Lr L' : Env} {D : Nat} {ps : Array Tmp} {assign body : Code} {K : Bool → List RO → List Own → Prop} {O2 : List Own} (hT : Take (recC l n Lr D .busy none ps assign body) O O2)
 (h : K false R (recC l n Lr D .done (some (.exit id)) ps assign body :: O2)) : roundB id l n Lr D ps assign body K (.exit id) L' R O := ⟨rfl, O2, hT, h⟩
theorem Yld.roundB {id l : Nat} {Lr : Env} {D : Nat} {ps : List Nat} {assign body : Code} {args : List Value} {K : Bool → List RO → List Own → Prop} {L0 : Env}
 (hT : Take (recC l n Lr D .ready none ps.toArray assign body) O O') (hsz : args.length = ps.length) (hps : ps.all (fun p => Nat.blt p n.n) = true) (hL0 : paramsEnv ps args Lr = L0)
 (h : WR (some l) P ⟨n.n, []⟩ assign (assignB id l P n Lr D ps.toArray assign body K) L0 R (recC l n Lr D .ready none ps.toArray assign body :: O')) : Yld P l args R O K := by
 intro w hs
 have hs1 := hs.perm hT.perm
 obtain ⟨f, tmps, hl, hf⟩ := hs1.see List.mem_cons_self
 have hy := run_yield (P := P) (args := args.toArray) hl (by simpa using hsz)
 refine ⟨f, _, assign, body, hy, ?_⟩
 refine roundIn_of_wpIn trivial ?_
 have hzip : (ps.toArray.zip args.toArray).foldl (fun t (p, v) => t.setIfInBounds p v) tmps = (ps.zip args).foldl (fun t (p, v) => t.setIfInBounds p v) tmps := by
  rw [← Array.foldl_toList]; simp
 have hf0 : Fr ⟨n.n, []⟩ L0 { tmps := (ps.toArray.zip args.toArray).foldl (fun t (p, v) => t.setIfInBounds p v) tmps, defers := [] } := by
  rw [hzip, ← hL0]; exact Fr.params ps args hps hf
 refine wpIn_mono (h _ w hf0 hs1) fun e a1 w1 hq => ?_
 cases e with
 | normal =>
   obtain ⟨L1, R1, O1, ⟨O2, hT1, hb⟩, hf1, hs1⟩ := hq
   have hs2 := hs1.perm hT1.perm
   obtain ⟨f1, tmps1, hl1, hfr1⟩ := hs2.see List.mem_cons_self
   refine ⟨_, run_beginRound hl1 rfl, ?_⟩
   refine wpIn_mono (hb a1 _ hf1 (hs2.loopPut hfr1)) fun e a2 w2 hq => ?_
   cases e with
   | normal =>
     obtain ⟨L2, R2, O3, ⟨O4, hT2, hk⟩, _, hs3⟩ := hq
     have hs4 := hs3.perm hT2.perm
     obtain ⟨f2, tmps2, hl2, hfr2⟩ := hs4.see List.mem_cons_self
     exact ⟨_, _, run_endRound none hl2, true, _, _, rfl, hk, hs4.loopPut hfr2⟩
   | exit i =>
     obtain ⟨L2, R2, O3, ⟨rfl, O4, hT2, hk⟩, _, hs3⟩ := hq
     have hs4 := hs3.perm hT2.perm
     obtain ⟨f2, tmps2, hl2, hfr2⟩ := hs4.see List.mem_cons_self
     exact ⟨_, _, run_endRound (some (.exit i)) hl2, false, _, _, rfl, hk, hs4.loopPut hfr2⟩
   | ret => obtain ⟨_, _, _, hk, _⟩ := hq; exact hk.elim
   | goto t => obtain ⟨_, _, _, hk, _⟩ := hq; exact hk.elim
   | panic c => exact hq.elim
   | outgrown => exact hq.elim
 | ret => obtain ⟨_, _, _, hk, _⟩ := hq; exact hk.elim
 | exit id => obtain ⟨_, _, _, hk, _⟩ := hq; exact hk.elim
 | goto t => obtain ⟨_, _, _, hk, _⟩ := hq; exact hk.elim
 | panic c => exact hq.elim
 | outgrown => exact hq.elim
/-- What is there behind the iterator's return: it ended, or a round broke off. -/
def EndB (P : Program) (id l D : Nat) (n : Sz) (ps : List Nat) (assign body y : Code) (Q : Post) (L : Env) (R : List RO) (O : List Own) : Prop :=
 ∃ O2, (Take (recC l n L D .ready none ps.toArray assign body) O O2 ∨ Take (recC l n L D .done (some (.exit id)) ps.toArray assign body) O O2) ∧ WC P ⟨n.n, markOf D⟩ y (onlyRet Q) L R O2
def RangeB (P : Program) (n : Sz) (id : Nat) (g : Operand) (ps : List Nat) (assign body y : Code) (Q : Post) (L : Env) (R : List RO) (O : List Own) : Prop :=
 ∃ gf fs lb, ev L g = some (.func (.func gf) (List.toArray fs) (List.toArray lb)) ∧ hasBody P gf = true ∧
  ∀ l D, Fun P gf (fs ++ .func (.yield l) #[] #[] :: lb).toArray R (recC l n L D .ready none ps.toArray assign body :: dfC D :: O) (fun _ R' O' => EndB P id l D n ps assign body y Q L R' O')
theorem RangeB.mk {id : Nat} {g : Operand} {ps : List Nat} {assign body y : Code} {gf : Nat} {fs lb : List Value} (hg : ev L g = some (.func (.func gf) fs.toArray lb.toArray)) (hb : hasBody P gf = true)
 (h : ∀ l D, Fun P gf (fs ++ .func (.yield l) #[] #[] :: lb).toArray R (recC l n L D .ready none ps.toArray assign body :: dfC D :: O) (fun _ R' O' => EndB P id l D n ps assign body y Q L R' O')) :
 RangeB P n id g ps assign body y Q L R O := ⟨gf, fs, lb, hg, hb, h⟩
def rangeBQ (P : Program) (n : Sz) (id : Nat) (g : Operand) (ps : List Nat) (assign body y : Code) (Q : Post) : Post
 | .normal, L, R, O => RangeB P n id g ps assign body y Q L R O
 | e, L, R, O => Q e L R O
theorem rangeBQ.normal {id : Nat} {g : Operand} {ps : List Nat} {assign body y : Code} (h : RangeB P n id g ps assign body y Q L R O) : rangeBQ P n id g ps assign body y Q .normal L R O := h
/-- A range that stands in a case, with what stands behind the case. -/
def condBQ (P : Program) (n : Sz) (id : Nat) (c g : Operand) (ps : List Nat) (assign body x y : Code) (Q : Post) : Post
 | .normal, L, R, O => ∃ b : Bool, ev L c = some (.bool b) ∧ (b = true → WC P n x (rangeBQ P n id g ps assign body y Q) L R O) ∧ (b = false → WC P n y Q L R O)
 | e, L, R, O => Q e L R O
theorem condBQ.mk {id : Nat} {c g : Operand} {ps : List Nat} {assign body x y : Code} {p : Prop} [Decidable p] (hc : ev L c = some (.bool (decide p))) (ht : p → WC P n x (rangeBQ P n id g ps assign body y Q) L R O) (hf : ¬ p → WC P n y Q L R O) :
 condBQ P n id c g ps assign body x y Q .normal L R O := ⟨_, hc, fun h => ht (of_decide_eq_true h), fun h => hf (of_decide_eq_false h)⟩
end
end Go.SL
