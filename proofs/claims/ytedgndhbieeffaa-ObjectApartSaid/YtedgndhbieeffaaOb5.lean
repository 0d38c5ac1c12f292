/-
  Layer 11: objects' texts, and objects out of texts, by the program.
-/
import Derived.Test.YtedgndhbieeffaaOb4
namespace Go.Proofs.Ytedgndhbieeffaa
open Go Go.SL Go.RowKit

def blobO (l : List (List UInt8)) : Ob × Bool := if l.length ≠ 1 then (zOb, false) else ({ zOb with kind := 1, body := l[0]! }, true)
def pairsE (l : List (List UInt8)) (n : Nat) : List ET := (List.range n).map fun j => (l[2 * j]!, l[2 * j + 1]!)
def treeO (l : List (List UInt8)) : Ob × Bool := ({ zOb with kind := 2, ents := pairsE l (l.length / 2) }, decide (l.length % 2 = 0))
def chunks (s : List UInt8) (n : Nat) : List (List UInt8) := (List.range n).map fun j => (s.drop (32 * j)).take 32
def commitOb (l : List (List UInt8)) : Ob := { zOb with kind := 3, tree := l[0]!, pars := chunks l[1]! (l[1]!.length / 32), author := l[2]!, text := l[3]!, time := (getE l[4]!).1 }
def commitO (l : List (List UInt8)) : Ob × Bool := if l.length ≠ 5 ∨ l[1]!.length % 32 ≠ 0 then (zOb, false) else (commitOb l, decide ((getE l[4]!).2.2 = 0 ∧ (getE l[4]!).2.1 = (l[4]!.length : Int)))
def tagO (l : List (List UInt8)) : Ob × Bool := if l.length ≠ 3 then (zOb, false) else ({ zOb with kind := 4, target := l[0]!, name := l[1]!, text := l[2]! }, true)
def obOf (k : Int) (l : List (List UInt8)) : Ob × Bool := if k = 1 then blobO l else if k = 2 then treeO l else if k = 3 then commitO l else tagO l
theorem pairs_next (l : List (List UInt8)) (n : Nat) : pairsE l (n + 1) = pairsE l n ++ [(l[2 * n]!, l[2 * n + 1]!)] := by unfold pairsE; rw [List.range_succ, List.map_append]; rfl
theorem chunks_next (s : List UInt8) (n : Nat) : chunks s (n + 1) = chunks s n ++ [(s.drop (32 * n)).take 32] := by unfold chunks; rw [List.range_succ, List.map_append]; rfl
theorem pairs_len (l : List (List UInt8)) (n : Nat) : (pairsE l n).length = n := by simp [pairsE]
theorem chunks_len (s : List UInt8) (n : Nat) : (chunks s n).length = n := by simp [chunks]
section
variable {R : List RO} {O : List Own} {POST : Value → List RO → List Own → Prop} {b : Nat} {o : Ob} {ev pv : Value}
set_option maxRecDepth 20000 in
theorem blobTexts_spec (hb : oRow b o ev pv ∈ O) (hkd : o.kind = 1) (hk : ∀ v, POST v (SlE (one vs) v (texts o) :: R) O) : Fun Try.prog 27 #[.pointer (some ⟨b, 0, none⟩)] R O POST := by
  have ht : texts o = [o.body] := by unfold texts; rw [if_pos hkd]
  rw [ht] at hk
  refine Fun.enter (l := [_]) Try.func27 rfl Try.ntmps27 rfl (L0 := [(0, _)]) rfl ?_
  refine WC.seq ?_
  refine WC.region ?_
  refine WL.rd rfl rfl rfl (Rd.assign rfl rfl) ?_
  refine WL.nil ?_
  refine thenQ.normal ?_
  refine WC.seq ?_
  refine WC.region ?_
  refine WL.rd rfl rfl rfl (Rd.move rfl rfl) ?_
  refine WL.rd rfl rfl rfl (Rd.nilc rfl rfl) ?_
  refine WL.rd rfl rfl rfl ((by first | exact Rd.field rfl F30_1 rfl rfl | exact Rd.fieldE rfl F30_1 rfl (by repeat (first | assumption | exact mS | apply mT)) (by omega) | exact Rd.fieldA rfl F30_1 rfl (by repeat (first | assumption | exact mS | apply mT)) (by omega))) ?_
  refine WL.rd rfl rfl rfl (Rd.row1 (b := b) (off := 1) rfl C9 rfl (by repeat (first | assumption | exact mS | apply mT)) rfl) ?_
  refine WL.op rfl ?_
  refine OpW.buildSl (ps := [(0, _)]) rfl S23 (by repeat (first | exact Evs.nil | apply Evs.cons rfl)) rfl rfl (by repeat (first | exact CellsOf.nil | apply CellsOf.cons rfl)) (by kernel_rfl) rfl rfl rfl ?_; intro b7
  refine WL.rd rfl rfl rfl (Rd.assign rfl rfl) ?_
  refine WL.nil ?_
  refine thenQ.normal ?_
  refine WC.heap (R' := SlE (one vs) (.slice (some ⟨b7, 0, none⟩) 1 1) [o.body] :: R) (O' := O) (fun w h => by
  have g1 := Sat.shareRow (enc := one vs) (xs := [o.body]) (m := 1) (by repeat (first | assumption | exact Take.head _ | apply Take.tail)) rfl rfl (by decide) h
  exact (fun w h => OwnL.sat (by repeat (first | exact OwnL.refl | apply OwnL.take (by repeat (first | exact Take.head _ | apply Take.tail)) | apply OwnL.drop)) w (h.thin (SubL.mem (by repeat (first | exact SubL.refl | refine SubL.cons (by repeat (first | assumption | exact mS | apply mT)) ?_ | refine SubL.skip ?_))))) w g1) ?_
  refine WC.ret (Ret.one Try.results27 rfl ?_)
  exact hk _
set_option maxRecDepth 20000 in
theorem tagTexts_spec (hb : oRow b o ev pv ∈ O) (hkd : o.kind = 4) (hk : ∀ v, POST v (SlE (one vs) v (texts o) :: R) O) : Fun Try.prog 36 #[.pointer (some ⟨b, 0, none⟩)] R O POST := by
  have ht : texts o = [o.target, o.name, o.text] := by unfold texts; rw [if_neg (by omega), if_neg (by omega), if_neg (by omega)]
  rw [ht] at hk
  refine Fun.enter (l := [_]) Try.func36 rfl Try.ntmps36 rfl (L0 := [(0, _)]) rfl ?_
  refine WC.seq ?_
  refine WC.region ?_
  refine WL.rd rfl rfl rfl (Rd.assign rfl rfl) ?_
  refine WL.nil ?_
  refine thenQ.normal ?_
  refine WC.seq ?_
  refine WC.tail 12 mixed (by kernel_rfl) ?_
  refine WS.rd rfl rfl rfl (Rd.move rfl rfl) ?_
  refine WS.rd rfl rfl rfl (Rd.nilc rfl rfl) ?_
  refine WS.rd rfl rfl rfl ((by first | exact Rd.field rfl F30_8 rfl rfl | exact Rd.fieldE rfl F30_8 rfl (by repeat (first | assumption | exact mS | apply mT)) (by omega) | exact Rd.fieldA rfl F30_8 rfl (by repeat (first | assumption | exact mS | apply mT)) (by omega))) ?_
  refine WS.rd rfl rfl rfl (Rd.row1 (b := b) (off := 8) rfl C9 rfl (by repeat (first | assumption | exact mS | apply mT)) rfl) ?_
  refine WS.rd rfl rfl rfl (Rd.move rfl rfl) ?_
  refine WS.rd rfl rfl rfl (Rd.nilc rfl rfl) ?_
  refine WS.rd rfl rfl rfl ((by first | exact Rd.field rfl F30_9 rfl rfl | exact Rd.fieldE rfl F30_9 rfl (by repeat (first | assumption | exact mS | apply mT)) (by omega) | exact Rd.fieldA rfl F30_9 rfl (by repeat (first | assumption | exact mS | apply mT)) (by omega))) ?_
  refine WS.rd rfl rfl rfl (Rd.row1 (b := b) (off := 9) rfl C9 rfl (by repeat (first | assumption | exact mS | apply mT)) rfl) ?_
  refine WS.rd rfl rfl rfl (Rd.move rfl rfl) ?_
  refine WS.rd rfl rfl rfl (Rd.nilc rfl rfl) ?_
  refine WS.rd rfl rfl rfl ((by first | exact Rd.field rfl F30_6 rfl rfl | exact Rd.fieldE rfl F30_6 rfl (by repeat (first | assumption | exact mS | apply mT)) (by omega) | exact Rd.fieldA rfl F30_6 rfl (by repeat (first | assumption | exact mS | apply mT)) (by omega))) ?_
  refine WS.rd rfl rfl rfl (Rd.row1 (b := b) (off := 6) rfl C9 rfl (by repeat (first | assumption | exact mS | apply mT)) rfl) ?_
  refine WS.switch ?_
  refine WL.op rfl ?_
  refine OpW.buildSl (ps := [(0, _), (1, _), (2, _)]) rfl S23 (by repeat (first | exact Evs.nil | apply Evs.cons rfl)) rfl rfl (by repeat (first | exact CellsOf.nil | apply CellsOf.cons rfl)) (by kernel_rfl) rfl rfl rfl ?_; intro b15
  refine WL.rd rfl rfl rfl (Rd.assign rfl rfl) ?_
  refine WL.nil ?_
  refine thenQ.normal ?_
  refine WC.heap (R' := SlE (one vs) (.slice (some ⟨b15, 0, none⟩) 3 3) [o.target, o.name, o.text] :: R) (O' := O) (fun w h => by
  have g1 := Sat.shareRow (enc := one vs) (xs := [o.target, o.name, o.text]) (m := 3) (by repeat (first | assumption | exact Take.head _ | apply Take.tail)) rfl rfl (by decide) h
  exact (fun w h => OwnL.sat (by repeat (first | exact OwnL.refl | apply OwnL.take (by repeat (first | exact Take.head _ | apply Take.tail)) | apply OwnL.drop)) w (h.thin (SubL.mem (by repeat (first | exact SubL.refl | refine SubL.cons (by repeat (first | assumption | exact mS | apply mT)) ?_ | refine SubL.skip ?_))))) w g1) ?_
  refine WC.ret (Ret.one Try.results36 rfl ?_)
  exact hk _
set_option maxRecDepth 20000 in
theorem commitTexts_spec (hb : oRow b o ev pv ∈ O) (hp : SlE (one vs) pv o.pars ∈ R) (hkd : o.kind = 3) (hr : RightP o) (hk : ∀ v, POST v (SlE (one vs) v (texts o) :: R) O) : Fun Try.prog 33 #[.pointer (some ⟨b, 0, none⟩)] R O POST := by
  have ht : texts o = [o.tree, o.pars.flatten, o.author, o.text, putI o.time] := by unfold texts; rw [if_neg (by omega), if_neg (by omega), if_pos hkd]
  rw [ht] at hk
  obtain ⟨_, _, _, h3, _⟩ := hr
  obtain ⟨h4, h5, h6, _⟩ := h3 hkd
  have hfl : o.pars.flatten.length ≤ 140737488355328 := by
    have : ∀ l : List (List UInt8), (∀ x ∈ l, x.length = 32) → l.flatten.length = 32 * l.length := by
      intro l hl
      induction l with
      | nil => rfl
      | cons a r ih => rw [List.flatten_cons, List.length_append, ih (fun x hx => hl x (List.mem_cons_of_mem _ hx)), hl a List.mem_cons_self, List.length_cons]; omega
    rw [this o.pars (fun x hx => by
      obtain ⟨i, hi, rfl⟩ := List.getElem_of_mem hx
      have := (h4 i hi).1
      rwa [getElem!_pos o.pars i hi] at this)]
    omega
  refine Fun.enter (l := [_]) Try.func33 rfl Try.ntmps33 rfl (L0 := [(0, _)]) rfl ?_
  refine WC.seq ?_
  refine WC.region ?_
  refine WL.rd rfl rfl rfl (Rd.assign rfl rfl) ?_
  refine WL.nil ?_
  refine thenQ.normal ?_
  refine WC.seq ?_
  refine WC.drawnA 24 rfl mixed ?_
  refine WD.take 0 rfl (by kernel_rfl) Held.all rfl rfl rfl (Rd.move rfl rfl) ?_
  refine WD.take 1 rfl (by kernel_rfl) Held.all rfl rfl rfl (Rd.nilc rfl rfl) ?_
  refine WD.take 2 rfl (by kernel_rfl) Held.all rfl rfl rfl ((by first | exact Rd.field rfl F30_3 rfl rfl | exact Rd.fieldE rfl F30_3 rfl (by repeat (first | assumption | exact mS | apply mT)) (by omega) | exact Rd.fieldA rfl F30_3 rfl (by repeat (first | assumption | exact mS | apply mT)) (by omega))) ?_
  refine WD.take 3 rfl (by kernel_rfl) Held.all rfl rfl rfl (Rd.row1 (b := b) (off := 3) rfl C9 rfl (by repeat (first | assumption | exact mS | apply mT)) rfl) ?_
  refine WD.take 4 rfl (by kernel_rfl) Held.all rfl rfl rfl (Rd.move rfl rfl) ?_
  refine WD.take 5 rfl (by kernel_rfl) Held.all rfl rfl rfl (Rd.nilc rfl rfl) ?_
  refine WD.take 6 rfl (by kernel_rfl) Held.all rfl rfl rfl ((by first | exact Rd.field rfl F30_4 rfl rfl | exact Rd.fieldE rfl F30_4 rfl (by repeat (first | assumption | exact mS | apply mT)) (by omega) | exact Rd.fieldA rfl F30_4 rfl (by repeat (first | assumption | exact mS | apply mT)) (by omega))) ?_
  refine WD.take 7 rfl (by kernel_rfl) Held.all rfl rfl rfl (Rd.row1 (b := b) (off := 4) (u := pv) rfl C23 rfl (by repeat (first | assumption | exact mS | apply mT)) rfl) ?_
  refine WD.take 9 rfl (by kernel_rfl) Held.all rfl rfl rfl (Rd.move rfl rfl) ?_
  refine WD.take 10 rfl (by kernel_rfl) Held.all rfl rfl rfl (Rd.nilc rfl rfl) ?_
  refine WD.take 11 rfl (by kernel_rfl) Held.all rfl rfl rfl ((by first | exact Rd.field rfl F30_5 rfl rfl | exact Rd.fieldE rfl F30_5 rfl (by repeat (first | assumption | exact mS | apply mT)) (by omega) | exact Rd.fieldA rfl F30_5 rfl (by repeat (first | assumption | exact mS | apply mT)) (by omega))) ?_
  refine WD.take 12 rfl (by kernel_rfl) Held.all rfl rfl rfl (Rd.row1 (b := b) (off := 5) rfl C9 rfl (by repeat (first | assumption | exact mS | apply mT)) rfl) ?_
  refine WD.take 13 rfl (by kernel_rfl) Held.all rfl rfl rfl (Rd.move rfl rfl) ?_
  refine WD.take 14 rfl (by kernel_rfl) Held.all rfl rfl rfl (Rd.nilc rfl rfl) ?_
  refine WD.take 15 rfl (by kernel_rfl) Held.all rfl rfl rfl ((by first | exact Rd.field rfl F30_6 rfl rfl | exact Rd.fieldE rfl F30_6 rfl (by repeat (first | assumption | exact mS | apply mT)) (by omega) | exact Rd.fieldA rfl F30_6 rfl (by repeat (first | assumption | exact mS | apply mT)) (by omega))) ?_
  refine WD.take 16 rfl (by kernel_rfl) Held.all rfl rfl rfl (Rd.row1 (b := b) (off := 6) rfl C9 rfl (by repeat (first | assumption | exact mS | apply mT)) rfl) ?_
  refine WD.take 17 rfl (by kernel_rfl) Held.all rfl rfl rfl (Rd.move rfl rfl) ?_
  refine WD.take 18 rfl (by kernel_rfl) Held.all rfl rfl rfl (Rd.nilc rfl rfl) ?_
  refine WD.take 19 rfl (by kernel_rfl) Held.all rfl rfl rfl ((by first | exact Rd.field rfl F30_7 rfl rfl | exact Rd.fieldE rfl F30_7 rfl (by repeat (first | assumption | exact mS | apply mT)) (by omega) | exact Rd.fieldA rfl F30_7 rfl (by repeat (first | assumption | exact mS | apply mT)) (by omega))) ?_
  refine WD.take 20 rfl (by kernel_rfl) Held.all rfl rfl rfl (Rd.row1 (b := b) (off := 7) rfl C3 rfl (by repeat (first | assumption | exact mS | apply mT)) rfl) ?_
  refine WD.one 8 rfl (by kernel_rfl) rfl ?_
  refine OpW.call rfl rfl (by repeat (first | exact Evs.nil | apply Evs.cons rfl)) (by kernel_rfl) rfl rfl rfl ?_
  refine joins_spec (xs := o.pars) (by repeat (first | assumption | exact mS | apply mT)) (by omega) hfl ?_
  refine ⟨(Held.mk' (by repeat (first | exact SubL.refl | refine SubL.cons (by repeat (first | assumption | exact mS | apply mT)) ?_ | refine SubL.skip ?_)) (by repeat (first | exact OwnL.refl | apply OwnL.take (by repeat (first | exact Take.head _ | apply Take.tail)) | apply OwnL.drop))), ?_⟩
  refine WD.one 21 rfl (by kernel_rfl) rfl ?_
  refine OpW.call rfl rfl (by repeat (first | exact Evs.nil | apply Evs.cons rfl)) (by kernel_rfl) rfl rfl rfl ?_
  refine put_spec ?_
  refine ⟨(Held.mk' (by repeat (first | exact SubL.refl | refine SubL.cons (by repeat (first | assumption | exact mS | apply mT)) ?_ | refine SubL.skip ?_)) (by repeat (first | exact OwnL.refl | apply OwnL.take (by repeat (first | exact Take.head _ | apply Take.tail)) | apply OwnL.drop))), ?_⟩
  refine WD.one 22 rfl (by kernel_rfl) rfl ?_
  refine OpW.buildSl (ps := [(0, _), (1, _), (2, _), (3, _), (4, _)]) rfl S23 (by repeat (first | exact Evs.nil | apply Evs.cons rfl)) rfl rfl (by repeat (first | exact CellsOf.nil | apply CellsOf.cons rfl)) (by kernel_rfl) rfl rfl rfl ?_; intro b25
  refine ⟨(Held.mk' (by repeat (first | exact SubL.refl | refine SubL.cons (by repeat (first | assumption | exact mS | apply mT)) ?_ | refine SubL.skip ?_)) (by repeat (first | exact OwnL.refl | apply OwnL.take (by repeat (first | exact Take.head _ | apply Take.tail)) | apply OwnL.drop))), ?_⟩
  refine WD.take 23 rfl (by kernel_rfl) (Held.mk' (by repeat (first | exact SubL.refl | refine SubL.cons (by repeat (first | assumption | exact mS | apply mT)) ?_ | refine SubL.skip ?_)) (by repeat (first | exact OwnL.refl | apply OwnL.take (by repeat (first | exact Take.head _ | apply Take.tail)) | apply OwnL.drop))) rfl rfl rfl (Rd.assign rfl rfl) ?_
  refine WD.done (by kernel_rfl) ?_
  refine thenQ.normal ?_
  refine WC.heap (R' := SlE (one vs) (.slice (some ⟨b25, 0, none⟩) 5 5) [o.tree, o.pars.flatten, o.author, o.text, putI o.time] :: R) (O' := O) (fun w h => by
  have g1 := Sat.shareRow (enc := one vs) (xs := [o.tree, o.pars.flatten, o.author, o.text, putI o.time]) (m := 5) (by repeat (first | assumption | exact Take.head _ | apply Take.tail)) rfl rfl (by decide) h
  exact (fun w h => OwnL.sat (by repeat (first | exact OwnL.refl | apply OwnL.take (by repeat (first | exact Take.head _ | apply Take.tail)) | apply OwnL.drop)) w (h.thin (SubL.mem (by repeat (first | exact SubL.refl | refine SubL.cons (by repeat (first | assumption | exact mS | apply mT)) ?_ | refine SubL.skip ?_))))) w g1) ?_
  refine WC.ret (Ret.one Try.results33 rfl ?_)
  exact hk _
set_option maxRecDepth 20000 in
set_option maxHeartbeats 1000000 in
theorem treeTexts_spec (hb : oRow b o ev pv ∈ O) (he : SlE encT ev o.ents ∈ R) (hkd : o.kind = 2) (hn : o.ents.length ≤ 5000) (hk : ∀ v, POST v (SlE (one vs) v (texts o) :: R) O) : Fun Try.prog 30 #[.pointer (some ⟨b, 0, none⟩)] R O POST := by
  have ht : texts o = o.ents.flatMap fun x => [x.1, x.2] := by unfold texts; rw [if_neg (by omega), if_pos hkd]
  rw [ht] at hk
  refine Fun.enter (l := [_]) Try.func30 rfl Try.ntmps30 rfl (L0 := [(0, _)]) rfl ?_
  refine WC.seq ?_
  refine WC.region ?_
  refine WL.rd rfl rfl rfl (Rd.assign rfl rfl) ?_
  refine WL.nil ?_
  refine thenQ.normal ?_
  refine WC.seq ?_
  refine WC.region ?_
  refine WL.rd rfl rfl rfl (Rd.assign rfl rfl) ?_
  refine WL.nil ?_
  refine thenQ.normal ?_
  refine WC.seq ?_
  refine WC.seq ?_
  refine WC.region ?_
  refine WL.rd rfl rfl rfl (Rd.move rfl rfl) ?_
  refine WL.rd rfl rfl rfl (Rd.nilc rfl rfl) ?_
  refine WL.rd rfl rfl rfl ((by first | exact Rd.field rfl F30_2 rfl rfl | exact Rd.fieldE rfl F30_2 rfl (by repeat (first | assumption | exact mS | apply mT)) (by omega) | exact Rd.fieldA rfl F30_2 rfl (by repeat (first | assumption | exact mS | apply mT)) (by omega))) ?_
  refine WL.rd rfl rfl rfl (Rd.row1 (b := b) (off := 2) (u := ev) rfl C28 rfl (by repeat (first | assumption | exact mS | apply mT)) rfl) ?_
  refine WL.rd rfl rfl rfl (Rd.lenE (enc := encT) (xs := o.ents) rfl rfl Try.underlying28 (by repeat (first | assumption | exact mS | apply mT))) ?_
  refine WL.rd rfl rfl rfl (Rd.move rfl rfl) ?_
  refine WL.nil ?_
  refine thenQ.normal ?_
  refine WC.block ?_
  refine WC.pick [3, 11, 9, 10] (by repeat (first | exact Pick.nil | apply Pick.cons rfl)) ?_
  refine WC.loop2 2 (fun (i : Nat) (v : Value) => [(3, v), (11, .int .i64 (i : Int))]) (fun (i : Nat) (v : Value) => accC 9 1 (one vs) v ((o.ents.take i).flatMap fun x => [x.1, x.2]) :: O) (fun (i : Nat) (v : Value) => i ≤ o.ents.length ∧ OneV v) (fun (i : Nat) (v : Value) => o.ents.length - i) (0) (.slice none 0 0) (by repeat (first | exact Split.zero | apply Split.succ)) ?hinv1 (by repeat (first | exact Sub.nil | refine Sub.cons rfl (by first | rfl | (congr 1; omega) | assumption) ?_)) (fun w h => by
  have g1 := h.accNil (α := List UInt8) (e := 9) (size := 1) (enc := one vs)
  exact (fun w h => OwnL.sat (by repeat (first | exact OwnL.refl | apply OwnL.take (by repeat (first | exact Take.head _ | apply Take.tail)) | apply OwnL.drop)) w (h.thin (SubL.mem (by repeat (first | exact SubL.refl | refine SubL.cons (by repeat (first | assumption | exact mS | apply mT)) ?_ | refine SubL.skip ?_))))) w g1) ?_
  case hinv1 =>
    exact ⟨Nat.zero_le _, OneV.sl⟩
  intro i v
  rintro ⟨i1, i2⟩
  refine WC.seq ?_
  refine WC.region ?_
  refine WL.rd rfl rfl rfl (Rd.lss rfl rfl rfl) ?_
  refine WL.nil ?_
  refine thenQ.normal ?_
  refine WC.seq ?_
  first | refine WC.ite rfl (fun hc1 => ?_) (fun hc1 => ?_) | refine WC.cond rfl (fun hc1 => ?_) (fun hc1 => ?_)
  · skip
    have hnx := flat_two (l := o.ents) (j := i) (by omega)
    have hml := flat_two_len (o.ents.take i)
    rw [List.length_take, Nat.min_eq_left (by omega)] at hml
    obtain ⟨cs, hcs⟩ : ∃ cs, cs = (o.ents.take i).flatMap (fun x : ET => [x.1, x.2]) := ⟨_, rfl⟩
    rw [← hcs] at hnx hml ⊢
    obtain ⟨x, hx⟩ : ∃ x, x = o.ents[i]! := ⟨_, rfl⟩
    rw [← hx] at hnx
    refine WC.skip ?_
    refine thenQ.normal ?_
    refine WC.seq ?_
    refine WC.block ?_
    refine WC.seq ?_
    refine WC.region ?_
    refine WL.rd rfl rfl rfl ((by first | exact Rd.idx rfl S28 rfl rfl rfl (by repeat (first | assumption | exact mS | apply mT)) (by first | omega | (simp only [List.length_cons, List.length_nil, List.length_append, List.length_map]; omega)) | exact Rd.idxA rfl S28 rfl rfl rfl (by repeat (first | assumption | exact mS | apply mT)) (by first | omega | (simp only [List.length_cons, List.length_nil, List.length_append, List.length_map]; omega)) | exact Rd.idxR rfl S28 rfl rfl rfl (by omega))) ?_
    refine WL.rd rfl rfl rfl (Rd.getS (k := i) (a := x) (cs := [vs x.1, vs x.2]) (enc := encT) (xs := o.ents) rfl G51 rfl (by repeat (first | assumption | exact mS | apply mT)) (fun _ => rfl) (by rw [hx]; exact get!_of_lt (by omega)) (by repeat (first | exact NF.nil | apply NF.cons))) ?_
    refine WL.op rfl ?_
    refine OpW.alloc rfl I51 rfl (by repeat (first | exact NF.nil | apply NF.cons)) rfl rfl ?_; intro b5
    refine WL.op rfl ?_
    refine OpW.storeS rfl G51 rfl rfl (by repeat (first | exact NF.nil | apply NF.cons)) (by repeat (first | assumption | exact Take.head _ | apply Take.tail)) rfl rfl (by repeat (first | exact NF.nil | apply NF.cons)) rfl ?_
    refine WL.nil ?_
    refine thenQ.normal ?_
    refine WC.region ?_
    refine WL.rd rfl rfl rfl (Rd.move rfl rfl) ?_
    refine WL.rd rfl rfl rfl ((by first | exact Rd.field rfl F51_0 rfl rfl | exact Rd.fieldE rfl F51_0 rfl (by repeat (first | assumption | exact mS | apply mT)) (by omega) | exact Rd.fieldA rfl F51_0 rfl (by repeat (first | assumption | exact mS | apply mT)) (by omega))) ?_
    refine WL.rd rfl rfl rfl (Rd.row1 (b := b5) (off := 0) (u := vs x.1) rfl C9 rfl (by repeat (first | assumption | exact mS | apply mT)) rfl) ?_
    refine WL.rd rfl rfl rfl ((by first | exact Rd.field rfl F51_1 rfl rfl | exact Rd.fieldE rfl F51_1 rfl (by repeat (first | assumption | exact mS | apply mT)) (by omega) | exact Rd.fieldA rfl F51_1 rfl (by repeat (first | assumption | exact mS | apply mT)) (by omega))) ?_
    refine WL.rd rfl rfl rfl (Rd.row1 (b := b5) (off := 1) (u := vs x.2) rfl C9 rfl (by repeat (first | assumption | exact mS | apply mT)) rfl) ?_
    refine WL.op rfl ?_
    refine OpW.buildSl (ps := [(0, _), (1, _)]) rfl S23 (by repeat (first | exact Evs.nil | apply Evs.cons rfl)) rfl rfl (by repeat (first | exact CellsOf.nil | apply CellsOf.cons rfl)) (by kernel_rfl) rfl rfl rfl ?_; intro b20
    refine WL.op rfl ?_
    refine OpW.appendRow (enc := one vs) rfl S23 rfl rfl (by repeat (first | assumption | exact Take.head _ | apply Take.tail)) (by repeat (first | assumption | exact Take.head _ | apply Take.tail)) [x.1, x.2] rfl (by rfl) rfl (by intro x; first | rfl | (cases x; rfl) | (rcases x with ⟨_, _, _⟩; rfl) | (rcases x with ⟨_, _, _, _⟩; rfl)) (by intro x; first | rfl | (cases x; rfl) | (rcases x with ⟨_, _, _⟩; rfl) | (rcases x with ⟨_, _, _, _⟩; rfl)) ⟨by simp only [maxLen, List.length_append, List.length_nil, List.length_cons, List.length_drop, List.length_take, List.length_map]; omega, by first | omega | (simp only [List.length_append, List.length_nil, List.length_cons, List.length_drop, List.length_take, List.length_map]; omega)⟩ rfl rfl ?_; intro v21 hv21
    refine WL.rd rfl rfl rfl (Rd.assign rfl rfl) ?_
    refine WL.nil ?_
    refine blockQ.normal ?_
    refine thenQ.normal ?_
    refine WC.region ?_
    refine WL.rd rfl rfl rfl (Rd.add rfl rfl rfl (by omega)) ?_
    refine WL.rd rfl rfl rfl (Rd.move rfl rfl) ?_
    refine WL.nil ?_
    exact loopQ2.mk (i + 1) v21 ⟨by omega, hv21⟩ (by omega) (by repeat (first | exact Sub.nil | refine Sub.cons rfl (by first | rfl | (congr 1; omega) | assumption) ?_)) (fun w h => by rw [hnx]; exact (fun w h => OwnL.sat (by repeat (first | exact OwnL.refl | apply OwnL.take (by repeat (first | exact Take.head _ | apply Take.tail)) | apply OwnL.drop)) w (h.thin (SubL.mem (by repeat (first | exact SubL.refl | refine SubL.cons (by repeat (first | assumption | exact mS | apply mT)) ?_ | refine SubL.skip ?_))))) w h)
  · skip
    refine WC.exit ?_
    refine thenQ.exit ?_
    refine loopQ2.exit ?_
    refine blockQ.exit ?_
    refine thenQ.normal ?_
    refine WC.seq ?_
    refine WC.region ?_
    refine WL.rd rfl rfl rfl (Rd.move rfl rfl) ?_
    refine WL.rd rfl rfl rfl (Rd.assign rfl rfl) ?_
    refine WL.nil ?_
    refine thenQ.normal ?_
    obtain rfl : i = o.ents.length := by omega
    rw [List.take_length]
    refine WC.heap (fun w h => Sat.shareA (xs := o.ents.flatMap fun x : ET => [x.1, x.2]) (by repeat (first | assumption | exact Take.head _ | apply Take.tail)) h) ?_
    refine WC.ret (Ret.one Try.results30 rfl ?_)
    exact hk v
set_option maxRecDepth 20000 in
theorem blob_spec {l : List (List UInt8)} {lv : Value} (hl : SlE (one vs) lv l ∈ R) (hk : ∀ ev pv b2 cs, POST (.tuple #[obV (blobO l).1 ev pv, .bool (blobO l).2]) (SlE encT ev (blobO l).1.ents :: SlE (one vs) pv (blobO l).1.pars :: R) (rowC b2 30 cs :: O)) : Fun Try.prog 28 #[lv] R O POST := by
  have hfin := blobO.eq_1 l
  refine Fun.enter (l := [_]) Try.func28 rfl Try.ntmps28 rfl (L0 := [(0, _)]) rfl ?_
  refine WC.seq ?_
  refine WC.region ?_
  refine WL.op rfl ?_
  refine OpW.alloc rfl I30 rfl (by repeat (first | exact NF.nil | apply NF.cons)) rfl rfl ?_; intro b2
  refine WL.rd rfl rfl rfl (Rd.assign rfl rfl) ?_
  refine WL.nil ?_
  refine thenQ.normal ?_
  refine WC.seq ?_
  refine WC.seq ?_
  refine WC.region ?_
  refine WL.rd rfl rfl rfl (Rd.move rfl rfl) ?_
  refine WL.rd rfl rfl rfl ((by first | exact Rd.lenE rfl rfl Try.underlying23 (by repeat (first | assumption | exact mS | apply mT)) | exact Rd.lenA rfl rfl Try.underlying23 (by repeat (first | assumption | exact mS | apply mT)) | exact Rd.len rfl rfl Try.underlying23)) ?_
  refine WL.rd rfl rfl rfl (Rd.neq rfl rfl rfl) ?_
  refine WL.nil ?_
  refine thenQ.normal ?_
  first | refine WC.ite rfl (fun hc1 => ?_) (fun hc1 => ?_) | refine WC.cond rfl (fun hc1 => ?_) (fun hc1 => ?_)
  · skip
    rw [if_pos (by omega)] at hfin
    refine WC.seq ?_
    refine WC.region ?_
    refine WL.rd rfl rfl rfl (Rd.buildN (ps := []) rfl Bs30 I30 rfl (by repeat (first | exact Evs.nil | apply Evs.cons rfl)) (by repeat (first | exact CellsOf.nil | apply CellsOf.cons rfl)) (by apply NFo.mk; repeat (first | exact NF.nil | apply NF.cons))) ?_
    refine WL.op rfl ?_
    refine OpW.storeS rfl G30 rfl rfl (by repeat (first | exact NF.nil | apply NF.cons)) (by repeat (first | assumption | exact Take.head _ | apply Take.tail)) rfl rfl (by repeat (first | exact NF.nil | apply NF.cons)) rfl ?_
    refine WL.rd rfl rfl rfl (Rd.assign rfl rfl) ?_
    refine WL.nil ?_
    refine thenQ.normal ?_
    refine WC.heap (fun w h => Sat.nilE (α := List UInt8) (enc := one vs) h) ?_
    refine WC.heap (fun w h => Sat.nilE (α := ET) (enc := encT) h) ?_
    refine WC.ret (Ret.cellTmp Try.results28 rfl rfl (by repeat (first | assumption | exact mS | apply mT)) G30 rfl ?_)
    rw [hfin] at hk
    exact hk _ _ _ _
  · skip
    rw [if_neg (by omega)] at hfin
    refine WC.skip ?_
    refine thenQ.normal ?_
    refine WC.seq ?_
    refine WC.region ?_
    refine WL.rd rfl rfl rfl (Rd.move rfl rfl) ?_
    refine WL.rd rfl rfl rfl ((by first | exact Rd.idx1 (k := 0) rfl S23 rfl rfl rfl (by repeat (first | assumption | exact mS | apply mT)) (by first | omega | (simp only [List.length_cons, List.length_nil, List.length_append, List.length_map]; omega)) | exact Rd.idxA1 (k := 0) rfl S23 rfl rfl rfl (by repeat (first | assumption | exact mS | apply mT)) (by first | omega | (simp only [List.length_cons, List.length_nil, List.length_append, List.length_map]; omega)) | exact Rd.idxR1 (k := 0) rfl S23 rfl rfl rfl (by omega))) ?_
    refine WL.rd rfl rfl rfl (Rd.get (k := 0) (g := vs) (a := l[0]!) (xs := l) rfl C9 rfl (by repeat (first | assumption | exact mS | apply mT)) (get!_of_lt (by omega))) ?_
    refine WL.rd rfl rfl rfl (Rd.buildN (ps := [(0, _), (1, _)]) rfl Bs30 I30 rfl (by repeat (first | exact Evs.nil | apply Evs.cons rfl)) (by repeat (first | exact CellsOf.nil | apply CellsOf.cons rfl)) (by apply NFo.mk; repeat (first | exact NF.nil | apply NF.cons))) ?_
    refine WL.op rfl ?_
    refine OpW.storeS rfl G30 rfl rfl (by repeat (first | exact NF.nil | apply NF.cons)) (by repeat (first | assumption | exact Take.head _ | apply Take.tail)) rfl rfl (by repeat (first | exact NF.nil | apply NF.cons)) rfl ?_
    refine WL.rd rfl rfl rfl (Rd.assign rfl rfl) ?_
    refine WL.nil ?_
    refine thenQ.normal ?_
    refine WC.heap (fun w h => Sat.nilE (α := List UInt8) (enc := one vs) h) ?_
    refine WC.heap (fun w h => Sat.nilE (α := ET) (enc := encT) h) ?_
    refine WC.ret (Ret.cellTmp Try.results28 rfl rfl (by repeat (first | assumption | exact mS | apply mT)) G30 rfl ?_)
    rw [hfin] at hk
    exact hk _ _ _ _
set_option maxRecDepth 20000 in
theorem tag_spec {l : List (List UInt8)} {lv : Value} (hl : SlE (one vs) lv l ∈ R) (hk : ∀ ev pv b2 cs, POST (.tuple #[obV (tagO l).1 ev pv, .bool (tagO l).2]) (SlE encT ev (tagO l).1.ents :: SlE (one vs) pv (tagO l).1.pars :: R) (rowC b2 30 cs :: O)) : Fun Try.prog 37 #[lv] R O POST := by
  have hfin := tagO.eq_1 l
  refine Fun.enter (l := [_]) Try.func37 rfl Try.ntmps37 rfl (L0 := [(0, _)]) rfl ?_
  refine WC.seq ?_
  refine WC.region ?_
  refine WL.op rfl ?_
  refine OpW.alloc rfl I30 rfl (by repeat (first | exact NF.nil | apply NF.cons)) rfl rfl ?_; intro b2
  refine WL.rd rfl rfl rfl (Rd.assign rfl rfl) ?_
  refine WL.nil ?_
  refine thenQ.normal ?_
  refine WC.seq ?_
  refine WC.seq ?_
  refine WC.region ?_
  refine WL.rd rfl rfl rfl (Rd.move rfl rfl) ?_
  refine WL.rd rfl rfl rfl ((by first | exact Rd.lenE rfl rfl Try.underlying23 (by repeat (first | assumption | exact mS | apply mT)) | exact Rd.lenA rfl rfl Try.underlying23 (by repeat (first | assumption | exact mS | apply mT)) | exact Rd.len rfl rfl Try.underlying23)) ?_
  refine WL.rd rfl rfl rfl (Rd.neq rfl rfl rfl) ?_
  refine WL.nil ?_
  refine thenQ.normal ?_
  first | refine WC.ite rfl (fun hc1 => ?_) (fun hc1 => ?_) | refine WC.cond rfl (fun hc1 => ?_) (fun hc1 => ?_)
  · skip
    rw [if_pos (by omega)] at hfin
    refine WC.seq ?_
    refine WC.region ?_
    refine WL.rd rfl rfl rfl (Rd.buildN (ps := []) rfl Bs30 I30 rfl (by repeat (first | exact Evs.nil | apply Evs.cons rfl)) (by repeat (first | exact CellsOf.nil | apply CellsOf.cons rfl)) (by apply NFo.mk; repeat (first | exact NF.nil | apply NF.cons))) ?_
    refine WL.op rfl ?_
    refine OpW.storeS rfl G30 rfl rfl (by repeat (first | exact NF.nil | apply NF.cons)) (by repeat (first | assumption | exact Take.head _ | apply Take.tail)) rfl rfl (by repeat (first | exact NF.nil | apply NF.cons)) rfl ?_
    refine WL.rd rfl rfl rfl (Rd.assign rfl rfl) ?_
    refine WL.nil ?_
    refine thenQ.normal ?_
    refine WC.heap (fun w h => Sat.nilE (α := List UInt8) (enc := one vs) h) ?_
    refine WC.heap (fun w h => Sat.nilE (α := ET) (enc := encT) h) ?_
    refine WC.ret (Ret.cellTmp Try.results37 rfl rfl (by repeat (first | assumption | exact mS | apply mT)) G30 rfl ?_)
    rw [hfin] at hk
    exact hk _ _ _ _
  · skip
    rw [if_neg (by omega)] at hfin
    refine WC.skip ?_
    refine thenQ.normal ?_
    refine WC.seq ?_
    refine WC.tail 10 mixed (by kernel_rfl) ?_
    refine WS.rd rfl rfl rfl (Rd.move rfl rfl) ?_
    refine WS.rd rfl rfl rfl ((by first | exact Rd.idx1 (k := 0) rfl S23 rfl rfl rfl (by repeat (first | assumption | exact mS | apply mT)) (by first | omega | (simp only [List.length_cons, List.length_nil, List.length_append, List.length_map]; omega)) | exact Rd.idxA1 (k := 0) rfl S23 rfl rfl rfl (by repeat (first | assumption | exact mS | apply mT)) (by first | omega | (simp only [List.length_cons, List.length_nil, List.length_append, List.length_map]; omega)) | exact Rd.idxR1 (k := 0) rfl S23 rfl rfl rfl (by omega))) ?_
    refine WS.rd rfl rfl rfl (Rd.get (k := 0) (g := vs) (a := l[0]!) (xs := l) rfl C9 rfl (by repeat (first | assumption | exact mS | apply mT)) (get!_of_lt (by omega))) ?_
    refine WS.rd rfl rfl rfl (Rd.move rfl rfl) ?_
    refine WS.rd rfl rfl rfl ((by first | exact Rd.idx1 (k := 1) rfl S23 rfl rfl rfl (by repeat (first | assumption | exact mS | apply mT)) (by first | omega | (simp only [List.length_cons, List.length_nil, List.length_append, List.length_map]; omega)) | exact Rd.idxA1 (k := 1) rfl S23 rfl rfl rfl (by repeat (first | assumption | exact mS | apply mT)) (by first | omega | (simp only [List.length_cons, List.length_nil, List.length_append, List.length_map]; omega)) | exact Rd.idxR1 (k := 1) rfl S23 rfl rfl rfl (by omega))) ?_
    refine WS.rd rfl rfl rfl (Rd.get (k := 1) (g := vs) (a := l[1]!) (xs := l) rfl C9 rfl (by repeat (first | assumption | exact mS | apply mT)) (get!_of_lt (by omega))) ?_
    refine WS.rd rfl rfl rfl (Rd.move rfl rfl) ?_
    refine WS.rd rfl rfl rfl ((by first | exact Rd.idx1 (k := 2) rfl S23 rfl rfl rfl (by repeat (first | assumption | exact mS | apply mT)) (by first | omega | (simp only [List.length_cons, List.length_nil, List.length_append, List.length_map]; omega)) | exact Rd.idxA1 (k := 2) rfl S23 rfl rfl rfl (by repeat (first | assumption | exact mS | apply mT)) (by first | omega | (simp only [List.length_cons, List.length_nil, List.length_append, List.length_map]; omega)) | exact Rd.idxR1 (k := 2) rfl S23 rfl rfl rfl (by omega))) ?_
    refine WS.rd rfl rfl rfl (Rd.get (k := 2) (g := vs) (a := l[2]!) (xs := l) rfl C9 rfl (by repeat (first | assumption | exact mS | apply mT)) (get!_of_lt (by omega))) ?_
    refine WS.rd rfl rfl rfl (Rd.buildN (ps := [(0, _), (8, _), (9, _), (6, _)]) rfl Bs30 I30 rfl (by repeat (first | exact Evs.nil | apply Evs.cons rfl)) (by repeat (first | exact CellsOf.nil | apply CellsOf.cons rfl)) (by apply NFo.mk; repeat (first | exact NF.nil | apply NF.cons))) ?_
    refine WS.switch ?_
    refine WL.op rfl ?_
    refine OpW.storeS rfl G30 rfl rfl (by repeat (first | exact NF.nil | apply NF.cons)) (by repeat (first | assumption | exact Take.head _ | apply Take.tail)) rfl rfl (by repeat (first | exact NF.nil | apply NF.cons)) rfl ?_
    refine WL.rd rfl rfl rfl (Rd.assign rfl rfl) ?_
    refine WL.nil ?_
    refine thenQ.normal ?_
    refine WC.heap (fun w h => Sat.nilE (α := List UInt8) (enc := one vs) h) ?_
    refine WC.heap (fun w h => Sat.nilE (α := ET) (enc := encT) h) ?_
    refine WC.ret (Ret.cellTmp Try.results37 rfl rfl (by repeat (first | assumption | exact mS | apply mT)) G30 rfl ?_)
    rw [hfin] at hk
    exact hk _ _ _ _
abbrev tC (k : Int) (ev : Value) : List Value := [.int .i64 k, vs [], ev, vs [], .slice none 0 0, vs [], vs [], .int .i64 0, vs [], vs []]
set_option maxRecDepth 20000 in
set_option maxHeartbeats 1000000 in
theorem tree_spec {l : List (List UInt8)} {lv : Value} (hl : SlE (one vs) lv l ∈ R) (hn : l.length ≤ 1000000) (hk : ∀ ev pv b2 cs, POST (.tuple #[obV (treeO l).1 ev pv, .bool (treeO l).2]) (SlE encT ev (treeO l).1.ents :: SlE (one vs) pv (treeO l).1.pars :: R) (rowC b2 30 cs :: O)) : Fun Try.prog 31 #[lv] R O POST := by
  refine Fun.enter (l := [_]) Try.func31 rfl Try.ntmps31 rfl (L0 := [(0, _)]) rfl ?_
  refine WC.seq ?_
  refine WC.region ?_
  refine WL.op rfl ?_
  refine OpW.alloc rfl I30 rfl (by repeat (first | exact NF.nil | apply NF.cons)) rfl rfl ?_; intro b2
  refine WL.rd rfl rfl rfl (Rd.assign rfl rfl) ?_
  refine WL.nil ?_
  refine thenQ.normal ?_
  refine WC.seq ?_
  refine WC.region ?_
  refine WL.rd rfl rfl rfl (Rd.buildN (ps := [(0, _)]) rfl Bs30 I30 rfl (by repeat (first | exact Evs.nil | apply Evs.cons rfl)) (by repeat (first | exact CellsOf.nil | apply CellsOf.cons rfl)) (by apply NFo.mk; repeat (first | exact NF.nil | apply NF.cons))) ?_
  refine WL.op rfl ?_
  refine OpW.alloc rfl I30 rfl (by repeat (first | exact NF.nil | apply NF.cons)) rfl rfl ?_; intro b4
  refine WL.op rfl ?_
  refine OpW.storeS rfl G30 rfl rfl (by repeat (first | exact NF.nil | apply NF.cons)) (by repeat (first | assumption | exact Take.head _ | apply Take.tail)) rfl rfl (by repeat (first | exact NF.nil | apply NF.cons)) rfl ?_
  refine WL.nil ?_
  refine thenQ.normal ?_
  refine WC.seq ?_
  refine WC.seq ?_
  refine WC.region ?_
  refine WL.rd rfl rfl rfl (Rd.assign rfl rfl) ?_
  refine WL.nil ?_
  refine thenQ.normal ?_
  refine WC.block ?_
  refine WC.pick [5, 0, 2, 4] (by repeat (first | exact Pick.nil | apply Pick.cons rfl)) ?_
  refine WC.loop2 1 (fun (j : Nat) (v : Value) => [(5, .int .i64 ((2 * j : Nat) : Int))]) (fun (j : Nat) (v : Value) => rowC b4 30 (tC 2 v) :: accC 51 2 encT v (pairsE l j) :: rowC b2 30 (tC 0 (.slice none 0 0)) :: O) (fun (j : Nat) (v : Value) => 2 * j ≤ l.length ∧ OneV v) (fun (j : Nat) (v : Value) => l.length - j) (0) (.slice none 0 0) (by repeat (first | exact Split.zero | apply Split.succ)) ?hinv1 (by repeat (first | exact Sub.nil | refine Sub.cons rfl (by first | rfl | (congr 1; omega) | assumption) ?_)) (fun w h => by
  have g1 := h.accNil (α := ET) (e := 51) (size := 2) (enc := encT)
  exact (fun w h => OwnL.sat (by repeat (first | exact OwnL.refl | apply OwnL.take (by repeat (first | exact Take.head _ | apply Take.tail)) | apply OwnL.drop)) w (h.thin (SubL.mem (by repeat (first | exact SubL.refl | refine SubL.cons (by repeat (first | assumption | exact mS | apply mT)) ?_ | refine SubL.skip ?_))))) w g1) ?_
  case hinv1 =>
    exact ⟨Nat.zero_le _, OneV.sl⟩
  intro j v
  rintro ⟨i1, i2⟩
  refine WC.seq ?_
  refine WC.seq ?_
  refine WC.region ?_
  refine WL.rd rfl rfl rfl (Rd.move rfl rfl) ?_
  refine WL.rd rfl rfl rfl (Rd.add rfl rfl rfl (by omega)) ?_
  refine WL.rd rfl rfl rfl (Rd.move rfl rfl) ?_
  refine WL.rd rfl rfl rfl ((by first | exact Rd.lenE rfl rfl Try.underlying23 (by repeat (first | assumption | exact mS | apply mT)) | exact Rd.lenA rfl rfl Try.underlying23 (by repeat (first | assumption | exact mS | apply mT)) | exact Rd.len rfl rfl Try.underlying23)) ?_
  refine WL.rd rfl rfl rfl (Rd.lss rfl rfl rfl) ?_
  refine WL.nil ?_
  refine thenQ.normal ?_
  first | refine WC.ite rfl (fun hc1 => ?_) (fun hc1 => ?_) | refine WC.cond rfl (fun hc1 => ?_) (fun hc1 => ?_)
  · skip
    have hml := pairs_len l j
    have hnx := pairs_next l j
    obtain ⟨cs, hcs⟩ : ∃ cs, cs = pairsE l j := ⟨_, rfl⟩
    rw [← hcs] at hnx hml ⊢
    refine WC.skip ?_
    refine thenQ.normal ?_
    refine WC.seq ?_
    refine WC.block ?_
    refine WC.drawn (O) 16 rfl mixed ?_
    refine WD.take 0 rfl (by kernel_rfl) (Held.mk' (by repeat (first | exact SubL.refl | refine SubL.cons (by repeat (first | assumption | exact mS | apply mT)) ?_ | refine SubL.skip ?_)) (by repeat (first | exact OwnL.refl | apply OwnL.take (by repeat (first | exact Take.head _ | apply Take.tail)) | apply OwnL.drop))) rfl rfl rfl ((by first | exact Rd.field rfl F30_2 rfl rfl | exact Rd.fieldE rfl F30_2 rfl (by repeat (first | assumption | exact mS | apply mT)) (by omega) | exact Rd.fieldA rfl F30_2 rfl (by repeat (first | assumption | exact mS | apply mT)) (by omega))) ?_
    refine WD.take 2 rfl (by kernel_rfl) (Held.mk' (by repeat (first | exact SubL.refl | refine SubL.cons (by repeat (first | assumption | exact mS | apply mT)) ?_ | refine SubL.skip ?_)) (by repeat (first | exact OwnL.refl | apply OwnL.take (by repeat (first | exact Take.head _ | apply Take.tail)) | apply OwnL.drop))) rfl rfl rfl (Rd.move rfl rfl) ?_
    refine WD.take 3 rfl (by kernel_rfl) (Held.mk' (by repeat (first | exact SubL.refl | refine SubL.cons (by repeat (first | assumption | exact mS | apply mT)) ?_ | refine SubL.skip ?_)) (by repeat (first | exact OwnL.refl | apply OwnL.take (by repeat (first | exact Take.head _ | apply Take.tail)) | apply OwnL.drop))) rfl rfl rfl (Rd.move rfl rfl) ?_
    refine WD.take 4 rfl (by kernel_rfl) (Held.mk' (by repeat (first | exact SubL.refl | refine SubL.cons (by repeat (first | assumption | exact mS | apply mT)) ?_ | refine SubL.skip ?_)) (by repeat (first | exact OwnL.refl | apply OwnL.take (by repeat (first | exact Take.head _ | apply Take.tail)) | apply OwnL.drop))) rfl rfl rfl (Rd.idx1 (k := 2 * j) rfl S23 rfl rfl rfl (enc := one vs) (xs := l) (by repeat (first | assumption | exact mS | apply mT)) (by omega)) ?_
    refine WD.take 5 rfl (by kernel_rfl) (Held.mk' (by repeat (first | exact SubL.refl | refine SubL.cons (by repeat (first | assumption | exact mS | apply mT)) ?_ | refine SubL.skip ?_)) (by repeat (first | exact OwnL.refl | apply OwnL.take (by repeat (first | exact Take.head _ | apply Take.tail)) | apply OwnL.drop))) rfl rfl rfl (Rd.get (k := 2 * j) (g := vs) (a := l[2 * j]!) (xs := l) rfl C9 rfl (by repeat (first | assumption | exact mS | apply mT)) (get!_of_lt (by omega))) ?_
    refine WD.take 6 rfl (by kernel_rfl) (Held.mk' (by repeat (first | exact SubL.refl | refine SubL.cons (by repeat (first | assumption | exact mS | apply mT)) ?_ | refine SubL.skip ?_)) (by repeat (first | exact OwnL.refl | apply OwnL.take (by repeat (first | exact Take.head _ | apply Take.tail)) | apply OwnL.drop))) rfl rfl rfl (Rd.move rfl rfl) ?_
    refine WD.take 7 rfl (by kernel_rfl) (Held.mk' (by repeat (first | exact SubL.refl | refine SubL.cons (by repeat (first | assumption | exact mS | apply mT)) ?_ | refine SubL.skip ?_)) (by repeat (first | exact OwnL.refl | apply OwnL.take (by repeat (first | exact Take.head _ | apply Take.tail)) | apply OwnL.drop))) rfl rfl rfl (Rd.move rfl rfl) ?_
    refine WD.take 8 rfl (by kernel_rfl) (Held.mk' (by repeat (first | exact SubL.refl | refine SubL.cons (by repeat (first | assumption | exact mS | apply mT)) ?_ | refine SubL.skip ?_)) (by repeat (first | exact OwnL.refl | apply OwnL.take (by repeat (first | exact Take.head _ | apply Take.tail)) | apply OwnL.drop))) rfl rfl rfl (Rd.add rfl rfl rfl (by omega)) ?_
    refine WD.take 9 rfl (by kernel_rfl) (Held.mk' (by repeat (first | exact SubL.refl | refine SubL.cons (by repeat (first | assumption | exact mS | apply mT)) ?_ | refine SubL.skip ?_)) (by repeat (first | exact OwnL.refl | apply OwnL.take (by repeat (first | exact Take.head _ | apply Take.tail)) | apply OwnL.drop))) rfl rfl rfl (Rd.idx1 (k := 2 * j + 1) rfl S23 rfl rfl rfl (enc := one vs) (xs := l) (by repeat (first | assumption | exact mS | apply mT)) (by omega)) ?_
    refine WD.take 10 rfl (by kernel_rfl) (Held.mk' (by repeat (first | exact SubL.refl | refine SubL.cons (by repeat (first | assumption | exact mS | apply mT)) ?_ | refine SubL.skip ?_)) (by repeat (first | exact OwnL.refl | apply OwnL.take (by repeat (first | exact Take.head _ | apply Take.tail)) | apply OwnL.drop))) rfl rfl rfl (Rd.get (k := 2 * j + 1) (g := vs) (a := l[2 * j + 1]!) (xs := l) rfl C9 rfl (by repeat (first | assumption | exact mS | apply mT)) (get!_of_lt (by omega))) ?_
    refine WD.take 11 rfl (by kernel_rfl) (Held.mk' (by repeat (first | exact SubL.refl | refine SubL.cons (by repeat (first | assumption | exact mS | apply mT)) ?_ | refine SubL.skip ?_)) (by repeat (first | exact OwnL.refl | apply OwnL.take (by repeat (first | exact Take.head _ | apply Take.tail)) | apply OwnL.drop))) rfl rfl rfl (Rd.buildN (ps := [(0, _), (1, _)]) rfl Bs51 I51 rfl (by repeat (first | exact Evs.nil | apply Evs.cons rfl)) (by repeat (first | exact CellsOf.nil | apply CellsOf.cons rfl)) (by apply NFo.mk; repeat (first | exact NF.nil | apply NF.cons))) ?_
    refine WD.two 1 12 rfl rfl (by kernel_rfl) rfl rfl ?_ ?_
    · skip
      refine OpW.rd rfl rfl (Rd.row1 (b := b4) (off := 2) (u := v) rfl C28 rfl (by repeat (first | assumption | exact mS | apply mT)) rfl) ?_
      refine ⟨(Held.mk' (by repeat (first | exact SubL.refl | refine SubL.cons (by repeat (first | assumption | exact mS | apply mT)) ?_ | refine SubL.skip ?_)) (by repeat (first | exact OwnL.refl | apply OwnL.take (by repeat (first | exact Take.head _ | apply Take.tail)) | apply OwnL.drop))), ?_⟩
      refine WD.one 12 rfl (by kernel_rfl) rfl ?_
      refine OpW.buildSl (ps := [(0, _)]) rfl S28 (by repeat (first | exact Evs.nil | apply Evs.cons rfl)) rfl rfl (by repeat (first | exact CellsOf.nil | apply CellsOf.cons rfl)) (by kernel_rfl) rfl rfl rfl ?_; intro b26
      refine ⟨(Held.mk' (by repeat (first | exact SubL.refl | refine SubL.cons (by repeat (first | assumption | exact mS | apply mT)) ?_ | refine SubL.skip ?_)) (by repeat (first | exact OwnL.refl | apply OwnL.take (by repeat (first | exact Take.head _ | apply Take.tail)) | apply OwnL.drop))), ?_⟩
      refine WD.one 13 rfl (by kernel_rfl) rfl ?_
      refine OpW.appendRow (enc := encT) rfl S28 rfl rfl (by repeat (first | assumption | exact Take.head _ | apply Take.tail)) (by repeat (first | assumption | exact Take.head _ | apply Take.tail)) [(l[2 * j]!, l[2 * j + 1]!)] rfl (by rfl) rfl (by intro x; first | rfl | (cases x; rfl) | (rcases x with ⟨_, _, _⟩; rfl) | (rcases x with ⟨_, _, _, _⟩; rfl)) (by intro x; first | rfl | (cases x; rfl) | (rcases x with ⟨_, _, _⟩; rfl) | (rcases x with ⟨_, _, _, _⟩; rfl)) ⟨by simp only [maxLen, List.length_append, List.length_nil, List.length_cons, List.length_drop, List.length_take, List.length_map]; omega, by first | omega | (simp only [List.length_append, List.length_nil, List.length_cons, List.length_drop, List.length_take, List.length_map]; omega)⟩ rfl rfl ?_; intro v27 hv27
      refine ⟨(Held.mk' (by repeat (first | exact SubL.refl | refine SubL.cons (by repeat (first | assumption | exact mS | apply mT)) ?_ | refine SubL.skip ?_)) (by repeat (first | exact OwnL.refl | apply OwnL.take (by repeat (first | exact Take.head _ | apply Take.tail)) | apply OwnL.drop))), ?_⟩
      refine WD.take 14 rfl (by kernel_rfl) (Held.mk' (by repeat (first | exact SubL.refl | refine SubL.cons (by repeat (first | assumption | exact mS | apply mT)) ?_ | refine SubL.skip ?_)) (by repeat (first | exact OwnL.refl | apply OwnL.take (by repeat (first | exact Take.head _ | apply Take.tail)) | apply OwnL.drop))) rfl rfl rfl ((by first | exact Rd.field rfl F30_2 rfl rfl | exact Rd.fieldE rfl F30_2 rfl (by repeat (first | assumption | exact mS | apply mT)) (by omega) | exact Rd.fieldA rfl F30_2 rfl (by repeat (first | assumption | exact mS | apply mT)) (by omega))) ?_
      refine WD.one 15 rfl (by kernel_rfl) rfl ?_
      refine OpW.store1 rfl Z28 rfl rfl (by first | exact ⟨rfl, rfl⟩ | assumption) (by repeat (first | assumption | exact Take.head _ | apply Take.tail)) (by first | (simp; done) | omega | exact of_decide_eq_true rfl | (simp only [List.length_append, List.length_replicate, List.length_map, List.length_set]; omega)) rfl ?_
      refine ⟨(Held.mk' (by repeat (first | exact SubL.refl | refine SubL.cons (by repeat (first | assumption | exact mS | apply mT)) ?_ | refine SubL.skip ?_)) (by repeat (first | exact OwnL.refl | apply OwnL.take (by repeat (first | exact Take.head _ | apply Take.tail)) | apply OwnL.drop))), ?_⟩
      refine WD.done (by kernel_rfl) ?_
      refine blockQ.normal ?_
      refine thenQ.normal ?_
      refine WC.region ?_
      refine WL.rd rfl rfl rfl (Rd.move rfl rfl) ?_
      refine WL.rd rfl rfl rfl (Rd.add rfl rfl rfl (by omega)) ?_
      refine WL.rd rfl rfl rfl (Rd.assign rfl rfl) ?_
      refine WL.nil ?_
      exact loopQ2.mk (j + 1) v27 ⟨by omega, hv27⟩ (by omega) (by repeat (first | exact Sub.nil | refine Sub.cons rfl (by first | rfl | (congr 1; omega) | assumption) ?_)) (fun w h => by rw [hnx]; exact (fun w h => OwnL.sat (by repeat (first | exact OwnL.refl | apply OwnL.take (by repeat (first | exact Take.head _ | apply Take.tail)) | apply OwnL.drop)) w (h.thin (SubL.mem (by repeat (first | exact SubL.refl | refine SubL.cons (by repeat (first | assumption | exact mS | apply mT)) ?_ | refine SubL.skip ?_))))) w h)
    · skip
      refine OpW.buildSl (ps := [(0, _)]) rfl S28 (by repeat (first | exact Evs.nil | apply Evs.cons rfl)) rfl rfl (by repeat (first | exact CellsOf.nil | apply CellsOf.cons rfl)) (by kernel_rfl) rfl rfl rfl ?_; intro b26
      refine ⟨(Held.mk' (by repeat (first | exact SubL.refl | refine SubL.cons (by repeat (first | assumption | exact mS | apply mT)) ?_ | refine SubL.skip ?_)) (by repeat (first | exact OwnL.refl | apply OwnL.take (by repeat (first | exact Take.head _ | apply Take.tail)) | apply OwnL.drop))), ?_⟩
      refine WD.one 1 rfl (by kernel_rfl) rfl ?_
      refine OpW.rd rfl rfl (Rd.row1 (b := b4) (off := 2) (u := v) rfl C28 rfl (by repeat (first | assumption | exact mS | apply mT)) rfl) ?_
      refine ⟨(Held.mk' (by repeat (first | exact SubL.refl | refine SubL.cons (by repeat (first | assumption | exact mS | apply mT)) ?_ | refine SubL.skip ?_)) (by repeat (first | exact OwnL.refl | apply OwnL.take (by repeat (first | exact Take.head _ | apply Take.tail)) | apply OwnL.drop))), ?_⟩
      refine WD.one 13 rfl (by kernel_rfl) rfl ?_
      refine OpW.appendRow (enc := encT) rfl S28 rfl rfl (by repeat (first | assumption | exact Take.head _ | apply Take.tail)) (by repeat (first | assumption | exact Take.head _ | apply Take.tail)) [(l[2 * j]!, l[2 * j + 1]!)] rfl (by rfl) rfl (by intro x; first | rfl | (cases x; rfl) | (rcases x with ⟨_, _, _⟩; rfl) | (rcases x with ⟨_, _, _, _⟩; rfl)) (by intro x; first | rfl | (cases x; rfl) | (rcases x with ⟨_, _, _⟩; rfl) | (rcases x with ⟨_, _, _, _⟩; rfl)) ⟨by simp only [maxLen, List.length_append, List.length_nil, List.length_cons, List.length_drop, List.length_take, List.length_map]; omega, by first | omega | (simp only [List.length_append, List.length_nil, List.length_cons, List.length_drop, List.length_take, List.length_map]; omega)⟩ rfl rfl ?_; intro v27 hv27
      refine ⟨(Held.mk' (by repeat (first | exact SubL.refl | refine SubL.cons (by repeat (first | assumption | exact mS | apply mT)) ?_ | refine SubL.skip ?_)) (by repeat (first | exact OwnL.refl | apply OwnL.take (by repeat (first | exact Take.head _ | apply Take.tail)) | apply OwnL.drop))), ?_⟩
      refine WD.take 14 rfl (by kernel_rfl) (Held.mk' (by repeat (first | exact SubL.refl | refine SubL.cons (by repeat (first | assumption | exact mS | apply mT)) ?_ | refine SubL.skip ?_)) (by repeat (first | exact OwnL.refl | apply OwnL.take (by repeat (first | exact Take.head _ | apply Take.tail)) | apply OwnL.drop))) rfl rfl rfl ((by first | exact Rd.field rfl F30_2 rfl rfl | exact Rd.fieldE rfl F30_2 rfl (by repeat (first | assumption | exact mS | apply mT)) (by omega) | exact Rd.fieldA rfl F30_2 rfl (by repeat (first | assumption | exact mS | apply mT)) (by omega))) ?_
      refine WD.one 15 rfl (by kernel_rfl) rfl ?_
      refine OpW.store1 rfl Z28 rfl rfl (by first | exact ⟨rfl, rfl⟩ | assumption) (by repeat (first | assumption | exact Take.head _ | apply Take.tail)) (by first | (simp; done) | omega | exact of_decide_eq_true rfl | (simp only [List.length_append, List.length_replicate, List.length_map, List.length_set]; omega)) rfl ?_
      refine ⟨(Held.mk' (by repeat (first | exact SubL.refl | refine SubL.cons (by repeat (first | assumption | exact mS | apply mT)) ?_ | refine SubL.skip ?_)) (by repeat (first | exact OwnL.refl | apply OwnL.take (by repeat (first | exact Take.head _ | apply Take.tail)) | apply OwnL.drop))), ?_⟩
      refine WD.done (by kernel_rfl) ?_
      refine blockQ.normal ?_
      refine thenQ.normal ?_
      refine WC.region ?_
      refine WL.rd rfl rfl rfl (Rd.move rfl rfl) ?_
      refine WL.rd rfl rfl rfl (Rd.add rfl rfl rfl (by omega)) ?_
      refine WL.rd rfl rfl rfl (Rd.assign rfl rfl) ?_
      refine WL.nil ?_
      exact loopQ2.mk (j + 1) v27 ⟨by omega, hv27⟩ (by omega) (by repeat (first | exact Sub.nil | refine Sub.cons rfl (by first | rfl | (congr 1; omega) | assumption) ?_)) (fun w h => by rw [hnx]; exact (fun w h => OwnL.sat (by repeat (first | exact OwnL.refl | apply OwnL.take (by repeat (first | exact Take.head _ | apply Take.tail)) | apply OwnL.drop)) w (h.thin (SubL.mem (by repeat (first | exact SubL.refl | refine SubL.cons (by repeat (first | assumption | exact mS | apply mT)) ?_ | refine SubL.skip ?_))))) w h)
  · skip
    obtain rfl : j = l.length / 2 := by omega
    refine WC.exit ?_
    refine thenQ.exit ?_
    refine loopQ2.exit ?_
    refine blockQ.exit ?_
    refine thenQ.normal ?_
    refine WC.seq ?_
    refine WC.region ?_
    refine WL.rd rfl rfl rfl (Rd.rowS (b := b4) rfl G30 rfl (by repeat (first | assumption | exact mS | apply mT)) (by repeat (first | exact NF.nil | apply NF.cons)) rfl) ?_
    refine WL.rd rfl rfl rfl (Rd.move rfl rfl) ?_
    refine WL.rd rfl rfl rfl ((by first | exact Rd.lenE rfl rfl Try.underlying23 (by repeat (first | assumption | exact mS | apply mT)) | exact Rd.lenA rfl rfl Try.underlying23 (by repeat (first | assumption | exact mS | apply mT)) | exact Rd.len rfl rfl Try.underlying23)) ?_
    refine WL.rd rfl rfl rfl (Rd.remN (b := 2) rfl rfl rfl rfl rfl (by decide)) ?_
    refine WL.rd rfl rfl rfl (Rd.eql rfl rfl rfl) ?_
    refine WL.say 33 (u := .bool (decide (l.length % 2 = 0))) rfl (vb (by omega)) ?_
    refine WL.op rfl ?_
    refine OpW.storeS rfl G30 rfl rfl (by repeat (first | exact NF.nil | apply NF.cons)) (by repeat (first | assumption | exact Take.head _ | apply Take.tail)) rfl rfl (by repeat (first | exact NF.nil | apply NF.cons)) rfl (h1 := by have h1 := i2.one; simp only [List.all_cons, List.all_nil, h1]; rfl) ?_
    refine WL.rd rfl rfl rfl (Rd.assign rfl rfl) ?_
    refine WL.nil ?_
    refine thenQ.normal ?_
    refine WC.heap (R' := SlE encT v (pairsE l (l.length / 2)) :: SlE (one vs) (.slice none 0 0) ([] : List (List UInt8)) :: R) (O' := rowC b2 30 (tC 2 v) :: O) (fun w h => by
    have g1 := Sat.shareA (xs := pairsE l (l.length / 2)) (by repeat (first | assumption | exact Take.head _ | apply Take.tail)) h
    have g2 := Sat.nilE (α := List UInt8) (enc := one vs) g1
    exact (fun w h => OwnL.sat (by repeat (first | exact OwnL.refl | apply OwnL.take (by repeat (first | exact Take.head _ | apply Take.tail)) | apply OwnL.drop)) w (h.thin (SubL.mem (by repeat (first | exact SubL.refl | refine SubL.cons (by repeat (first | assumption | exact mS | apply mT)) ?_ | refine SubL.skip ?_))))) w g2) ?_
    refine WC.ret (Ret.cellTmp Try.results31 rfl rfl (by repeat (first | assumption | exact mS | apply mT)) G30 rfl ?_)
    exact hk _ _ _ _
abbrev cC (l : List (List UInt8)) (pv : Value) (n : Int) : List Value := [.int .i64 3, vs [], .slice none 0 0, vs l[0]!, pv, vs l[2]!, vs l[3]!, .int .i64 n, vs [], vs []]
set_option maxRecDepth 20000 in
set_option maxHeartbeats 2000000 in
theorem commit_spec {l : List (List UInt8)} {lv : Value} (hl : SlE (one vs) lv l ∈ R) (hn : ∀ x ∈ l, x.length ≤ 300000) (hk : ∀ ev pv b2 cs, POST (.tuple #[obV (commitO l).1 ev pv, .bool (commitO l).2]) (SlE encT ev (commitO l).1.ents :: SlE (one vs) pv (commitO l).1.pars :: R) (rowC b2 30 cs :: O)) : Fun Try.prog 34 #[lv] R O POST := by
  have hfin := commitO.eq_1 l
  have hln : ∀ j, j < l.length → l[j]!.length ≤ 300000 := fun j hj => by rw [getElem!_pos l j hj]; exact hn _ (List.getElem_mem _)
  refine Fun.enter (l := [_]) Try.func34 rfl Try.ntmps34 rfl (L0 := [(0, _)]) rfl ?_
  refine WC.seq ?_
  refine WC.region ?_
  refine WL.op rfl ?_
  refine OpW.alloc rfl I30 rfl (by repeat (first | exact NF.nil | apply NF.cons)) rfl rfl ?_; intro b2
  refine WL.rd rfl rfl rfl (Rd.assign rfl rfl) ?_
  refine WL.nil ?_
  refine thenQ.normal ?_
  refine WC.seq ?_
  refine WC.pick [0, 2] (by repeat (first | exact Pick.nil | apply Pick.cons rfl)) ?_
  refine WC.val 19 (.bool (decide (l.length ≠ 5 ∨ l[1]!.length % 32 ≠ 0))) ?_ ?_
  · skip
    refine WC.region ?_
    refine WL.rd rfl rfl rfl (Rd.move rfl rfl) ?_
    refine WL.rd rfl rfl rfl ((by first | exact Rd.lenE rfl rfl Try.underlying23 (by repeat (first | assumption | exact mS | apply mT)) | exact Rd.lenA rfl rfl Try.underlying23 (by repeat (first | assumption | exact mS | apply mT)) | exact Rd.len rfl rfl Try.underlying23)) ?_
    refine WL.rd rfl rfl rfl (Rd.neq rfl rfl rfl) ?_
    refine WL.rd rfl rfl rfl (Rd.move rfl rfl) ?_
    refine WL.case 12 rfl (fun hg12 => ?_) (fun hg12 => ?_)
    · skip
      refine WL.no rfl rfl rfl rfl rfl rfl ?_
      refine WL.no rfl rfl rfl rfl rfl rfl ?_
      refine WL.no rfl rfl rfl rfl rfl rfl ?_
      refine WL.no rfl rfl rfl rfl rfl rfl ?_
      refine WL.no rfl rfl rfl rfl rfl rfl ?_
      refine WL.no rfl rfl rfl rfl rfl rfl ?_
      refine WL.rd rfl rfl rfl (Rd.pick_t rfl rfl rfl) ?_
      refine WL.nil ?_
      exact ⟨by repeat (first | exact Sub.nil | refine Sub.cons rfl (by first | rfl | (first | (refine vb_t ?_; omega) | (refine vb ?_; omega))) ?_), by first | exact (fun _ h => h.thin (SubL.mem (by repeat (first | exact SubL.refl | refine SubL.cons (by repeat (first | assumption | exact mS | apply mT)) ?_ | refine SubL.skip ?_)))) | exact (fun w h => OwnL.sat (by repeat (first | exact OwnL.refl | apply OwnL.take (by repeat (first | exact Take.head _ | apply Take.tail)) | apply OwnL.drop)) w (h.thin (SubL.mem (by repeat (first | exact SubL.refl | refine SubL.cons (by repeat (first | assumption | exact mS | apply mT)) ?_ | refine SubL.skip ?_)))))⟩
    · skip
      refine WL.rd_yes rfl rfl rfl rfl rfl rfl (Rd.move rfl rfl) ?_
      refine WL.rd_yes rfl rfl rfl rfl rfl rfl ((by first | exact Rd.idx1 (k := 1) rfl S23 rfl rfl rfl (by repeat (first | assumption | exact mS | apply mT)) (by first | omega | (simp only [List.length_cons, List.length_nil, List.length_append, List.length_map]; omega)) | exact Rd.idxA1 (k := 1) rfl S23 rfl rfl rfl (by repeat (first | assumption | exact mS | apply mT)) (by first | omega | (simp only [List.length_cons, List.length_nil, List.length_append, List.length_map]; omega)) | exact Rd.idxR1 (k := 1) rfl S23 rfl rfl rfl (by omega))) ?_
      refine WL.rd_yes rfl rfl rfl rfl rfl rfl (Rd.get (k := 1) (g := vs) (a := l[1]!) (xs := l) rfl C9 rfl (by repeat (first | assumption | exact mS | apply mT)) (get!_of_lt (by omega))) ?_
      refine WL.rd_yes rfl rfl rfl rfl rfl rfl (Rd.slen (ts := #[]) (ty := 0) rfl rfl Try.underlying9) ?_
      refine WL.rd_yes rfl rfl rfl rfl rfl rfl (Rd.remN (b := 32) rfl rfl rfl rfl rfl (by decide)) ?_
      refine WL.rd_yes rfl rfl rfl rfl rfl rfl (Rd.neq rfl rfl rfl) ?_
      refine WL.rd rfl rfl rfl (Rd.pick_f rfl rfl rfl) ?_
      refine WL.nil ?_
      exact ⟨by repeat (first | exact Sub.nil | refine Sub.cons rfl (by first | rfl | (first | (refine vb_t ?_; omega) | (refine vb ?_; omega))) ?_), by first | exact (fun _ h => h.thin (SubL.mem (by repeat (first | exact SubL.refl | refine SubL.cons (by repeat (first | assumption | exact mS | apply mT)) ?_ | refine SubL.skip ?_)))) | exact (fun w h => OwnL.sat (by repeat (first | exact OwnL.refl | apply OwnL.take (by repeat (first | exact Take.head _ | apply Take.tail)) | apply OwnL.drop)) w (h.thin (SubL.mem (by repeat (first | exact SubL.refl | refine SubL.cons (by repeat (first | assumption | exact mS | apply mT)) ?_ | refine SubL.skip ?_)))))⟩
  · skip
    first | refine WC.ite rfl (fun hc1 => ?_) (fun hc1 => ?_) | refine WC.cond rfl (fun hc1 => ?_) (fun hc1 => ?_)
    · skip
      rw [if_pos hc1] at hfin
      refine WC.seq ?_
      refine WC.region ?_
      refine WL.rd rfl rfl rfl (Rd.buildN (ps := []) rfl Bs30 I30 rfl (by repeat (first | exact Evs.nil | apply Evs.cons rfl)) (by repeat (first | exact CellsOf.nil | apply CellsOf.cons rfl)) (by apply NFo.mk; repeat (first | exact NF.nil | apply NF.cons))) ?_
      refine WL.op rfl ?_
      refine OpW.storeS rfl G30 rfl rfl (by repeat (first | exact NF.nil | apply NF.cons)) (by repeat (first | assumption | exact Take.head _ | apply Take.tail)) rfl rfl (by repeat (first | exact NF.nil | apply NF.cons)) rfl ?_
      refine WL.rd rfl rfl rfl (Rd.assign rfl rfl) ?_
      refine WL.nil ?_
      refine thenQ.normal ?_
      refine WC.heap (fun w h => Sat.nilE (α := List UInt8) (enc := one vs) h) ?_
      refine WC.heap (fun w h => Sat.nilE (α := ET) (enc := encT) h) ?_
      refine WC.ret (Ret.cellTmp Try.results34 rfl rfl (by repeat (first | assumption | exact mS | apply mT)) G30 rfl ?_)
      rw [hfin] at hk
      exact hk _ _ _ _
    · skip
      rw [if_neg hc1] at hfin
      have h1l := hln 1 (by omega)
      have h4l := hln 4 (by omega)
      obtain ⟨s, hs⟩ : ∃ s, s = l[1]! := ⟨_, rfl⟩
      obtain ⟨m, hm⟩ : ∃ m, s.length = 32 * m := ⟨s.length / 32, by rw [hs]; omega⟩
      have hm2 : l[1]!.length / 32 = m := by rw [← hs]; omega
      refine WC.skip ?_
      refine thenQ.normal ?_
      refine WC.seq ?_
      refine WC.drawnA 12 rfl mixed ?_
      refine WD.take 0 rfl (by kernel_rfl) Held.all rfl rfl rfl (Rd.move rfl rfl) ?_
      refine WD.take 1 rfl (by kernel_rfl) Held.all rfl rfl rfl ((by first | exact Rd.idx1 (k := 0) rfl S23 rfl rfl rfl (by repeat (first | assumption | exact mS | apply mT)) (by first | omega | (simp only [List.length_cons, List.length_nil, List.length_append, List.length_map]; omega)) | exact Rd.idxA1 (k := 0) rfl S23 rfl rfl rfl (by repeat (first | assumption | exact mS | apply mT)) (by first | omega | (simp only [List.length_cons, List.length_nil, List.length_append, List.length_map]; omega)) | exact Rd.idxR1 (k := 0) rfl S23 rfl rfl rfl (by omega))) ?_
      refine WD.take 2 rfl (by kernel_rfl) Held.all rfl rfl rfl (Rd.get (k := 0) (g := vs) (a := l[0]!) (xs := l) rfl C9 rfl (by repeat (first | assumption | exact mS | apply mT)) (get!_of_lt (by omega))) ?_
      refine WD.take 3 rfl (by kernel_rfl) Held.all rfl rfl rfl (Rd.move rfl rfl) ?_
      refine WD.take 4 rfl (by kernel_rfl) Held.all rfl rfl rfl ((by first | exact Rd.idx1 (k := 2) rfl S23 rfl rfl rfl (by repeat (first | assumption | exact mS | apply mT)) (by first | omega | (simp only [List.length_cons, List.length_nil, List.length_append, List.length_map]; omega)) | exact Rd.idxA1 (k := 2) rfl S23 rfl rfl rfl (by repeat (first | assumption | exact mS | apply mT)) (by first | omega | (simp only [List.length_cons, List.length_nil, List.length_append, List.length_map]; omega)) | exact Rd.idxR1 (k := 2) rfl S23 rfl rfl rfl (by omega))) ?_
      refine WD.take 5 rfl (by kernel_rfl) Held.all rfl rfl rfl (Rd.get (k := 2) (g := vs) (a := l[2]!) (xs := l) rfl C9 rfl (by repeat (first | assumption | exact mS | apply mT)) (get!_of_lt (by omega))) ?_
      refine WD.take 6 rfl (by kernel_rfl) Held.all rfl rfl rfl (Rd.move rfl rfl) ?_
      refine WD.take 7 rfl (by kernel_rfl) Held.all rfl rfl rfl ((by first | exact Rd.idx1 (k := 3) rfl S23 rfl rfl rfl (by repeat (first | assumption | exact mS | apply mT)) (by first | omega | (simp only [List.length_cons, List.length_nil, List.length_append, List.length_map]; omega)) | exact Rd.idxA1 (k := 3) rfl S23 rfl rfl rfl (by repeat (first | assumption | exact mS | apply mT)) (by first | omega | (simp only [List.length_cons, List.length_nil, List.length_append, List.length_map]; omega)) | exact Rd.idxR1 (k := 3) rfl S23 rfl rfl rfl (by omega))) ?_
      refine WD.take 8 rfl (by kernel_rfl) Held.all rfl rfl rfl (Rd.get (k := 3) (g := vs) (a := l[3]!) (xs := l) rfl C9 rfl (by repeat (first | assumption | exact mS | apply mT)) (get!_of_lt (by omega))) ?_
      refine WD.take 9 rfl (by kernel_rfl) Held.all rfl rfl rfl (Rd.buildN (ps := [(0, _), (3, _), (5, _), (6, _)]) rfl Bs30 I30 rfl (by repeat (first | exact Evs.nil | apply Evs.cons rfl)) (by repeat (first | exact CellsOf.nil | apply CellsOf.cons rfl)) (by apply NFo.mk; repeat (first | exact NF.nil | apply NF.cons))) ?_
      refine WD.one 10 rfl (by kernel_rfl) rfl ?_
      refine OpW.alloc rfl I30 rfl (by repeat (first | exact NF.nil | apply NF.cons)) rfl rfl ?_; intro b4
      refine ⟨(Held.mk' (by repeat (first | exact SubL.refl | refine SubL.cons (by repeat (first | assumption | exact mS | apply mT)) ?_ | refine SubL.skip ?_)) (by repeat (first | exact OwnL.refl | apply OwnL.take (by repeat (first | exact Take.head _ | apply Take.tail)) | apply OwnL.drop))), ?_⟩
      refine WD.one 11 rfl (by kernel_rfl) rfl ?_
      refine OpW.storeS rfl G30 rfl rfl (by repeat (first | exact NF.nil | apply NF.cons)) (by repeat (first | assumption | exact Take.head _ | apply Take.tail)) rfl rfl (by repeat (first | exact NF.nil | apply NF.cons)) rfl ?_
      refine ⟨(Held.mk' (by repeat (first | exact SubL.refl | refine SubL.cons (by repeat (first | assumption | exact mS | apply mT)) ?_ | refine SubL.skip ?_)) (by repeat (first | exact OwnL.refl | apply OwnL.take (by repeat (first | exact Take.head _ | apply Take.tail)) | apply OwnL.drop))), ?_⟩
      refine WD.done (by kernel_rfl) ?_
      refine thenQ.normal ?_
      refine WC.seq ?_
      refine WC.seq ?_
      refine WC.region ?_
      refine WL.rd rfl rfl rfl (Rd.move rfl rfl) ?_
      refine WL.rd rfl rfl rfl ((by first | exact Rd.idx1 (k := 1) rfl S23 rfl rfl rfl (by repeat (first | assumption | exact mS | apply mT)) (by first | omega | (simp only [List.length_cons, List.length_nil, List.length_append, List.length_map]; omega)) | exact Rd.idxA1 (k := 1) rfl S23 rfl rfl rfl (by repeat (first | assumption | exact mS | apply mT)) (by first | omega | (simp only [List.length_cons, List.length_nil, List.length_append, List.length_map]; omega)) | exact Rd.idxR1 (k := 1) rfl S23 rfl rfl rfl (by omega))) ?_
      refine WL.rd rfl rfl rfl (Rd.get (k := 1) (g := vs) (a := s) (xs := l) rfl C9 rfl (by repeat (first | assumption | exact mS | apply mT)) (by rw [hs]; exact get!_of_lt (by omega))) ?_
      refine WL.rd rfl rfl rfl (Rd.assign rfl rfl) ?_
      refine WL.nil ?_
      refine thenQ.normal ?_
      refine WC.block ?_
      refine WC.pick [5, 0, 2, 4] (by repeat (first | exact Pick.nil | apply Pick.cons rfl)) ?_
      refine WC.loop2 1 (fun (j : Nat) (v : Value) => [(5, vs (s.drop (32 * j)))]) (fun (j : Nat) (v : Value) => rowC b4 30 (cC l v 0) :: accC 9 1 (one vs) v (chunks s j) :: rowC b2 30 (tC 0 (.slice none 0 0)) :: O) (fun (j : Nat) (v : Value) => j ≤ m ∧ OneV v) (fun (j : Nat) (v : Value) => m - j) (0) (.slice none 0 0) (by repeat (first | exact Split.zero | apply Split.succ)) ?hinv1 (by repeat (first | exact Sub.nil | refine Sub.cons rfl (by first | rfl | (congr 1; omega) | assumption) ?_)) (fun w h => by
      have g1 := h.accNil (α := List UInt8) (e := 9) (size := 1) (enc := one vs)
      exact (fun w h => OwnL.sat (by repeat (first | exact OwnL.refl | apply OwnL.take (by repeat (first | exact Take.head _ | apply Take.tail)) | apply OwnL.drop)) w (h.thin (SubL.mem (by repeat (first | exact SubL.refl | refine SubL.cons (by repeat (first | assumption | exact mS | apply mT)) ?_ | refine SubL.skip ?_))))) w g1) ?_
      case hinv1 =>
        exact ⟨Nat.zero_le _, OneV.sl⟩
      intro j v
      rintro ⟨i1, i2⟩
      refine WC.seq ?_
      refine WC.seq ?_
      refine WC.region ?_
      refine WL.rd rfl rfl rfl (Rd.move rfl rfl) ?_
      refine WL.rd rfl rfl rfl (Rd.sneq rfl rfl rfl) ?_
      refine WL.nil ?_
      refine thenQ.normal ?_
      first | refine WC.ite rfl (fun hc2 => ?_) (fun hc2 => ?_) | refine WC.cond rfl (fun hc2 => ?_) (fun hc2 => ?_)
      · skip
        have hml := chunks_len s j
        have hnx := chunks_next s j
        have hjm : j < m := by
          rcases Nat.lt_or_ge j m with h | h
          · exact h
          · exact absurd (List.drop_of_length_le (by omega)) hc2
        obtain ⟨cs, hcs⟩ : ∃ cs, cs = chunks s j := ⟨_, rfl⟩
        rw [← hcs] at hnx hml ⊢
        refine WC.skip ?_
        refine thenQ.normal ?_
        refine WC.seq ?_
        refine WC.block ?_
        refine WC.drawn (O) 8 rfl mixed ?_
        refine WD.take 0 rfl (by kernel_rfl) (Held.mk' (by repeat (first | exact SubL.refl | refine SubL.cons (by repeat (first | assumption | exact mS | apply mT)) ?_ | refine SubL.skip ?_)) (by repeat (first | exact OwnL.refl | apply OwnL.take (by repeat (first | exact Take.head _ | apply Take.tail)) | apply OwnL.drop))) rfl rfl rfl ((by first | exact Rd.field rfl F30_4 rfl rfl | exact Rd.fieldE rfl F30_4 rfl (by repeat (first | assumption | exact mS | apply mT)) (by omega) | exact Rd.fieldA rfl F30_4 rfl (by repeat (first | assumption | exact mS | apply mT)) (by omega))) ?_
        refine WD.take 2 rfl (by kernel_rfl) (Held.mk' (by repeat (first | exact SubL.refl | refine SubL.cons (by repeat (first | assumption | exact mS | apply mT)) ?_ | refine SubL.skip ?_)) (by repeat (first | exact OwnL.refl | apply OwnL.take (by repeat (first | exact Take.head _ | apply Take.tail)) | apply OwnL.drop))) rfl rfl rfl (Rd.move rfl rfl) ?_
        refine WD.take 3 rfl (by kernel_rfl) (Held.mk' (by repeat (first | exact SubL.refl | refine SubL.cons (by repeat (first | assumption | exact mS | apply mT)) ?_ | refine SubL.skip ?_)) (by repeat (first | exact OwnL.refl | apply OwnL.take (by repeat (first | exact Take.head _ | apply Take.tail)) | apply OwnL.drop))) rfl rfl rfl (Rd.scut_h (hi := 32) rfl Try.underlying9 rfl rfl rfl (by rw [List.length_drop]; omega)) ?_
        refine WD.two 1 4 rfl rfl (by kernel_rfl) rfl rfl ?_ ?_
        · skip
          refine OpW.rd rfl rfl (Rd.row1 (b := b4) (off := 4) (u := v) rfl C23 rfl (by repeat (first | assumption | exact mS | apply mT)) rfl) ?_
          refine ⟨(Held.mk' (by repeat (first | exact SubL.refl | refine SubL.cons (by repeat (first | assumption | exact mS | apply mT)) ?_ | refine SubL.skip ?_)) (by repeat (first | exact OwnL.refl | apply OwnL.take (by repeat (first | exact Take.head _ | apply Take.tail)) | apply OwnL.drop))), ?_⟩
          refine WD.one 4 rfl (by kernel_rfl) rfl ?_
          refine OpW.buildSl (ps := [(0, _)]) rfl S23 (by repeat (first | exact Evs.nil | apply Evs.cons rfl)) rfl rfl (by repeat (first | exact CellsOf.nil | apply CellsOf.cons rfl)) (by kernel_rfl) rfl rfl rfl ?_; intro b42
          refine ⟨(Held.mk' (by repeat (first | exact SubL.refl | refine SubL.cons (by repeat (first | assumption | exact mS | apply mT)) ?_ | refine SubL.skip ?_)) (by repeat (first | exact OwnL.refl | apply OwnL.take (by repeat (first | exact Take.head _ | apply Take.tail)) | apply OwnL.drop))), ?_⟩
          refine WD.one 5 rfl (by kernel_rfl) rfl ?_
          refine OpW.appendRow (enc := one vs) rfl S23 rfl rfl (by repeat (first | assumption | exact Take.head _ | apply Take.tail)) (by repeat (first | assumption | exact Take.head _ | apply Take.tail)) [(s.drop (32 * j)).take 32] rfl (by rfl) rfl (by intro x; first | rfl | (cases x; rfl) | (rcases x with ⟨_, _, _⟩; rfl) | (rcases x with ⟨_, _, _, _⟩; rfl)) (by intro x; first | rfl | (cases x; rfl) | (rcases x with ⟨_, _, _⟩; rfl) | (rcases x with ⟨_, _, _, _⟩; rfl)) ⟨by simp only [maxLen, List.length_append, List.length_nil, List.length_cons, List.length_drop, List.length_take, List.length_map]; omega, by first | omega | (simp only [List.length_append, List.length_nil, List.length_cons, List.length_drop, List.length_take, List.length_map]; omega)⟩ rfl rfl ?_; intro v43 hv43
          refine ⟨(Held.mk' (by repeat (first | exact SubL.refl | refine SubL.cons (by repeat (first | assumption | exact mS | apply mT)) ?_ | refine SubL.skip ?_)) (by repeat (first | exact OwnL.refl | apply OwnL.take (by repeat (first | exact Take.head _ | apply Take.tail)) | apply OwnL.drop))), ?_⟩
          refine WD.take 6 rfl (by kernel_rfl) (Held.mk' (by repeat (first | exact SubL.refl | refine SubL.cons (by repeat (first | assumption | exact mS | apply mT)) ?_ | refine SubL.skip ?_)) (by repeat (first | exact OwnL.refl | apply OwnL.take (by repeat (first | exact Take.head _ | apply Take.tail)) | apply OwnL.drop))) rfl rfl rfl ((by first | exact Rd.field rfl F30_4 rfl rfl | exact Rd.fieldE rfl F30_4 rfl (by repeat (first | assumption | exact mS | apply mT)) (by omega) | exact Rd.fieldA rfl F30_4 rfl (by repeat (first | assumption | exact mS | apply mT)) (by omega))) ?_
          refine WD.one 7 rfl (by kernel_rfl) rfl ?_
          refine OpW.store1 rfl Z23 rfl rfl (by first | exact ⟨rfl, rfl⟩ | assumption) (by repeat (first | assumption | exact Take.head _ | apply Take.tail)) (by first | (simp; done) | omega | exact of_decide_eq_true rfl | (simp only [List.length_append, List.length_replicate, List.length_map, List.length_set]; omega)) rfl ?_
          refine ⟨(Held.mk' (by repeat (first | exact SubL.refl | refine SubL.cons (by repeat (first | assumption | exact mS | apply mT)) ?_ | refine SubL.skip ?_)) (by repeat (first | exact OwnL.refl | apply OwnL.take (by repeat (first | exact Take.head _ | apply Take.tail)) | apply OwnL.drop))), ?_⟩
          refine WD.done (by kernel_rfl) ?_
          refine blockQ.normal ?_
          refine thenQ.normal ?_
          refine WC.region ?_
          refine WL.rd rfl rfl rfl (Rd.move rfl rfl) ?_
          refine WL.rd rfl rfl rfl (Rd.scut_l (lo := 32) rfl Try.underlying9 rfl rfl rfl (by rw [List.length_drop]; omega)) ?_
          refine WL.rd rfl rfl rfl (Rd.assign rfl rfl) ?_
          refine WL.nil ?_
          exact loopQ2.mk (j + 1) v43 ⟨by omega, hv43⟩ (by omega) (by refine Sub.cons rfl (by rw [List.drop_drop, show 32 * (j + 1) = 32 * j + 32 from by omega]) ?_; exact (by repeat (first | exact Sub.nil | refine Sub.cons rfl (by first | rfl | (congr 1; omega) | assumption) ?_))) (fun w h => by rw [hnx]; exact (fun w h => OwnL.sat (by repeat (first | exact OwnL.refl | apply OwnL.take (by repeat (first | exact Take.head _ | apply Take.tail)) | apply OwnL.drop)) w (h.thin (SubL.mem (by repeat (first | exact SubL.refl | refine SubL.cons (by repeat (first | assumption | exact mS | apply mT)) ?_ | refine SubL.skip ?_))))) w h)
        · skip
          refine OpW.buildSl (ps := [(0, _)]) rfl S23 (by repeat (first | exact Evs.nil | apply Evs.cons rfl)) rfl rfl (by repeat (first | exact CellsOf.nil | apply CellsOf.cons rfl)) (by kernel_rfl) rfl rfl rfl ?_; intro b42
          refine ⟨(Held.mk' (by repeat (first | exact SubL.refl | refine SubL.cons (by repeat (first | assumption | exact mS | apply mT)) ?_ | refine SubL.skip ?_)) (by repeat (first | exact OwnL.refl | apply OwnL.take (by repeat (first | exact Take.head _ | apply Take.tail)) | apply OwnL.drop))), ?_⟩
          refine WD.one 1 rfl (by kernel_rfl) rfl ?_
          refine OpW.rd rfl rfl (Rd.row1 (b := b4) (off := 4) (u := v) rfl C23 rfl (by repeat (first | assumption | exact mS | apply mT)) rfl) ?_
          refine ⟨(Held.mk' (by repeat (first | exact SubL.refl | refine SubL.cons (by repeat (first | assumption | exact mS | apply mT)) ?_ | refine SubL.skip ?_)) (by repeat (first | exact OwnL.refl | apply OwnL.take (by repeat (first | exact Take.head _ | apply Take.tail)) | apply OwnL.drop))), ?_⟩
          refine WD.one 5 rfl (by kernel_rfl) rfl ?_
          refine OpW.appendRow (enc := one vs) rfl S23 rfl rfl (by repeat (first | assumption | exact Take.head _ | apply Take.tail)) (by repeat (first | assumption | exact Take.head _ | apply Take.tail)) [(s.drop (32 * j)).take 32] rfl (by rfl) rfl (by intro x; first | rfl | (cases x; rfl) | (rcases x with ⟨_, _, _⟩; rfl) | (rcases x with ⟨_, _, _, _⟩; rfl)) (by intro x; first | rfl | (cases x; rfl) | (rcases x with ⟨_, _, _⟩; rfl) | (rcases x with ⟨_, _, _, _⟩; rfl)) ⟨by simp only [maxLen, List.length_append, List.length_nil, List.length_cons, List.length_drop, List.length_take, List.length_map]; omega, by first | omega | (simp only [List.length_append, List.length_nil, List.length_cons, List.length_drop, List.length_take, List.length_map]; omega)⟩ rfl rfl ?_; intro v43 hv43
          refine ⟨(Held.mk' (by repeat (first | exact SubL.refl | refine SubL.cons (by repeat (first | assumption | exact mS | apply mT)) ?_ | refine SubL.skip ?_)) (by repeat (first | exact OwnL.refl | apply OwnL.take (by repeat (first | exact Take.head _ | apply Take.tail)) | apply OwnL.drop))), ?_⟩
          refine WD.take 6 rfl (by kernel_rfl) (Held.mk' (by repeat (first | exact SubL.refl | refine SubL.cons (by repeat (first | assumption | exact mS | apply mT)) ?_ | refine SubL.skip ?_)) (by repeat (first | exact OwnL.refl | apply OwnL.take (by repeat (first | exact Take.head _ | apply Take.tail)) | apply OwnL.drop))) rfl rfl rfl ((by first | exact Rd.field rfl F30_4 rfl rfl | exact Rd.fieldE rfl F30_4 rfl (by repeat (first | assumption | exact mS | apply mT)) (by omega) | exact Rd.fieldA rfl F30_4 rfl (by repeat (first | assumption | exact mS | apply mT)) (by omega))) ?_
          refine WD.one 7 rfl (by kernel_rfl) rfl ?_
          refine OpW.store1 rfl Z23 rfl rfl (by first | exact ⟨rfl, rfl⟩ | assumption) (by repeat (first | assumption | exact Take.head _ | apply Take.tail)) (by first | (simp; done) | omega | exact of_decide_eq_true rfl | (simp only [List.length_append, List.length_replicate, List.length_map, List.length_set]; omega)) rfl ?_
          refine ⟨(Held.mk' (by repeat (first | exact SubL.refl | refine SubL.cons (by repeat (first | assumption | exact mS | apply mT)) ?_ | refine SubL.skip ?_)) (by repeat (first | exact OwnL.refl | apply OwnL.take (by repeat (first | exact Take.head _ | apply Take.tail)) | apply OwnL.drop))), ?_⟩
          refine WD.done (by kernel_rfl) ?_
          refine blockQ.normal ?_
          refine thenQ.normal ?_
          refine WC.region ?_
          refine WL.rd rfl rfl rfl (Rd.move rfl rfl) ?_
          refine WL.rd rfl rfl rfl (Rd.scut_l (lo := 32) rfl Try.underlying9 rfl rfl rfl (by rw [List.length_drop]; omega)) ?_
          refine WL.rd rfl rfl rfl (Rd.assign rfl rfl) ?_
          refine WL.nil ?_
          exact loopQ2.mk (j + 1) v43 ⟨by omega, hv43⟩ (by omega) (by refine Sub.cons rfl (by rw [List.drop_drop, show 32 * (j + 1) = 32 * j + 32 from by omega]) ?_; exact (by repeat (first | exact Sub.nil | refine Sub.cons rfl (by first | rfl | (congr 1; omega) | assumption) ?_))) (fun w h => by rw [hnx]; exact (fun w h => OwnL.sat (by repeat (first | exact OwnL.refl | apply OwnL.take (by repeat (first | exact Take.head _ | apply Take.tail)) | apply OwnL.drop)) w (h.thin (SubL.mem (by repeat (first | exact SubL.refl | refine SubL.cons (by repeat (first | assumption | exact mS | apply mT)) ?_ | refine SubL.skip ?_))))) w h)
      · skip
        have hjm : j = m := by
          have h := Decidable.not_not.1 hc2
          have := congrArg List.length h
          rw [List.length_drop, List.length_nil] at this
          omega
        subst hjm
        refine WC.exit ?_
        refine thenQ.exit ?_
        refine loopQ2.exit ?_
        refine blockQ.exit ?_
        refine thenQ.normal ?_
        refine WC.seq ?_
        refine WC.region ?_
        refine WL.rd rfl rfl rfl (Rd.move rfl rfl) ?_
        refine WL.rd rfl rfl rfl ((by first | exact Rd.idx1 (k := 4) rfl S23 rfl rfl rfl (by repeat (first | assumption | exact mS | apply mT)) (by first | omega | (simp only [List.length_cons, List.length_nil, List.length_append, List.length_map]; omega)) | exact Rd.idxA1 (k := 4) rfl S23 rfl rfl rfl (by repeat (first | assumption | exact mS | apply mT)) (by first | omega | (simp only [List.length_cons, List.length_nil, List.length_append, List.length_map]; omega)) | exact Rd.idxR1 (k := 4) rfl S23 rfl rfl rfl (by omega))) ?_
        refine WL.rd rfl rfl rfl (Rd.get (k := 4) (g := vs) (a := l[4]!) (xs := l) rfl C9 rfl (by repeat (first | assumption | exact mS | apply mT)) (get!_of_lt (by omega))) ?_
        refine WL.op rfl ?_
        refine OpW.call rfl rfl (by repeat (first | exact Evs.nil | apply Evs.cons rfl)) (by kernel_rfl) rfl rfl rfl ?_
        refine get_spec (by omega) ?_
        refine WL.rd rfl rfl rfl (Rd.move rfl rfl) ?_
        refine WL.rd rfl rfl rfl (Rd.extract rfl rfl rfl) ?_
        refine WL.rd rfl rfl rfl (Rd.extract rfl rfl rfl) ?_
        refine WL.rd rfl rfl rfl (Rd.extract rfl rfl rfl) ?_
        refine WL.rd rfl rfl rfl (Rd.assign rfl rfl) ?_
        refine WL.rd rfl rfl rfl (Rd.assign rfl rfl) ?_
        refine WL.rd rfl rfl rfl (Rd.assign rfl rfl) ?_
        refine WL.nil ?_
        refine thenQ.normal ?_
        refine WC.seq ?_
        refine WC.region ?_
        refine WL.rd rfl rfl rfl (Rd.move rfl rfl) ?_
        refine WL.rd rfl rfl rfl ((by first | exact Rd.field rfl F30_7 rfl rfl | exact Rd.fieldE rfl F30_7 rfl (by repeat (first | assumption | exact mS | apply mT)) (by omega) | exact Rd.fieldA rfl F30_7 rfl (by repeat (first | assumption | exact mS | apply mT)) (by omega))) ?_
        refine WL.op rfl ?_
        refine OpW.store1 rfl Z3 rfl rfl (by first | exact ⟨rfl, rfl⟩ | assumption) (by repeat (first | assumption | exact Take.head _ | apply Take.tail)) (by first | (simp; done) | omega | exact of_decide_eq_true rfl | (simp only [List.length_append, List.length_replicate, List.length_map, List.length_set]; omega)) rfl ?_
        refine WL.nil ?_
        refine thenQ.normal ?_
        refine WC.seq ?_
        refine WC.drawn (rowC b4 30 (cC l v (getE l[4]!).1) :: O) 13 rfl mixed ?_
        refine WD.take 0 rfl (by kernel_rfl) (Held.mk' (by repeat (first | exact SubL.refl | refine SubL.cons (by repeat (first | assumption | exact mS | apply mT)) ?_ | refine SubL.skip ?_)) (by repeat (first | exact OwnL.refl | apply OwnL.take (by repeat (first | exact Take.head _ | apply Take.tail)) | apply OwnL.drop))) rfl rfl rfl (Rd.rowS (b := b4) rfl G30 rfl (by repeat (first | assumption | exact mS | apply mT)) (by repeat (first | exact NF.nil | apply NF.cons)) rfl) ?_
        refine WD.take 1 rfl (by kernel_rfl) (Held.mk' (by repeat (first | exact SubL.refl | refine SubL.cons (by repeat (first | assumption | exact mS | apply mT)) ?_ | refine SubL.skip ?_)) (by repeat (first | exact OwnL.refl | apply OwnL.take (by repeat (first | exact Take.head _ | apply Take.tail)) | apply OwnL.drop))) rfl rfl rfl (Rd.move rfl rfl) ?_
        refine WD.take 2 rfl (by kernel_rfl) (Held.mk' (by repeat (first | exact SubL.refl | refine SubL.cons (by repeat (first | assumption | exact mS | apply mT)) ?_ | refine SubL.skip ?_)) (by repeat (first | exact OwnL.refl | apply OwnL.take (by repeat (first | exact Take.head _ | apply Take.tail)) | apply OwnL.drop))) rfl rfl rfl (Rd.eql rfl rfl rfl) ?_
        refine WD.take 3 rfl (by kernel_rfl) (Held.mk' (by repeat (first | exact SubL.refl | refine SubL.cons (by repeat (first | assumption | exact mS | apply mT)) ?_ | refine SubL.skip ?_)) (by repeat (first | exact OwnL.refl | apply OwnL.take (by repeat (first | exact Take.head _ | apply Take.tail)) | apply OwnL.drop))) rfl rfl rfl (Rd.move rfl rfl) ?_
        refine WD.case 58 rfl (fun hg58 => ?_) (fun hg58 => ?_)
        · skip
          refine WD.take_yes 4 rfl (by kernel_rfl) (Held.mk' (by repeat (first | exact SubL.refl | refine SubL.cons (by repeat (first | assumption | exact mS | apply mT)) ?_ | refine SubL.skip ?_)) (by repeat (first | exact OwnL.refl | apply OwnL.take (by repeat (first | exact Take.head _ | apply Take.tail)) | apply OwnL.drop))) rfl rfl rfl rfl rfl rfl (Rd.move rfl rfl) ?_
          refine WD.take_yes 5 rfl (by kernel_rfl) (Held.mk' (by repeat (first | exact SubL.refl | refine SubL.cons (by repeat (first | assumption | exact mS | apply mT)) ?_ | refine SubL.skip ?_)) (by repeat (first | exact OwnL.refl | apply OwnL.take (by repeat (first | exact Take.head _ | apply Take.tail)) | apply OwnL.drop))) rfl rfl rfl rfl rfl rfl (Rd.move rfl rfl) ?_
          refine WD.take_yes 6 rfl (by kernel_rfl) (Held.mk' (by repeat (first | exact SubL.refl | refine SubL.cons (by repeat (first | assumption | exact mS | apply mT)) ?_ | refine SubL.skip ?_)) (by repeat (first | exact OwnL.refl | apply OwnL.take (by repeat (first | exact Take.head _ | apply Take.tail)) | apply OwnL.drop))) rfl rfl rfl rfl rfl rfl ((by first | exact Rd.idx1 (k := 4) rfl S23 rfl rfl rfl (by repeat (first | assumption | exact mS | apply mT)) (by first | omega | (simp only [List.length_cons, List.length_nil, List.length_append, List.length_map]; omega)) | exact Rd.idxA1 (k := 4) rfl S23 rfl rfl rfl (by repeat (first | assumption | exact mS | apply mT)) (by first | omega | (simp only [List.length_cons, List.length_nil, List.length_append, List.length_map]; omega)) | exact Rd.idxR1 (k := 4) rfl S23 rfl rfl rfl (by omega))) ?_
          refine WD.take_yes 7 rfl (by kernel_rfl) (Held.mk' (by repeat (first | exact SubL.refl | refine SubL.cons (by repeat (first | assumption | exact mS | apply mT)) ?_ | refine SubL.skip ?_)) (by repeat (first | exact OwnL.refl | apply OwnL.take (by repeat (first | exact Take.head _ | apply Take.tail)) | apply OwnL.drop))) rfl rfl rfl rfl rfl rfl (Rd.get (k := 4) (g := vs) (a := l[4]!) (xs := l) rfl C9 rfl (by repeat (first | assumption | exact mS | apply mT)) (get!_of_lt (by omega))) ?_
          refine WD.take_yes 8 rfl (by kernel_rfl) (Held.mk' (by repeat (first | exact SubL.refl | refine SubL.cons (by repeat (first | assumption | exact mS | apply mT)) ?_ | refine SubL.skip ?_)) (by repeat (first | exact OwnL.refl | apply OwnL.take (by repeat (first | exact Take.head _ | apply Take.tail)) | apply OwnL.drop))) rfl rfl rfl rfl rfl rfl (Rd.slen (ts := #[]) (ty := 0) rfl rfl Try.underlying9) ?_
          refine WD.take_yes 9 rfl (by kernel_rfl) (Held.mk' (by repeat (first | exact SubL.refl | refine SubL.cons (by repeat (first | assumption | exact mS | apply mT)) ?_ | refine SubL.skip ?_)) (by repeat (first | exact OwnL.refl | apply OwnL.take (by repeat (first | exact Take.head _ | apply Take.tail)) | apply OwnL.drop))) rfl rfl rfl rfl rfl rfl (Rd.eql rfl rfl rfl) ?_
          refine WD.take 10 rfl (by kernel_rfl) (Held.mk' (by repeat (first | exact SubL.refl | refine SubL.cons (by repeat (first | assumption | exact mS | apply mT)) ?_ | refine SubL.skip ?_)) (by repeat (first | exact OwnL.refl | apply OwnL.take (by repeat (first | exact Take.head _ | apply Take.tail)) | apply OwnL.drop))) rfl rfl rfl (Rd.pick_t rfl rfl rfl) ?_
          refine WD.say 65 (u := .bool (decide ((getE l[4]!).2.2 = 0 ∧ (getE l[4]!).2.1 = (l[4]!.length : Int)))) rfl (by first | exact vb_f (fun h => hg58 h.1) | exact vb ⟨fun h => ⟨hg58, h⟩, fun h => h.2⟩) ?_
          refine WD.one 11 rfl (by kernel_rfl) rfl ?_
          refine OpW.storeS rfl G30 rfl rfl (by repeat (first | exact NF.nil | apply NF.cons)) (by repeat (first | assumption | exact Take.head _ | apply Take.tail)) rfl rfl (by repeat (first | exact NF.nil | apply NF.cons)) rfl (h1 := by have h1 := i2.one; simp only [List.all_cons, List.all_nil, h1]; rfl) ?_
          refine ⟨(Held.mk' (by repeat (first | exact SubL.refl | refine SubL.cons (by repeat (first | assumption | exact mS | apply mT)) ?_ | refine SubL.skip ?_)) (by repeat (first | exact OwnL.refl | apply OwnL.take (by repeat (first | exact Take.head _ | apply Take.tail)) | apply OwnL.drop))), ?_⟩
          refine WD.take 12 rfl (by kernel_rfl) (Held.mk' (by repeat (first | exact SubL.refl | refine SubL.cons (by repeat (first | assumption | exact mS | apply mT)) ?_ | refine SubL.skip ?_)) (by repeat (first | exact OwnL.refl | apply OwnL.take (by repeat (first | exact Take.head _ | apply Take.tail)) | apply OwnL.drop))) rfl rfl rfl (Rd.assign rfl rfl) ?_
          refine WD.done (by kernel_rfl) ?_
          refine thenQ.normal ?_
          refine WC.heap (R' := SlE encT (.slice none 0 0) ([] : List ET) :: SlE (one vs) v (chunks s j) :: R) (O' := rowC b2 30 (cC l v (getE l[4]!).1) :: O) (fun w h => by
          have g1 := Sat.shareA (xs := chunks s j) (by repeat (first | assumption | exact Take.head _ | apply Take.tail)) h
          have g2 := Sat.nilE (α := ET) (enc := encT) g1
          exact (fun w h => OwnL.sat (by repeat (first | exact OwnL.refl | apply OwnL.take (by repeat (first | exact Take.head _ | apply Take.tail)) | apply OwnL.drop)) w (h.thin (SubL.mem (by repeat (first | exact SubL.refl | refine SubL.cons (by repeat (first | assumption | exact mS | apply mT)) ?_ | refine SubL.skip ?_))))) w g2) ?_
          refine WC.ret (Ret.cellTmp Try.results34 rfl rfl (by repeat (first | assumption | exact mS | apply mT)) G30 rfl ?_)
          have hcm : commitOb l = { zOb with kind := 3, tree := l[0]!, pars := chunks s j, author := l[2]!, text := l[3]!, time := (getE l[4]!).1 } := by unfold commitOb; rw [hm2, hs]
          rw [hfin, hcm] at hk
          exact hk _ _ _ _
        · skip
          refine WD.take_no 4 rfl (by kernel_rfl) (Held.mk' (by repeat (first | exact SubL.refl | refine SubL.cons (by repeat (first | assumption | exact mS | apply mT)) ?_ | refine SubL.skip ?_)) (by repeat (first | exact OwnL.refl | apply OwnL.take (by repeat (first | exact Take.head _ | apply Take.tail)) | apply OwnL.drop))) rfl rfl rfl rfl rfl rfl ?_
          refine WD.take_no 5 rfl (by kernel_rfl) (Held.mk' (by repeat (first | exact SubL.refl | refine SubL.cons (by repeat (first | assumption | exact mS | apply mT)) ?_ | refine SubL.skip ?_)) (by repeat (first | exact OwnL.refl | apply OwnL.take (by repeat (first | exact Take.head _ | apply Take.tail)) | apply OwnL.drop))) rfl rfl rfl rfl rfl rfl ?_
          refine WD.take_no 6 rfl (by kernel_rfl) (Held.mk' (by repeat (first | exact SubL.refl | refine SubL.cons (by repeat (first | assumption | exact mS | apply mT)) ?_ | refine SubL.skip ?_)) (by repeat (first | exact OwnL.refl | apply OwnL.take (by repeat (first | exact Take.head _ | apply Take.tail)) | apply OwnL.drop))) rfl rfl rfl rfl rfl rfl ?_
          refine WD.take_no 7 rfl (by kernel_rfl) (Held.mk' (by repeat (first | exact SubL.refl | refine SubL.cons (by repeat (first | assumption | exact mS | apply mT)) ?_ | refine SubL.skip ?_)) (by repeat (first | exact OwnL.refl | apply OwnL.take (by repeat (first | exact Take.head _ | apply Take.tail)) | apply OwnL.drop))) rfl rfl rfl rfl rfl rfl ?_
          refine WD.take_no 8 rfl (by kernel_rfl) (Held.mk' (by repeat (first | exact SubL.refl | refine SubL.cons (by repeat (first | assumption | exact mS | apply mT)) ?_ | refine SubL.skip ?_)) (by repeat (first | exact OwnL.refl | apply OwnL.take (by repeat (first | exact Take.head _ | apply Take.tail)) | apply OwnL.drop))) rfl rfl rfl rfl rfl rfl ?_
          refine WD.take_no 9 rfl (by kernel_rfl) (Held.mk' (by repeat (first | exact SubL.refl | refine SubL.cons (by repeat (first | assumption | exact mS | apply mT)) ?_ | refine SubL.skip ?_)) (by repeat (first | exact OwnL.refl | apply OwnL.take (by repeat (first | exact Take.head _ | apply Take.tail)) | apply OwnL.drop))) rfl rfl rfl rfl rfl rfl ?_
          refine WD.take 10 rfl (by kernel_rfl) (Held.mk' (by repeat (first | exact SubL.refl | refine SubL.cons (by repeat (first | assumption | exact mS | apply mT)) ?_ | refine SubL.skip ?_)) (by repeat (first | exact OwnL.refl | apply OwnL.take (by repeat (first | exact Take.head _ | apply Take.tail)) | apply OwnL.drop))) rfl rfl rfl (Rd.pick_f rfl rfl rfl) ?_
          refine WD.say 65 (u := .bool (decide ((getE l[4]!).2.2 = 0 ∧ (getE l[4]!).2.1 = (l[4]!.length : Int)))) rfl (by first | exact vb_f (fun h => hg58 h.1) | exact vb ⟨fun h => ⟨hg58, h⟩, fun h => h.2⟩) ?_
          refine WD.one 11 rfl (by kernel_rfl) rfl ?_
          refine OpW.storeS rfl G30 rfl rfl (by repeat (first | exact NF.nil | apply NF.cons)) (by repeat (first | assumption | exact Take.head _ | apply Take.tail)) rfl rfl (by repeat (first | exact NF.nil | apply NF.cons)) rfl (h1 := by have h1 := i2.one; simp only [List.all_cons, List.all_nil, h1]; rfl) ?_
          refine ⟨(Held.mk' (by repeat (first | exact SubL.refl | refine SubL.cons (by repeat (first | assumption | exact mS | apply mT)) ?_ | refine SubL.skip ?_)) (by repeat (first | exact OwnL.refl | apply OwnL.take (by repeat (first | exact Take.head _ | apply Take.tail)) | apply OwnL.drop))), ?_⟩
          refine WD.take 12 rfl (by kernel_rfl) (Held.mk' (by repeat (first | exact SubL.refl | refine SubL.cons (by repeat (first | assumption | exact mS | apply mT)) ?_ | refine SubL.skip ?_)) (by repeat (first | exact OwnL.refl | apply OwnL.take (by repeat (first | exact Take.head _ | apply Take.tail)) | apply OwnL.drop))) rfl rfl rfl (Rd.assign rfl rfl) ?_
          refine WD.done (by kernel_rfl) ?_
          refine thenQ.normal ?_
          refine WC.heap (R' := SlE encT (.slice none 0 0) ([] : List ET) :: SlE (one vs) v (chunks s j) :: R) (O' := rowC b2 30 (cC l v (getE l[4]!).1) :: O) (fun w h => by
          have g1 := Sat.shareA (xs := chunks s j) (by repeat (first | assumption | exact Take.head _ | apply Take.tail)) h
          have g2 := Sat.nilE (α := ET) (enc := encT) g1
          exact (fun w h => OwnL.sat (by repeat (first | exact OwnL.refl | apply OwnL.take (by repeat (first | exact Take.head _ | apply Take.tail)) | apply OwnL.drop)) w (h.thin (SubL.mem (by repeat (first | exact SubL.refl | refine SubL.cons (by repeat (first | assumption | exact mS | apply mT)) ?_ | refine SubL.skip ?_))))) w g2) ?_
          refine WC.ret (Ret.cellTmp Try.results34 rfl rfl (by repeat (first | assumption | exact mS | apply mT)) G30 rfl ?_)
          have hcm : commitOb l = { zOb with kind := 3, tree := l[0]!, pars := chunks s j, author := l[2]!, text := l[3]!, time := (getE l[4]!).1 } := by unfold commitOb; rw [hm2, hs]
          rw [hfin, hcm] at hk
          exact hk _ _ _ _
end
end Go.Proofs.Ytedgndhbieeffaa
