/-
  Layer 18: the nodes that the laws make.
-/
import Derived.Test.YtfenbhaehkkkeaaGr15
import Derived.Test.YtfenbhaehkkkeaaOpa
namespace Go.SL
open Go
theorem room1 {n bytes : Nat} (h : n ≤ 100000 ∧ bytes ≤ 100000) : Room (n + 1) bytes := ⟨by show _ ≤ 9223372036854775807; omega, by have : (n + 1) * bytes ≤ 100001 * 100000 := Nat.mul_le_mul (by omega) h.2; omega⟩
theorem WD.know {P : Program} {n : Sz} {ops : Array Oper} {Q : Post} {S : List RO} {TT : List Own} {fuel : Nat} {listed : Array Bool} {L : Env} {R : List RO} {O : List Own} {p : RO} {φ : Prop} (hp : p ∈ R) (hφ : ∀ w, p w → φ) (h : φ → WD P n ops Q S TT fuel listed L R O) : WD P n ops Q S TT fuel listed L R O := fun a w hf hs => h (hφ w (hs.read hp)) a w hf hs
theorem SlE.slv {α : Type} {enc : α → List Value} {v : Value} {xs : List α} {w : World} (h : SlE enc v xs w) : ∃ d : Option Addr × Nat × Nat, v = .slice d.1 d.2.1 d.2.2 := by
  obtain ⟨o, c, h, _⟩ := h
  exact ⟨(o, _, c), h⟩
end Go.SL
namespace Go.Proofs.Ytfenbhaehkkkeaa
open Go Go.SL
/-- A node as the law is given it: parents' places, time, whether there is an odd parent. -/
abbrev Qn := (Value × List Int) × Int × Bool
def encQ (x : Qn) : List Value := [x.1.1, vi x.2.1, .bool x.2.2]
def QQ (w : World) (x : Qn) : Prop := SlE (SL.one vi) x.1.1 x.1.2 w
theorem QQ.stable {W : World} {a : Qn} (w' : World) (h : QQ W a) (ha : Agree (· ∈ owned []) W w') : QQ w' a := SlE.stable h w' ha
theorem elsQ : ElsW Try.prog 56 encQ QQ := by
  have h4 := elsW_slice Try.underlying44 (size := 1) (by kernel_rfl) (by decide) (elsW_int Try.underlying3) (fun _ => rfl)
  have h := elsW_struct (m := 3) Try.underlying56 (by kernel_rfl) (elsSeq_cons h4 rfl (by kernel_rfl) (elsSeq_cons (elsW_int Try.underlying3) rfl (by kernel_rfl) (elsSeq_cons (elsW_bool Try.underlying4) rfl (by kernel_rfl) elsSeq_nil)))
  refine elsW_map (fun x => ((x.1.1, x.1.2), x.2.1, x.2.2.1)) h (fun _ => rfl) ?_
  intro w a q
  exact q.1.1
def up (m : Nat) (p : Int) : Nat := (p.tmod m + m).toNat % m
def psTo (m : Nat) (k : Nat) (ps : List Int) : List T := if m = 0 then [] else (ps.take k).map fun p => nm (up m p)
def psOf (m : Nat) (odd : Bool) (ps : List Int) : List T := psTo m (min ps.length 5) ps ++ if odd then [[63]] else []
theorem psTo_zero {m : Nat} {ps : List Int} : psTo m 0 ps = [] := by
  unfold psTo
  split <;> rfl
theorem psTo_z {m k : Nat} {ps : List Int} (h : m = 0) : psTo m k ps = [] := by
  unfold psTo
  rw [if_pos h]
theorem up_lt {m : Nat} {p : Int} (h : 0 < m) : up m p < m := Nat.mod_lt _ h
theorem tmodIn (p : Int) {b : Nat} (hb : 0 < b) : -(b : Int) < p.tmod b ∧ p.tmod b < b := by
  have h : ∀ n : Nat, n % b < b := fun n => Nat.mod_lt _ hb
  cases p with
  | ofNat n => have := h n; show -(b : Int) < ((n % b : Nat) : Int) ∧ ((n % b : Nat) : Int) < b; omega
  | negSucc n => have := h (n + 1); show -(b : Int) < -((n.succ % b : Nat) : Int) ∧ -((n.succ % b : Nat) : Int) < b; have e : n.succ = n + 1 := rfl; rw [e]; omega
def big (back : Bool) (i n : Nat) : Nat := if back then i else n
def ndAt (n : Nat) (back : Bool) (i : Nat) (q : Qn) : Nd := (nm i, psOf (big back i n) (q.2.2 && !back) q.1.2, q.2.1)
def mkTo (back : Bool) (qs : List Qn) (i : Nat) : List Nd := (List.range i).map fun j => ndAt (min qs.length 16) back j qs[j]!
def mk (back : Bool) (qs : List Qn) : List Nd := mkTo back qs (min qs.length 16)
theorem mkTo_next (back : Bool) (qs : List Qn) (i : Nat) : mkTo back qs (i + 1) = mkTo back qs i ++ [ndAt (min qs.length 16) back i qs[i]!] := by
  unfold mkTo
  rw [List.range_succ, List.map_append]; rfl
theorem mkTo_len (back : Bool) (qs : List Qn) (i : Nat) : (mkTo back qs i).length = i := by unfold mkTo; rw [List.length_map, List.length_range]
theorem mkTo_get (back : Bool) (qs : List Qn) {i j : Nat} (h : j < i) : (mkTo back qs i)[j]! = ndAt (min qs.length 16) back j qs[j]! := by
  rw [getElem!_pos _ j (by rw [mkTo_len]; exact h)]
  unfold mkTo
  rw [List.getElem_map, List.getElem_range]
theorem psTo_next {m k : Nat} {ps : List Int} (hm : 0 < m) (hk : k < ps.length) : psTo m (k + 1) ps = psTo m k ps ++ [nm (up m ps[k]!)] := by
  unfold psTo
  rw [if_neg (by omega), if_neg (by omega), take_snoc' hk, List.map_append]; rfl
theorem psTo_len (m k : Nat) (ps : List Int) : (psTo m k ps).length ≤ k := by
  unfold psTo
  split
  · exact Nat.zero_le _
  · rw [List.length_map, List.length_take]; omega
def Mt (na : List Nv) (qs : List Qn) (i : Nat) : Prop := na.length = i ∧ ∀ j, j < i → na[j]!.1 = nm j ∧ na[j]!.2.2 = qs[j]!.2.1
theorem Mt.next {na : List Nv} {qs : List Qn} {i : Nat} {d : Option Addr × Nat × Nat} (h : Mt na qs i) : Mt (na ++ [(nm i, d, qs[i]!.2.1)]) qs (i + 1) := by
  refine ⟨by rw [List.length_append, h.1]; rfl, fun j hj => ?_⟩
  rcases Nat.lt_or_ge j i with g | g
  · rw [getElem!_pos _ j (by rw [List.length_append, h.1]; omega), List.getElem_append_left (by rw [h.1]; exact g), ← getElem!_pos na j (by rw [h.1]; exact g)]
    exact h.2 j g
  · obtain rfl : j = i := by omega
    rw [getElem!_pos _ j (by rw [List.length_append, h.1]; simp), List.getElem_append_right (by rw [h.1]; exact Nat.le_refl _)]
    simp [h.1]
theorem ndsP_next {na : List Nv} {L : List Nd} {x : Nv} {n : Nd} {w : World} (hl : na.length = L.length) (h : ndsP na L w) (hx : SlE (SL.one vs) (slv x.2.1) n.2.1 w) : ndsP (na ++ [x]) (L ++ [n]) w := by
  intro i hi
  rw [List.length_append, List.length_singleton] at hi
  rcases Nat.lt_or_ge i L.length with g | g
  · rw [getElem!_pos (na ++ [x]) i (by rw [List.length_append, hl]; omega), List.getElem_append_left (by omega), ← getElem!_pos na i (by omega), getElem!_pos (L ++ [n]) i (by rw [List.length_append]; omega), List.getElem_append_left g, ← getElem!_pos L i g]
    exact h i g
  · obtain rfl : i = L.length := by omega
    rw [getElem!_pos (na ++ [x]) L.length (by rw [List.length_append, hl]; simp), List.getElem_append_right (by omega), getElem!_pos (L ++ [n]) L.length (by rw [List.length_append]; simp), List.getElem_append_right (by omega)]
    simp only [hl, Nat.sub_self, List.getElem_cons_zero]
    exact hx
section
variable {R : List RO} {O O' : List Own} {POST : Value → List RO → List Own → Prop} {v : Value} {L : List Nd} {nvs : List Nv}
set_option maxRecDepth 20000 in
set_option maxHeartbeats 4000000 in
theorem nodes_spec {lv : Value} {qs : List Qn} {back : Bool} (hl : SlE encQ lv qs ∈ R) (hq : AllQ QQ qs ∈ R)
    (hk : ∀ av bv na nb, Mt na qs (min qs.length 16) → Mt nb qs (min qs.length 16) → POST (.tuple #[av, bv]) (ndsP na (mk back qs) :: ndsP nb (mk back qs) :: R) (accC 30 3 encN av na :: accC 31 3 encN bv nb :: O)) :
    Fun Try.prog 10 #[lv, .bool back] R O POST := by
  refine Fun.len hl fun hll => ?_
  refine Fun.enter (l := [_, _]) Try.func10 rfl Try.ntmps10 rfl (L0 := [(0, _), (1, _)]) rfl ?_
  refine WC.seq ?_
  refine WC.region ?_
  refine WL.rd rfl rfl rfl (Rd.assign rfl rfl) ?_
  refine WL.rd rfl rfl rfl (Rd.assign rfl rfl) ?_
  refine WL.nil ?_
  refine thenQ.normal ?_
  refine WC.seq ?_
  refine WC.region ?_
  refine WL.rd rfl rfl rfl (Rd.move rfl rfl) ?_
  refine WL.rd rfl rfl rfl (Rd.lenE (enc := encQ) (xs := qs) rfl rfl Try.underlying22 hl) ?_
  refine WL.rd rfl rfl rfl (Rd.min2 rfl rfl rfl) ?_
  refine WL.say 15 (u := vi (min qs.length 16 : Nat)) rfl (by congr 1; omega) ?_
  refine WL.rd rfl rfl rfl (Rd.assign rfl rfl) ?_
  refine WL.nil ?_
  refine thenQ.normal ?_
  refine WC.seq ?_
  refine WC.region ?_
  refine WL.rd rfl rfl rfl (Rd.assign rfl rfl) ?_
  refine WL.nil ?_
  refine thenQ.normal ?_
  refine WC.seq ?_
  refine WC.region ?_
  refine WL.rd rfl rfl rfl (Rd.assign rfl rfl) ?_
  refine WL.nil ?_
  refine thenQ.normal ?_
  refine WC.seq ?_
  refine WC.seq ?_
  have hn : min qs.length 16 ≤ 16 := Nat.min_le_right _ _
  refine WC.heap (fun w h => Sat.accNil (e := 30) (size := 3) (enc := encN) h) ?_
  refine WC.heap (fun w h => Sat.accNil (e := 31) (size := 3) (enc := encN) h) ?_
  refine WC.region ?_
  refine WL.rd rfl rfl rfl (Rd.assign rfl rfl) ?_
  refine WL.nil ?_
  refine thenQ.normal ?_
  refine WC.block ?_
  refine WC.pick [9, 7, 8, 0, 1, 6] (by repeat (first | exact Pick.nil | apply Pick.cons rfl)) ?_
  refine WC.loop5r 3 (fun (i : Nat) (na : List Nv) (nb : List Nv) (av : Value) (bv : Value) => [(9, vi i), (7, av), (8, bv)]) (fun (i : Nat) (na : List Nv) (nb : List Nv) (av : Value) (bv : Value) => ndsP na (mkTo back qs i) :: ndsP nb (mkTo back qs i) :: R) (fun (i : Nat) (na : List Nv) (nb : List Nv) (av : Value) (bv : Value) => accC 30 3 encN av na :: accC 31 3 encN bv nb :: O) (fun (i : Nat) (na : List Nv) (nb : List Nv) (av : Value) (bv : Value) => i ≤ min qs.length 16 ∧ Mt na qs i ∧ Mt nb qs i) (fun (i : Nat) (na : List Nv) (nb : List Nv) (av : Value) (bv : Value) => min qs.length 16 - i) (0) ([]) ([]) (nilS) (nilS) (by repeat (first | exact Split.zero | apply Split.succ)) ?hinv1 (by repeat (first | exact Sub.nil | refine Sub.cons rfl (by first | rfl | (congr 1; omega) | assumption) ?_)) (fun w h => by
  have h3 := h.derive (q := ndsP [] (mkTo back qs 0)) (fun _ _ i hi => absurd hi (by simp [mkTo]))
  have h4 := h3.derive (q := ndsP [] (mkTo back qs 0)) (fun _ _ i hi => absurd hi (by simp [mkTo]))
  exact (fun w h => OwnL.sat (by repeat (first | exact OwnL.refl | apply OwnL.take (by repeat (first | exact Take.head _ | apply Take.tail)) | apply OwnL.drop)) w (h.thin (SubL.mem (by repeat (first | exact SubL.refl | refine SubL.cons (by repeat (first | assumption | exact mS | apply mT)) ?_ | refine SubL.skip ?_))))) w h4) ?_
  case hinv1 =>
    exact ⟨Nat.zero_le _, ⟨rfl, fun j h => absurd h (Nat.not_lt_zero _)⟩, ⟨rfl, fun j h => absurd h (Nat.not_lt_zero _)⟩⟩
  intro i na nb av bv
  rintro ⟨i1, i2, i3⟩
  refine WC.seq ?_
  refine WC.seq ?_
  refine WC.region ?_
  refine WL.rd rfl rfl rfl (Rd.move rfl rfl) ?_
  refine WL.rd rfl rfl rfl (Rd.move rfl rfl) ?_
  refine WL.rd rfl rfl rfl (Rd.lss rfl rfl rfl) ?_
  refine WL.nil ?_
  refine thenQ.normal ?_
  first | refine WC.ite rfl (fun hc1 => ?_) (fun hc1 => ?_) | refine WC.cond rfl (fun hc1 => ?_) (fun hc1 => ?_)
  · skip
    have hiq : i < qs.length := by omega
    have hM16 : big back i (min qs.length 16) ≤ 16 := by unfold big; split <;> omega
    refine WC.heap (fun w h => h.weaken (p := AllQ QQ qs) (q := SlE (SL.one vi) qs[i]!.1.1 qs[i]!.1.2) (List.mem_cons_of_mem _ (List.mem_cons_of_mem _ hq)) (fun w hw => hw _ (get!_mem hiq))) ?_
    have hl' : SlE encQ lv qs ∈ SlE (SL.one vi) qs[i]!.1.1 qs[i]!.1.2 :: ndsP na (mkTo back qs i) :: ndsP nb (mkTo back qs i) :: R := List.mem_cons_of_mem _ (List.mem_cons_of_mem _ (List.mem_cons_of_mem _ hl))
    have hpl' : SlE (SL.one vi) qs[i]!.1.1 qs[i]!.1.2 ∈ SlE (SL.one vi) qs[i]!.1.1 qs[i]!.1.2 :: ndsP na (mkTo back qs i) :: ndsP nb (mkTo back qs i) :: R := List.mem_cons_self
    refine WC.skip ?_
    refine thenQ.normal ?_
    refine WC.seq ?_
    refine WC.block ?_
    refine WC.cut (α := Nat) (fun q => [(10, .pointer (some ⟨q, 0, none⟩)), (9, vi i), (8, bv), (7, av), (6, vi (min qs.length 16 : Nat)), (1, .bool back), (0, lv)]) (fun _ => SlE (SL.one vi) qs[i]!.1.1 qs[i]!.1.2 :: ndsP na (mkTo back qs i) :: ndsP nb (mkTo back qs i) :: R) (fun q => rowC q 31 [vs (nm i), nilS, vi qs[i]!.2.1] :: accC 30 3 encN av na :: accC 31 3 encN bv nb :: O) (fun _ => True) ?_ ?_
    · skip
      refine WC.drawnA 10 rfl mixed ?_
      refine WD.take 0 rfl (by kernel_rfl) Held.all rfl rfl rfl (Rd.move rfl rfl) ?_
      refine WD.take 2 rfl (by kernel_rfl) Held.all rfl rfl rfl (Rd.move rfl rfl) ?_
      refine WD.take 3 rfl (by kernel_rfl) Held.all rfl rfl rfl (Rd.move rfl rfl) ?_
      refine WD.take 4 rfl (by kernel_rfl) Held.all rfl rfl rfl (Rd.idx (enc := encQ) (xs := qs) (size := 3) (k := i) rfl S22 rfl rfl rfl hl' hiq) ?_
      refine WD.take 5 rfl (by kernel_rfl) Held.all rfl rfl rfl (Rd.fieldE rfl F56_1 rfl hl' (by omega)) ?_
      refine WD.take 6 rfl (by kernel_rfl) Held.all rfl rfl rfl (Rd.getF (enc := encQ) (size := 3) (xs := qs) (k := i) (f := 1) (a := qs[i]!) (u := vi qs[i]!.2.1) rfl C3 rfl hl' (fun _ => rfl) (by omega) (get!_of_lt hiq) rfl) ?_
      refine WD.two 1 8 rfl rfl (by kernel_rfl) rfl rfl ?_ ?_
      · skip
        refine OpW.call rfl rfl (by repeat (first | exact Evs.nil | apply Evs.cons rfl)) (by kernel_rfl) rfl rfl rfl ?_
        refine name_spec (i := i) (by omega) ?_
        refine ⟨(Held.mk' (by repeat (first | exact SubL.refl | refine SubL.cons (by repeat (first | assumption | exact mS | apply mT)) ?_ | refine SubL.skip ?_)) (by repeat (first | exact OwnL.refl | apply OwnL.take (by repeat (first | exact Take.head _ | apply Take.tail)) | apply OwnL.drop))), ?_⟩
        refine WD.take 7 rfl (by kernel_rfl) (Held.mk' (by repeat (first | exact SubL.refl | refine SubL.cons (by repeat (first | assumption | exact mS | apply mT)) ?_ | refine SubL.skip ?_)) (by repeat (first | exact OwnL.refl | apply OwnL.take (by repeat (first | exact Take.head _ | apply Take.tail)) | apply OwnL.drop))) rfl rfl rfl (Rd.buildN (ps := [(0, _), (2, _)]) rfl Bs31 I31 rfl (by repeat (first | exact Evs.nil | apply Evs.cons rfl)) (by repeat (first | exact CellsOf.nil | apply CellsOf.cons rfl)) (by apply NFo.mk; repeat (first | exact NF.nil | apply NF.cons))) ?_
        refine WD.one 8 rfl (by kernel_rfl) rfl ?_
        refine OpW.alloc rfl I31 rfl (by repeat (first | exact NF.nil | apply NF.cons)) rfl rfl ?_; intro b10
        refine ⟨(Held.mk' (by repeat (first | exact SubL.refl | refine SubL.cons (by repeat (first | assumption | exact mS | apply mT)) ?_ | refine SubL.skip ?_)) (by repeat (first | exact OwnL.refl | apply OwnL.take (by repeat (first | exact Take.head _ | apply Take.tail)) | apply OwnL.drop))), ?_⟩
        refine WD.one 9 rfl (by kernel_rfl) rfl ?_
        refine OpW.storeS rfl G31 rfl rfl (by repeat (first | exact NF.nil | apply NF.cons)) (by repeat (first | assumption | exact Take.head _ | apply Take.tail)) rfl rfl (by repeat (first | exact NF.nil | apply NF.cons)) rfl ?_
        refine ⟨(Held.mk' (by repeat (first | exact SubL.refl | refine SubL.cons (by repeat (first | assumption | exact mS | apply mT)) ?_ | refine SubL.skip ?_)) (by repeat (first | exact OwnL.refl | apply OwnL.take (by repeat (first | exact Take.head _ | apply Take.tail)) | apply OwnL.drop))), ?_⟩
        refine WD.done (by kernel_rfl) ?_
        exact ⟨b10, trivial, (by repeat (first | exact Sub.nil | refine Sub.cons rfl (by first | rfl | (congr 1; omega) | assumption) ?_)), (fun w h => OwnL.sat (by repeat (first | exact OwnL.refl | apply OwnL.take (by repeat (first | exact Take.head _ | apply Take.tail)) | apply OwnL.drop)) w (h.thin (SubL.mem (by repeat (first | exact SubL.refl | refine SubL.cons (by repeat (first | assumption | exact mS | apply mT)) ?_ | refine SubL.skip ?_)))))⟩
      · skip
        refine OpW.alloc rfl I31 rfl (by repeat (first | exact NF.nil | apply NF.cons)) rfl rfl ?_; intro b10
        refine ⟨(Held.mk' (by repeat (first | exact SubL.refl | refine SubL.cons (by repeat (first | assumption | exact mS | apply mT)) ?_ | refine SubL.skip ?_)) (by repeat (first | exact OwnL.refl | apply OwnL.take (by repeat (first | exact Take.head _ | apply Take.tail)) | apply OwnL.drop))), ?_⟩
        refine WD.one 1 rfl (by kernel_rfl) rfl ?_
        refine OpW.call rfl rfl (by repeat (first | exact Evs.nil | apply Evs.cons rfl)) (by kernel_rfl) rfl rfl rfl ?_
        refine name_spec (i := i) (by omega) ?_
        refine ⟨(Held.mk' (by repeat (first | exact SubL.refl | refine SubL.cons (by repeat (first | assumption | exact mS | apply mT)) ?_ | refine SubL.skip ?_)) (by repeat (first | exact OwnL.refl | apply OwnL.take (by repeat (first | exact Take.head _ | apply Take.tail)) | apply OwnL.drop))), ?_⟩
        refine WD.take 7 rfl (by kernel_rfl) (Held.mk' (by repeat (first | exact SubL.refl | refine SubL.cons (by repeat (first | assumption | exact mS | apply mT)) ?_ | refine SubL.skip ?_)) (by repeat (first | exact OwnL.refl | apply OwnL.take (by repeat (first | exact Take.head _ | apply Take.tail)) | apply OwnL.drop))) rfl rfl rfl (Rd.buildN (ps := [(0, _), (2, _)]) rfl Bs31 I31 rfl (by repeat (first | exact Evs.nil | apply Evs.cons rfl)) (by repeat (first | exact CellsOf.nil | apply CellsOf.cons rfl)) (by apply NFo.mk; repeat (first | exact NF.nil | apply NF.cons))) ?_
        refine WD.one 9 rfl (by kernel_rfl) rfl ?_
        refine OpW.storeS rfl G31 rfl rfl (by repeat (first | exact NF.nil | apply NF.cons)) (by repeat (first | assumption | exact Take.head _ | apply Take.tail)) rfl rfl (by repeat (first | exact NF.nil | apply NF.cons)) rfl ?_
        refine ⟨(Held.mk' (by repeat (first | exact SubL.refl | refine SubL.cons (by repeat (first | assumption | exact mS | apply mT)) ?_ | refine SubL.skip ?_)) (by repeat (first | exact OwnL.refl | apply OwnL.take (by repeat (first | exact Take.head _ | apply Take.tail)) | apply OwnL.drop))), ?_⟩
        refine WD.done (by kernel_rfl) ?_
        exact ⟨b10, trivial, (by repeat (first | exact Sub.nil | refine Sub.cons rfl (by first | rfl | (congr 1; omega) | assumption) ?_)), (fun w h => OwnL.sat (by repeat (first | exact OwnL.refl | apply OwnL.take (by repeat (first | exact Take.head _ | apply Take.tail)) | apply OwnL.drop)) w (h.thin (SubL.mem (by repeat (first | exact SubL.refl | refine SubL.cons (by repeat (first | assumption | exact mS | apply mT)) ?_ | refine SubL.skip ?_)))))⟩
    · skip
      rintro b10 -
      refine WC.seq ?_
      refine WC.seq ?_
      refine WC.heap (fun w h => Sat.accNil (e := 9) (size := 1) (enc := SL.one vs) h) ?_
      refine WC.region ?_
      refine WL.rd rfl rfl rfl (Rd.assign rfl rfl) ?_
      refine WL.nil ?_
      refine thenQ.normal ?_
      refine WC.block ?_
      refine WC.pick [11, 0, 1, 6, 7, 8, 9, 10] (by repeat (first | exact Pick.nil | apply Pick.cons rfl)) ?_
      refine WC.loop2 1 (fun (k : Nat) (pv : Value) => [(11, vi k)]) (fun (k : Nat) (pv : Value) => rowC b10 31 [vs (nm i), pv, vi qs[i]!.2.1] :: accT pv (psTo (big back i (min qs.length 16)) k qs[i]!.1.2) :: accC 30 3 encN av na :: accC 31 3 encN bv nb :: O) (fun (k : Nat) (pv : Value) => k ≤ min qs[i]!.1.2.length 5 ∧ OneV pv) (fun (k : Nat) (pv : Value) => 5 - k) (0) (nilS) (by repeat (first | exact Split.zero | apply Split.succ)) ?hinv2 (by repeat (first | exact Sub.nil | refine Sub.cons rfl (by first | rfl | (congr 1; omega) | assumption) ?_)) (fun w h => by rw [psTo_zero]; exact (fun w h => OwnL.sat (by repeat (first | exact OwnL.refl | apply OwnL.take (by repeat (first | exact Take.head _ | apply Take.tail)) | apply OwnL.drop)) w (h.thin (SubL.mem (by repeat (first | exact SubL.refl | refine SubL.cons (by repeat (first | assumption | exact mS | apply mT)) ?_ | refine SubL.skip ?_))))) w h) ?_
      case hinv2 =>
        exact ⟨Nat.zero_le _, OneV.sl⟩
      intro k pv
      rintro ⟨j1, j2⟩
      refine WC.seq ?_
      refine WC.pick [0, 1, 6, 7, 8, 9, 10, 11] (by repeat (first | exact Pick.nil | apply Pick.cons rfl)) ?_
      refine WC.val 40 (.bool (decide ((k : Int) < (qs[i]!.1.2.length : Int) ∧ (k : Int) < 5))) ?_ ?_
      · skip
        refine WC.region ?_
        refine WL.rd rfl rfl rfl (Rd.move rfl rfl) ?_
        refine WL.rd rfl rfl rfl (Rd.move rfl rfl) ?_
        refine WL.rd rfl rfl rfl (Rd.move rfl rfl) ?_
        refine WL.rd rfl rfl rfl (Rd.idx (enc := encQ) (xs := qs) (size := 3) (k := i) rfl S22 rfl rfl rfl hl' hiq) ?_
        refine WL.rd rfl rfl rfl (Rd.fieldE rfl F56_0 rfl hl' (by omega)) ?_
        refine WL.rd rfl rfl rfl (Rd.getF (enc := encQ) (size := 3) (xs := qs) (k := i) (f := 0) (a := qs[i]!) (u := qs[i]!.1.1) rfl C44 rfl hl' (fun _ => rfl) (by omega) (get!_of_lt hiq) rfl) ?_
        refine WL.rd rfl rfl rfl (Rd.lenE (enc := SL.one vi) (xs := qs[i]!.1.2) rfl rfl Try.underlying44 hpl') ?_
        refine WL.rd rfl rfl rfl (Rd.lss rfl rfl rfl) ?_
        refine WL.rd rfl rfl rfl (Rd.move rfl rfl) ?_
        refine WL.case 37 rfl (fun hg37 => ?_) (fun hg37 => ?_)
        · skip
          refine WL.rd_yes rfl rfl rfl rfl rfl rfl (Rd.move rfl rfl) ?_
          refine WL.rd_yes rfl rfl rfl rfl rfl rfl (Rd.lss rfl rfl rfl) ?_
          refine WL.rd rfl rfl rfl (Rd.pick_t rfl rfl rfl) ?_
          refine WL.nil ?_
          exact ⟨by repeat (first | exact Sub.nil | refine Sub.cons rfl (by first | rfl | (first | exact vb ⟨fun h => ⟨hg37, h⟩, fun h => h.2⟩ | exact vb_f (fun h => hg37 h.1))) ?_), by first | exact (fun _ h => h.thin (SubL.mem (by repeat (first | exact SubL.refl | refine SubL.cons (by repeat (first | assumption | exact mS | apply mT)) ?_ | refine SubL.skip ?_)))) | exact (fun w h => OwnL.sat (by repeat (first | exact OwnL.refl | apply OwnL.take (by repeat (first | exact Take.head _ | apply Take.tail)) | apply OwnL.drop)) w (h.thin (SubL.mem (by repeat (first | exact SubL.refl | refine SubL.cons (by repeat (first | assumption | exact mS | apply mT)) ?_ | refine SubL.skip ?_)))))⟩
        · skip
          refine WL.no rfl rfl rfl rfl rfl rfl ?_
          refine WL.no rfl rfl rfl rfl rfl rfl ?_
          refine WL.rd rfl rfl rfl (Rd.pick_f rfl rfl rfl) ?_
          refine WL.nil ?_
          exact ⟨by repeat (first | exact Sub.nil | refine Sub.cons rfl (by first | rfl | (first | exact vb ⟨fun h => ⟨hg37, h⟩, fun h => h.2⟩ | exact vb_f (fun h => hg37 h.1))) ?_), by first | exact (fun _ h => h.thin (SubL.mem (by repeat (first | exact SubL.refl | refine SubL.cons (by repeat (first | assumption | exact mS | apply mT)) ?_ | refine SubL.skip ?_)))) | exact (fun w h => OwnL.sat (by repeat (first | exact OwnL.refl | apply OwnL.take (by repeat (first | exact Take.head _ | apply Take.tail)) | apply OwnL.drop)) w (h.thin (SubL.mem (by repeat (first | exact SubL.refl | refine SubL.cons (by repeat (first | assumption | exact mS | apply mT)) ?_ | refine SubL.skip ?_)))))⟩
      · skip
        first | refine WC.ite rfl (fun hc2 => ?_) (fun hc2 => ?_) | refine WC.cond rfl (fun hc2 => ?_) (fun hc2 => ?_)
        · skip
          refine WC.skip ?_
          refine thenQ.normal ?_
          refine WC.seq ?_
          refine WC.block ?_
          refine WC.seq ?_
          refine WC.region ?_
          refine WL.rd rfl rfl rfl (Rd.move rfl rfl) ?_
          refine WL.rd rfl rfl rfl (Rd.assign rfl rfl) ?_
          refine WL.nil ?_
          refine thenQ.normal ?_
          refine WC.seq ?_
          refine WC.seq ?_
          refine WC.region ?_
          refine WL.rd rfl rfl rfl (Rd.move rfl rfl) ?_
          refine WL.nil ?_
          refine thenQ.normal ?_
          first | refine WC.ite rfl (fun hc3 => ?_) (fun hc3 => ?_) | refine WC.cond rfl (fun hc3 => ?_) (fun hc3 => ?_)
          · skip
            refine WC.region ?_
            refine WL.rd rfl rfl rfl (Rd.move rfl rfl) ?_
            refine WL.rd rfl rfl rfl (Rd.assign rfl rfl) ?_
            refine WL.nil ?_
            refine thenQ.normal ?_
            refine WC.seq ?_
            refine WC.region ?_
            refine WL.rd rfl rfl rfl (Rd.move rfl rfl) ?_
            refine WL.say 46 (u := vi (big back i (min qs.length 16) : Nat)) rfl (by simp [big, hc3]) ?_
            refine WL.rd rfl rfl rfl (Rd.gtr rfl rfl rfl) ?_
            refine WL.nil ?_
            refine thenQ.normal ?_
            first | refine WC.ite rfl (fun hc4 => ?_) (fun hc4 => ?_) | refine WC.cond rfl (fun hc4 => ?_) (fun hc4 => ?_)
            · skip
              have hM0 : 0 < big back i (min qs.length 16) := by omega
              obtain ⟨p, hp⟩ : ∃ p, qs[i]!.1.2[k]! = p := ⟨_, rfl⟩
              have htm := tmodIn p hM0
              have hup := up_lt (p := p) hM0
              have hpl := psTo_len (big back i (min qs.length 16)) k qs[i]!.1.2
              have hroom : Room ((psTo (big back i (min qs.length 16)) k qs[i]!.1.2).length + 1) 16 := room1 (by omega)
              refine WC.drawn (accC 30 3 encN av na :: accC 31 3 encN bv nb :: O) 21 rfl mixed ?_
              refine WD.take 0 rfl (by kernel_rfl) (Held.mk' (by repeat (first | exact SubL.refl | refine SubL.cons (by repeat (first | assumption | exact mS | apply mT)) ?_ | refine SubL.skip ?_)) (by repeat (first | exact OwnL.refl | apply OwnL.take (by repeat (first | exact Take.head _ | apply Take.tail)) | apply OwnL.drop))) rfl rfl rfl ((by first | exact Rd.field rfl F31_1 rfl rfl | exact Rd.fieldE rfl F31_1 rfl (by repeat (first | assumption | exact mS | apply mT)) (by omega) | exact Rd.fieldA rfl F31_1 rfl (by repeat (first | assumption | exact mS | apply mT)) (by omega))) ?_
              refine WD.take 2 rfl (by kernel_rfl) (Held.mk' (by repeat (first | exact SubL.refl | refine SubL.cons (by repeat (first | assumption | exact mS | apply mT)) ?_ | refine SubL.skip ?_)) (by repeat (first | exact OwnL.refl | apply OwnL.take (by repeat (first | exact Take.head _ | apply Take.tail)) | apply OwnL.drop))) rfl rfl rfl (Rd.move rfl rfl) ?_
              refine WD.take 3 rfl (by kernel_rfl) (Held.mk' (by repeat (first | exact SubL.refl | refine SubL.cons (by repeat (first | assumption | exact mS | apply mT)) ?_ | refine SubL.skip ?_)) (by repeat (first | exact OwnL.refl | apply OwnL.take (by repeat (first | exact Take.head _ | apply Take.tail)) | apply OwnL.drop))) rfl rfl rfl (Rd.move rfl rfl) ?_
              refine WD.take 4 rfl (by kernel_rfl) (Held.mk' (by repeat (first | exact SubL.refl | refine SubL.cons (by repeat (first | assumption | exact mS | apply mT)) ?_ | refine SubL.skip ?_)) (by repeat (first | exact OwnL.refl | apply OwnL.take (by repeat (first | exact Take.head _ | apply Take.tail)) | apply OwnL.drop))) rfl rfl rfl (Rd.idx (enc := encQ) (xs := qs) (size := 3) (k := i) rfl S22 rfl rfl rfl hl' hiq) ?_
              refine WD.take 5 rfl (by kernel_rfl) (Held.mk' (by repeat (first | exact SubL.refl | refine SubL.cons (by repeat (first | assumption | exact mS | apply mT)) ?_ | refine SubL.skip ?_)) (by repeat (first | exact OwnL.refl | apply OwnL.take (by repeat (first | exact Take.head _ | apply Take.tail)) | apply OwnL.drop))) rfl rfl rfl (Rd.fieldE rfl F56_0 rfl hl' (by omega)) ?_
              refine WD.take 6 rfl (by kernel_rfl) (Held.mk' (by repeat (first | exact SubL.refl | refine SubL.cons (by repeat (first | assumption | exact mS | apply mT)) ?_ | refine SubL.skip ?_)) (by repeat (first | exact OwnL.refl | apply OwnL.take (by repeat (first | exact Take.head _ | apply Take.tail)) | apply OwnL.drop))) rfl rfl rfl (Rd.getF (enc := encQ) (size := 3) (xs := qs) (k := i) (f := 0) (a := qs[i]!) (u := qs[i]!.1.1) rfl C44 rfl hl' (fun _ => rfl) (by omega) (get!_of_lt hiq) rfl) ?_
              refine WD.take 7 rfl (by kernel_rfl) (Held.mk' (by repeat (first | exact SubL.refl | refine SubL.cons (by repeat (first | assumption | exact mS | apply mT)) ?_ | refine SubL.skip ?_)) (by repeat (first | exact OwnL.refl | apply OwnL.take (by repeat (first | exact Take.head _ | apply Take.tail)) | apply OwnL.drop))) rfl rfl rfl (Rd.move rfl rfl) ?_
              refine WD.take 8 rfl (by kernel_rfl) (Held.mk' (by repeat (first | exact SubL.refl | refine SubL.cons (by repeat (first | assumption | exact mS | apply mT)) ?_ | refine SubL.skip ?_)) (by repeat (first | exact OwnL.refl | apply OwnL.take (by repeat (first | exact Take.head _ | apply Take.tail)) | apply OwnL.drop))) rfl rfl rfl (Rd.idx1 (enc := SL.one vi) (xs := qs[i]!.1.2) (k := k) rfl S44 rfl rfl rfl hpl' (by omega)) ?_
              refine WD.take 9 rfl (by kernel_rfl) (Held.mk' (by repeat (first | exact SubL.refl | refine SubL.cons (by repeat (first | assumption | exact mS | apply mT)) ?_ | refine SubL.skip ?_)) (by repeat (first | exact OwnL.refl | apply OwnL.take (by repeat (first | exact Take.head _ | apply Take.tail)) | apply OwnL.drop))) rfl rfl rfl (Rd.get (g := vi) (xs := qs[i]!.1.2) (k := k) (a := p) rfl C3 rfl hpl' (by rw [← hp]; exact get!_of_lt (by omega))) ?_
              refine WD.take 10 rfl (by kernel_rfl) (Held.mk' (by repeat (first | exact SubL.refl | refine SubL.cons (by repeat (first | assumption | exact mS | apply mT)) ?_ | refine SubL.skip ?_)) (by repeat (first | exact OwnL.refl | apply OwnL.take (by repeat (first | exact Take.head _ | apply Take.tail)) | apply OwnL.drop))) rfl rfl rfl (Rd.move rfl rfl) ?_
              refine WD.say 58 (u := vi (big back i (min qs.length 16) : Nat)) rfl (by simp [big, hc3]) ?_
              refine WD.take 11 rfl (by kernel_rfl) (Held.mk' (by repeat (first | exact SubL.refl | refine SubL.cons (by repeat (first | assumption | exact mS | apply mT)) ?_ | refine SubL.skip ?_)) (by repeat (first | exact OwnL.refl | apply OwnL.take (by repeat (first | exact Take.head _ | apply Take.tail)) | apply OwnL.drop))) rfl rfl rfl (Rd.remI (b := big back i (min qs.length 16)) rfl rfl rfl rfl hM0) ?_
              refine WD.take 12 rfl (by kernel_rfl) (Held.mk' (by repeat (first | exact SubL.refl | refine SubL.cons (by repeat (first | assumption | exact mS | apply mT)) ?_ | refine SubL.skip ?_)) (by repeat (first | exact OwnL.refl | apply OwnL.take (by repeat (first | exact Take.head _ | apply Take.tail)) | apply OwnL.drop))) rfl rfl rfl (Rd.move rfl rfl) ?_
              refine WD.say 60 (u := vi (big back i (min qs.length 16) : Nat)) rfl (by simp [big, hc3]) ?_
              refine WD.take 13 rfl (by kernel_rfl) (Held.mk' (by repeat (first | exact SubL.refl | refine SubL.cons (by repeat (first | assumption | exact mS | apply mT)) ?_ | refine SubL.skip ?_)) (by repeat (first | exact OwnL.refl | apply OwnL.take (by repeat (first | exact Take.head _ | apply Take.tail)) | apply OwnL.drop))) rfl rfl rfl (Rd.add rfl rfl rfl (by omega)) ?_
              refine WD.take 14 rfl (by kernel_rfl) (Held.mk' (by repeat (first | exact SubL.refl | refine SubL.cons (by repeat (first | assumption | exact mS | apply mT)) ?_ | refine SubL.skip ?_)) (by repeat (first | exact OwnL.refl | apply OwnL.take (by repeat (first | exact Take.head _ | apply Take.tail)) | apply OwnL.drop))) rfl rfl rfl (Rd.move rfl rfl) ?_
              refine WD.say 62 (u := vi (big back i (min qs.length 16) : Nat)) rfl (by simp [big, hc3]) ?_
              refine WD.take 15 rfl (by kernel_rfl) (Held.mk' (by repeat (first | exact SubL.refl | refine SubL.cons (by repeat (first | assumption | exact mS | apply mT)) ?_ | refine SubL.skip ?_)) (by repeat (first | exact OwnL.refl | apply OwnL.take (by repeat (first | exact Take.head _ | apply Take.tail)) | apply OwnL.drop))) rfl rfl rfl (Rd.remN (a := (p.tmod (big back i (min qs.length 16) : Nat) + (big back i (min qs.length 16) : Nat)).toNat) (b := big back i (min qs.length 16)) rfl rfl rfl (by omega) rfl hM0) ?_
              refine WD.say 63 (u := vi (up (big back i (min qs.length 16)) p : Nat)) rfl rfl ?_
              refine WD.two 1 16 rfl rfl (by kernel_rfl) rfl rfl ?_ ?_
              · skip
                refine OpW.rd rfl rfl (Rd.row1 (b := b10) (off := 1) (u := pv) rfl C28 rfl (by repeat (first | assumption | exact mS | apply mT)) rfl) ?_
                refine ⟨(Held.mk' (by repeat (first | exact SubL.refl | refine SubL.cons (by repeat (first | assumption | exact mS | apply mT)) ?_ | refine SubL.skip ?_)) (by repeat (first | exact OwnL.refl | apply OwnL.take (by repeat (first | exact Take.head _ | apply Take.tail)) | apply OwnL.drop))), ?_⟩
                refine WD.one 16 rfl (by kernel_rfl) rfl ?_
                refine OpW.call rfl rfl (by repeat (first | exact Evs.nil | apply Evs.cons rfl)) (by kernel_rfl) rfl rfl rfl ?_
                refine name_spec (i := up (big back i (min qs.length 16)) p) (by omega) ?_
                refine ⟨(Held.mk' (by repeat (first | exact SubL.refl | refine SubL.cons (by repeat (first | assumption | exact mS | apply mT)) ?_ | refine SubL.skip ?_)) (by repeat (first | exact OwnL.refl | apply OwnL.take (by repeat (first | exact Take.head _ | apply Take.tail)) | apply OwnL.drop))), ?_⟩
                refine WD.one 17 rfl (by kernel_rfl) rfl ?_
                refine OpW.buildSl (ps := [(0, _)]) rfl S28 (by repeat (first | exact Evs.nil | apply Evs.cons rfl)) rfl rfl (by repeat (first | exact CellsOf.nil | apply CellsOf.cons rfl)) (by kernel_rfl) rfl rfl rfl ?_; intro b65
                refine ⟨(Held.mk' (by repeat (first | exact SubL.refl | refine SubL.cons (by repeat (first | assumption | exact mS | apply mT)) ?_ | refine SubL.skip ?_)) (by repeat (first | exact OwnL.refl | apply OwnL.take (by repeat (first | exact Take.head _ | apply Take.tail)) | apply OwnL.drop))), ?_⟩
                refine WD.one 18 rfl (by kernel_rfl) rfl ?_
                refine OpW.appendRow (enc := SL.one vs) rfl S28 rfl rfl (by repeat (first | assumption | exact Take.head _ | apply Take.tail)) (by repeat (first | assumption | exact Take.head _ | apply Take.tail)) [nm (up (big back i (min qs.length 16)) p)] rfl (by rfl) rfl (by intro x; first | rfl | (cases x; rfl) | (rcases x with ⟨_, _, _⟩; rfl) | (rcases x with ⟨_, _, _, _⟩; rfl)) (by intro x; first | rfl | (cases x; rfl) | (rcases x with ⟨_, _, _⟩; rfl) | (rcases x with ⟨_, _, _, _⟩; rfl)) (by first | assumption | exact ⟨by simp only [maxLen, List.length_append, List.length_nil, List.length_cons, List.length_drop, List.length_take, List.length_map]; omega, by first | omega | (simp only [List.length_append, List.length_nil, List.length_cons, List.length_drop, List.length_take, List.length_map]; omega)⟩) rfl rfl ?_; intro v66 hv66
                refine ⟨(Held.mk' (by repeat (first | exact SubL.refl | refine SubL.cons (by repeat (first | assumption | exact mS | apply mT)) ?_ | refine SubL.skip ?_)) (by repeat (first | exact OwnL.refl | apply OwnL.take (by repeat (first | exact Take.head _ | apply Take.tail)) | apply OwnL.drop))), ?_⟩
                refine WD.take 19 rfl (by kernel_rfl) (Held.mk' (by repeat (first | exact SubL.refl | refine SubL.cons (by repeat (first | assumption | exact mS | apply mT)) ?_ | refine SubL.skip ?_)) (by repeat (first | exact OwnL.refl | apply OwnL.take (by repeat (first | exact Take.head _ | apply Take.tail)) | apply OwnL.drop))) rfl rfl rfl ((by first | exact Rd.field rfl F31_1 rfl rfl | exact Rd.fieldE rfl F31_1 rfl (by repeat (first | assumption | exact mS | apply mT)) (by omega) | exact Rd.fieldA rfl F31_1 rfl (by repeat (first | assumption | exact mS | apply mT)) (by omega))) ?_
                refine WD.one 20 rfl (by kernel_rfl) rfl ?_
                refine OpW.store1 rfl Z28 rfl rfl (by first | exact ⟨rfl, rfl⟩ | assumption) (by repeat (first | assumption | exact Take.head _ | apply Take.tail)) (by first | (simp; done) | omega | exact of_decide_eq_true rfl | (simp only [List.length_append, List.length_replicate, List.length_map, List.length_set]; omega)) rfl ?_
                refine ⟨(Held.mk' (by repeat (first | exact SubL.refl | refine SubL.cons (by repeat (first | assumption | exact mS | apply mT)) ?_ | refine SubL.skip ?_)) (by repeat (first | exact OwnL.refl | apply OwnL.take (by repeat (first | exact Take.head _ | apply Take.tail)) | apply OwnL.drop))), ?_⟩
                refine WD.done (by kernel_rfl) ?_
                refine blockQ.normal ?_
                refine thenQ.normal ?_
                refine WC.region ?_
                refine WL.rd rfl rfl rfl (Rd.move rfl rfl) ?_
                refine WL.rd rfl rfl rfl (Rd.add rfl rfl rfl (by omega)) ?_
                refine WL.rd rfl rfl rfl (Rd.assign rfl rfl) ?_
                refine WL.nil ?_
                first
                  | exact loopQ2.mk (k + 1) v66 ⟨by omega, hv66⟩ (by omega) (by repeat (first | exact Sub.nil | refine Sub.cons rfl (by first | rfl | (congr 1; omega) | assumption) ?_)) (fun w h => by rw [psTo_next hM0 (by omega), hp]; exact (fun w h => OwnL.sat (by repeat (first | exact OwnL.refl | apply OwnL.take (by repeat (first | exact Take.head _ | apply Take.tail)) | apply OwnL.drop)) w (h.thin (SubL.mem (by repeat (first | exact SubL.refl | refine SubL.cons (by repeat (first | assumption | exact mS | apply mT)) ?_ | refine SubL.skip ?_))))) w h)
                  | exact loopQ2.mk (k + 1) pv ⟨by omega, j2⟩ (by omega) (by repeat (first | exact Sub.nil | refine Sub.cons rfl (by first | rfl | (congr 1; omega) | assumption) ?_)) (fun w h => by rw [psTo_z (k := k + 1) (by omega)]; rw [psTo_z (k := k) (by omega)] at h; exact (fun w h => OwnL.sat (by repeat (first | exact OwnL.refl | apply OwnL.take (by repeat (first | exact Take.head _ | apply Take.tail)) | apply OwnL.drop)) w (h.thin (SubL.mem (by repeat (first | exact SubL.refl | refine SubL.cons (by repeat (first | assumption | exact mS | apply mT)) ?_ | refine SubL.skip ?_))))) w h)
              · skip
                refine OpW.call rfl rfl (by repeat (first | exact Evs.nil | apply Evs.cons rfl)) (by kernel_rfl) rfl rfl rfl ?_
                refine name_spec (i := up (big back i (min qs.length 16)) p) (by omega) ?_
                refine ⟨(Held.mk' (by repeat (first | exact SubL.refl | refine SubL.cons (by repeat (first | assumption | exact mS | apply mT)) ?_ | refine SubL.skip ?_)) (by repeat (first | exact OwnL.refl | apply OwnL.take (by repeat (first | exact Take.head _ | apply Take.tail)) | apply OwnL.drop))), ?_⟩
                refine WD.two 1 17 rfl rfl (by kernel_rfl) rfl rfl ?_ ?_
                · skip
                  refine OpW.rd rfl rfl (Rd.row1 (b := b10) (off := 1) (u := pv) rfl C28 rfl (by repeat (first | assumption | exact mS | apply mT)) rfl) ?_
                  refine ⟨(Held.mk' (by repeat (first | exact SubL.refl | refine SubL.cons (by repeat (first | assumption | exact mS | apply mT)) ?_ | refine SubL.skip ?_)) (by repeat (first | exact OwnL.refl | apply OwnL.take (by repeat (first | exact Take.head _ | apply Take.tail)) | apply OwnL.drop))), ?_⟩
                  refine WD.one 17 rfl (by kernel_rfl) rfl ?_
                  refine OpW.buildSl (ps := [(0, _)]) rfl S28 (by repeat (first | exact Evs.nil | apply Evs.cons rfl)) rfl rfl (by repeat (first | exact CellsOf.nil | apply CellsOf.cons rfl)) (by kernel_rfl) rfl rfl rfl ?_; intro b65
                  refine ⟨(Held.mk' (by repeat (first | exact SubL.refl | refine SubL.cons (by repeat (first | assumption | exact mS | apply mT)) ?_ | refine SubL.skip ?_)) (by repeat (first | exact OwnL.refl | apply OwnL.take (by repeat (first | exact Take.head _ | apply Take.tail)) | apply OwnL.drop))), ?_⟩
                  refine WD.one 18 rfl (by kernel_rfl) rfl ?_
                  refine OpW.appendRow (enc := SL.one vs) rfl S28 rfl rfl (by repeat (first | assumption | exact Take.head _ | apply Take.tail)) (by repeat (first | assumption | exact Take.head _ | apply Take.tail)) [nm (up (big back i (min qs.length 16)) p)] rfl (by rfl) rfl (by intro x; first | rfl | (cases x; rfl) | (rcases x with ⟨_, _, _⟩; rfl) | (rcases x with ⟨_, _, _, _⟩; rfl)) (by intro x; first | rfl | (cases x; rfl) | (rcases x with ⟨_, _, _⟩; rfl) | (rcases x with ⟨_, _, _, _⟩; rfl)) (by first | assumption | exact ⟨by simp only [maxLen, List.length_append, List.length_nil, List.length_cons, List.length_drop, List.length_take, List.length_map]; omega, by first | omega | (simp only [List.length_append, List.length_nil, List.length_cons, List.length_drop, List.length_take, List.length_map]; omega)⟩) rfl rfl ?_; intro v66 hv66
                  refine ⟨(Held.mk' (by repeat (first | exact SubL.refl | refine SubL.cons (by repeat (first | assumption | exact mS | apply mT)) ?_ | refine SubL.skip ?_)) (by repeat (first | exact OwnL.refl | apply OwnL.take (by repeat (first | exact Take.head _ | apply Take.tail)) | apply OwnL.drop))), ?_⟩
                  refine WD.take 19 rfl (by kernel_rfl) (Held.mk' (by repeat (first | exact SubL.refl | refine SubL.cons (by repeat (first | assumption | exact mS | apply mT)) ?_ | refine SubL.skip ?_)) (by repeat (first | exact OwnL.refl | apply OwnL.take (by repeat (first | exact Take.head _ | apply Take.tail)) | apply OwnL.drop))) rfl rfl rfl ((by first | exact Rd.field rfl F31_1 rfl rfl | exact Rd.fieldE rfl F31_1 rfl (by repeat (first | assumption | exact mS | apply mT)) (by omega) | exact Rd.fieldA rfl F31_1 rfl (by repeat (first | assumption | exact mS | apply mT)) (by omega))) ?_
                  refine WD.one 20 rfl (by kernel_rfl) rfl ?_
                  refine OpW.store1 rfl Z28 rfl rfl (by first | exact ⟨rfl, rfl⟩ | assumption) (by repeat (first | assumption | exact Take.head _ | apply Take.tail)) (by first | (simp; done) | omega | exact of_decide_eq_true rfl | (simp only [List.length_append, List.length_replicate, List.length_map, List.length_set]; omega)) rfl ?_
                  refine ⟨(Held.mk' (by repeat (first | exact SubL.refl | refine SubL.cons (by repeat (first | assumption | exact mS | apply mT)) ?_ | refine SubL.skip ?_)) (by repeat (first | exact OwnL.refl | apply OwnL.take (by repeat (first | exact Take.head _ | apply Take.tail)) | apply OwnL.drop))), ?_⟩
                  refine WD.done (by kernel_rfl) ?_
                  refine blockQ.normal ?_
                  refine thenQ.normal ?_
                  refine WC.region ?_
                  refine WL.rd rfl rfl rfl (Rd.move rfl rfl) ?_
                  refine WL.rd rfl rfl rfl (Rd.add rfl rfl rfl (by omega)) ?_
                  refine WL.rd rfl rfl rfl (Rd.assign rfl rfl) ?_
                  refine WL.nil ?_
                  first
                    | exact loopQ2.mk (k + 1) v66 ⟨by omega, hv66⟩ (by omega) (by repeat (first | exact Sub.nil | refine Sub.cons rfl (by first | rfl | (congr 1; omega) | assumption) ?_)) (fun w h => by rw [psTo_next hM0 (by omega), hp]; exact (fun w h => OwnL.sat (by repeat (first | exact OwnL.refl | apply OwnL.take (by repeat (first | exact Take.head _ | apply Take.tail)) | apply OwnL.drop)) w (h.thin (SubL.mem (by repeat (first | exact SubL.refl | refine SubL.cons (by repeat (first | assumption | exact mS | apply mT)) ?_ | refine SubL.skip ?_))))) w h)
                    | exact loopQ2.mk (k + 1) pv ⟨by omega, j2⟩ (by omega) (by repeat (first | exact Sub.nil | refine Sub.cons rfl (by first | rfl | (congr 1; omega) | assumption) ?_)) (fun w h => by rw [psTo_z (k := k + 1) (by omega)]; rw [psTo_z (k := k) (by omega)] at h; exact (fun w h => OwnL.sat (by repeat (first | exact OwnL.refl | apply OwnL.take (by repeat (first | exact Take.head _ | apply Take.tail)) | apply OwnL.drop)) w (h.thin (SubL.mem (by repeat (first | exact SubL.refl | refine SubL.cons (by repeat (first | assumption | exact mS | apply mT)) ?_ | refine SubL.skip ?_))))) w h)
                · skip
                  refine OpW.buildSl (ps := [(0, _)]) rfl S28 (by repeat (first | exact Evs.nil | apply Evs.cons rfl)) rfl rfl (by repeat (first | exact CellsOf.nil | apply CellsOf.cons rfl)) (by kernel_rfl) rfl rfl rfl ?_; intro b65
                  refine ⟨(Held.mk' (by repeat (first | exact SubL.refl | refine SubL.cons (by repeat (first | assumption | exact mS | apply mT)) ?_ | refine SubL.skip ?_)) (by repeat (first | exact OwnL.refl | apply OwnL.take (by repeat (first | exact Take.head _ | apply Take.tail)) | apply OwnL.drop))), ?_⟩
                  refine WD.one 1 rfl (by kernel_rfl) rfl ?_
                  refine OpW.rd rfl rfl (Rd.row1 (b := b10) (off := 1) (u := pv) rfl C28 rfl (by repeat (first | assumption | exact mS | apply mT)) rfl) ?_
                  refine ⟨(Held.mk' (by repeat (first | exact SubL.refl | refine SubL.cons (by repeat (first | assumption | exact mS | apply mT)) ?_ | refine SubL.skip ?_)) (by repeat (first | exact OwnL.refl | apply OwnL.take (by repeat (first | exact Take.head _ | apply Take.tail)) | apply OwnL.drop))), ?_⟩
                  refine WD.one 18 rfl (by kernel_rfl) rfl ?_
                  refine OpW.appendRow (enc := SL.one vs) rfl S28 rfl rfl (by repeat (first | assumption | exact Take.head _ | apply Take.tail)) (by repeat (first | assumption | exact Take.head _ | apply Take.tail)) [nm (up (big back i (min qs.length 16)) p)] rfl (by rfl) rfl (by intro x; first | rfl | (cases x; rfl) | (rcases x with ⟨_, _, _⟩; rfl) | (rcases x with ⟨_, _, _, _⟩; rfl)) (by intro x; first | rfl | (cases x; rfl) | (rcases x with ⟨_, _, _⟩; rfl) | (rcases x with ⟨_, _, _, _⟩; rfl)) (by first | assumption | exact ⟨by simp only [maxLen, List.length_append, List.length_nil, List.length_cons, List.length_drop, List.length_take, List.length_map]; omega, by first | omega | (simp only [List.length_append, List.length_nil, List.length_cons, List.length_drop, List.length_take, List.length_map]; omega)⟩) rfl rfl ?_; intro v66 hv66
                  refine ⟨(Held.mk' (by repeat (first | exact SubL.refl | refine SubL.cons (by repeat (first | assumption | exact mS | apply mT)) ?_ | refine SubL.skip ?_)) (by repeat (first | exact OwnL.refl | apply OwnL.take (by repeat (first | exact Take.head _ | apply Take.tail)) | apply OwnL.drop))), ?_⟩
                  refine WD.take 19 rfl (by kernel_rfl) (Held.mk' (by repeat (first | exact SubL.refl | refine SubL.cons (by repeat (first | assumption | exact mS | apply mT)) ?_ | refine SubL.skip ?_)) (by repeat (first | exact OwnL.refl | apply OwnL.take (by repeat (first | exact Take.head _ | apply Take.tail)) | apply OwnL.drop))) rfl rfl rfl ((by first | exact Rd.field rfl F31_1 rfl rfl | exact Rd.fieldE rfl F31_1 rfl (by repeat (first | assumption | exact mS | apply mT)) (by omega) | exact Rd.fieldA rfl F31_1 rfl (by repeat (first | assumption | exact mS | apply mT)) (by omega))) ?_
                  refine WD.one 20 rfl (by kernel_rfl) rfl ?_
                  refine OpW.store1 rfl Z28 rfl rfl (by first | exact ⟨rfl, rfl⟩ | assumption) (by repeat (first | assumption | exact Take.head _ | apply Take.tail)) (by first | (simp; done) | omega | exact of_decide_eq_true rfl | (simp only [List.length_append, List.length_replicate, List.length_map, List.length_set]; omega)) rfl ?_
                  refine ⟨(Held.mk' (by repeat (first | exact SubL.refl | refine SubL.cons (by repeat (first | assumption | exact mS | apply mT)) ?_ | refine SubL.skip ?_)) (by repeat (first | exact OwnL.refl | apply OwnL.take (by repeat (first | exact Take.head _ | apply Take.tail)) | apply OwnL.drop))), ?_⟩
                  refine WD.done (by kernel_rfl) ?_
                  refine blockQ.normal ?_
                  refine thenQ.normal ?_
                  refine WC.region ?_
                  refine WL.rd rfl rfl rfl (Rd.move rfl rfl) ?_
                  refine WL.rd rfl rfl rfl (Rd.add rfl rfl rfl (by omega)) ?_
                  refine WL.rd rfl rfl rfl (Rd.assign rfl rfl) ?_
                  refine WL.nil ?_
                  first
                    | exact loopQ2.mk (k + 1) v66 ⟨by omega, hv66⟩ (by omega) (by repeat (first | exact Sub.nil | refine Sub.cons rfl (by first | rfl | (congr 1; omega) | assumption) ?_)) (fun w h => by rw [psTo_next hM0 (by omega), hp]; exact (fun w h => OwnL.sat (by repeat (first | exact OwnL.refl | apply OwnL.take (by repeat (first | exact Take.head _ | apply Take.tail)) | apply OwnL.drop)) w (h.thin (SubL.mem (by repeat (first | exact SubL.refl | refine SubL.cons (by repeat (first | assumption | exact mS | apply mT)) ?_ | refine SubL.skip ?_))))) w h)
                    | exact loopQ2.mk (k + 1) pv ⟨by omega, j2⟩ (by omega) (by repeat (first | exact Sub.nil | refine Sub.cons rfl (by first | rfl | (congr 1; omega) | assumption) ?_)) (fun w h => by rw [psTo_z (k := k + 1) (by omega)]; rw [psTo_z (k := k) (by omega)] at h; exact (fun w h => OwnL.sat (by repeat (first | exact OwnL.refl | apply OwnL.take (by repeat (first | exact Take.head _ | apply Take.tail)) | apply OwnL.drop)) w (h.thin (SubL.mem (by repeat (first | exact SubL.refl | refine SubL.cons (by repeat (first | assumption | exact mS | apply mT)) ?_ | refine SubL.skip ?_))))) w h)
            · skip
              refine WC.skip ?_
              refine blockQ.normal ?_
              refine thenQ.normal ?_
              refine WC.region ?_
              refine WL.rd rfl rfl rfl (Rd.move rfl rfl) ?_
              refine WL.rd rfl rfl rfl (Rd.add rfl rfl rfl (by omega)) ?_
              refine WL.rd rfl rfl rfl (Rd.assign rfl rfl) ?_
              refine WL.nil ?_
              first
                | exact loopQ2.mk (k + 1) v66 ⟨by omega, hv66⟩ (by omega) (by repeat (first | exact Sub.nil | refine Sub.cons rfl (by first | rfl | (congr 1; omega) | assumption) ?_)) (fun w h => by rw [psTo_next hM0 (by omega), hp]; exact (fun w h => OwnL.sat (by repeat (first | exact OwnL.refl | apply OwnL.take (by repeat (first | exact Take.head _ | apply Take.tail)) | apply OwnL.drop)) w (h.thin (SubL.mem (by repeat (first | exact SubL.refl | refine SubL.cons (by repeat (first | assumption | exact mS | apply mT)) ?_ | refine SubL.skip ?_))))) w h)
                | exact loopQ2.mk (k + 1) pv ⟨by omega, j2⟩ (by omega) (by repeat (first | exact Sub.nil | refine Sub.cons rfl (by first | rfl | (congr 1; omega) | assumption) ?_)) (fun w h => by rw [psTo_z (k := k + 1) (by omega)]; rw [psTo_z (k := k) (by omega)] at h; exact (fun w h => OwnL.sat (by repeat (first | exact OwnL.refl | apply OwnL.take (by repeat (first | exact Take.head _ | apply Take.tail)) | apply OwnL.drop)) w (h.thin (SubL.mem (by repeat (first | exact SubL.refl | refine SubL.cons (by repeat (first | assumption | exact mS | apply mT)) ?_ | refine SubL.skip ?_))))) w h)
          · skip
            refine WC.skip ?_
            refine thenQ.normal ?_
            refine WC.seq ?_
            refine WC.region ?_
            refine WL.rd rfl rfl rfl (Rd.move rfl rfl) ?_
            refine WL.say 46 (u := vi (big back i (min qs.length 16) : Nat)) rfl (by simp [big, hc3]) ?_
            refine WL.rd rfl rfl rfl (Rd.gtr rfl rfl rfl) ?_
            refine WL.nil ?_
            refine thenQ.normal ?_
            first | refine WC.ite rfl (fun hc4 => ?_) (fun hc4 => ?_) | refine WC.cond rfl (fun hc4 => ?_) (fun hc4 => ?_)
            · skip
              have hM0 : 0 < big back i (min qs.length 16) := by omega
              obtain ⟨p, hp⟩ : ∃ p, qs[i]!.1.2[k]! = p := ⟨_, rfl⟩
              have htm := tmodIn p hM0
              have hup := up_lt (p := p) hM0
              have hpl := psTo_len (big back i (min qs.length 16)) k qs[i]!.1.2
              have hroom : Room ((psTo (big back i (min qs.length 16)) k qs[i]!.1.2).length + 1) 16 := room1 (by omega)
              refine WC.drawn (accC 30 3 encN av na :: accC 31 3 encN bv nb :: O) 21 rfl mixed ?_
              refine WD.take 0 rfl (by kernel_rfl) (Held.mk' (by repeat (first | exact SubL.refl | refine SubL.cons (by repeat (first | assumption | exact mS | apply mT)) ?_ | refine SubL.skip ?_)) (by repeat (first | exact OwnL.refl | apply OwnL.take (by repeat (first | exact Take.head _ | apply Take.tail)) | apply OwnL.drop))) rfl rfl rfl ((by first | exact Rd.field rfl F31_1 rfl rfl | exact Rd.fieldE rfl F31_1 rfl (by repeat (first | assumption | exact mS | apply mT)) (by omega) | exact Rd.fieldA rfl F31_1 rfl (by repeat (first | assumption | exact mS | apply mT)) (by omega))) ?_
              refine WD.take 2 rfl (by kernel_rfl) (Held.mk' (by repeat (first | exact SubL.refl | refine SubL.cons (by repeat (first | assumption | exact mS | apply mT)) ?_ | refine SubL.skip ?_)) (by repeat (first | exact OwnL.refl | apply OwnL.take (by repeat (first | exact Take.head _ | apply Take.tail)) | apply OwnL.drop))) rfl rfl rfl (Rd.move rfl rfl) ?_
              refine WD.take 3 rfl (by kernel_rfl) (Held.mk' (by repeat (first | exact SubL.refl | refine SubL.cons (by repeat (first | assumption | exact mS | apply mT)) ?_ | refine SubL.skip ?_)) (by repeat (first | exact OwnL.refl | apply OwnL.take (by repeat (first | exact Take.head _ | apply Take.tail)) | apply OwnL.drop))) rfl rfl rfl (Rd.move rfl rfl) ?_
              refine WD.take 4 rfl (by kernel_rfl) (Held.mk' (by repeat (first | exact SubL.refl | refine SubL.cons (by repeat (first | assumption | exact mS | apply mT)) ?_ | refine SubL.skip ?_)) (by repeat (first | exact OwnL.refl | apply OwnL.take (by repeat (first | exact Take.head _ | apply Take.tail)) | apply OwnL.drop))) rfl rfl rfl (Rd.idx (enc := encQ) (xs := qs) (size := 3) (k := i) rfl S22 rfl rfl rfl hl' hiq) ?_
              refine WD.take 5 rfl (by kernel_rfl) (Held.mk' (by repeat (first | exact SubL.refl | refine SubL.cons (by repeat (first | assumption | exact mS | apply mT)) ?_ | refine SubL.skip ?_)) (by repeat (first | exact OwnL.refl | apply OwnL.take (by repeat (first | exact Take.head _ | apply Take.tail)) | apply OwnL.drop))) rfl rfl rfl (Rd.fieldE rfl F56_0 rfl hl' (by omega)) ?_
              refine WD.take 6 rfl (by kernel_rfl) (Held.mk' (by repeat (first | exact SubL.refl | refine SubL.cons (by repeat (first | assumption | exact mS | apply mT)) ?_ | refine SubL.skip ?_)) (by repeat (first | exact OwnL.refl | apply OwnL.take (by repeat (first | exact Take.head _ | apply Take.tail)) | apply OwnL.drop))) rfl rfl rfl (Rd.getF (enc := encQ) (size := 3) (xs := qs) (k := i) (f := 0) (a := qs[i]!) (u := qs[i]!.1.1) rfl C44 rfl hl' (fun _ => rfl) (by omega) (get!_of_lt hiq) rfl) ?_
              refine WD.take 7 rfl (by kernel_rfl) (Held.mk' (by repeat (first | exact SubL.refl | refine SubL.cons (by repeat (first | assumption | exact mS | apply mT)) ?_ | refine SubL.skip ?_)) (by repeat (first | exact OwnL.refl | apply OwnL.take (by repeat (first | exact Take.head _ | apply Take.tail)) | apply OwnL.drop))) rfl rfl rfl (Rd.move rfl rfl) ?_
              refine WD.take 8 rfl (by kernel_rfl) (Held.mk' (by repeat (first | exact SubL.refl | refine SubL.cons (by repeat (first | assumption | exact mS | apply mT)) ?_ | refine SubL.skip ?_)) (by repeat (first | exact OwnL.refl | apply OwnL.take (by repeat (first | exact Take.head _ | apply Take.tail)) | apply OwnL.drop))) rfl rfl rfl (Rd.idx1 (enc := SL.one vi) (xs := qs[i]!.1.2) (k := k) rfl S44 rfl rfl rfl hpl' (by omega)) ?_
              refine WD.take 9 rfl (by kernel_rfl) (Held.mk' (by repeat (first | exact SubL.refl | refine SubL.cons (by repeat (first | assumption | exact mS | apply mT)) ?_ | refine SubL.skip ?_)) (by repeat (first | exact OwnL.refl | apply OwnL.take (by repeat (first | exact Take.head _ | apply Take.tail)) | apply OwnL.drop))) rfl rfl rfl (Rd.get (g := vi) (xs := qs[i]!.1.2) (k := k) (a := p) rfl C3 rfl hpl' (by rw [← hp]; exact get!_of_lt (by omega))) ?_
              refine WD.take 10 rfl (by kernel_rfl) (Held.mk' (by repeat (first | exact SubL.refl | refine SubL.cons (by repeat (first | assumption | exact mS | apply mT)) ?_ | refine SubL.skip ?_)) (by repeat (first | exact OwnL.refl | apply OwnL.take (by repeat (first | exact Take.head _ | apply Take.tail)) | apply OwnL.drop))) rfl rfl rfl (Rd.move rfl rfl) ?_
              refine WD.say 58 (u := vi (big back i (min qs.length 16) : Nat)) rfl (by simp [big, hc3]) ?_
              refine WD.take 11 rfl (by kernel_rfl) (Held.mk' (by repeat (first | exact SubL.refl | refine SubL.cons (by repeat (first | assumption | exact mS | apply mT)) ?_ | refine SubL.skip ?_)) (by repeat (first | exact OwnL.refl | apply OwnL.take (by repeat (first | exact Take.head _ | apply Take.tail)) | apply OwnL.drop))) rfl rfl rfl (Rd.remI (b := big back i (min qs.length 16)) rfl rfl rfl rfl hM0) ?_
              refine WD.take 12 rfl (by kernel_rfl) (Held.mk' (by repeat (first | exact SubL.refl | refine SubL.cons (by repeat (first | assumption | exact mS | apply mT)) ?_ | refine SubL.skip ?_)) (by repeat (first | exact OwnL.refl | apply OwnL.take (by repeat (first | exact Take.head _ | apply Take.tail)) | apply OwnL.drop))) rfl rfl rfl (Rd.move rfl rfl) ?_
              refine WD.say 60 (u := vi (big back i (min qs.length 16) : Nat)) rfl (by simp [big, hc3]) ?_
              refine WD.take 13 rfl (by kernel_rfl) (Held.mk' (by repeat (first | exact SubL.refl | refine SubL.cons (by repeat (first | assumption | exact mS | apply mT)) ?_ | refine SubL.skip ?_)) (by repeat (first | exact OwnL.refl | apply OwnL.take (by repeat (first | exact Take.head _ | apply Take.tail)) | apply OwnL.drop))) rfl rfl rfl (Rd.add rfl rfl rfl (by omega)) ?_
              refine WD.take 14 rfl (by kernel_rfl) (Held.mk' (by repeat (first | exact SubL.refl | refine SubL.cons (by repeat (first | assumption | exact mS | apply mT)) ?_ | refine SubL.skip ?_)) (by repeat (first | exact OwnL.refl | apply OwnL.take (by repeat (first | exact Take.head _ | apply Take.tail)) | apply OwnL.drop))) rfl rfl rfl (Rd.move rfl rfl) ?_
              refine WD.say 62 (u := vi (big back i (min qs.length 16) : Nat)) rfl (by simp [big, hc3]) ?_
              refine WD.take 15 rfl (by kernel_rfl) (Held.mk' (by repeat (first | exact SubL.refl | refine SubL.cons (by repeat (first | assumption | exact mS | apply mT)) ?_ | refine SubL.skip ?_)) (by repeat (first | exact OwnL.refl | apply OwnL.take (by repeat (first | exact Take.head _ | apply Take.tail)) | apply OwnL.drop))) rfl rfl rfl (Rd.remN (a := (p.tmod (big back i (min qs.length 16) : Nat) + (big back i (min qs.length 16) : Nat)).toNat) (b := big back i (min qs.length 16)) rfl rfl rfl (by omega) rfl hM0) ?_
              refine WD.say 63 (u := vi (up (big back i (min qs.length 16)) p : Nat)) rfl rfl ?_
              refine WD.two 1 16 rfl rfl (by kernel_rfl) rfl rfl ?_ ?_
              · skip
                refine OpW.rd rfl rfl (Rd.row1 (b := b10) (off := 1) (u := pv) rfl C28 rfl (by repeat (first | assumption | exact mS | apply mT)) rfl) ?_
                refine ⟨(Held.mk' (by repeat (first | exact SubL.refl | refine SubL.cons (by repeat (first | assumption | exact mS | apply mT)) ?_ | refine SubL.skip ?_)) (by repeat (first | exact OwnL.refl | apply OwnL.take (by repeat (first | exact Take.head _ | apply Take.tail)) | apply OwnL.drop))), ?_⟩
                refine WD.one 16 rfl (by kernel_rfl) rfl ?_
                refine OpW.call rfl rfl (by repeat (first | exact Evs.nil | apply Evs.cons rfl)) (by kernel_rfl) rfl rfl rfl ?_
                refine name_spec (i := up (big back i (min qs.length 16)) p) (by omega) ?_
                refine ⟨(Held.mk' (by repeat (first | exact SubL.refl | refine SubL.cons (by repeat (first | assumption | exact mS | apply mT)) ?_ | refine SubL.skip ?_)) (by repeat (first | exact OwnL.refl | apply OwnL.take (by repeat (first | exact Take.head _ | apply Take.tail)) | apply OwnL.drop))), ?_⟩
                refine WD.one 17 rfl (by kernel_rfl) rfl ?_
                refine OpW.buildSl (ps := [(0, _)]) rfl S28 (by repeat (first | exact Evs.nil | apply Evs.cons rfl)) rfl rfl (by repeat (first | exact CellsOf.nil | apply CellsOf.cons rfl)) (by kernel_rfl) rfl rfl rfl ?_; intro b65
                refine ⟨(Held.mk' (by repeat (first | exact SubL.refl | refine SubL.cons (by repeat (first | assumption | exact mS | apply mT)) ?_ | refine SubL.skip ?_)) (by repeat (first | exact OwnL.refl | apply OwnL.take (by repeat (first | exact Take.head _ | apply Take.tail)) | apply OwnL.drop))), ?_⟩
                refine WD.one 18 rfl (by kernel_rfl) rfl ?_
                refine OpW.appendRow (enc := SL.one vs) rfl S28 rfl rfl (by repeat (first | assumption | exact Take.head _ | apply Take.tail)) (by repeat (first | assumption | exact Take.head _ | apply Take.tail)) [nm (up (big back i (min qs.length 16)) p)] rfl (by rfl) rfl (by intro x; first | rfl | (cases x; rfl) | (rcases x with ⟨_, _, _⟩; rfl) | (rcases x with ⟨_, _, _, _⟩; rfl)) (by intro x; first | rfl | (cases x; rfl) | (rcases x with ⟨_, _, _⟩; rfl) | (rcases x with ⟨_, _, _, _⟩; rfl)) (by first | assumption | exact ⟨by simp only [maxLen, List.length_append, List.length_nil, List.length_cons, List.length_drop, List.length_take, List.length_map]; omega, by first | omega | (simp only [List.length_append, List.length_nil, List.length_cons, List.length_drop, List.length_take, List.length_map]; omega)⟩) rfl rfl ?_; intro v66 hv66
                refine ⟨(Held.mk' (by repeat (first | exact SubL.refl | refine SubL.cons (by repeat (first | assumption | exact mS | apply mT)) ?_ | refine SubL.skip ?_)) (by repeat (first | exact OwnL.refl | apply OwnL.take (by repeat (first | exact Take.head _ | apply Take.tail)) | apply OwnL.drop))), ?_⟩
                refine WD.take 19 rfl (by kernel_rfl) (Held.mk' (by repeat (first | exact SubL.refl | refine SubL.cons (by repeat (first | assumption | exact mS | apply mT)) ?_ | refine SubL.skip ?_)) (by repeat (first | exact OwnL.refl | apply OwnL.take (by repeat (first | exact Take.head _ | apply Take.tail)) | apply OwnL.drop))) rfl rfl rfl ((by first | exact Rd.field rfl F31_1 rfl rfl | exact Rd.fieldE rfl F31_1 rfl (by repeat (first | assumption | exact mS | apply mT)) (by omega) | exact Rd.fieldA rfl F31_1 rfl (by repeat (first | assumption | exact mS | apply mT)) (by omega))) ?_
                refine WD.one 20 rfl (by kernel_rfl) rfl ?_
                refine OpW.store1 rfl Z28 rfl rfl (by first | exact ⟨rfl, rfl⟩ | assumption) (by repeat (first | assumption | exact Take.head _ | apply Take.tail)) (by first | (simp; done) | omega | exact of_decide_eq_true rfl | (simp only [List.length_append, List.length_replicate, List.length_map, List.length_set]; omega)) rfl ?_
                refine ⟨(Held.mk' (by repeat (first | exact SubL.refl | refine SubL.cons (by repeat (first | assumption | exact mS | apply mT)) ?_ | refine SubL.skip ?_)) (by repeat (first | exact OwnL.refl | apply OwnL.take (by repeat (first | exact Take.head _ | apply Take.tail)) | apply OwnL.drop))), ?_⟩
                refine WD.done (by kernel_rfl) ?_
                refine blockQ.normal ?_
                refine thenQ.normal ?_
                refine WC.region ?_
                refine WL.rd rfl rfl rfl (Rd.move rfl rfl) ?_
                refine WL.rd rfl rfl rfl (Rd.add rfl rfl rfl (by omega)) ?_
                refine WL.rd rfl rfl rfl (Rd.assign rfl rfl) ?_
                refine WL.nil ?_
                first
                  | exact loopQ2.mk (k + 1) v66 ⟨by omega, hv66⟩ (by omega) (by repeat (first | exact Sub.nil | refine Sub.cons rfl (by first | rfl | (congr 1; omega) | assumption) ?_)) (fun w h => by rw [psTo_next hM0 (by omega), hp]; exact (fun w h => OwnL.sat (by repeat (first | exact OwnL.refl | apply OwnL.take (by repeat (first | exact Take.head _ | apply Take.tail)) | apply OwnL.drop)) w (h.thin (SubL.mem (by repeat (first | exact SubL.refl | refine SubL.cons (by repeat (first | assumption | exact mS | apply mT)) ?_ | refine SubL.skip ?_))))) w h)
                  | exact loopQ2.mk (k + 1) pv ⟨by omega, j2⟩ (by omega) (by repeat (first | exact Sub.nil | refine Sub.cons rfl (by first | rfl | (congr 1; omega) | assumption) ?_)) (fun w h => by rw [psTo_z (k := k + 1) (by omega)]; rw [psTo_z (k := k) (by omega)] at h; exact (fun w h => OwnL.sat (by repeat (first | exact OwnL.refl | apply OwnL.take (by repeat (first | exact Take.head _ | apply Take.tail)) | apply OwnL.drop)) w (h.thin (SubL.mem (by repeat (first | exact SubL.refl | refine SubL.cons (by repeat (first | assumption | exact mS | apply mT)) ?_ | refine SubL.skip ?_))))) w h)
              · skip
                refine OpW.call rfl rfl (by repeat (first | exact Evs.nil | apply Evs.cons rfl)) (by kernel_rfl) rfl rfl rfl ?_
                refine name_spec (i := up (big back i (min qs.length 16)) p) (by omega) ?_
                refine ⟨(Held.mk' (by repeat (first | exact SubL.refl | refine SubL.cons (by repeat (first | assumption | exact mS | apply mT)) ?_ | refine SubL.skip ?_)) (by repeat (first | exact OwnL.refl | apply OwnL.take (by repeat (first | exact Take.head _ | apply Take.tail)) | apply OwnL.drop))), ?_⟩
                refine WD.two 1 17 rfl rfl (by kernel_rfl) rfl rfl ?_ ?_
                · skip
                  refine OpW.rd rfl rfl (Rd.row1 (b := b10) (off := 1) (u := pv) rfl C28 rfl (by repeat (first | assumption | exact mS | apply mT)) rfl) ?_
                  refine ⟨(Held.mk' (by repeat (first | exact SubL.refl | refine SubL.cons (by repeat (first | assumption | exact mS | apply mT)) ?_ | refine SubL.skip ?_)) (by repeat (first | exact OwnL.refl | apply OwnL.take (by repeat (first | exact Take.head _ | apply Take.tail)) | apply OwnL.drop))), ?_⟩
                  refine WD.one 17 rfl (by kernel_rfl) rfl ?_
                  refine OpW.buildSl (ps := [(0, _)]) rfl S28 (by repeat (first | exact Evs.nil | apply Evs.cons rfl)) rfl rfl (by repeat (first | exact CellsOf.nil | apply CellsOf.cons rfl)) (by kernel_rfl) rfl rfl rfl ?_; intro b65
                  refine ⟨(Held.mk' (by repeat (first | exact SubL.refl | refine SubL.cons (by repeat (first | assumption | exact mS | apply mT)) ?_ | refine SubL.skip ?_)) (by repeat (first | exact OwnL.refl | apply OwnL.take (by repeat (first | exact Take.head _ | apply Take.tail)) | apply OwnL.drop))), ?_⟩
                  refine WD.one 18 rfl (by kernel_rfl) rfl ?_
                  refine OpW.appendRow (enc := SL.one vs) rfl S28 rfl rfl (by repeat (first | assumption | exact Take.head _ | apply Take.tail)) (by repeat (first | assumption | exact Take.head _ | apply Take.tail)) [nm (up (big back i (min qs.length 16)) p)] rfl (by rfl) rfl (by intro x; first | rfl | (cases x; rfl) | (rcases x with ⟨_, _, _⟩; rfl) | (rcases x with ⟨_, _, _, _⟩; rfl)) (by intro x; first | rfl | (cases x; rfl) | (rcases x with ⟨_, _, _⟩; rfl) | (rcases x with ⟨_, _, _, _⟩; rfl)) (by first | assumption | exact ⟨by simp only [maxLen, List.length_append, List.length_nil, List.length_cons, List.length_drop, List.length_take, List.length_map]; omega, by first | omega | (simp only [List.length_append, List.length_nil, List.length_cons, List.length_drop, List.length_take, List.length_map]; omega)⟩) rfl rfl ?_; intro v66 hv66
                  refine ⟨(Held.mk' (by repeat (first | exact SubL.refl | refine SubL.cons (by repeat (first | assumption | exact mS | apply mT)) ?_ | refine SubL.skip ?_)) (by repeat (first | exact OwnL.refl | apply OwnL.take (by repeat (first | exact Take.head _ | apply Take.tail)) | apply OwnL.drop))), ?_⟩
                  refine WD.take 19 rfl (by kernel_rfl) (Held.mk' (by repeat (first | exact SubL.refl | refine SubL.cons (by repeat (first | assumption | exact mS | apply mT)) ?_ | refine SubL.skip ?_)) (by repeat (first | exact OwnL.refl | apply OwnL.take (by repeat (first | exact Take.head _ | apply Take.tail)) | apply OwnL.drop))) rfl rfl rfl ((by first | exact Rd.field rfl F31_1 rfl rfl | exact Rd.fieldE rfl F31_1 rfl (by repeat (first | assumption | exact mS | apply mT)) (by omega) | exact Rd.fieldA rfl F31_1 rfl (by repeat (first | assumption | exact mS | apply mT)) (by omega))) ?_
                  refine WD.one 20 rfl (by kernel_rfl) rfl ?_
                  refine OpW.store1 rfl Z28 rfl rfl (by first | exact ⟨rfl, rfl⟩ | assumption) (by repeat (first | assumption | exact Take.head _ | apply Take.tail)) (by first | (simp; done) | omega | exact of_decide_eq_true rfl | (simp only [List.length_append, List.length_replicate, List.length_map, List.length_set]; omega)) rfl ?_
                  refine ⟨(Held.mk' (by repeat (first | exact SubL.refl | refine SubL.cons (by repeat (first | assumption | exact mS | apply mT)) ?_ | refine SubL.skip ?_)) (by repeat (first | exact OwnL.refl | apply OwnL.take (by repeat (first | exact Take.head _ | apply Take.tail)) | apply OwnL.drop))), ?_⟩
                  refine WD.done (by kernel_rfl) ?_
                  refine blockQ.normal ?_
                  refine thenQ.normal ?_
                  refine WC.region ?_
                  refine WL.rd rfl rfl rfl (Rd.move rfl rfl) ?_
                  refine WL.rd rfl rfl rfl (Rd.add rfl rfl rfl (by omega)) ?_
                  refine WL.rd rfl rfl rfl (Rd.assign rfl rfl) ?_
                  refine WL.nil ?_
                  first
                    | exact loopQ2.mk (k + 1) v66 ⟨by omega, hv66⟩ (by omega) (by repeat (first | exact Sub.nil | refine Sub.cons rfl (by first | rfl | (congr 1; omega) | assumption) ?_)) (fun w h => by rw [psTo_next hM0 (by omega), hp]; exact (fun w h => OwnL.sat (by repeat (first | exact OwnL.refl | apply OwnL.take (by repeat (first | exact Take.head _ | apply Take.tail)) | apply OwnL.drop)) w (h.thin (SubL.mem (by repeat (first | exact SubL.refl | refine SubL.cons (by repeat (first | assumption | exact mS | apply mT)) ?_ | refine SubL.skip ?_))))) w h)
                    | exact loopQ2.mk (k + 1) pv ⟨by omega, j2⟩ (by omega) (by repeat (first | exact Sub.nil | refine Sub.cons rfl (by first | rfl | (congr 1; omega) | assumption) ?_)) (fun w h => by rw [psTo_z (k := k + 1) (by omega)]; rw [psTo_z (k := k) (by omega)] at h; exact (fun w h => OwnL.sat (by repeat (first | exact OwnL.refl | apply OwnL.take (by repeat (first | exact Take.head _ | apply Take.tail)) | apply OwnL.drop)) w (h.thin (SubL.mem (by repeat (first | exact SubL.refl | refine SubL.cons (by repeat (first | assumption | exact mS | apply mT)) ?_ | refine SubL.skip ?_))))) w h)
                · skip
                  refine OpW.buildSl (ps := [(0, _)]) rfl S28 (by repeat (first | exact Evs.nil | apply Evs.cons rfl)) rfl rfl (by repeat (first | exact CellsOf.nil | apply CellsOf.cons rfl)) (by kernel_rfl) rfl rfl rfl ?_; intro b65
                  refine ⟨(Held.mk' (by repeat (first | exact SubL.refl | refine SubL.cons (by repeat (first | assumption | exact mS | apply mT)) ?_ | refine SubL.skip ?_)) (by repeat (first | exact OwnL.refl | apply OwnL.take (by repeat (first | exact Take.head _ | apply Take.tail)) | apply OwnL.drop))), ?_⟩
                  refine WD.one 1 rfl (by kernel_rfl) rfl ?_
                  refine OpW.rd rfl rfl (Rd.row1 (b := b10) (off := 1) (u := pv) rfl C28 rfl (by repeat (first | assumption | exact mS | apply mT)) rfl) ?_
                  refine ⟨(Held.mk' (by repeat (first | exact SubL.refl | refine SubL.cons (by repeat (first | assumption | exact mS | apply mT)) ?_ | refine SubL.skip ?_)) (by repeat (first | exact OwnL.refl | apply OwnL.take (by repeat (first | exact Take.head _ | apply Take.tail)) | apply OwnL.drop))), ?_⟩
                  refine WD.one 18 rfl (by kernel_rfl) rfl ?_
                  refine OpW.appendRow (enc := SL.one vs) rfl S28 rfl rfl (by repeat (first | assumption | exact Take.head _ | apply Take.tail)) (by repeat (first | assumption | exact Take.head _ | apply Take.tail)) [nm (up (big back i (min qs.length 16)) p)] rfl (by rfl) rfl (by intro x; first | rfl | (cases x; rfl) | (rcases x with ⟨_, _, _⟩; rfl) | (rcases x with ⟨_, _, _, _⟩; rfl)) (by intro x; first | rfl | (cases x; rfl) | (rcases x with ⟨_, _, _⟩; rfl) | (rcases x with ⟨_, _, _, _⟩; rfl)) (by first | assumption | exact ⟨by simp only [maxLen, List.length_append, List.length_nil, List.length_cons, List.length_drop, List.length_take, List.length_map]; omega, by first | omega | (simp only [List.length_append, List.length_nil, List.length_cons, List.length_drop, List.length_take, List.length_map]; omega)⟩) rfl rfl ?_; intro v66 hv66
                  refine ⟨(Held.mk' (by repeat (first | exact SubL.refl | refine SubL.cons (by repeat (first | assumption | exact mS | apply mT)) ?_ | refine SubL.skip ?_)) (by repeat (first | exact OwnL.refl | apply OwnL.take (by repeat (first | exact Take.head _ | apply Take.tail)) | apply OwnL.drop))), ?_⟩
                  refine WD.take 19 rfl (by kernel_rfl) (Held.mk' (by repeat (first | exact SubL.refl | refine SubL.cons (by repeat (first | assumption | exact mS | apply mT)) ?_ | refine SubL.skip ?_)) (by repeat (first | exact OwnL.refl | apply OwnL.take (by repeat (first | exact Take.head _ | apply Take.tail)) | apply OwnL.drop))) rfl rfl rfl ((by first | exact Rd.field rfl F31_1 rfl rfl | exact Rd.fieldE rfl F31_1 rfl (by repeat (first | assumption | exact mS | apply mT)) (by omega) | exact Rd.fieldA rfl F31_1 rfl (by repeat (first | assumption | exact mS | apply mT)) (by omega))) ?_
                  refine WD.one 20 rfl (by kernel_rfl) rfl ?_
                  refine OpW.store1 rfl Z28 rfl rfl (by first | exact ⟨rfl, rfl⟩ | assumption) (by repeat (first | assumption | exact Take.head _ | apply Take.tail)) (by first | (simp; done) | omega | exact of_decide_eq_true rfl | (simp only [List.length_append, List.length_replicate, List.length_map, List.length_set]; omega)) rfl ?_
                  refine ⟨(Held.mk' (by repeat (first | exact SubL.refl | refine SubL.cons (by repeat (first | assumption | exact mS | apply mT)) ?_ | refine SubL.skip ?_)) (by repeat (first | exact OwnL.refl | apply OwnL.take (by repeat (first | exact Take.head _ | apply Take.tail)) | apply OwnL.drop))), ?_⟩
                  refine WD.done (by kernel_rfl) ?_
                  refine blockQ.normal ?_
                  refine thenQ.normal ?_
                  refine WC.region ?_
                  refine WL.rd rfl rfl rfl (Rd.move rfl rfl) ?_
                  refine WL.rd rfl rfl rfl (Rd.add rfl rfl rfl (by omega)) ?_
                  refine WL.rd rfl rfl rfl (Rd.assign rfl rfl) ?_
                  refine WL.nil ?_
                  first
                    | exact loopQ2.mk (k + 1) v66 ⟨by omega, hv66⟩ (by omega) (by repeat (first | exact Sub.nil | refine Sub.cons rfl (by first | rfl | (congr 1; omega) | assumption) ?_)) (fun w h => by rw [psTo_next hM0 (by omega), hp]; exact (fun w h => OwnL.sat (by repeat (first | exact OwnL.refl | apply OwnL.take (by repeat (first | exact Take.head _ | apply Take.tail)) | apply OwnL.drop)) w (h.thin (SubL.mem (by repeat (first | exact SubL.refl | refine SubL.cons (by repeat (first | assumption | exact mS | apply mT)) ?_ | refine SubL.skip ?_))))) w h)
                    | exact loopQ2.mk (k + 1) pv ⟨by omega, j2⟩ (by omega) (by repeat (first | exact Sub.nil | refine Sub.cons rfl (by first | rfl | (congr 1; omega) | assumption) ?_)) (fun w h => by rw [psTo_z (k := k + 1) (by omega)]; rw [psTo_z (k := k) (by omega)] at h; exact (fun w h => OwnL.sat (by repeat (first | exact OwnL.refl | apply OwnL.take (by repeat (first | exact Take.head _ | apply Take.tail)) | apply OwnL.drop)) w (h.thin (SubL.mem (by repeat (first | exact SubL.refl | refine SubL.cons (by repeat (first | assumption | exact mS | apply mT)) ?_ | refine SubL.skip ?_))))) w h)
            · skip
              refine WC.skip ?_
              refine blockQ.normal ?_
              refine thenQ.normal ?_
              refine WC.region ?_
              refine WL.rd rfl rfl rfl (Rd.move rfl rfl) ?_
              refine WL.rd rfl rfl rfl (Rd.add rfl rfl rfl (by omega)) ?_
              refine WL.rd rfl rfl rfl (Rd.assign rfl rfl) ?_
              refine WL.nil ?_
              first
                | exact loopQ2.mk (k + 1) v66 ⟨by omega, hv66⟩ (by omega) (by repeat (first | exact Sub.nil | refine Sub.cons rfl (by first | rfl | (congr 1; omega) | assumption) ?_)) (fun w h => by rw [psTo_next hM0 (by omega), hp]; exact (fun w h => OwnL.sat (by repeat (first | exact OwnL.refl | apply OwnL.take (by repeat (first | exact Take.head _ | apply Take.tail)) | apply OwnL.drop)) w (h.thin (SubL.mem (by repeat (first | exact SubL.refl | refine SubL.cons (by repeat (first | assumption | exact mS | apply mT)) ?_ | refine SubL.skip ?_))))) w h)
                | exact loopQ2.mk (k + 1) pv ⟨by omega, j2⟩ (by omega) (by repeat (first | exact Sub.nil | refine Sub.cons rfl (by first | rfl | (congr 1; omega) | assumption) ?_)) (fun w h => by rw [psTo_z (k := k + 1) (by omega)]; rw [psTo_z (k := k) (by omega)] at h; exact (fun w h => OwnL.sat (by repeat (first | exact OwnL.refl | apply OwnL.take (by repeat (first | exact Take.head _ | apply Take.tail)) | apply OwnL.drop)) w (h.thin (SubL.mem (by repeat (first | exact SubL.refl | refine SubL.cons (by repeat (first | assumption | exact mS | apply mT)) ?_ | refine SubL.skip ?_))))) w h)
        · skip
          obtain rfl : k = min qs[i]!.1.2.length 5 := by omega
          have hpl := psTo_len (big back i (min qs.length 16)) (min qs[i]!.1.2.length 5) qs[i]!.1.2
          have hpol : (psOf (big back i (min qs.length 16)) (qs[i]!.2.2 && !back) qs[i]!.1.2).length ≤ 6 := by
            unfold psOf
            rw [List.length_append]
            split <;> simp only [List.length_singleton, List.length_nil] <;> omega
          refine WC.exit ?_
          refine thenQ.exit ?_
          refine loopQ2.exit ?_
          refine blockQ.exit ?_
          refine thenQ.normal ?_
          refine WC.seq ?_
          refine WC.pick [0, 1, 6, 7, 8, 9, 10] (by repeat (first | exact Pick.nil | apply Pick.cons rfl)) ?_
          refine WC.val 76 (.bool (decide ((qs[i]!.2.2 && !back) = true))) ?_ ?_
          · skip
            refine WC.region ?_
            refine WL.rd rfl rfl rfl (Rd.move rfl rfl) ?_
            refine WL.rd rfl rfl rfl (Rd.move rfl rfl) ?_
            refine WL.rd rfl rfl rfl (Rd.idx (enc := encQ) (xs := qs) (size := 3) (k := i) rfl S22 rfl rfl rfl hl' hiq) ?_
            refine WL.rd rfl rfl rfl (Rd.fieldE rfl F56_2 rfl hl' (by omega)) ?_
            refine WL.rd rfl rfl rfl (Rd.getF (enc := encQ) (size := 3) (xs := qs) (k := i) (f := 2) (a := qs[i]!) (u := .bool qs[i]!.2.2) rfl C4 rfl hl' (fun _ => rfl) (by omega) (get!_of_lt hiq) rfl) ?_
            refine WL.say 72 (u := .bool (decide (qs[i]!.2.2 = true))) rfl (vbl_dec _) ?_
            refine WL.rd rfl rfl rfl (Rd.move rfl rfl) ?_
            refine WL.case 73 rfl (fun hg73 => ?_) (fun hg73 => ?_)
            · skip
              refine WL.rd_yes rfl rfl rfl rfl rfl rfl (Rd.move rfl rfl) ?_
              refine WL.rd_yes rfl rfl rfl rfl rfl rfl ((by first | exact Rd.notd rfl rfl | exact Rd.not rfl rfl)) ?_
              refine WL.say 75 (u := .bool (decide (¬ back = true))) rfl (by cases back <;> rfl) ?_
              refine WL.rd rfl rfl rfl (Rd.pick_t rfl rfl rfl) ?_
              refine WL.nil ?_
              exact ⟨by repeat (first | exact Sub.nil | refine Sub.cons rfl (by first | rfl | (first | exact vb (by rw [hg73, Bool.true_and]; simp) | exact vb_f (by rw [Bool.eq_false_iff.2 hg73, Bool.false_and]; simp))) ?_), by first | exact (fun _ h => h.thin (SubL.mem (by repeat (first | exact SubL.refl | refine SubL.cons (by repeat (first | assumption | exact mS | apply mT)) ?_ | refine SubL.skip ?_)))) | exact (fun w h => OwnL.sat (by repeat (first | exact OwnL.refl | apply OwnL.take (by repeat (first | exact Take.head _ | apply Take.tail)) | apply OwnL.drop)) w (h.thin (SubL.mem (by repeat (first | exact SubL.refl | refine SubL.cons (by repeat (first | assumption | exact mS | apply mT)) ?_ | refine SubL.skip ?_)))))⟩
            · skip
              refine WL.no rfl rfl rfl rfl rfl rfl ?_
              refine WL.no rfl rfl rfl rfl rfl rfl ?_
              refine WL.rd rfl rfl rfl (Rd.pick_f rfl rfl rfl) ?_
              refine WL.nil ?_
              exact ⟨by repeat (first | exact Sub.nil | refine Sub.cons rfl (by first | rfl | (first | exact vb (by rw [hg73, Bool.true_and]; simp) | exact vb_f (by rw [Bool.eq_false_iff.2 hg73, Bool.false_and]; simp))) ?_), by first | exact (fun _ h => h.thin (SubL.mem (by repeat (first | exact SubL.refl | refine SubL.cons (by repeat (first | assumption | exact mS | apply mT)) ?_ | refine SubL.skip ?_)))) | exact (fun w h => OwnL.sat (by repeat (first | exact OwnL.refl | apply OwnL.take (by repeat (first | exact Take.head _ | apply Take.tail)) | apply OwnL.drop)) w (h.thin (SubL.mem (by repeat (first | exact SubL.refl | refine SubL.cons (by repeat (first | assumption | exact mS | apply mT)) ?_ | refine SubL.skip ?_)))))⟩
          · skip
            first | refine WC.ite rfl (fun hc5 => ?_) (fun hc5 => ?_) | refine WC.cond rfl (fun hc5 => ?_) (fun hc5 => ?_)
            · skip
              have hroom : Room ((psTo (big back i (min qs.length 16)) (min qs[i]!.1.2.length 5) qs[i]!.1.2).length + 1) 16 := room1 (by omega)
              have hps : psTo (big back i (min qs.length 16)) (min qs[i]!.1.2.length 5) qs[i]!.1.2 ++ [[63]] = psOf (big back i (min qs.length 16)) (qs[i]!.2.2 && !back) qs[i]!.1.2 := by unfold psOf; rw [if_pos hc5]
              refine WC.region ?_
              refine WL.rd rfl rfl rfl ((by first | exact Rd.field rfl F31_1 rfl rfl | exact Rd.fieldE rfl F31_1 rfl (by repeat (first | assumption | exact mS | apply mT)) (by omega) | exact Rd.fieldA rfl F31_1 rfl (by repeat (first | assumption | exact mS | apply mT)) (by omega))) ?_
              refine WL.rd rfl rfl rfl ((by first | exact Rd.get rfl C28 rfl (by repeat (first | assumption | exact mS | apply mT)) (by first | assumption | rfl | exact get!_of_lt (by omega)) | exact Rd.getA rfl C28 rfl (by repeat (first | assumption | exact mS | apply mT)) (by first | assumption | rfl | exact get!_of_lt (by omega)) | exact Rd.row1 rfl C28 rfl (by repeat (first | assumption | exact mS | apply mT)) (by rfl) | exact Rd.getF rfl C28 rfl (by repeat (first | assumption | exact mS | apply mT)) (by intro x; first | rfl | (cases x; rfl) | (rcases x with ⟨_, _, _⟩; rfl) | (rcases x with ⟨_, _, _, _⟩; rfl)) rfl (by first | assumption | rfl | exact get!_of_lt (by omega)) (by rfl) | exact Rd.getFA rfl C28 rfl (by repeat (first | assumption | exact mS | apply mT)) (by intro x; first | rfl | (cases x; rfl) | (rcases x with ⟨_, _, _⟩; rfl) | (rcases x with ⟨_, _, _, _⟩; rfl)) rfl (by first | assumption | rfl | exact get!_of_lt (by omega)) (by rfl))) ?_
              refine WL.op rfl ?_
              refine OpW.buildSl (ps := [(0, _)]) rfl S28 (by repeat (first | exact Evs.nil | apply Evs.cons rfl)) rfl rfl (by repeat (first | exact CellsOf.nil | apply CellsOf.cons rfl)) (by kernel_rfl) rfl rfl rfl ?_; intro b79
              refine WL.op rfl ?_
              refine OpW.appendRow (enc := SL.one vs) rfl S28 rfl rfl (by repeat (first | assumption | exact Take.head _ | apply Take.tail)) (by repeat (first | assumption | exact Take.head _ | apply Take.tail)) [[63]] rfl (by rfl) rfl (by intro x; first | rfl | (cases x; rfl) | (rcases x with ⟨_, _, _⟩; rfl) | (rcases x with ⟨_, _, _, _⟩; rfl)) (by intro x; first | rfl | (cases x; rfl) | (rcases x with ⟨_, _, _⟩; rfl) | (rcases x with ⟨_, _, _, _⟩; rfl)) (by first | assumption | exact ⟨by simp only [maxLen, List.length_append, List.length_nil, List.length_cons, List.length_drop, List.length_take, List.length_map]; omega, by first | omega | (simp only [List.length_append, List.length_nil, List.length_cons, List.length_drop, List.length_take, List.length_map]; omega)⟩) rfl rfl ?_; intro v80 hv80
              refine WL.rd rfl rfl rfl ((by first | exact Rd.field rfl F31_1 rfl rfl | exact Rd.fieldE rfl F31_1 rfl (by repeat (first | assumption | exact mS | apply mT)) (by omega) | exact Rd.fieldA rfl F31_1 rfl (by repeat (first | assumption | exact mS | apply mT)) (by omega))) ?_
              refine WL.op rfl ?_
              refine OpW.store1 rfl Z28 rfl rfl (by first | exact ⟨rfl, rfl⟩ | assumption) (by repeat (first | assumption | exact Take.head _ | apply Take.tail)) (by first | (simp; done) | omega | exact of_decide_eq_true rfl | (simp only [List.length_append, List.length_replicate, List.length_map, List.length_set]; omega)) rfl ?_
              refine WL.nil ?_
              refine thenQ.normal ?_
              have hna := i2.1
              have hnb := i3.1
              have hrooma : Room (na.length + 1) 48 := room1 (by omega)
              have hroomb : Room (nb.length + 1) 48 := room1 (by omega)
              refine WC.heap (fun w h => by rw [hps] at h; exact Sat.shareA (xs := psOf (big back i (min qs.length 16)) (qs[i]!.2.2 && !back) qs[i]!.1.2) (by repeat (first | assumption | exact Take.head _ | apply Take.tail)) h) ?_
              refine WC.know (p := SlE (SL.one vs) _ (psOf (big back i (min qs.length 16)) (qs[i]!.2.2 && !back) qs[i]!.1.2)) List.mem_cons_self (fun w h => h.slv) ?_
              rintro ⟨d, rfl⟩
              refine WC.drawn (rowC b10 31 [vs (nm i), slv d, vi qs[i]!.2.1] :: O) 18 rfl mixed ?_
              refine WD.take 0 rfl (by kernel_rfl) (Held.mk' (by repeat (first | exact SubL.refl | refine SubL.cons (by repeat (first | assumption | exact mS | apply mT)) ?_ | refine SubL.skip ?_)) (by repeat (first | exact OwnL.refl | apply OwnL.take (by repeat (first | exact Take.head _ | apply Take.tail)) | apply OwnL.drop))) rfl rfl rfl (Rd.move rfl rfl) ?_
              refine WD.take 1 rfl (by kernel_rfl) (Held.mk' (by repeat (first | exact SubL.refl | refine SubL.cons (by repeat (first | assumption | exact mS | apply mT)) ?_ | refine SubL.skip ?_)) (by repeat (first | exact OwnL.refl | apply OwnL.take (by repeat (first | exact Take.head _ | apply Take.tail)) | apply OwnL.drop))) rfl rfl rfl ((by first | exact Rd.field rfl F31_0 rfl rfl | exact Rd.fieldE rfl F31_0 rfl (by repeat (first | assumption | exact mS | apply mT)) (by omega) | exact Rd.fieldA rfl F31_0 rfl (by repeat (first | assumption | exact mS | apply mT)) (by omega))) ?_
              refine WD.take 2 rfl (by kernel_rfl) (Held.mk' (by repeat (first | exact SubL.refl | refine SubL.cons (by repeat (first | assumption | exact mS | apply mT)) ?_ | refine SubL.skip ?_)) (by repeat (first | exact OwnL.refl | apply OwnL.take (by repeat (first | exact Take.head _ | apply Take.tail)) | apply OwnL.drop))) rfl rfl rfl (Rd.row1 (b := b10) (off := 0) (u := vs (nm i)) rfl C9 rfl (by repeat (first | assumption | exact mS | apply mT)) rfl) ?_
              refine WD.take 4 rfl (by kernel_rfl) (Held.mk' (by repeat (first | exact SubL.refl | refine SubL.cons (by repeat (first | assumption | exact mS | apply mT)) ?_ | refine SubL.skip ?_)) (by repeat (first | exact OwnL.refl | apply OwnL.take (by repeat (first | exact Take.head _ | apply Take.tail)) | apply OwnL.drop))) rfl rfl rfl ((by first | exact Rd.field rfl F31_1 rfl rfl | exact Rd.fieldE rfl F31_1 rfl (by repeat (first | assumption | exact mS | apply mT)) (by omega) | exact Rd.fieldA rfl F31_1 rfl (by repeat (first | assumption | exact mS | apply mT)) (by omega))) ?_
              refine WD.take 5 rfl (by kernel_rfl) (Held.mk' (by repeat (first | exact SubL.refl | refine SubL.cons (by repeat (first | assumption | exact mS | apply mT)) ?_ | refine SubL.skip ?_)) (by repeat (first | exact OwnL.refl | apply OwnL.take (by repeat (first | exact Take.head _ | apply Take.tail)) | apply OwnL.drop))) rfl rfl rfl (Rd.row1 (b := b10) (off := 1) (u := slv d) rfl C28 rfl (by repeat (first | assumption | exact mS | apply mT)) rfl) ?_
              refine WD.take 7 rfl (by kernel_rfl) (Held.mk' (by repeat (first | exact SubL.refl | refine SubL.cons (by repeat (first | assumption | exact mS | apply mT)) ?_ | refine SubL.skip ?_)) (by repeat (first | exact OwnL.refl | apply OwnL.take (by repeat (first | exact Take.head _ | apply Take.tail)) | apply OwnL.drop))) rfl rfl rfl ((by first | exact Rd.field rfl F31_2 rfl rfl | exact Rd.fieldE rfl F31_2 rfl (by repeat (first | assumption | exact mS | apply mT)) (by omega) | exact Rd.fieldA rfl F31_2 rfl (by repeat (first | assumption | exact mS | apply mT)) (by omega))) ?_
              refine WD.take 8 rfl (by kernel_rfl) (Held.mk' (by repeat (first | exact SubL.refl | refine SubL.cons (by repeat (first | assumption | exact mS | apply mT)) ?_ | refine SubL.skip ?_)) (by repeat (first | exact OwnL.refl | apply OwnL.take (by repeat (first | exact Take.head _ | apply Take.tail)) | apply OwnL.drop))) rfl rfl rfl (Rd.row1 (b := b10) (off := 2) (u := vi qs[i]!.2.1) rfl C3 rfl (by repeat (first | assumption | exact mS | apply mT)) rfl) ?_
              refine WD.take 12 rfl (by kernel_rfl) (Held.mk' (by repeat (first | exact SubL.refl | refine SubL.cons (by repeat (first | assumption | exact mS | apply mT)) ?_ | refine SubL.skip ?_)) (by repeat (first | exact OwnL.refl | apply OwnL.take (by repeat (first | exact Take.head _ | apply Take.tail)) | apply OwnL.drop))) rfl rfl rfl (Rd.move rfl rfl) ?_
              refine WD.take 13 rfl (by kernel_rfl) (Held.mk' (by repeat (first | exact SubL.refl | refine SubL.cons (by repeat (first | assumption | exact mS | apply mT)) ?_ | refine SubL.skip ?_)) (by repeat (first | exact OwnL.refl | apply OwnL.take (by repeat (first | exact Take.head _ | apply Take.tail)) | apply OwnL.drop))) rfl rfl rfl ((by first | exact Rd.rowS rfl G31 rfl (by repeat (first | assumption | exact mS | apply mT)) (by repeat (first | exact NF.nil | apply NF.cons)) rfl | exact Rd.getS rfl G31 rfl (by repeat (first | assumption | exact mS | apply mT)) (by intro x; first | rfl | (cases x; rfl) | (rcases x with ⟨_, _, _⟩; rfl) | (rcases x with ⟨_, _, _, _⟩; rfl)) (by first | assumption | rfl | exact get!_of_lt (by omega)) (by repeat (first | exact NF.nil | apply NF.cons)) | exact Rd.getSA rfl G31 rfl (by repeat (first | assumption | exact mS | apply mT)) (by intro x; first | rfl | (cases x; rfl) | (rcases x with ⟨_, _, _⟩; rfl) | (rcases x with ⟨_, _, _, _⟩; rfl)) (by first | assumption | rfl | exact get!_of_lt (by omega)) (by repeat (first | exact NF.nil | apply NF.cons)))) ?_
              refine WD.two 3 14 rfl rfl (by kernel_rfl) rfl rfl ?_ ?_
              · skip
                refine OpW.buildSl (ps := []) rfl S28 (by repeat (first | exact Evs.nil | apply Evs.cons rfl)) rfl rfl (by repeat (first | exact CellsOf.nil | apply CellsOf.cons rfl)) (by kernel_rfl) rfl rfl rfl ?_; intro b85
                refine ⟨(Held.mk' (by repeat (first | exact SubL.refl | refine SubL.cons (by repeat (first | assumption | exact mS | apply mT)) ?_ | refine SubL.skip ?_)) (by repeat (first | exact OwnL.refl | apply OwnL.take (by repeat (first | exact Take.head _ | apply Take.tail)) | apply OwnL.drop))), ?_⟩
                refine WD.heap (fun w h => Sat.accRow (enc := SL.one vs) (size := 1) (xs := ([] : List T)) (by repeat (first | assumption | exact Take.head _ | apply Take.tail)) rfl rfl (fun x => rfl) (by decide) h) ?_
                refine WD.two 6 14 rfl rfl (by kernel_rfl) rfl rfl ?_ ?_
                · skip
                  refine OpW.appendE (enc := SL.one vs) (xs := ([] : List T)) (ys := psOf (big back i (min qs.length 16)) (qs[i]!.2.2 && !back) qs[i]!.1.2) rfl S28 Try.underlying28 rfl rfl (by repeat (first | assumption | exact Take.head _ | apply Take.tail)) (by repeat (first | assumption | exact mS | apply mT)) (by intro x; first | rfl | (cases x; rfl) | (rcases x with ⟨_, _, _⟩; rfl) | (rcases x with ⟨_, _, _, _⟩; rfl)) (by intro x; first | rfl | (cases x; rfl) | (rcases x with ⟨_, _, _⟩; rfl) | (rcases x with ⟨_, _, _, _⟩; rfl)) ⟨by show _ ≤ 9223372036854775807; simp only [List.length_nil]; omega, by simp only [List.length_nil]; omega⟩ rfl rfl ?_; intro v88 hv88
                  refine ⟨(Held.mk' (by repeat (first | exact SubL.refl | refine SubL.cons (by repeat (first | assumption | exact mS | apply mT)) ?_ | refine SubL.skip ?_)) (by repeat (first | exact OwnL.refl | apply OwnL.take (by repeat (first | exact Take.head _ | apply Take.tail)) | apply OwnL.drop))), ?_⟩
                  refine WD.heap (fun w h => Sat.shareA (xs := [] ++ psOf (big back i (min qs.length 16)) (qs[i]!.2.2 && !back) qs[i]!.1.2) (by repeat (first | assumption | exact Take.head _ | apply Take.tail)) h) ?_
                  refine WD.know (p := SlE (SL.one vs) v88 ([] ++ psOf (big back i (min qs.length 16)) (qs[i]!.2.2 && !back) qs[i]!.1.2)) List.mem_cons_self (fun w h => h.slv) ?_
                  rintro ⟨d2, rfl⟩
                  refine WD.take 9 rfl (by kernel_rfl) (Held.mk' (by repeat (first | exact SubL.refl | refine SubL.cons (by repeat (first | assumption | exact mS | apply mT)) ?_ | refine SubL.skip ?_)) (by repeat (first | exact OwnL.refl | apply OwnL.take (by repeat (first | exact Take.head _ | apply Take.tail)) | apply OwnL.drop))) rfl rfl rfl (Rd.buildN (ps := [(0, _), (1, _), (2, _)]) rfl Bs30 I30 rfl (by repeat (first | exact Evs.nil | apply Evs.cons rfl)) (by repeat (first | exact CellsOf.nil | apply CellsOf.cons rfl)) (by apply NFo.mk; repeat (first | exact NF.nil | apply NF.cons))) ?_
                  refine WD.two 10 14 rfl rfl (by kernel_rfl) rfl rfl ?_ ?_
                  · skip
                    refine OpW.buildSl (ps := [(0, _)]) rfl S24 (by repeat (first | exact Evs.nil | apply Evs.cons rfl)) rfl rfl (by repeat (first | exact CellsOf.nil | apply CellsOf.cons rfl)) (by kernel_rfl) rfl rfl rfl ?_; intro b92
                    refine ⟨(Held.mk' (by repeat (first | exact SubL.refl | refine SubL.cons (by repeat (first | assumption | exact mS | apply mT)) ?_ | refine SubL.skip ?_)) (by repeat (first | exact OwnL.refl | apply OwnL.take (by repeat (first | exact Take.head _ | apply Take.tail)) | apply OwnL.drop))), ?_⟩
                    refine WD.two 11 14 rfl rfl (by kernel_rfl) rfl rfl ?_ ?_
                    · skip
                      refine OpW.appendRow (enc := encN) rfl S24 rfl rfl (by repeat (first | assumption | exact Take.head _ | apply Take.tail)) (by repeat (first | assumption | exact Take.head _ | apply Take.tail)) [(nm i, d2, qs[i]!.2.1)] rfl (by rfl) rfl (by intro x; first | rfl | (cases x; rfl) | (rcases x with ⟨_, _, _⟩; rfl) | (rcases x with ⟨_, _, _, _⟩; rfl)) (by intro x; first | rfl | (cases x; rfl) | (rcases x with ⟨_, _, _⟩; rfl) | (rcases x with ⟨_, _, _, _⟩; rfl)) (by first | assumption | exact ⟨by simp only [maxLen, List.length_append, List.length_nil, List.length_cons, List.length_drop, List.length_take, List.length_map]; omega, by first | omega | (simp only [List.length_append, List.length_nil, List.length_cons, List.length_drop, List.length_take, List.length_map]; omega)⟩) rfl rfl ?_; intro v93 hv93
                      refine ⟨(Held.mk' (by repeat (first | exact SubL.refl | refine SubL.cons (by repeat (first | assumption | exact mS | apply mT)) ?_ | refine SubL.skip ?_)) (by repeat (first | exact OwnL.refl | apply OwnL.take (by repeat (first | exact Take.head _ | apply Take.tail)) | apply OwnL.drop))), ?_⟩
                      refine WD.one 14 rfl (by kernel_rfl) rfl ?_
                      refine OpW.buildSl (ps := [(0, _)]) rfl S25 (by repeat (first | exact Evs.nil | apply Evs.cons rfl)) rfl rfl (by repeat (first | exact CellsOf.nil | apply CellsOf.cons rfl)) (by kernel_rfl) rfl rfl rfl ?_; intro b96
                      refine ⟨(Held.mk' (by repeat (first | exact SubL.refl | refine SubL.cons (by repeat (first | assumption | exact mS | apply mT)) ?_ | refine SubL.skip ?_)) (by repeat (first | exact OwnL.refl | apply OwnL.take (by repeat (first | exact Take.head _ | apply Take.tail)) | apply OwnL.drop))), ?_⟩
                      refine WD.one 15 rfl (by kernel_rfl) rfl ?_
                      refine OpW.appendRow (enc := encN) rfl S25 rfl rfl (by repeat (first | assumption | exact Take.head _ | apply Take.tail)) (by repeat (first | assumption | exact Take.head _ | apply Take.tail)) [(nm i, d, qs[i]!.2.1)] rfl (by rfl) rfl (by intro x; first | rfl | (cases x; rfl) | (rcases x with ⟨_, _, _⟩; rfl) | (rcases x with ⟨_, _, _, _⟩; rfl)) (by intro x; first | rfl | (cases x; rfl) | (rcases x with ⟨_, _, _⟩; rfl) | (rcases x with ⟨_, _, _, _⟩; rfl)) (by first | assumption | exact ⟨by simp only [maxLen, List.length_append, List.length_nil, List.length_cons, List.length_drop, List.length_take, List.length_map]; omega, by first | omega | (simp only [List.length_append, List.length_nil, List.length_cons, List.length_drop, List.length_take, List.length_map]; omega)⟩) rfl rfl ?_; intro v97 hv97
                      refine ⟨(Held.mk' (by repeat (first | exact SubL.refl | refine SubL.cons (by repeat (first | assumption | exact mS | apply mT)) ?_ | refine SubL.skip ?_)) (by repeat (first | exact OwnL.refl | apply OwnL.take (by repeat (first | exact Take.head _ | apply Take.tail)) | apply OwnL.drop))), ?_⟩
                      refine WD.take 16 rfl (by kernel_rfl) (Held.mk' (by repeat (first | exact SubL.refl | refine SubL.cons (by repeat (first | assumption | exact mS | apply mT)) ?_ | refine SubL.skip ?_)) (by repeat (first | exact OwnL.refl | apply OwnL.take (by repeat (first | exact Take.head _ | apply Take.tail)) | apply OwnL.drop))) rfl rfl rfl (Rd.assign rfl rfl) ?_
                      refine WD.take 17 rfl (by kernel_rfl) (Held.mk' (by repeat (first | exact SubL.refl | refine SubL.cons (by repeat (first | assumption | exact mS | apply mT)) ?_ | refine SubL.skip ?_)) (by repeat (first | exact OwnL.refl | apply OwnL.take (by repeat (first | exact Take.head _ | apply Take.tail)) | apply OwnL.drop))) rfl rfl rfl (Rd.assign rfl rfl) ?_
                      refine WD.done (by kernel_rfl) ?_
                      refine blockQ.normal ?_
                      refine thenQ.normal ?_
                      refine WC.region ?_
                      refine WL.rd rfl rfl rfl (Rd.move rfl rfl) ?_
                      refine WL.rd rfl rfl rfl (Rd.add rfl rfl rfl (by omega)) ?_
                      refine WL.rd rfl rfl rfl (Rd.assign rfl rfl) ?_
                      refine WL.nil ?_
                      exact loopQ5.mk (i + 1) (na ++ [(nm i, d2, qs[i]!.2.1)]) (nb ++ [(nm i, d, qs[i]!.2.1)]) v93 v97 ⟨by omega, i2.next, i3.next⟩ (by omega) (by repeat (first | exact Sub.nil | refine Sub.cons rfl (by first | rfl | (congr 1; omega) | assumption) ?_)) (fun w h => by
                      rw [mkTo_next]
                      have h3 := h.derive (q := ndsP (nb ++ [(nm i, d, qs[i]!.2.1)]) (mkTo back qs i ++ [ndAt (min qs.length 16) back i qs[i]!])) (fun w hw => ndsP_next (by rw [i3.1, mkTo_len]) (hw (ndsP nb (mkTo back qs i)) (by repeat (first | assumption | exact mS | apply mT))) (hw (SlE (SL.one vs) (slv d) (psOf (big back i (min qs.length 16)) (qs[i]!.2.2 && !back) qs[i]!.1.2)) (by repeat (first | assumption | exact mS | apply mT))))
                      have h4 := h3.derive (q := ndsP (na ++ [(nm i, d2, qs[i]!.2.1)]) (mkTo back qs i ++ [ndAt (min qs.length 16) back i qs[i]!])) (fun w hw => ndsP_next (by rw [i2.1, mkTo_len]) (hw (ndsP na (mkTo back qs i)) (by repeat (first | assumption | exact mS | apply mT))) (hw (SlE (SL.one vs) (slv d2) (psOf (big back i (min qs.length 16)) (qs[i]!.2.2 && !back) qs[i]!.1.2)) (by repeat (first | assumption | exact mS | apply mT))))
                      exact (fun w h => OwnL.sat (by repeat (first | exact OwnL.refl | apply OwnL.take (by repeat (first | exact Take.head _ | apply Take.tail)) | apply OwnL.drop)) w (h.thin (SubL.mem (by repeat (first | exact SubL.refl | refine SubL.cons (by repeat (first | assumption | exact mS | apply mT)) ?_ | refine SubL.skip ?_))))) w h4)
                    · skip
                      refine OpW.buildSl (ps := [(0, _)]) rfl S25 (by repeat (first | exact Evs.nil | apply Evs.cons rfl)) rfl rfl (by repeat (first | exact CellsOf.nil | apply CellsOf.cons rfl)) (by kernel_rfl) rfl rfl rfl ?_; intro b96
                      refine ⟨(Held.mk' (by repeat (first | exact SubL.refl | refine SubL.cons (by repeat (first | assumption | exact mS | apply mT)) ?_ | refine SubL.skip ?_)) (by repeat (first | exact OwnL.refl | apply OwnL.take (by repeat (first | exact Take.head _ | apply Take.tail)) | apply OwnL.drop))), ?_⟩
                      refine WD.one 11 rfl (by kernel_rfl) rfl ?_
                      refine OpW.appendRow (enc := encN) rfl S24 rfl rfl (by repeat (first | assumption | exact Take.head _ | apply Take.tail)) (by repeat (first | assumption | exact Take.head _ | apply Take.tail)) [(nm i, d2, qs[i]!.2.1)] rfl (by rfl) rfl (by intro x; first | rfl | (cases x; rfl) | (rcases x with ⟨_, _, _⟩; rfl) | (rcases x with ⟨_, _, _, _⟩; rfl)) (by intro x; first | rfl | (cases x; rfl) | (rcases x with ⟨_, _, _⟩; rfl) | (rcases x with ⟨_, _, _, _⟩; rfl)) (by first | assumption | exact ⟨by simp only [maxLen, List.length_append, List.length_nil, List.length_cons, List.length_drop, List.length_take, List.length_map]; omega, by first | omega | (simp only [List.length_append, List.length_nil, List.length_cons, List.length_drop, List.length_take, List.length_map]; omega)⟩) rfl rfl ?_; intro v93 hv93
                      refine ⟨(Held.mk' (by repeat (first | exact SubL.refl | refine SubL.cons (by repeat (first | assumption | exact mS | apply mT)) ?_ | refine SubL.skip ?_)) (by repeat (first | exact OwnL.refl | apply OwnL.take (by repeat (first | exact Take.head _ | apply Take.tail)) | apply OwnL.drop))), ?_⟩
                      refine WD.one 15 rfl (by kernel_rfl) rfl ?_
                      refine OpW.appendRow (enc := encN) rfl S25 rfl rfl (by repeat (first | assumption | exact Take.head _ | apply Take.tail)) (by repeat (first | assumption | exact Take.head _ | apply Take.tail)) [(nm i, d, qs[i]!.2.1)] rfl (by rfl) rfl (by intro x; first | rfl | (cases x; rfl) | (rcases x with ⟨_, _, _⟩; rfl) | (rcases x with ⟨_, _, _, _⟩; rfl)) (by intro x; first | rfl | (cases x; rfl) | (rcases x with ⟨_, _, _⟩; rfl) | (rcases x with ⟨_, _, _, _⟩; rfl)) (by first | assumption | exact ⟨by simp only [maxLen, List.length_append, List.length_nil, List.length_cons, List.length_drop, List.length_take, List.length_map]; omega, by first | omega | (simp only [List.length_append, List.length_nil, List.length_cons, List.length_drop, List.length_take, List.length_map]; omega)⟩) rfl rfl ?_; intro v97 hv97
                      refine ⟨(Held.mk' (by repeat (first | exact SubL.refl | refine SubL.cons (by repeat (first | assumption | exact mS | apply mT)) ?_ | refine SubL.skip ?_)) (by repeat (first | exact OwnL.refl | apply OwnL.take (by repeat (first | exact Take.head _ | apply Take.tail)) | apply OwnL.drop))), ?_⟩
                      refine WD.take 16 rfl (by kernel_rfl) (Held.mk' (by repeat (first | exact SubL.refl | refine SubL.cons (by repeat (first | assumption | exact mS | apply mT)) ?_ | refine SubL.skip ?_)) (by repeat (first | exact OwnL.refl | apply OwnL.take (by repeat (first | exact Take.head _ | apply Take.tail)) | apply OwnL.drop))) rfl rfl rfl (Rd.assign rfl rfl) ?_
                      refine WD.take 17 rfl (by kernel_rfl) (Held.mk' (by repeat (first | exact SubL.refl | refine SubL.cons (by repeat (first | assumption | exact mS | apply mT)) ?_ | refine SubL.skip ?_)) (by repeat (first | exact OwnL.refl | apply OwnL.take (by repeat (first | exact Take.head _ | apply Take.tail)) | apply OwnL.drop))) rfl rfl rfl (Rd.assign rfl rfl) ?_
                      refine WD.done (by kernel_rfl) ?_
                      refine blockQ.normal ?_
                      refine thenQ.normal ?_
                      refine WC.region ?_
                      refine WL.rd rfl rfl rfl (Rd.move rfl rfl) ?_
                      refine WL.rd rfl rfl rfl (Rd.add rfl rfl rfl (by omega)) ?_
                      refine WL.rd rfl rfl rfl (Rd.assign rfl rfl) ?_
                      refine WL.nil ?_
                      exact loopQ5.mk (i + 1) (na ++ [(nm i, d2, qs[i]!.2.1)]) (nb ++ [(nm i, d, qs[i]!.2.1)]) v93 v97 ⟨by omega, i2.next, i3.next⟩ (by omega) (by repeat (first | exact Sub.nil | refine Sub.cons rfl (by first | rfl | (congr 1; omega) | assumption) ?_)) (fun w h => by
                      rw [mkTo_next]
                      have h3 := h.derive (q := ndsP (nb ++ [(nm i, d, qs[i]!.2.1)]) (mkTo back qs i ++ [ndAt (min qs.length 16) back i qs[i]!])) (fun w hw => ndsP_next (by rw [i3.1, mkTo_len]) (hw (ndsP nb (mkTo back qs i)) (by repeat (first | assumption | exact mS | apply mT))) (hw (SlE (SL.one vs) (slv d) (psOf (big back i (min qs.length 16)) (qs[i]!.2.2 && !back) qs[i]!.1.2)) (by repeat (first | assumption | exact mS | apply mT))))
                      have h4 := h3.derive (q := ndsP (na ++ [(nm i, d2, qs[i]!.2.1)]) (mkTo back qs i ++ [ndAt (min qs.length 16) back i qs[i]!])) (fun w hw => ndsP_next (by rw [i2.1, mkTo_len]) (hw (ndsP na (mkTo back qs i)) (by repeat (first | assumption | exact mS | apply mT))) (hw (SlE (SL.one vs) (slv d2) (psOf (big back i (min qs.length 16)) (qs[i]!.2.2 && !back) qs[i]!.1.2)) (by repeat (first | assumption | exact mS | apply mT))))
                      exact (fun w h => OwnL.sat (by repeat (first | exact OwnL.refl | apply OwnL.take (by repeat (first | exact Take.head _ | apply Take.tail)) | apply OwnL.drop)) w (h.thin (SubL.mem (by repeat (first | exact SubL.refl | refine SubL.cons (by repeat (first | assumption | exact mS | apply mT)) ?_ | refine SubL.skip ?_))))) w h4)
                  · skip
                    refine OpW.buildSl (ps := [(0, _)]) rfl S25 (by repeat (first | exact Evs.nil | apply Evs.cons rfl)) rfl rfl (by repeat (first | exact CellsOf.nil | apply CellsOf.cons rfl)) (by kernel_rfl) rfl rfl rfl ?_; intro b96
                    refine ⟨(Held.mk' (by repeat (first | exact SubL.refl | refine SubL.cons (by repeat (first | assumption | exact mS | apply mT)) ?_ | refine SubL.skip ?_)) (by repeat (first | exact OwnL.refl | apply OwnL.take (by repeat (first | exact Take.head _ | apply Take.tail)) | apply OwnL.drop))), ?_⟩
                    refine WD.one 10 rfl (by kernel_rfl) rfl ?_
                    refine OpW.buildSl (ps := [(0, _)]) rfl S24 (by repeat (first | exact Evs.nil | apply Evs.cons rfl)) rfl rfl (by repeat (first | exact CellsOf.nil | apply CellsOf.cons rfl)) (by kernel_rfl) rfl rfl rfl ?_; intro b92
                    refine ⟨(Held.mk' (by repeat (first | exact SubL.refl | refine SubL.cons (by repeat (first | assumption | exact mS | apply mT)) ?_ | refine SubL.skip ?_)) (by repeat (first | exact OwnL.refl | apply OwnL.take (by repeat (first | exact Take.head _ | apply Take.tail)) | apply OwnL.drop))), ?_⟩
                    refine WD.one 11 rfl (by kernel_rfl) rfl ?_
                    refine OpW.appendRow (enc := encN) rfl S24 rfl rfl (by repeat (first | assumption | exact Take.head _ | apply Take.tail)) (by repeat (first | assumption | exact Take.head _ | apply Take.tail)) [(nm i, d2, qs[i]!.2.1)] rfl (by rfl) rfl (by intro x; first | rfl | (cases x; rfl) | (rcases x with ⟨_, _, _⟩; rfl) | (rcases x with ⟨_, _, _, _⟩; rfl)) (by intro x; first | rfl | (cases x; rfl) | (rcases x with ⟨_, _, _⟩; rfl) | (rcases x with ⟨_, _, _, _⟩; rfl)) (by first | assumption | exact ⟨by simp only [maxLen, List.length_append, List.length_nil, List.length_cons, List.length_drop, List.length_take, List.length_map]; omega, by first | omega | (simp only [List.length_append, List.length_nil, List.length_cons, List.length_drop, List.length_take, List.length_map]; omega)⟩) rfl rfl ?_; intro v93 hv93
                    refine ⟨(Held.mk' (by repeat (first | exact SubL.refl | refine SubL.cons (by repeat (first | assumption | exact mS | apply mT)) ?_ | refine SubL.skip ?_)) (by repeat (first | exact OwnL.refl | apply OwnL.take (by repeat (first | exact Take.head _ | apply Take.tail)) | apply OwnL.drop))), ?_⟩
                    refine WD.one 15 rfl (by kernel_rfl) rfl ?_
                    refine OpW.appendRow (enc := encN) rfl S25 rfl rfl (by repeat (first | assumption | exact Take.head _ | apply Take.tail)) (by repeat (first | assumption | exact Take.head _ | apply Take.tail)) [(nm i, d, qs[i]!.2.1)] rfl (by rfl) rfl (by intro x; first | rfl | (cases x; rfl) | (rcases x with ⟨_, _, _⟩; rfl) | (rcases x with ⟨_, _, _, _⟩; rfl)) (by intro x; first | rfl | (cases x; rfl) | (rcases x with ⟨_, _, _⟩; rfl) | (rcases x with ⟨_, _, _, _⟩; rfl)) (by first | assumption | exact ⟨by simp only [maxLen, List.length_append, List.length_nil, List.length_cons, List.length_drop, List.length_take, List.length_map]; omega, by first | omega | (simp only [List.length_append, List.length_nil, List.length_cons, List.length_drop, List.length_take, List.length_map]; omega)⟩) rfl rfl ?_; intro v97 hv97
                    refine ⟨(Held.mk' (by repeat (first | exact SubL.refl | refine SubL.cons (by repeat (first | assumption | exact mS | apply mT)) ?_ | refine SubL.skip ?_)) (by repeat (first | exact OwnL.refl | apply OwnL.take (by repeat (first | exact Take.head _ | apply Take.tail)) | apply OwnL.drop))), ?_⟩
                    refine WD.take 16 rfl (by kernel_rfl) (Held.mk' (by repeat (first | exact SubL.refl | refine SubL.cons (by repeat (first | assumption | exact mS | apply mT)) ?_ | refine SubL.skip ?_)) (by repeat (first | exact OwnL.refl | apply OwnL.take (by repeat (first | exact Take.head _ | apply Take.tail)) | apply OwnL.drop))) rfl rfl rfl (Rd.assign rfl rfl) ?_
                    refine WD.take 17 rfl (by kernel_rfl) (Held.mk' (by repeat (first | exact SubL.refl | refine SubL.cons (by repeat (first | assumption | exact mS | apply mT)) ?_ | refine SubL.skip ?_)) (by repeat (first | exact OwnL.refl | apply OwnL.take (by repeat (first | exact Take.head _ | apply Take.tail)) | apply OwnL.drop))) rfl rfl rfl (Rd.assign rfl rfl) ?_
                    refine WD.done (by kernel_rfl) ?_
                    refine blockQ.normal ?_
                    refine thenQ.normal ?_
                    refine WC.region ?_
                    refine WL.rd rfl rfl rfl (Rd.move rfl rfl) ?_
                    refine WL.rd rfl rfl rfl (Rd.add rfl rfl rfl (by omega)) ?_
                    refine WL.rd rfl rfl rfl (Rd.assign rfl rfl) ?_
                    refine WL.nil ?_
                    exact loopQ5.mk (i + 1) (na ++ [(nm i, d2, qs[i]!.2.1)]) (nb ++ [(nm i, d, qs[i]!.2.1)]) v93 v97 ⟨by omega, i2.next, i3.next⟩ (by omega) (by repeat (first | exact Sub.nil | refine Sub.cons rfl (by first | rfl | (congr 1; omega) | assumption) ?_)) (fun w h => by
                    rw [mkTo_next]
                    have h3 := h.derive (q := ndsP (nb ++ [(nm i, d, qs[i]!.2.1)]) (mkTo back qs i ++ [ndAt (min qs.length 16) back i qs[i]!])) (fun w hw => ndsP_next (by rw [i3.1, mkTo_len]) (hw (ndsP nb (mkTo back qs i)) (by repeat (first | assumption | exact mS | apply mT))) (hw (SlE (SL.one vs) (slv d) (psOf (big back i (min qs.length 16)) (qs[i]!.2.2 && !back) qs[i]!.1.2)) (by repeat (first | assumption | exact mS | apply mT))))
                    have h4 := h3.derive (q := ndsP (na ++ [(nm i, d2, qs[i]!.2.1)]) (mkTo back qs i ++ [ndAt (min qs.length 16) back i qs[i]!])) (fun w hw => ndsP_next (by rw [i2.1, mkTo_len]) (hw (ndsP na (mkTo back qs i)) (by repeat (first | assumption | exact mS | apply mT))) (hw (SlE (SL.one vs) (slv d2) (psOf (big back i (min qs.length 16)) (qs[i]!.2.2 && !back) qs[i]!.1.2)) (by repeat (first | assumption | exact mS | apply mT))))
                    exact (fun w h => OwnL.sat (by repeat (first | exact OwnL.refl | apply OwnL.take (by repeat (first | exact Take.head _ | apply Take.tail)) | apply OwnL.drop)) w (h.thin (SubL.mem (by repeat (first | exact SubL.refl | refine SubL.cons (by repeat (first | assumption | exact mS | apply mT)) ?_ | refine SubL.skip ?_))))) w h4)
                · skip
                  refine OpW.buildSl (ps := [(0, _)]) rfl S25 (by repeat (first | exact Evs.nil | apply Evs.cons rfl)) rfl rfl (by repeat (first | exact CellsOf.nil | apply CellsOf.cons rfl)) (by kernel_rfl) rfl rfl rfl ?_; intro b96
                  refine ⟨(Held.mk' (by repeat (first | exact SubL.refl | refine SubL.cons (by repeat (first | assumption | exact mS | apply mT)) ?_ | refine SubL.skip ?_)) (by repeat (first | exact OwnL.refl | apply OwnL.take (by repeat (first | exact Take.head _ | apply Take.tail)) | apply OwnL.drop))), ?_⟩
                  refine WD.one 6 rfl (by kernel_rfl) rfl ?_
                  refine OpW.appendE (enc := SL.one vs) (xs := ([] : List T)) (ys := psOf (big back i (min qs.length 16)) (qs[i]!.2.2 && !back) qs[i]!.1.2) rfl S28 Try.underlying28 rfl rfl (by repeat (first | assumption | exact Take.head _ | apply Take.tail)) (by repeat (first | assumption | exact mS | apply mT)) (by intro x; first | rfl | (cases x; rfl) | (rcases x with ⟨_, _, _⟩; rfl) | (rcases x with ⟨_, _, _, _⟩; rfl)) (by intro x; first | rfl | (cases x; rfl) | (rcases x with ⟨_, _, _⟩; rfl) | (rcases x with ⟨_, _, _, _⟩; rfl)) ⟨by show _ ≤ 9223372036854775807; simp only [List.length_nil]; omega, by simp only [List.length_nil]; omega⟩ rfl rfl ?_; intro v88 hv88
                  refine ⟨(Held.mk' (by repeat (first | exact SubL.refl | refine SubL.cons (by repeat (first | assumption | exact mS | apply mT)) ?_ | refine SubL.skip ?_)) (by repeat (first | exact OwnL.refl | apply OwnL.take (by repeat (first | exact Take.head _ | apply Take.tail)) | apply OwnL.drop))), ?_⟩
                  refine WD.heap (fun w h => Sat.shareA (xs := [] ++ psOf (big back i (min qs.length 16)) (qs[i]!.2.2 && !back) qs[i]!.1.2) (by repeat (first | assumption | exact Take.head _ | apply Take.tail)) h) ?_
                  refine WD.know (p := SlE (SL.one vs) v88 ([] ++ psOf (big back i (min qs.length 16)) (qs[i]!.2.2 && !back) qs[i]!.1.2)) List.mem_cons_self (fun w h => h.slv) ?_
                  rintro ⟨d2, rfl⟩
                  refine WD.take 9 rfl (by kernel_rfl) (Held.mk' (by repeat (first | exact SubL.refl | refine SubL.cons (by repeat (first | assumption | exact mS | apply mT)) ?_ | refine SubL.skip ?_)) (by repeat (first | exact OwnL.refl | apply OwnL.take (by repeat (first | exact Take.head _ | apply Take.tail)) | apply OwnL.drop))) rfl rfl rfl (Rd.buildN (ps := [(0, _), (1, _), (2, _)]) rfl Bs30 I30 rfl (by repeat (first | exact Evs.nil | apply Evs.cons rfl)) (by repeat (first | exact CellsOf.nil | apply CellsOf.cons rfl)) (by apply NFo.mk; repeat (first | exact NF.nil | apply NF.cons))) ?_
                  refine WD.one 10 rfl (by kernel_rfl) rfl ?_
                  refine OpW.buildSl (ps := [(0, _)]) rfl S24 (by repeat (first | exact Evs.nil | apply Evs.cons rfl)) rfl rfl (by repeat (first | exact CellsOf.nil | apply CellsOf.cons rfl)) (by kernel_rfl) rfl rfl rfl ?_; intro b92
                  refine ⟨(Held.mk' (by repeat (first | exact SubL.refl | refine SubL.cons (by repeat (first | assumption | exact mS | apply mT)) ?_ | refine SubL.skip ?_)) (by repeat (first | exact OwnL.refl | apply OwnL.take (by repeat (first | exact Take.head _ | apply Take.tail)) | apply OwnL.drop))), ?_⟩
                  refine WD.one 11 rfl (by kernel_rfl) rfl ?_
                  refine OpW.appendRow (enc := encN) rfl S24 rfl rfl (by repeat (first | assumption | exact Take.head _ | apply Take.tail)) (by repeat (first | assumption | exact Take.head _ | apply Take.tail)) [(nm i, d2, qs[i]!.2.1)] rfl (by rfl) rfl (by intro x; first | rfl | (cases x; rfl) | (rcases x with ⟨_, _, _⟩; rfl) | (rcases x with ⟨_, _, _, _⟩; rfl)) (by intro x; first | rfl | (cases x; rfl) | (rcases x with ⟨_, _, _⟩; rfl) | (rcases x with ⟨_, _, _, _⟩; rfl)) (by first | assumption | exact ⟨by simp only [maxLen, List.length_append, List.length_nil, List.length_cons, List.length_drop, List.length_take, List.length_map]; omega, by first | omega | (simp only [List.length_append, List.length_nil, List.length_cons, List.length_drop, List.length_take, List.length_map]; omega)⟩) rfl rfl ?_; intro v93 hv93
                  refine ⟨(Held.mk' (by repeat (first | exact SubL.refl | refine SubL.cons (by repeat (first | assumption | exact mS | apply mT)) ?_ | refine SubL.skip ?_)) (by repeat (first | exact OwnL.refl | apply OwnL.take (by repeat (first | exact Take.head _ | apply Take.tail)) | apply OwnL.drop))), ?_⟩
                  refine WD.one 15 rfl (by kernel_rfl) rfl ?_
                  refine OpW.appendRow (enc := encN) rfl S25 rfl rfl (by repeat (first | assumption | exact Take.head _ | apply Take.tail)) (by repeat (first | assumption | exact Take.head _ | apply Take.tail)) [(nm i, d, qs[i]!.2.1)] rfl (by rfl) rfl (by intro x; first | rfl | (cases x; rfl) | (rcases x with ⟨_, _, _⟩; rfl) | (rcases x with ⟨_, _, _, _⟩; rfl)) (by intro x; first | rfl | (cases x; rfl) | (rcases x with ⟨_, _, _⟩; rfl) | (rcases x with ⟨_, _, _, _⟩; rfl)) (by first | assumption | exact ⟨by simp only [maxLen, List.length_append, List.length_nil, List.length_cons, List.length_drop, List.length_take, List.length_map]; omega, by first | omega | (simp only [List.length_append, List.length_nil, List.length_cons, List.length_drop, List.length_take, List.length_map]; omega)⟩) rfl rfl ?_; intro v97 hv97
                  refine ⟨(Held.mk' (by repeat (first | exact SubL.refl | refine SubL.cons (by repeat (first | assumption | exact mS | apply mT)) ?_ | refine SubL.skip ?_)) (by repeat (first | exact OwnL.refl | apply OwnL.take (by repeat (first | exact Take.head _ | apply Take.tail)) | apply OwnL.drop))), ?_⟩
                  refine WD.take 16 rfl (by kernel_rfl) (Held.mk' (by repeat (first | exact SubL.refl | refine SubL.cons (by repeat (first | assumption | exact mS | apply mT)) ?_ | refine SubL.skip ?_)) (by repeat (first | exact OwnL.refl | apply OwnL.take (by repeat (first | exact Take.head _ | apply Take.tail)) | apply OwnL.drop))) rfl rfl rfl (Rd.assign rfl rfl) ?_
                  refine WD.take 17 rfl (by kernel_rfl) (Held.mk' (by repeat (first | exact SubL.refl | refine SubL.cons (by repeat (first | assumption | exact mS | apply mT)) ?_ | refine SubL.skip ?_)) (by repeat (first | exact OwnL.refl | apply OwnL.take (by repeat (first | exact Take.head _ | apply Take.tail)) | apply OwnL.drop))) rfl rfl rfl (Rd.assign rfl rfl) ?_
                  refine WD.done (by kernel_rfl) ?_
                  refine blockQ.normal ?_
                  refine thenQ.normal ?_
                  refine WC.region ?_
                  refine WL.rd rfl rfl rfl (Rd.move rfl rfl) ?_
                  refine WL.rd rfl rfl rfl (Rd.add rfl rfl rfl (by omega)) ?_
                  refine WL.rd rfl rfl rfl (Rd.assign rfl rfl) ?_
                  refine WL.nil ?_
                  exact loopQ5.mk (i + 1) (na ++ [(nm i, d2, qs[i]!.2.1)]) (nb ++ [(nm i, d, qs[i]!.2.1)]) v93 v97 ⟨by omega, i2.next, i3.next⟩ (by omega) (by repeat (first | exact Sub.nil | refine Sub.cons rfl (by first | rfl | (congr 1; omega) | assumption) ?_)) (fun w h => by
                  rw [mkTo_next]
                  have h3 := h.derive (q := ndsP (nb ++ [(nm i, d, qs[i]!.2.1)]) (mkTo back qs i ++ [ndAt (min qs.length 16) back i qs[i]!])) (fun w hw => ndsP_next (by rw [i3.1, mkTo_len]) (hw (ndsP nb (mkTo back qs i)) (by repeat (first | assumption | exact mS | apply mT))) (hw (SlE (SL.one vs) (slv d) (psOf (big back i (min qs.length 16)) (qs[i]!.2.2 && !back) qs[i]!.1.2)) (by repeat (first | assumption | exact mS | apply mT))))
                  have h4 := h3.derive (q := ndsP (na ++ [(nm i, d2, qs[i]!.2.1)]) (mkTo back qs i ++ [ndAt (min qs.length 16) back i qs[i]!])) (fun w hw => ndsP_next (by rw [i2.1, mkTo_len]) (hw (ndsP na (mkTo back qs i)) (by repeat (first | assumption | exact mS | apply mT))) (hw (SlE (SL.one vs) (slv d2) (psOf (big back i (min qs.length 16)) (qs[i]!.2.2 && !back) qs[i]!.1.2)) (by repeat (first | assumption | exact mS | apply mT))))
                  exact (fun w h => OwnL.sat (by repeat (first | exact OwnL.refl | apply OwnL.take (by repeat (first | exact Take.head _ | apply Take.tail)) | apply OwnL.drop)) w (h.thin (SubL.mem (by repeat (first | exact SubL.refl | refine SubL.cons (by repeat (first | assumption | exact mS | apply mT)) ?_ | refine SubL.skip ?_))))) w h4)
              · skip
                refine OpW.buildSl (ps := [(0, _)]) rfl S25 (by repeat (first | exact Evs.nil | apply Evs.cons rfl)) rfl rfl (by repeat (first | exact CellsOf.nil | apply CellsOf.cons rfl)) (by kernel_rfl) rfl rfl rfl ?_; intro b96
                refine ⟨(Held.mk' (by repeat (first | exact SubL.refl | refine SubL.cons (by repeat (first | assumption | exact mS | apply mT)) ?_ | refine SubL.skip ?_)) (by repeat (first | exact OwnL.refl | apply OwnL.take (by repeat (first | exact Take.head _ | apply Take.tail)) | apply OwnL.drop))), ?_⟩
                refine WD.one 3 rfl (by kernel_rfl) rfl ?_
                refine OpW.buildSl (ps := []) rfl S28 (by repeat (first | exact Evs.nil | apply Evs.cons rfl)) rfl rfl (by repeat (first | exact CellsOf.nil | apply CellsOf.cons rfl)) (by kernel_rfl) rfl rfl rfl ?_; intro b85
                refine ⟨(Held.mk' (by repeat (first | exact SubL.refl | refine SubL.cons (by repeat (first | assumption | exact mS | apply mT)) ?_ | refine SubL.skip ?_)) (by repeat (first | exact OwnL.refl | apply OwnL.take (by repeat (first | exact Take.head _ | apply Take.tail)) | apply OwnL.drop))), ?_⟩
                refine WD.heap (fun w h => Sat.accRow (enc := SL.one vs) (size := 1) (xs := ([] : List T)) (by repeat (first | assumption | exact Take.head _ | apply Take.tail)) rfl rfl (fun x => rfl) (by decide) h) ?_
                refine WD.one 6 rfl (by kernel_rfl) rfl ?_
                refine OpW.appendE (enc := SL.one vs) (xs := ([] : List T)) (ys := psOf (big back i (min qs.length 16)) (qs[i]!.2.2 && !back) qs[i]!.1.2) rfl S28 Try.underlying28 rfl rfl (by repeat (first | assumption | exact Take.head _ | apply Take.tail)) (by repeat (first | assumption | exact mS | apply mT)) (by intro x; first | rfl | (cases x; rfl) | (rcases x with ⟨_, _, _⟩; rfl) | (rcases x with ⟨_, _, _, _⟩; rfl)) (by intro x; first | rfl | (cases x; rfl) | (rcases x with ⟨_, _, _⟩; rfl) | (rcases x with ⟨_, _, _, _⟩; rfl)) ⟨by show _ ≤ 9223372036854775807; simp only [List.length_nil]; omega, by simp only [List.length_nil]; omega⟩ rfl rfl ?_; intro v88 hv88
                refine ⟨(Held.mk' (by repeat (first | exact SubL.refl | refine SubL.cons (by repeat (first | assumption | exact mS | apply mT)) ?_ | refine SubL.skip ?_)) (by repeat (first | exact OwnL.refl | apply OwnL.take (by repeat (first | exact Take.head _ | apply Take.tail)) | apply OwnL.drop))), ?_⟩
                refine WD.heap (fun w h => Sat.shareA (xs := [] ++ psOf (big back i (min qs.length 16)) (qs[i]!.2.2 && !back) qs[i]!.1.2) (by repeat (first | assumption | exact Take.head _ | apply Take.tail)) h) ?_
                refine WD.know (p := SlE (SL.one vs) v88 ([] ++ psOf (big back i (min qs.length 16)) (qs[i]!.2.2 && !back) qs[i]!.1.2)) List.mem_cons_self (fun w h => h.slv) ?_
                rintro ⟨d2, rfl⟩
                refine WD.take 9 rfl (by kernel_rfl) (Held.mk' (by repeat (first | exact SubL.refl | refine SubL.cons (by repeat (first | assumption | exact mS | apply mT)) ?_ | refine SubL.skip ?_)) (by repeat (first | exact OwnL.refl | apply OwnL.take (by repeat (first | exact Take.head _ | apply Take.tail)) | apply OwnL.drop))) rfl rfl rfl (Rd.buildN (ps := [(0, _), (1, _), (2, _)]) rfl Bs30 I30 rfl (by repeat (first | exact Evs.nil | apply Evs.cons rfl)) (by repeat (first | exact CellsOf.nil | apply CellsOf.cons rfl)) (by apply NFo.mk; repeat (first | exact NF.nil | apply NF.cons))) ?_
                refine WD.one 10 rfl (by kernel_rfl) rfl ?_
                refine OpW.buildSl (ps := [(0, _)]) rfl S24 (by repeat (first | exact Evs.nil | apply Evs.cons rfl)) rfl rfl (by repeat (first | exact CellsOf.nil | apply CellsOf.cons rfl)) (by kernel_rfl) rfl rfl rfl ?_; intro b92
                refine ⟨(Held.mk' (by repeat (first | exact SubL.refl | refine SubL.cons (by repeat (first | assumption | exact mS | apply mT)) ?_ | refine SubL.skip ?_)) (by repeat (first | exact OwnL.refl | apply OwnL.take (by repeat (first | exact Take.head _ | apply Take.tail)) | apply OwnL.drop))), ?_⟩
                refine WD.one 11 rfl (by kernel_rfl) rfl ?_
                refine OpW.appendRow (enc := encN) rfl S24 rfl rfl (by repeat (first | assumption | exact Take.head _ | apply Take.tail)) (by repeat (first | assumption | exact Take.head _ | apply Take.tail)) [(nm i, d2, qs[i]!.2.1)] rfl (by rfl) rfl (by intro x; first | rfl | (cases x; rfl) | (rcases x with ⟨_, _, _⟩; rfl) | (rcases x with ⟨_, _, _, _⟩; rfl)) (by intro x; first | rfl | (cases x; rfl) | (rcases x with ⟨_, _, _⟩; rfl) | (rcases x with ⟨_, _, _, _⟩; rfl)) (by first | assumption | exact ⟨by simp only [maxLen, List.length_append, List.length_nil, List.length_cons, List.length_drop, List.length_take, List.length_map]; omega, by first | omega | (simp only [List.length_append, List.length_nil, List.length_cons, List.length_drop, List.length_take, List.length_map]; omega)⟩) rfl rfl ?_; intro v93 hv93
                refine ⟨(Held.mk' (by repeat (first | exact SubL.refl | refine SubL.cons (by repeat (first | assumption | exact mS | apply mT)) ?_ | refine SubL.skip ?_)) (by repeat (first | exact OwnL.refl | apply OwnL.take (by repeat (first | exact Take.head _ | apply Take.tail)) | apply OwnL.drop))), ?_⟩
                refine WD.one 15 rfl (by kernel_rfl) rfl ?_
                refine OpW.appendRow (enc := encN) rfl S25 rfl rfl (by repeat (first | assumption | exact Take.head _ | apply Take.tail)) (by repeat (first | assumption | exact Take.head _ | apply Take.tail)) [(nm i, d, qs[i]!.2.1)] rfl (by rfl) rfl (by intro x; first | rfl | (cases x; rfl) | (rcases x with ⟨_, _, _⟩; rfl) | (rcases x with ⟨_, _, _, _⟩; rfl)) (by intro x; first | rfl | (cases x; rfl) | (rcases x with ⟨_, _, _⟩; rfl) | (rcases x with ⟨_, _, _, _⟩; rfl)) (by first | assumption | exact ⟨by simp only [maxLen, List.length_append, List.length_nil, List.length_cons, List.length_drop, List.length_take, List.length_map]; omega, by first | omega | (simp only [List.length_append, List.length_nil, List.length_cons, List.length_drop, List.length_take, List.length_map]; omega)⟩) rfl rfl ?_; intro v97 hv97
                refine ⟨(Held.mk' (by repeat (first | exact SubL.refl | refine SubL.cons (by repeat (first | assumption | exact mS | apply mT)) ?_ | refine SubL.skip ?_)) (by repeat (first | exact OwnL.refl | apply OwnL.take (by repeat (first | exact Take.head _ | apply Take.tail)) | apply OwnL.drop))), ?_⟩
                refine WD.take 16 rfl (by kernel_rfl) (Held.mk' (by repeat (first | exact SubL.refl | refine SubL.cons (by repeat (first | assumption | exact mS | apply mT)) ?_ | refine SubL.skip ?_)) (by repeat (first | exact OwnL.refl | apply OwnL.take (by repeat (first | exact Take.head _ | apply Take.tail)) | apply OwnL.drop))) rfl rfl rfl (Rd.assign rfl rfl) ?_
                refine WD.take 17 rfl (by kernel_rfl) (Held.mk' (by repeat (first | exact SubL.refl | refine SubL.cons (by repeat (first | assumption | exact mS | apply mT)) ?_ | refine SubL.skip ?_)) (by repeat (first | exact OwnL.refl | apply OwnL.take (by repeat (first | exact Take.head _ | apply Take.tail)) | apply OwnL.drop))) rfl rfl rfl (Rd.assign rfl rfl) ?_
                refine WD.done (by kernel_rfl) ?_
                refine blockQ.normal ?_
                refine thenQ.normal ?_
                refine WC.region ?_
                refine WL.rd rfl rfl rfl (Rd.move rfl rfl) ?_
                refine WL.rd rfl rfl rfl (Rd.add rfl rfl rfl (by omega)) ?_
                refine WL.rd rfl rfl rfl (Rd.assign rfl rfl) ?_
                refine WL.nil ?_
                exact loopQ5.mk (i + 1) (na ++ [(nm i, d2, qs[i]!.2.1)]) (nb ++ [(nm i, d, qs[i]!.2.1)]) v93 v97 ⟨by omega, i2.next, i3.next⟩ (by omega) (by repeat (first | exact Sub.nil | refine Sub.cons rfl (by first | rfl | (congr 1; omega) | assumption) ?_)) (fun w h => by
                rw [mkTo_next]
                have h3 := h.derive (q := ndsP (nb ++ [(nm i, d, qs[i]!.2.1)]) (mkTo back qs i ++ [ndAt (min qs.length 16) back i qs[i]!])) (fun w hw => ndsP_next (by rw [i3.1, mkTo_len]) (hw (ndsP nb (mkTo back qs i)) (by repeat (first | assumption | exact mS | apply mT))) (hw (SlE (SL.one vs) (slv d) (psOf (big back i (min qs.length 16)) (qs[i]!.2.2 && !back) qs[i]!.1.2)) (by repeat (first | assumption | exact mS | apply mT))))
                have h4 := h3.derive (q := ndsP (na ++ [(nm i, d2, qs[i]!.2.1)]) (mkTo back qs i ++ [ndAt (min qs.length 16) back i qs[i]!])) (fun w hw => ndsP_next (by rw [i2.1, mkTo_len]) (hw (ndsP na (mkTo back qs i)) (by repeat (first | assumption | exact mS | apply mT))) (hw (SlE (SL.one vs) (slv d2) (psOf (big back i (min qs.length 16)) (qs[i]!.2.2 && !back) qs[i]!.1.2)) (by repeat (first | assumption | exact mS | apply mT))))
                exact (fun w h => OwnL.sat (by repeat (first | exact OwnL.refl | apply OwnL.take (by repeat (first | exact Take.head _ | apply Take.tail)) | apply OwnL.drop)) w (h.thin (SubL.mem (by repeat (first | exact SubL.refl | refine SubL.cons (by repeat (first | assumption | exact mS | apply mT)) ?_ | refine SubL.skip ?_))))) w h4)
            · skip
              have hps : psTo (big back i (min qs.length 16)) (min qs[i]!.1.2.length 5) qs[i]!.1.2 = psOf (big back i (min qs.length 16)) (qs[i]!.2.2 && !back) qs[i]!.1.2 := by
                unfold psOf
                rw [if_neg hc5, List.append_nil]
              refine WC.skip ?_
              refine thenQ.normal ?_
              have hna := i2.1
              have hnb := i3.1
              have hrooma : Room (na.length + 1) 48 := room1 (by omega)
              have hroomb : Room (nb.length + 1) 48 := room1 (by omega)
              refine WC.heap (fun w h => by rw [hps] at h; exact Sat.shareA (xs := psOf (big back i (min qs.length 16)) (qs[i]!.2.2 && !back) qs[i]!.1.2) (by repeat (first | assumption | exact Take.head _ | apply Take.tail)) h) ?_
              refine WC.know (p := SlE (SL.one vs) _ (psOf (big back i (min qs.length 16)) (qs[i]!.2.2 && !back) qs[i]!.1.2)) List.mem_cons_self (fun w h => h.slv) ?_
              rintro ⟨d, rfl⟩
              refine WC.drawn (rowC b10 31 [vs (nm i), slv d, vi qs[i]!.2.1] :: O) 18 rfl mixed ?_
              refine WD.take 0 rfl (by kernel_rfl) (Held.mk' (by repeat (first | exact SubL.refl | refine SubL.cons (by repeat (first | assumption | exact mS | apply mT)) ?_ | refine SubL.skip ?_)) (by repeat (first | exact OwnL.refl | apply OwnL.take (by repeat (first | exact Take.head _ | apply Take.tail)) | apply OwnL.drop))) rfl rfl rfl (Rd.move rfl rfl) ?_
              refine WD.take 1 rfl (by kernel_rfl) (Held.mk' (by repeat (first | exact SubL.refl | refine SubL.cons (by repeat (first | assumption | exact mS | apply mT)) ?_ | refine SubL.skip ?_)) (by repeat (first | exact OwnL.refl | apply OwnL.take (by repeat (first | exact Take.head _ | apply Take.tail)) | apply OwnL.drop))) rfl rfl rfl ((by first | exact Rd.field rfl F31_0 rfl rfl | exact Rd.fieldE rfl F31_0 rfl (by repeat (first | assumption | exact mS | apply mT)) (by omega) | exact Rd.fieldA rfl F31_0 rfl (by repeat (first | assumption | exact mS | apply mT)) (by omega))) ?_
              refine WD.take 2 rfl (by kernel_rfl) (Held.mk' (by repeat (first | exact SubL.refl | refine SubL.cons (by repeat (first | assumption | exact mS | apply mT)) ?_ | refine SubL.skip ?_)) (by repeat (first | exact OwnL.refl | apply OwnL.take (by repeat (first | exact Take.head _ | apply Take.tail)) | apply OwnL.drop))) rfl rfl rfl (Rd.row1 (b := b10) (off := 0) (u := vs (nm i)) rfl C9 rfl (by repeat (first | assumption | exact mS | apply mT)) rfl) ?_
              refine WD.take 4 rfl (by kernel_rfl) (Held.mk' (by repeat (first | exact SubL.refl | refine SubL.cons (by repeat (first | assumption | exact mS | apply mT)) ?_ | refine SubL.skip ?_)) (by repeat (first | exact OwnL.refl | apply OwnL.take (by repeat (first | exact Take.head _ | apply Take.tail)) | apply OwnL.drop))) rfl rfl rfl ((by first | exact Rd.field rfl F31_1 rfl rfl | exact Rd.fieldE rfl F31_1 rfl (by repeat (first | assumption | exact mS | apply mT)) (by omega) | exact Rd.fieldA rfl F31_1 rfl (by repeat (first | assumption | exact mS | apply mT)) (by omega))) ?_
              refine WD.take 5 rfl (by kernel_rfl) (Held.mk' (by repeat (first | exact SubL.refl | refine SubL.cons (by repeat (first | assumption | exact mS | apply mT)) ?_ | refine SubL.skip ?_)) (by repeat (first | exact OwnL.refl | apply OwnL.take (by repeat (first | exact Take.head _ | apply Take.tail)) | apply OwnL.drop))) rfl rfl rfl (Rd.row1 (b := b10) (off := 1) (u := slv d) rfl C28 rfl (by repeat (first | assumption | exact mS | apply mT)) rfl) ?_
              refine WD.take 7 rfl (by kernel_rfl) (Held.mk' (by repeat (first | exact SubL.refl | refine SubL.cons (by repeat (first | assumption | exact mS | apply mT)) ?_ | refine SubL.skip ?_)) (by repeat (first | exact OwnL.refl | apply OwnL.take (by repeat (first | exact Take.head _ | apply Take.tail)) | apply OwnL.drop))) rfl rfl rfl ((by first | exact Rd.field rfl F31_2 rfl rfl | exact Rd.fieldE rfl F31_2 rfl (by repeat (first | assumption | exact mS | apply mT)) (by omega) | exact Rd.fieldA rfl F31_2 rfl (by repeat (first | assumption | exact mS | apply mT)) (by omega))) ?_
              refine WD.take 8 rfl (by kernel_rfl) (Held.mk' (by repeat (first | exact SubL.refl | refine SubL.cons (by repeat (first | assumption | exact mS | apply mT)) ?_ | refine SubL.skip ?_)) (by repeat (first | exact OwnL.refl | apply OwnL.take (by repeat (first | exact Take.head _ | apply Take.tail)) | apply OwnL.drop))) rfl rfl rfl (Rd.row1 (b := b10) (off := 2) (u := vi qs[i]!.2.1) rfl C3 rfl (by repeat (first | assumption | exact mS | apply mT)) rfl) ?_
              refine WD.take 12 rfl (by kernel_rfl) (Held.mk' (by repeat (first | exact SubL.refl | refine SubL.cons (by repeat (first | assumption | exact mS | apply mT)) ?_ | refine SubL.skip ?_)) (by repeat (first | exact OwnL.refl | apply OwnL.take (by repeat (first | exact Take.head _ | apply Take.tail)) | apply OwnL.drop))) rfl rfl rfl (Rd.move rfl rfl) ?_
              refine WD.take 13 rfl (by kernel_rfl) (Held.mk' (by repeat (first | exact SubL.refl | refine SubL.cons (by repeat (first | assumption | exact mS | apply mT)) ?_ | refine SubL.skip ?_)) (by repeat (first | exact OwnL.refl | apply OwnL.take (by repeat (first | exact Take.head _ | apply Take.tail)) | apply OwnL.drop))) rfl rfl rfl ((by first | exact Rd.rowS rfl G31 rfl (by repeat (first | assumption | exact mS | apply mT)) (by repeat (first | exact NF.nil | apply NF.cons)) rfl | exact Rd.getS rfl G31 rfl (by repeat (first | assumption | exact mS | apply mT)) (by intro x; first | rfl | (cases x; rfl) | (rcases x with ⟨_, _, _⟩; rfl) | (rcases x with ⟨_, _, _, _⟩; rfl)) (by first | assumption | rfl | exact get!_of_lt (by omega)) (by repeat (first | exact NF.nil | apply NF.cons)) | exact Rd.getSA rfl G31 rfl (by repeat (first | assumption | exact mS | apply mT)) (by intro x; first | rfl | (cases x; rfl) | (rcases x with ⟨_, _, _⟩; rfl) | (rcases x with ⟨_, _, _, _⟩; rfl)) (by first | assumption | rfl | exact get!_of_lt (by omega)) (by repeat (first | exact NF.nil | apply NF.cons)))) ?_
              refine WD.two 3 14 rfl rfl (by kernel_rfl) rfl rfl ?_ ?_
              · skip
                refine OpW.buildSl (ps := []) rfl S28 (by repeat (first | exact Evs.nil | apply Evs.cons rfl)) rfl rfl (by repeat (first | exact CellsOf.nil | apply CellsOf.cons rfl)) (by kernel_rfl) rfl rfl rfl ?_; intro b85
                refine ⟨(Held.mk' (by repeat (first | exact SubL.refl | refine SubL.cons (by repeat (first | assumption | exact mS | apply mT)) ?_ | refine SubL.skip ?_)) (by repeat (first | exact OwnL.refl | apply OwnL.take (by repeat (first | exact Take.head _ | apply Take.tail)) | apply OwnL.drop))), ?_⟩
                refine WD.heap (fun w h => Sat.accRow (enc := SL.one vs) (size := 1) (xs := ([] : List T)) (by repeat (first | assumption | exact Take.head _ | apply Take.tail)) rfl rfl (fun x => rfl) (by decide) h) ?_
                refine WD.two 6 14 rfl rfl (by kernel_rfl) rfl rfl ?_ ?_
                · skip
                  refine OpW.appendE (enc := SL.one vs) (xs := ([] : List T)) (ys := psOf (big back i (min qs.length 16)) (qs[i]!.2.2 && !back) qs[i]!.1.2) rfl S28 Try.underlying28 rfl rfl (by repeat (first | assumption | exact Take.head _ | apply Take.tail)) (by repeat (first | assumption | exact mS | apply mT)) (by intro x; first | rfl | (cases x; rfl) | (rcases x with ⟨_, _, _⟩; rfl) | (rcases x with ⟨_, _, _, _⟩; rfl)) (by intro x; first | rfl | (cases x; rfl) | (rcases x with ⟨_, _, _⟩; rfl) | (rcases x with ⟨_, _, _, _⟩; rfl)) ⟨by show _ ≤ 9223372036854775807; simp only [List.length_nil]; omega, by simp only [List.length_nil]; omega⟩ rfl rfl ?_; intro v88 hv88
                  refine ⟨(Held.mk' (by repeat (first | exact SubL.refl | refine SubL.cons (by repeat (first | assumption | exact mS | apply mT)) ?_ | refine SubL.skip ?_)) (by repeat (first | exact OwnL.refl | apply OwnL.take (by repeat (first | exact Take.head _ | apply Take.tail)) | apply OwnL.drop))), ?_⟩
                  refine WD.heap (fun w h => Sat.shareA (xs := [] ++ psOf (big back i (min qs.length 16)) (qs[i]!.2.2 && !back) qs[i]!.1.2) (by repeat (first | assumption | exact Take.head _ | apply Take.tail)) h) ?_
                  refine WD.know (p := SlE (SL.one vs) v88 ([] ++ psOf (big back i (min qs.length 16)) (qs[i]!.2.2 && !back) qs[i]!.1.2)) List.mem_cons_self (fun w h => h.slv) ?_
                  rintro ⟨d2, rfl⟩
                  refine WD.take 9 rfl (by kernel_rfl) (Held.mk' (by repeat (first | exact SubL.refl | refine SubL.cons (by repeat (first | assumption | exact mS | apply mT)) ?_ | refine SubL.skip ?_)) (by repeat (first | exact OwnL.refl | apply OwnL.take (by repeat (first | exact Take.head _ | apply Take.tail)) | apply OwnL.drop))) rfl rfl rfl (Rd.buildN (ps := [(0, _), (1, _), (2, _)]) rfl Bs30 I30 rfl (by repeat (first | exact Evs.nil | apply Evs.cons rfl)) (by repeat (first | exact CellsOf.nil | apply CellsOf.cons rfl)) (by apply NFo.mk; repeat (first | exact NF.nil | apply NF.cons))) ?_
                  refine WD.two 10 14 rfl rfl (by kernel_rfl) rfl rfl ?_ ?_
                  · skip
                    refine OpW.buildSl (ps := [(0, _)]) rfl S24 (by repeat (first | exact Evs.nil | apply Evs.cons rfl)) rfl rfl (by repeat (first | exact CellsOf.nil | apply CellsOf.cons rfl)) (by kernel_rfl) rfl rfl rfl ?_; intro b92
                    refine ⟨(Held.mk' (by repeat (first | exact SubL.refl | refine SubL.cons (by repeat (first | assumption | exact mS | apply mT)) ?_ | refine SubL.skip ?_)) (by repeat (first | exact OwnL.refl | apply OwnL.take (by repeat (first | exact Take.head _ | apply Take.tail)) | apply OwnL.drop))), ?_⟩
                    refine WD.two 11 14 rfl rfl (by kernel_rfl) rfl rfl ?_ ?_
                    · skip
                      refine OpW.appendRow (enc := encN) rfl S24 rfl rfl (by repeat (first | assumption | exact Take.head _ | apply Take.tail)) (by repeat (first | assumption | exact Take.head _ | apply Take.tail)) [(nm i, d2, qs[i]!.2.1)] rfl (by rfl) rfl (by intro x; first | rfl | (cases x; rfl) | (rcases x with ⟨_, _, _⟩; rfl) | (rcases x with ⟨_, _, _, _⟩; rfl)) (by intro x; first | rfl | (cases x; rfl) | (rcases x with ⟨_, _, _⟩; rfl) | (rcases x with ⟨_, _, _, _⟩; rfl)) (by first | assumption | exact ⟨by simp only [maxLen, List.length_append, List.length_nil, List.length_cons, List.length_drop, List.length_take, List.length_map]; omega, by first | omega | (simp only [List.length_append, List.length_nil, List.length_cons, List.length_drop, List.length_take, List.length_map]; omega)⟩) rfl rfl ?_; intro v93 hv93
                      refine ⟨(Held.mk' (by repeat (first | exact SubL.refl | refine SubL.cons (by repeat (first | assumption | exact mS | apply mT)) ?_ | refine SubL.skip ?_)) (by repeat (first | exact OwnL.refl | apply OwnL.take (by repeat (first | exact Take.head _ | apply Take.tail)) | apply OwnL.drop))), ?_⟩
                      refine WD.one 14 rfl (by kernel_rfl) rfl ?_
                      refine OpW.buildSl (ps := [(0, _)]) rfl S25 (by repeat (first | exact Evs.nil | apply Evs.cons rfl)) rfl rfl (by repeat (first | exact CellsOf.nil | apply CellsOf.cons rfl)) (by kernel_rfl) rfl rfl rfl ?_; intro b96
                      refine ⟨(Held.mk' (by repeat (first | exact SubL.refl | refine SubL.cons (by repeat (first | assumption | exact mS | apply mT)) ?_ | refine SubL.skip ?_)) (by repeat (first | exact OwnL.refl | apply OwnL.take (by repeat (first | exact Take.head _ | apply Take.tail)) | apply OwnL.drop))), ?_⟩
                      refine WD.one 15 rfl (by kernel_rfl) rfl ?_
                      refine OpW.appendRow (enc := encN) rfl S25 rfl rfl (by repeat (first | assumption | exact Take.head _ | apply Take.tail)) (by repeat (first | assumption | exact Take.head _ | apply Take.tail)) [(nm i, d, qs[i]!.2.1)] rfl (by rfl) rfl (by intro x; first | rfl | (cases x; rfl) | (rcases x with ⟨_, _, _⟩; rfl) | (rcases x with ⟨_, _, _, _⟩; rfl)) (by intro x; first | rfl | (cases x; rfl) | (rcases x with ⟨_, _, _⟩; rfl) | (rcases x with ⟨_, _, _, _⟩; rfl)) (by first | assumption | exact ⟨by simp only [maxLen, List.length_append, List.length_nil, List.length_cons, List.length_drop, List.length_take, List.length_map]; omega, by first | omega | (simp only [List.length_append, List.length_nil, List.length_cons, List.length_drop, List.length_take, List.length_map]; omega)⟩) rfl rfl ?_; intro v97 hv97
                      refine ⟨(Held.mk' (by repeat (first | exact SubL.refl | refine SubL.cons (by repeat (first | assumption | exact mS | apply mT)) ?_ | refine SubL.skip ?_)) (by repeat (first | exact OwnL.refl | apply OwnL.take (by repeat (first | exact Take.head _ | apply Take.tail)) | apply OwnL.drop))), ?_⟩
                      refine WD.take 16 rfl (by kernel_rfl) (Held.mk' (by repeat (first | exact SubL.refl | refine SubL.cons (by repeat (first | assumption | exact mS | apply mT)) ?_ | refine SubL.skip ?_)) (by repeat (first | exact OwnL.refl | apply OwnL.take (by repeat (first | exact Take.head _ | apply Take.tail)) | apply OwnL.drop))) rfl rfl rfl (Rd.assign rfl rfl) ?_
                      refine WD.take 17 rfl (by kernel_rfl) (Held.mk' (by repeat (first | exact SubL.refl | refine SubL.cons (by repeat (first | assumption | exact mS | apply mT)) ?_ | refine SubL.skip ?_)) (by repeat (first | exact OwnL.refl | apply OwnL.take (by repeat (first | exact Take.head _ | apply Take.tail)) | apply OwnL.drop))) rfl rfl rfl (Rd.assign rfl rfl) ?_
                      refine WD.done (by kernel_rfl) ?_
                      refine blockQ.normal ?_
                      refine thenQ.normal ?_
                      refine WC.region ?_
                      refine WL.rd rfl rfl rfl (Rd.move rfl rfl) ?_
                      refine WL.rd rfl rfl rfl (Rd.add rfl rfl rfl (by omega)) ?_
                      refine WL.rd rfl rfl rfl (Rd.assign rfl rfl) ?_
                      refine WL.nil ?_
                      exact loopQ5.mk (i + 1) (na ++ [(nm i, d2, qs[i]!.2.1)]) (nb ++ [(nm i, d, qs[i]!.2.1)]) v93 v97 ⟨by omega, i2.next, i3.next⟩ (by omega) (by repeat (first | exact Sub.nil | refine Sub.cons rfl (by first | rfl | (congr 1; omega) | assumption) ?_)) (fun w h => by
                      rw [mkTo_next]
                      have h3 := h.derive (q := ndsP (nb ++ [(nm i, d, qs[i]!.2.1)]) (mkTo back qs i ++ [ndAt (min qs.length 16) back i qs[i]!])) (fun w hw => ndsP_next (by rw [i3.1, mkTo_len]) (hw (ndsP nb (mkTo back qs i)) (by repeat (first | assumption | exact mS | apply mT))) (hw (SlE (SL.one vs) (slv d) (psOf (big back i (min qs.length 16)) (qs[i]!.2.2 && !back) qs[i]!.1.2)) (by repeat (first | assumption | exact mS | apply mT))))
                      have h4 := h3.derive (q := ndsP (na ++ [(nm i, d2, qs[i]!.2.1)]) (mkTo back qs i ++ [ndAt (min qs.length 16) back i qs[i]!])) (fun w hw => ndsP_next (by rw [i2.1, mkTo_len]) (hw (ndsP na (mkTo back qs i)) (by repeat (first | assumption | exact mS | apply mT))) (hw (SlE (SL.one vs) (slv d2) (psOf (big back i (min qs.length 16)) (qs[i]!.2.2 && !back) qs[i]!.1.2)) (by repeat (first | assumption | exact mS | apply mT))))
                      exact (fun w h => OwnL.sat (by repeat (first | exact OwnL.refl | apply OwnL.take (by repeat (first | exact Take.head _ | apply Take.tail)) | apply OwnL.drop)) w (h.thin (SubL.mem (by repeat (first | exact SubL.refl | refine SubL.cons (by repeat (first | assumption | exact mS | apply mT)) ?_ | refine SubL.skip ?_))))) w h4)
                    · skip
                      refine OpW.buildSl (ps := [(0, _)]) rfl S25 (by repeat (first | exact Evs.nil | apply Evs.cons rfl)) rfl rfl (by repeat (first | exact CellsOf.nil | apply CellsOf.cons rfl)) (by kernel_rfl) rfl rfl rfl ?_; intro b96
                      refine ⟨(Held.mk' (by repeat (first | exact SubL.refl | refine SubL.cons (by repeat (first | assumption | exact mS | apply mT)) ?_ | refine SubL.skip ?_)) (by repeat (first | exact OwnL.refl | apply OwnL.take (by repeat (first | exact Take.head _ | apply Take.tail)) | apply OwnL.drop))), ?_⟩
                      refine WD.one 11 rfl (by kernel_rfl) rfl ?_
                      refine OpW.appendRow (enc := encN) rfl S24 rfl rfl (by repeat (first | assumption | exact Take.head _ | apply Take.tail)) (by repeat (first | assumption | exact Take.head _ | apply Take.tail)) [(nm i, d2, qs[i]!.2.1)] rfl (by rfl) rfl (by intro x; first | rfl | (cases x; rfl) | (rcases x with ⟨_, _, _⟩; rfl) | (rcases x with ⟨_, _, _, _⟩; rfl)) (by intro x; first | rfl | (cases x; rfl) | (rcases x with ⟨_, _, _⟩; rfl) | (rcases x with ⟨_, _, _, _⟩; rfl)) (by first | assumption | exact ⟨by simp only [maxLen, List.length_append, List.length_nil, List.length_cons, List.length_drop, List.length_take, List.length_map]; omega, by first | omega | (simp only [List.length_append, List.length_nil, List.length_cons, List.length_drop, List.length_take, List.length_map]; omega)⟩) rfl rfl ?_; intro v93 hv93
                      refine ⟨(Held.mk' (by repeat (first | exact SubL.refl | refine SubL.cons (by repeat (first | assumption | exact mS | apply mT)) ?_ | refine SubL.skip ?_)) (by repeat (first | exact OwnL.refl | apply OwnL.take (by repeat (first | exact Take.head _ | apply Take.tail)) | apply OwnL.drop))), ?_⟩
                      refine WD.one 15 rfl (by kernel_rfl) rfl ?_
                      refine OpW.appendRow (enc := encN) rfl S25 rfl rfl (by repeat (first | assumption | exact Take.head _ | apply Take.tail)) (by repeat (first | assumption | exact Take.head _ | apply Take.tail)) [(nm i, d, qs[i]!.2.1)] rfl (by rfl) rfl (by intro x; first | rfl | (cases x; rfl) | (rcases x with ⟨_, _, _⟩; rfl) | (rcases x with ⟨_, _, _, _⟩; rfl)) (by intro x; first | rfl | (cases x; rfl) | (rcases x with ⟨_, _, _⟩; rfl) | (rcases x with ⟨_, _, _, _⟩; rfl)) (by first | assumption | exact ⟨by simp only [maxLen, List.length_append, List.length_nil, List.length_cons, List.length_drop, List.length_take, List.length_map]; omega, by first | omega | (simp only [List.length_append, List.length_nil, List.length_cons, List.length_drop, List.length_take, List.length_map]; omega)⟩) rfl rfl ?_; intro v97 hv97
                      refine ⟨(Held.mk' (by repeat (first | exact SubL.refl | refine SubL.cons (by repeat (first | assumption | exact mS | apply mT)) ?_ | refine SubL.skip ?_)) (by repeat (first | exact OwnL.refl | apply OwnL.take (by repeat (first | exact Take.head _ | apply Take.tail)) | apply OwnL.drop))), ?_⟩
                      refine WD.take 16 rfl (by kernel_rfl) (Held.mk' (by repeat (first | exact SubL.refl | refine SubL.cons (by repeat (first | assumption | exact mS | apply mT)) ?_ | refine SubL.skip ?_)) (by repeat (first | exact OwnL.refl | apply OwnL.take (by repeat (first | exact Take.head _ | apply Take.tail)) | apply OwnL.drop))) rfl rfl rfl (Rd.assign rfl rfl) ?_
                      refine WD.take 17 rfl (by kernel_rfl) (Held.mk' (by repeat (first | exact SubL.refl | refine SubL.cons (by repeat (first | assumption | exact mS | apply mT)) ?_ | refine SubL.skip ?_)) (by repeat (first | exact OwnL.refl | apply OwnL.take (by repeat (first | exact Take.head _ | apply Take.tail)) | apply OwnL.drop))) rfl rfl rfl (Rd.assign rfl rfl) ?_
                      refine WD.done (by kernel_rfl) ?_
                      refine blockQ.normal ?_
                      refine thenQ.normal ?_
                      refine WC.region ?_
                      refine WL.rd rfl rfl rfl (Rd.move rfl rfl) ?_
                      refine WL.rd rfl rfl rfl (Rd.add rfl rfl rfl (by omega)) ?_
                      refine WL.rd rfl rfl rfl (Rd.assign rfl rfl) ?_
                      refine WL.nil ?_
                      exact loopQ5.mk (i + 1) (na ++ [(nm i, d2, qs[i]!.2.1)]) (nb ++ [(nm i, d, qs[i]!.2.1)]) v93 v97 ⟨by omega, i2.next, i3.next⟩ (by omega) (by repeat (first | exact Sub.nil | refine Sub.cons rfl (by first | rfl | (congr 1; omega) | assumption) ?_)) (fun w h => by
                      rw [mkTo_next]
                      have h3 := h.derive (q := ndsP (nb ++ [(nm i, d, qs[i]!.2.1)]) (mkTo back qs i ++ [ndAt (min qs.length 16) back i qs[i]!])) (fun w hw => ndsP_next (by rw [i3.1, mkTo_len]) (hw (ndsP nb (mkTo back qs i)) (by repeat (first | assumption | exact mS | apply mT))) (hw (SlE (SL.one vs) (slv d) (psOf (big back i (min qs.length 16)) (qs[i]!.2.2 && !back) qs[i]!.1.2)) (by repeat (first | assumption | exact mS | apply mT))))
                      have h4 := h3.derive (q := ndsP (na ++ [(nm i, d2, qs[i]!.2.1)]) (mkTo back qs i ++ [ndAt (min qs.length 16) back i qs[i]!])) (fun w hw => ndsP_next (by rw [i2.1, mkTo_len]) (hw (ndsP na (mkTo back qs i)) (by repeat (first | assumption | exact mS | apply mT))) (hw (SlE (SL.one vs) (slv d2) (psOf (big back i (min qs.length 16)) (qs[i]!.2.2 && !back) qs[i]!.1.2)) (by repeat (first | assumption | exact mS | apply mT))))
                      exact (fun w h => OwnL.sat (by repeat (first | exact OwnL.refl | apply OwnL.take (by repeat (first | exact Take.head _ | apply Take.tail)) | apply OwnL.drop)) w (h.thin (SubL.mem (by repeat (first | exact SubL.refl | refine SubL.cons (by repeat (first | assumption | exact mS | apply mT)) ?_ | refine SubL.skip ?_))))) w h4)
                  · skip
                    refine OpW.buildSl (ps := [(0, _)]) rfl S25 (by repeat (first | exact Evs.nil | apply Evs.cons rfl)) rfl rfl (by repeat (first | exact CellsOf.nil | apply CellsOf.cons rfl)) (by kernel_rfl) rfl rfl rfl ?_; intro b96
                    refine ⟨(Held.mk' (by repeat (first | exact SubL.refl | refine SubL.cons (by repeat (first | assumption | exact mS | apply mT)) ?_ | refine SubL.skip ?_)) (by repeat (first | exact OwnL.refl | apply OwnL.take (by repeat (first | exact Take.head _ | apply Take.tail)) | apply OwnL.drop))), ?_⟩
                    refine WD.one 10 rfl (by kernel_rfl) rfl ?_
                    refine OpW.buildSl (ps := [(0, _)]) rfl S24 (by repeat (first | exact Evs.nil | apply Evs.cons rfl)) rfl rfl (by repeat (first | exact CellsOf.nil | apply CellsOf.cons rfl)) (by kernel_rfl) rfl rfl rfl ?_; intro b92
                    refine ⟨(Held.mk' (by repeat (first | exact SubL.refl | refine SubL.cons (by repeat (first | assumption | exact mS | apply mT)) ?_ | refine SubL.skip ?_)) (by repeat (first | exact OwnL.refl | apply OwnL.take (by repeat (first | exact Take.head _ | apply Take.tail)) | apply OwnL.drop))), ?_⟩
                    refine WD.one 11 rfl (by kernel_rfl) rfl ?_
                    refine OpW.appendRow (enc := encN) rfl S24 rfl rfl (by repeat (first | assumption | exact Take.head _ | apply Take.tail)) (by repeat (first | assumption | exact Take.head _ | apply Take.tail)) [(nm i, d2, qs[i]!.2.1)] rfl (by rfl) rfl (by intro x; first | rfl | (cases x; rfl) | (rcases x with ⟨_, _, _⟩; rfl) | (rcases x with ⟨_, _, _, _⟩; rfl)) (by intro x; first | rfl | (cases x; rfl) | (rcases x with ⟨_, _, _⟩; rfl) | (rcases x with ⟨_, _, _, _⟩; rfl)) (by first | assumption | exact ⟨by simp only [maxLen, List.length_append, List.length_nil, List.length_cons, List.length_drop, List.length_take, List.length_map]; omega, by first | omega | (simp only [List.length_append, List.length_nil, List.length_cons, List.length_drop, List.length_take, List.length_map]; omega)⟩) rfl rfl ?_; intro v93 hv93
                    refine ⟨(Held.mk' (by repeat (first | exact SubL.refl | refine SubL.cons (by repeat (first | assumption | exact mS | apply mT)) ?_ | refine SubL.skip ?_)) (by repeat (first | exact OwnL.refl | apply OwnL.take (by repeat (first | exact Take.head _ | apply Take.tail)) | apply OwnL.drop))), ?_⟩
                    refine WD.one 15 rfl (by kernel_rfl) rfl ?_
                    refine OpW.appendRow (enc := encN) rfl S25 rfl rfl (by repeat (first | assumption | exact Take.head _ | apply Take.tail)) (by repeat (first | assumption | exact Take.head _ | apply Take.tail)) [(nm i, d, qs[i]!.2.1)] rfl (by rfl) rfl (by intro x; first | rfl | (cases x; rfl) | (rcases x with ⟨_, _, _⟩; rfl) | (rcases x with ⟨_, _, _, _⟩; rfl)) (by intro x; first | rfl | (cases x; rfl) | (rcases x with ⟨_, _, _⟩; rfl) | (rcases x with ⟨_, _, _, _⟩; rfl)) (by first | assumption | exact ⟨by simp only [maxLen, List.length_append, List.length_nil, List.length_cons, List.length_drop, List.length_take, List.length_map]; omega, by first | omega | (simp only [List.length_append, List.length_nil, List.length_cons, List.length_drop, List.length_take, List.length_map]; omega)⟩) rfl rfl ?_; intro v97 hv97
                    refine ⟨(Held.mk' (by repeat (first | exact SubL.refl | refine SubL.cons (by repeat (first | assumption | exact mS | apply mT)) ?_ | refine SubL.skip ?_)) (by repeat (first | exact OwnL.refl | apply OwnL.take (by repeat (first | exact Take.head _ | apply Take.tail)) | apply OwnL.drop))), ?_⟩
                    refine WD.take 16 rfl (by kernel_rfl) (Held.mk' (by repeat (first | exact SubL.refl | refine SubL.cons (by repeat (first | assumption | exact mS | apply mT)) ?_ | refine SubL.skip ?_)) (by repeat (first | exact OwnL.refl | apply OwnL.take (by repeat (first | exact Take.head _ | apply Take.tail)) | apply OwnL.drop))) rfl rfl rfl (Rd.assign rfl rfl) ?_
                    refine WD.take 17 rfl (by kernel_rfl) (Held.mk' (by repeat (first | exact SubL.refl | refine SubL.cons (by repeat (first | assumption | exact mS | apply mT)) ?_ | refine SubL.skip ?_)) (by repeat (first | exact OwnL.refl | apply OwnL.take (by repeat (first | exact Take.head _ | apply Take.tail)) | apply OwnL.drop))) rfl rfl rfl (Rd.assign rfl rfl) ?_
                    refine WD.done (by kernel_rfl) ?_
                    refine blockQ.normal ?_
                    refine thenQ.normal ?_
                    refine WC.region ?_
                    refine WL.rd rfl rfl rfl (Rd.move rfl rfl) ?_
                    refine WL.rd rfl rfl rfl (Rd.add rfl rfl rfl (by omega)) ?_
                    refine WL.rd rfl rfl rfl (Rd.assign rfl rfl) ?_
                    refine WL.nil ?_
                    exact loopQ5.mk (i + 1) (na ++ [(nm i, d2, qs[i]!.2.1)]) (nb ++ [(nm i, d, qs[i]!.2.1)]) v93 v97 ⟨by omega, i2.next, i3.next⟩ (by omega) (by repeat (first | exact Sub.nil | refine Sub.cons rfl (by first | rfl | (congr 1; omega) | assumption) ?_)) (fun w h => by
                    rw [mkTo_next]
                    have h3 := h.derive (q := ndsP (nb ++ [(nm i, d, qs[i]!.2.1)]) (mkTo back qs i ++ [ndAt (min qs.length 16) back i qs[i]!])) (fun w hw => ndsP_next (by rw [i3.1, mkTo_len]) (hw (ndsP nb (mkTo back qs i)) (by repeat (first | assumption | exact mS | apply mT))) (hw (SlE (SL.one vs) (slv d) (psOf (big back i (min qs.length 16)) (qs[i]!.2.2 && !back) qs[i]!.1.2)) (by repeat (first | assumption | exact mS | apply mT))))
                    have h4 := h3.derive (q := ndsP (na ++ [(nm i, d2, qs[i]!.2.1)]) (mkTo back qs i ++ [ndAt (min qs.length 16) back i qs[i]!])) (fun w hw => ndsP_next (by rw [i2.1, mkTo_len]) (hw (ndsP na (mkTo back qs i)) (by repeat (first | assumption | exact mS | apply mT))) (hw (SlE (SL.one vs) (slv d2) (psOf (big back i (min qs.length 16)) (qs[i]!.2.2 && !back) qs[i]!.1.2)) (by repeat (first | assumption | exact mS | apply mT))))
                    exact (fun w h => OwnL.sat (by repeat (first | exact OwnL.refl | apply OwnL.take (by repeat (first | exact Take.head _ | apply Take.tail)) | apply OwnL.drop)) w (h.thin (SubL.mem (by repeat (first | exact SubL.refl | refine SubL.cons (by repeat (first | assumption | exact mS | apply mT)) ?_ | refine SubL.skip ?_))))) w h4)
                · skip
                  refine OpW.buildSl (ps := [(0, _)]) rfl S25 (by repeat (first | exact Evs.nil | apply Evs.cons rfl)) rfl rfl (by repeat (first | exact CellsOf.nil | apply CellsOf.cons rfl)) (by kernel_rfl) rfl rfl rfl ?_; intro b96
                  refine ⟨(Held.mk' (by repeat (first | exact SubL.refl | refine SubL.cons (by repeat (first | assumption | exact mS | apply mT)) ?_ | refine SubL.skip ?_)) (by repeat (first | exact OwnL.refl | apply OwnL.take (by repeat (first | exact Take.head _ | apply Take.tail)) | apply OwnL.drop))), ?_⟩
                  refine WD.one 6 rfl (by kernel_rfl) rfl ?_
                  refine OpW.appendE (enc := SL.one vs) (xs := ([] : List T)) (ys := psOf (big back i (min qs.length 16)) (qs[i]!.2.2 && !back) qs[i]!.1.2) rfl S28 Try.underlying28 rfl rfl (by repeat (first | assumption | exact Take.head _ | apply Take.tail)) (by repeat (first | assumption | exact mS | apply mT)) (by intro x; first | rfl | (cases x; rfl) | (rcases x with ⟨_, _, _⟩; rfl) | (rcases x with ⟨_, _, _, _⟩; rfl)) (by intro x; first | rfl | (cases x; rfl) | (rcases x with ⟨_, _, _⟩; rfl) | (rcases x with ⟨_, _, _, _⟩; rfl)) ⟨by show _ ≤ 9223372036854775807; simp only [List.length_nil]; omega, by simp only [List.length_nil]; omega⟩ rfl rfl ?_; intro v88 hv88
                  refine ⟨(Held.mk' (by repeat (first | exact SubL.refl | refine SubL.cons (by repeat (first | assumption | exact mS | apply mT)) ?_ | refine SubL.skip ?_)) (by repeat (first | exact OwnL.refl | apply OwnL.take (by repeat (first | exact Take.head _ | apply Take.tail)) | apply OwnL.drop))), ?_⟩
                  refine WD.heap (fun w h => Sat.shareA (xs := [] ++ psOf (big back i (min qs.length 16)) (qs[i]!.2.2 && !back) qs[i]!.1.2) (by repeat (first | assumption | exact Take.head _ | apply Take.tail)) h) ?_
                  refine WD.know (p := SlE (SL.one vs) v88 ([] ++ psOf (big back i (min qs.length 16)) (qs[i]!.2.2 && !back) qs[i]!.1.2)) List.mem_cons_self (fun w h => h.slv) ?_
                  rintro ⟨d2, rfl⟩
                  refine WD.take 9 rfl (by kernel_rfl) (Held.mk' (by repeat (first | exact SubL.refl | refine SubL.cons (by repeat (first | assumption | exact mS | apply mT)) ?_ | refine SubL.skip ?_)) (by repeat (first | exact OwnL.refl | apply OwnL.take (by repeat (first | exact Take.head _ | apply Take.tail)) | apply OwnL.drop))) rfl rfl rfl (Rd.buildN (ps := [(0, _), (1, _), (2, _)]) rfl Bs30 I30 rfl (by repeat (first | exact Evs.nil | apply Evs.cons rfl)) (by repeat (first | exact CellsOf.nil | apply CellsOf.cons rfl)) (by apply NFo.mk; repeat (first | exact NF.nil | apply NF.cons))) ?_
                  refine WD.one 10 rfl (by kernel_rfl) rfl ?_
                  refine OpW.buildSl (ps := [(0, _)]) rfl S24 (by repeat (first | exact Evs.nil | apply Evs.cons rfl)) rfl rfl (by repeat (first | exact CellsOf.nil | apply CellsOf.cons rfl)) (by kernel_rfl) rfl rfl rfl ?_; intro b92
                  refine ⟨(Held.mk' (by repeat (first | exact SubL.refl | refine SubL.cons (by repeat (first | assumption | exact mS | apply mT)) ?_ | refine SubL.skip ?_)) (by repeat (first | exact OwnL.refl | apply OwnL.take (by repeat (first | exact Take.head _ | apply Take.tail)) | apply OwnL.drop))), ?_⟩
                  refine WD.one 11 rfl (by kernel_rfl) rfl ?_
                  refine OpW.appendRow (enc := encN) rfl S24 rfl rfl (by repeat (first | assumption | exact Take.head _ | apply Take.tail)) (by repeat (first | assumption | exact Take.head _ | apply Take.tail)) [(nm i, d2, qs[i]!.2.1)] rfl (by rfl) rfl (by intro x; first | rfl | (cases x; rfl) | (rcases x with ⟨_, _, _⟩; rfl) | (rcases x with ⟨_, _, _, _⟩; rfl)) (by intro x; first | rfl | (cases x; rfl) | (rcases x with ⟨_, _, _⟩; rfl) | (rcases x with ⟨_, _, _, _⟩; rfl)) (by first | assumption | exact ⟨by simp only [maxLen, List.length_append, List.length_nil, List.length_cons, List.length_drop, List.length_take, List.length_map]; omega, by first | omega | (simp only [List.length_append, List.length_nil, List.length_cons, List.length_drop, List.length_take, List.length_map]; omega)⟩) rfl rfl ?_; intro v93 hv93
                  refine ⟨(Held.mk' (by repeat (first | exact SubL.refl | refine SubL.cons (by repeat (first | assumption | exact mS | apply mT)) ?_ | refine SubL.skip ?_)) (by repeat (first | exact OwnL.refl | apply OwnL.take (by repeat (first | exact Take.head _ | apply Take.tail)) | apply OwnL.drop))), ?_⟩
                  refine WD.one 15 rfl (by kernel_rfl) rfl ?_
                  refine OpW.appendRow (enc := encN) rfl S25 rfl rfl (by repeat (first | assumption | exact Take.head _ | apply Take.tail)) (by repeat (first | assumption | exact Take.head _ | apply Take.tail)) [(nm i, d, qs[i]!.2.1)] rfl (by rfl) rfl (by intro x; first | rfl | (cases x; rfl) | (rcases x with ⟨_, _, _⟩; rfl) | (rcases x with ⟨_, _, _, _⟩; rfl)) (by intro x; first | rfl | (cases x; rfl) | (rcases x with ⟨_, _, _⟩; rfl) | (rcases x with ⟨_, _, _, _⟩; rfl)) (by first | assumption | exact ⟨by simp only [maxLen, List.length_append, List.length_nil, List.length_cons, List.length_drop, List.length_take, List.length_map]; omega, by first | omega | (simp only [List.length_append, List.length_nil, List.length_cons, List.length_drop, List.length_take, List.length_map]; omega)⟩) rfl rfl ?_; intro v97 hv97
                  refine ⟨(Held.mk' (by repeat (first | exact SubL.refl | refine SubL.cons (by repeat (first | assumption | exact mS | apply mT)) ?_ | refine SubL.skip ?_)) (by repeat (first | exact OwnL.refl | apply OwnL.take (by repeat (first | exact Take.head _ | apply Take.tail)) | apply OwnL.drop))), ?_⟩
                  refine WD.take 16 rfl (by kernel_rfl) (Held.mk' (by repeat (first | exact SubL.refl | refine SubL.cons (by repeat (first | assumption | exact mS | apply mT)) ?_ | refine SubL.skip ?_)) (by repeat (first | exact OwnL.refl | apply OwnL.take (by repeat (first | exact Take.head _ | apply Take.tail)) | apply OwnL.drop))) rfl rfl rfl (Rd.assign rfl rfl) ?_
                  refine WD.take 17 rfl (by kernel_rfl) (Held.mk' (by repeat (first | exact SubL.refl | refine SubL.cons (by repeat (first | assumption | exact mS | apply mT)) ?_ | refine SubL.skip ?_)) (by repeat (first | exact OwnL.refl | apply OwnL.take (by repeat (first | exact Take.head _ | apply Take.tail)) | apply OwnL.drop))) rfl rfl rfl (Rd.assign rfl rfl) ?_
                  refine WD.done (by kernel_rfl) ?_
                  refine blockQ.normal ?_
                  refine thenQ.normal ?_
                  refine WC.region ?_
                  refine WL.rd rfl rfl rfl (Rd.move rfl rfl) ?_
                  refine WL.rd rfl rfl rfl (Rd.add rfl rfl rfl (by omega)) ?_
                  refine WL.rd rfl rfl rfl (Rd.assign rfl rfl) ?_
                  refine WL.nil ?_
                  exact loopQ5.mk (i + 1) (na ++ [(nm i, d2, qs[i]!.2.1)]) (nb ++ [(nm i, d, qs[i]!.2.1)]) v93 v97 ⟨by omega, i2.next, i3.next⟩ (by omega) (by repeat (first | exact Sub.nil | refine Sub.cons rfl (by first | rfl | (congr 1; omega) | assumption) ?_)) (fun w h => by
                  rw [mkTo_next]
                  have h3 := h.derive (q := ndsP (nb ++ [(nm i, d, qs[i]!.2.1)]) (mkTo back qs i ++ [ndAt (min qs.length 16) back i qs[i]!])) (fun w hw => ndsP_next (by rw [i3.1, mkTo_len]) (hw (ndsP nb (mkTo back qs i)) (by repeat (first | assumption | exact mS | apply mT))) (hw (SlE (SL.one vs) (slv d) (psOf (big back i (min qs.length 16)) (qs[i]!.2.2 && !back) qs[i]!.1.2)) (by repeat (first | assumption | exact mS | apply mT))))
                  have h4 := h3.derive (q := ndsP (na ++ [(nm i, d2, qs[i]!.2.1)]) (mkTo back qs i ++ [ndAt (min qs.length 16) back i qs[i]!])) (fun w hw => ndsP_next (by rw [i2.1, mkTo_len]) (hw (ndsP na (mkTo back qs i)) (by repeat (first | assumption | exact mS | apply mT))) (hw (SlE (SL.one vs) (slv d2) (psOf (big back i (min qs.length 16)) (qs[i]!.2.2 && !back) qs[i]!.1.2)) (by repeat (first | assumption | exact mS | apply mT))))
                  exact (fun w h => OwnL.sat (by repeat (first | exact OwnL.refl | apply OwnL.take (by repeat (first | exact Take.head _ | apply Take.tail)) | apply OwnL.drop)) w (h.thin (SubL.mem (by repeat (first | exact SubL.refl | refine SubL.cons (by repeat (first | assumption | exact mS | apply mT)) ?_ | refine SubL.skip ?_))))) w h4)
              · skip
                refine OpW.buildSl (ps := [(0, _)]) rfl S25 (by repeat (first | exact Evs.nil | apply Evs.cons rfl)) rfl rfl (by repeat (first | exact CellsOf.nil | apply CellsOf.cons rfl)) (by kernel_rfl) rfl rfl rfl ?_; intro b96
                refine ⟨(Held.mk' (by repeat (first | exact SubL.refl | refine SubL.cons (by repeat (first | assumption | exact mS | apply mT)) ?_ | refine SubL.skip ?_)) (by repeat (first | exact OwnL.refl | apply OwnL.take (by repeat (first | exact Take.head _ | apply Take.tail)) | apply OwnL.drop))), ?_⟩
                refine WD.one 3 rfl (by kernel_rfl) rfl ?_
                refine OpW.buildSl (ps := []) rfl S28 (by repeat (first | exact Evs.nil | apply Evs.cons rfl)) rfl rfl (by repeat (first | exact CellsOf.nil | apply CellsOf.cons rfl)) (by kernel_rfl) rfl rfl rfl ?_; intro b85
                refine ⟨(Held.mk' (by repeat (first | exact SubL.refl | refine SubL.cons (by repeat (first | assumption | exact mS | apply mT)) ?_ | refine SubL.skip ?_)) (by repeat (first | exact OwnL.refl | apply OwnL.take (by repeat (first | exact Take.head _ | apply Take.tail)) | apply OwnL.drop))), ?_⟩
                refine WD.heap (fun w h => Sat.accRow (enc := SL.one vs) (size := 1) (xs := ([] : List T)) (by repeat (first | assumption | exact Take.head _ | apply Take.tail)) rfl rfl (fun x => rfl) (by decide) h) ?_
                refine WD.one 6 rfl (by kernel_rfl) rfl ?_
                refine OpW.appendE (enc := SL.one vs) (xs := ([] : List T)) (ys := psOf (big back i (min qs.length 16)) (qs[i]!.2.2 && !back) qs[i]!.1.2) rfl S28 Try.underlying28 rfl rfl (by repeat (first | assumption | exact Take.head _ | apply Take.tail)) (by repeat (first | assumption | exact mS | apply mT)) (by intro x; first | rfl | (cases x; rfl) | (rcases x with ⟨_, _, _⟩; rfl) | (rcases x with ⟨_, _, _, _⟩; rfl)) (by intro x; first | rfl | (cases x; rfl) | (rcases x with ⟨_, _, _⟩; rfl) | (rcases x with ⟨_, _, _, _⟩; rfl)) ⟨by show _ ≤ 9223372036854775807; simp only [List.length_nil]; omega, by simp only [List.length_nil]; omega⟩ rfl rfl ?_; intro v88 hv88
                refine ⟨(Held.mk' (by repeat (first | exact SubL.refl | refine SubL.cons (by repeat (first | assumption | exact mS | apply mT)) ?_ | refine SubL.skip ?_)) (by repeat (first | exact OwnL.refl | apply OwnL.take (by repeat (first | exact Take.head _ | apply Take.tail)) | apply OwnL.drop))), ?_⟩
                refine WD.heap (fun w h => Sat.shareA (xs := [] ++ psOf (big back i (min qs.length 16)) (qs[i]!.2.2 && !back) qs[i]!.1.2) (by repeat (first | assumption | exact Take.head _ | apply Take.tail)) h) ?_
                refine WD.know (p := SlE (SL.one vs) v88 ([] ++ psOf (big back i (min qs.length 16)) (qs[i]!.2.2 && !back) qs[i]!.1.2)) List.mem_cons_self (fun w h => h.slv) ?_
                rintro ⟨d2, rfl⟩
                refine WD.take 9 rfl (by kernel_rfl) (Held.mk' (by repeat (first | exact SubL.refl | refine SubL.cons (by repeat (first | assumption | exact mS | apply mT)) ?_ | refine SubL.skip ?_)) (by repeat (first | exact OwnL.refl | apply OwnL.take (by repeat (first | exact Take.head _ | apply Take.tail)) | apply OwnL.drop))) rfl rfl rfl (Rd.buildN (ps := [(0, _), (1, _), (2, _)]) rfl Bs30 I30 rfl (by repeat (first | exact Evs.nil | apply Evs.cons rfl)) (by repeat (first | exact CellsOf.nil | apply CellsOf.cons rfl)) (by apply NFo.mk; repeat (first | exact NF.nil | apply NF.cons))) ?_
                refine WD.one 10 rfl (by kernel_rfl) rfl ?_
                refine OpW.buildSl (ps := [(0, _)]) rfl S24 (by repeat (first | exact Evs.nil | apply Evs.cons rfl)) rfl rfl (by repeat (first | exact CellsOf.nil | apply CellsOf.cons rfl)) (by kernel_rfl) rfl rfl rfl ?_; intro b92
                refine ⟨(Held.mk' (by repeat (first | exact SubL.refl | refine SubL.cons (by repeat (first | assumption | exact mS | apply mT)) ?_ | refine SubL.skip ?_)) (by repeat (first | exact OwnL.refl | apply OwnL.take (by repeat (first | exact Take.head _ | apply Take.tail)) | apply OwnL.drop))), ?_⟩
                refine WD.one 11 rfl (by kernel_rfl) rfl ?_
                refine OpW.appendRow (enc := encN) rfl S24 rfl rfl (by repeat (first | assumption | exact Take.head _ | apply Take.tail)) (by repeat (first | assumption | exact Take.head _ | apply Take.tail)) [(nm i, d2, qs[i]!.2.1)] rfl (by rfl) rfl (by intro x; first | rfl | (cases x; rfl) | (rcases x with ⟨_, _, _⟩; rfl) | (rcases x with ⟨_, _, _, _⟩; rfl)) (by intro x; first | rfl | (cases x; rfl) | (rcases x with ⟨_, _, _⟩; rfl) | (rcases x with ⟨_, _, _, _⟩; rfl)) (by first | assumption | exact ⟨by simp only [maxLen, List.length_append, List.length_nil, List.length_cons, List.length_drop, List.length_take, List.length_map]; omega, by first | omega | (simp only [List.length_append, List.length_nil, List.length_cons, List.length_drop, List.length_take, List.length_map]; omega)⟩) rfl rfl ?_; intro v93 hv93
                refine ⟨(Held.mk' (by repeat (first | exact SubL.refl | refine SubL.cons (by repeat (first | assumption | exact mS | apply mT)) ?_ | refine SubL.skip ?_)) (by repeat (first | exact OwnL.refl | apply OwnL.take (by repeat (first | exact Take.head _ | apply Take.tail)) | apply OwnL.drop))), ?_⟩
                refine WD.one 15 rfl (by kernel_rfl) rfl ?_
                refine OpW.appendRow (enc := encN) rfl S25 rfl rfl (by repeat (first | assumption | exact Take.head _ | apply Take.tail)) (by repeat (first | assumption | exact Take.head _ | apply Take.tail)) [(nm i, d, qs[i]!.2.1)] rfl (by rfl) rfl (by intro x; first | rfl | (cases x; rfl) | (rcases x with ⟨_, _, _⟩; rfl) | (rcases x with ⟨_, _, _, _⟩; rfl)) (by intro x; first | rfl | (cases x; rfl) | (rcases x with ⟨_, _, _⟩; rfl) | (rcases x with ⟨_, _, _, _⟩; rfl)) (by first | assumption | exact ⟨by simp only [maxLen, List.length_append, List.length_nil, List.length_cons, List.length_drop, List.length_take, List.length_map]; omega, by first | omega | (simp only [List.length_append, List.length_nil, List.length_cons, List.length_drop, List.length_take, List.length_map]; omega)⟩) rfl rfl ?_; intro v97 hv97
                refine ⟨(Held.mk' (by repeat (first | exact SubL.refl | refine SubL.cons (by repeat (first | assumption | exact mS | apply mT)) ?_ | refine SubL.skip ?_)) (by repeat (first | exact OwnL.refl | apply OwnL.take (by repeat (first | exact Take.head _ | apply Take.tail)) | apply OwnL.drop))), ?_⟩
                refine WD.take 16 rfl (by kernel_rfl) (Held.mk' (by repeat (first | exact SubL.refl | refine SubL.cons (by repeat (first | assumption | exact mS | apply mT)) ?_ | refine SubL.skip ?_)) (by repeat (first | exact OwnL.refl | apply OwnL.take (by repeat (first | exact Take.head _ | apply Take.tail)) | apply OwnL.drop))) rfl rfl rfl (Rd.assign rfl rfl) ?_
                refine WD.take 17 rfl (by kernel_rfl) (Held.mk' (by repeat (first | exact SubL.refl | refine SubL.cons (by repeat (first | assumption | exact mS | apply mT)) ?_ | refine SubL.skip ?_)) (by repeat (first | exact OwnL.refl | apply OwnL.take (by repeat (first | exact Take.head _ | apply Take.tail)) | apply OwnL.drop))) rfl rfl rfl (Rd.assign rfl rfl) ?_
                refine WD.done (by kernel_rfl) ?_
                refine blockQ.normal ?_
                refine thenQ.normal ?_
                refine WC.region ?_
                refine WL.rd rfl rfl rfl (Rd.move rfl rfl) ?_
                refine WL.rd rfl rfl rfl (Rd.add rfl rfl rfl (by omega)) ?_
                refine WL.rd rfl rfl rfl (Rd.assign rfl rfl) ?_
                refine WL.nil ?_
                exact loopQ5.mk (i + 1) (na ++ [(nm i, d2, qs[i]!.2.1)]) (nb ++ [(nm i, d, qs[i]!.2.1)]) v93 v97 ⟨by omega, i2.next, i3.next⟩ (by omega) (by repeat (first | exact Sub.nil | refine Sub.cons rfl (by first | rfl | (congr 1; omega) | assumption) ?_)) (fun w h => by
                rw [mkTo_next]
                have h3 := h.derive (q := ndsP (nb ++ [(nm i, d, qs[i]!.2.1)]) (mkTo back qs i ++ [ndAt (min qs.length 16) back i qs[i]!])) (fun w hw => ndsP_next (by rw [i3.1, mkTo_len]) (hw (ndsP nb (mkTo back qs i)) (by repeat (first | assumption | exact mS | apply mT))) (hw (SlE (SL.one vs) (slv d) (psOf (big back i (min qs.length 16)) (qs[i]!.2.2 && !back) qs[i]!.1.2)) (by repeat (first | assumption | exact mS | apply mT))))
                have h4 := h3.derive (q := ndsP (na ++ [(nm i, d2, qs[i]!.2.1)]) (mkTo back qs i ++ [ndAt (min qs.length 16) back i qs[i]!])) (fun w hw => ndsP_next (by rw [i2.1, mkTo_len]) (hw (ndsP na (mkTo back qs i)) (by repeat (first | assumption | exact mS | apply mT))) (hw (SlE (SL.one vs) (slv d2) (psOf (big back i (min qs.length 16)) (qs[i]!.2.2 && !back) qs[i]!.1.2)) (by repeat (first | assumption | exact mS | apply mT))))
                exact (fun w h => OwnL.sat (by repeat (first | exact OwnL.refl | apply OwnL.take (by repeat (first | exact Take.head _ | apply Take.tail)) | apply OwnL.drop)) w (h.thin (SubL.mem (by repeat (first | exact SubL.refl | refine SubL.cons (by repeat (first | assumption | exact mS | apply mT)) ?_ | refine SubL.skip ?_))))) w h4)
  · skip
    obtain rfl : i = min qs.length 16 := by omega
    refine WC.exit ?_
    refine thenQ.exit ?_
    refine loopQ5.exit ?_
    refine blockQ.exit ?_
    refine thenQ.normal ?_
    refine WC.seq ?_
    refine WC.region ?_
    refine WL.rd rfl rfl rfl (Rd.move rfl rfl) ?_
    refine WL.rd rfl rfl rfl (Rd.move rfl rfl) ?_
    refine WL.rd rfl rfl rfl (Rd.assign rfl rfl) ?_
    refine WL.rd rfl rfl rfl (Rd.assign rfl rfl) ?_
    refine WL.nil ?_
    refine thenQ.normal ?_
    refine WC.ret (Ret.two Try.results10 rfl rfl ?_)
    exact hk av bv na nb i2 i3
end
end Go.Proofs.Ytfenbhaehkkkeaa
