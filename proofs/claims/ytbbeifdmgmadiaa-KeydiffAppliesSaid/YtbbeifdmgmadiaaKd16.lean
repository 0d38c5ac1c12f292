/-
 Layer 20: KeydiffApplies's walk.
-/
import Derived.Test.YtbbeifdmgmadiaaKd15
namespace Go.Proofs.Ytbbeifdmgmadiaa
open Go Go.SL
section
variable {R : List RO} {O O' : List Own} {POST : Value → List RO → List Own → Prop}
set_option maxRecDepth 20000 in
set_option maxHeartbeats 8000000 in
theorem applies_spec {p : List It} {l : List Ch} {pv lv : Value} (hp : SlE encI pv p ∈ R) (hl : SlE encC lv l ∈ R) (hKp : ∀ x ∈ p, x.1.length ≤ 9223372036854775807) (hKl : ∀ x ∈ l, x.key.length ≤ 9223372036854775807)
  (hk : POST (.bool true) R O) : Fun Try.prog 5 #[pv, lv] R O POST := by
 have kU := KLof hKp
 have kC : KG (l.take 40) := ⟨by rw [List.length_take]; omega, fun x hx => hKl x (List.mem_of_mem_take hx)⟩
 have hU40 : (p.take 40).length ≤ 40 := by rw [List.length_take]; omega
 have hC40 : (l.take 40).length ≤ 40 := by rw [List.length_take]; omega
 refine Fun.len hl fun hll => ?_
 refine Fun.enter (l := [_, _]) Try.func5 rfl Try.ntmps5 rfl (L0 := [(0, _), (1, _)]) rfl ?_
 refine WC.seq ?_
 refine WC.region ?_
 refine WL.rd rfl rfl rfl (Rd.assign rfl rfl) ?_
 refine WL.nil ?_
 refine thenQ.normal ?_
 refine WC.seq ?_
 refine WC.seq ?_
 refine WC.region ?_
 refine WL.op rfl ?_
 refine OpW.call rfl rfl (by repeat (first | exact Evs.nil | apply Evs.cons rfl)) (by kernel_rfl) rfl rfl rfl ?_
 refine speaks_spec ?_
 refine WL.say 23 (u := .bool (decide True)) rfl (by simp) ?_
 refine WL.rd rfl rfl rfl ((by first | exact Rd.notd rfl rfl | exact Rd.not rfl rfl)) ?_
 refine WL.nil ?_
 refine thenQ.normal ?_
 first | refine WC.ite rfl (fun hc1 => ?_) (fun hc1 => ?_) | refine WC.cond rfl (fun hc1 => ?_) (fun hc1 => ?_)
 ·
  exact absurd trivial hc1
 ·
  refine WC.skip ?_
  refine thenQ.normal ?_
  refine WC.seq ?_
  refine WC.region ?_
  refine WL.rd rfl rfl rfl (Rd.move rfl rfl) ?_
  refine WL.op rfl ?_
  refine OpW.call rfl rfl (by repeat (first | exact Evs.nil | apply Evs.cons rfl)) (by kernel_rfl) rfl rfl rfl ?_
  refine litems_spec hp ?_; intro vx vu
  refine WL.heap (fun w h => Sat.accNil (e := 51) (size := 5) (enc := encG) (Sat.shareA (Take.head _) (Sat.shareA (Take.head _) h))) ?_
  generalize p.take 40 = U at kU hU40 ⊢
  refine WL.rd rfl rfl rfl (Rd.move rfl rfl) ?_
  refine WL.rd rfl rfl rfl (Rd.extract rfl rfl rfl) ?_
  refine WL.rd rfl rfl rfl (Rd.extract rfl rfl rfl) ?_
  refine WL.rd rfl rfl rfl (Rd.assign rfl rfl) ?_
  refine WL.rd rfl rfl rfl (Rd.assign rfl rfl) ?_
  refine WL.nil ?_
  refine thenQ.normal ?_
  refine WC.seq ?_
  refine WC.region ?_
  refine WL.rd rfl rfl rfl (Rd.assign rfl rfl) ?_
  refine WL.nil ?_
  refine thenQ.normal ?_
  refine WC.seq ?_
  refine WC.region ?_
  refine WL.rd rfl rfl rfl (Rd.move rfl rfl) ?_
  refine WL.op rfl ?_
  refine OpW.call rfl rfl (by repeat (first | exact Evs.nil | apply Evs.cons rfl)) (by kernel_rfl) rfl rfl rfl ?_
  refine rright_spec (l := U) (by repeat (first | assumption | exact mS | apply mT)) ?_
  refine WL.rd rfl rfl rfl ((by first | exact Rd.notd rfl rfl | exact Rd.not rfl rfl)) ?_
  refine WL.say 32 (u := .bool (decide (¬ (OrdG (l.take 0) ∧ RightP U)))) rfl (vb ⟨fun h g => h g.2, fun h g => h ⟨OrdG.zero, g⟩⟩) ?_
  refine WL.rd rfl rfl rfl (Rd.assign rfl rfl) ?_
  refine WL.rd rfl rfl rfl (Rd.assign rfl rfl) ?_
  refine WL.rd rfl rfl rfl (Rd.assign rfl rfl) ?_
  refine WL.nil ?_
  refine thenQ.normal ?_
  refine WC.seq ?_
  refine WC.seq ?_
  refine WC.region ?_
  refine WL.rd rfl rfl rfl (Rd.assign rfl rfl) ?_
  refine WL.nil ?_
  refine thenQ.normal ?_
  refine WC.block ?_
  refine WC.pick [7, 8, 9, 10, 11, 1, 5, 6] (by repeat (first | exact Pick.nil | apply Pick.cons rfl)) ?_
  refine WC.loop2 5 (fun (i : Nat) (x : Value) => [(7, x), (8, .bool (decide (¬ (OrdG (l.take (i)) ∧ RightP U)))), (9, .bool (decide (Frm l (i)))), (10, .bool (decide (Stl U l (i)))), (11, .int .i64 (i : Int))]) (fun (i : Nat) (x : Value) => accC 51 5 encG x (l.take i) :: O) (fun (i : Nat) (x : Value) => i ≤ l.length ∧ i ≤ 40) (fun (i : Nat) (x : Value) => l.length - i) (0) (.slice none 0 0) (by repeat (first | exact Split.zero | apply Split.succ)) ?hinv1 (by repeat (first | exact Sub.nil | refine Sub.cons rfl (by first | rfl | (congr 1; omega) | assumption) ?_)) (fun _ h => h) ?_
  case hinv1 =>
   exact ⟨Nat.zero_le _, Nat.zero_le _⟩
  intro i x
  rintro ⟨i1, i2⟩
  refine WC.seq ?_
  refine WC.pick [1, 5, 6, 7, 8, 9, 10, 11] (by repeat (first | exact Pick.nil | apply Pick.cons rfl)) ?_
  refine WC.val 40 (.bool (decide (i < l.length ∧ i < 40))) ?_ ?_
  ·
   refine WC.region ?_
   refine WL.rd rfl rfl rfl (Rd.move rfl rfl) ?_
   refine WL.rd rfl rfl rfl (Rd.move rfl rfl) ?_
   refine WL.rd rfl rfl rfl ((by first | exact Rd.lenE rfl rfl Try.underlying46 (by repeat (first | assumption | exact mS | apply mT)) | exact Rd.lenA rfl rfl Try.underlying46 (by repeat (first | assumption | exact mS | apply mT)) | exact Rd.len rfl rfl Try.underlying46)) ?_
   refine WL.rd rfl rfl rfl (Rd.lss rfl rfl rfl) ?_
   refine WL.rd rfl rfl rfl (Rd.move rfl rfl) ?_
   refine WL.case 37 rfl (fun hg37 => ?_) (fun hg37 => ?_)
   ·
    refine WL.rd_yes rfl rfl rfl rfl rfl rfl (Rd.move rfl rfl) ?_
    refine WL.rd_yes rfl rfl rfl rfl rfl rfl (Rd.lss rfl rfl rfl) ?_
    refine WL.rd rfl rfl rfl (Rd.pick_t rfl rfl rfl) ?_
    refine WL.nil ?_
    exact ⟨by repeat (first | exact Sub.nil | refine Sub.cons rfl (by first | rfl | (first | exact vb_f (fun h => hg37 (by have := h.1; omega)) | exact vb ⟨fun h => ⟨by omega, by omega⟩, fun h => by omega⟩)) ?_), by first | exact (fun _ h => h.thin (SubL.mem (by repeat (first | exact SubL.refl | refine SubL.cons (by repeat (first | assumption | exact mS | apply mT)) ?_ | refine SubL.skip ?_)))) | exact (fun w h => OwnL.sat (by repeat (first | exact OwnL.refl | apply OwnL.take (by repeat (first | exact Take.head _ | apply Take.tail)) | apply OwnL.drop)) w (h.thin (SubL.mem (by repeat (first | exact SubL.refl | refine SubL.cons (by repeat (first | assumption | exact mS | apply mT)) ?_ | refine SubL.skip ?_)))))⟩
   ·
    refine WL.no rfl rfl rfl rfl rfl rfl ?_
    refine WL.no rfl rfl rfl rfl rfl rfl ?_
    refine WL.rd rfl rfl rfl (Rd.pick_f rfl rfl rfl) ?_
    refine WL.nil ?_
    exact ⟨by repeat (first | exact Sub.nil | refine Sub.cons rfl (by first | rfl | (first | exact vb_f (fun h => hg37 (by have := h.1; omega)) | exact vb ⟨fun h => ⟨by omega, by omega⟩, fun h => by omega⟩)) ?_), by first | exact (fun _ h => h.thin (SubL.mem (by repeat (first | exact SubL.refl | refine SubL.cons (by repeat (first | assumption | exact mS | apply mT)) ?_ | refine SubL.skip ?_)))) | exact (fun w h => OwnL.sat (by repeat (first | exact OwnL.refl | apply OwnL.take (by repeat (first | exact Take.head _ | apply Take.tail)) | apply OwnL.drop)) w (h.thin (SubL.mem (by repeat (first | exact SubL.refl | refine SubL.cons (by repeat (first | assumption | exact mS | apply mT)) ?_ | refine SubL.skip ?_)))))⟩
  ·
   first | refine WC.ite rfl (fun hc2 => ?_) (fun hc2 => ?_) | refine WC.cond rfl (fun hc2 => ?_) (fun hc2 => ?_)
   ·
    refine WC.skip ?_
    refine thenQ.normal ?_
    refine WC.seq ?_
    refine WC.block ?_
    refine WC.seq ?_
    refine WC.drawnA 30 rfl mixed ?_
    refine WD.take 0 rfl (by kernel_rfl) Held.all rfl rfl rfl (Rd.move rfl rfl) ?_
    refine WD.take 1 rfl (by kernel_rfl) Held.all rfl rfl rfl (Rd.move rfl rfl) ?_
    refine WD.take 2 rfl (by kernel_rfl) Held.all rfl rfl rfl ((by first | exact Rd.idx (k := i) rfl S46 rfl rfl (by omega) (by repeat (first | assumption | exact mS | apply mT)) (by first | omega | (simp only [List.length_cons, List.length_nil, List.length_append, List.length_map]; omega)) | exact Rd.idxA (k := i) rfl S46 rfl rfl (by omega) (by repeat (first | assumption | exact mS | apply mT)) (by first | omega | (simp only [List.length_cons, List.length_nil, List.length_append, List.length_map]; omega)) | exact Rd.idxR (k := i) rfl S46 rfl rfl (by omega) (by omega))) ?_
    refine WD.take 3 rfl (by kernel_rfl) Held.all rfl rfl rfl ((by first | exact Rd.field rfl F49_0 rfl rfl | exact Rd.fieldE rfl F49_0 rfl (by repeat (first | assumption | exact mS | apply mT)) (by omega) | exact Rd.fieldA rfl F49_0 rfl (by repeat (first | assumption | exact mS | apply mT)) (by omega))) ?_
    refine WD.take 4 rfl (by kernel_rfl) Held.all rfl rfl rfl (Rd.getF (enc := encC) (size := 5) (xs := l) (k := i) (f := 0) (a := l[i]!) (u := vs l[i]!.key) rfl C9 rfl (by repeat (first | assumption | exact mS | apply mT)) (fun x => rfl) (by omega) (get!_of_lt (by omega)) rfl) ?_
    refine WD.take 5 rfl (by kernel_rfl) Held.all rfl rfl rfl (Rd.move rfl rfl) ?_
    refine WD.take 6 rfl (by kernel_rfl) Held.all rfl rfl rfl (Rd.move rfl rfl) ?_
    refine WD.take 7 rfl (by kernel_rfl) Held.all rfl rfl rfl ((by first | exact Rd.idx (k := i) rfl S46 rfl rfl (by omega) (by repeat (first | assumption | exact mS | apply mT)) (by first | omega | (simp only [List.length_cons, List.length_nil, List.length_append, List.length_map]; omega)) | exact Rd.idxA (k := i) rfl S46 rfl rfl (by omega) (by repeat (first | assumption | exact mS | apply mT)) (by first | omega | (simp only [List.length_cons, List.length_nil, List.length_append, List.length_map]; omega)) | exact Rd.idxR (k := i) rfl S46 rfl rfl (by omega) (by omega))) ?_
    refine WD.take 8 rfl (by kernel_rfl) Held.all rfl rfl rfl ((by first | exact Rd.field rfl F49_1 rfl rfl | exact Rd.fieldE rfl F49_1 rfl (by repeat (first | assumption | exact mS | apply mT)) (by omega) | exact Rd.fieldA rfl F49_1 rfl (by repeat (first | assumption | exact mS | apply mT)) (by omega))) ?_
    refine WD.take 9 rfl (by kernel_rfl) Held.all rfl rfl rfl (Rd.getF (enc := encC) (size := 5) (xs := l) (k := i) (f := 1) (a := l[i]!) (u := vs l[i]!.old.1) rfl C9 rfl (by repeat (first | assumption | exact mS | apply mT)) (fun x => rfl) (by omega) (get!_of_lt (by omega)) rfl) ?_
    refine WD.take 10 rfl (by kernel_rfl) Held.all rfl rfl rfl (Rd.move rfl rfl) ?_
    refine WD.take 11 rfl (by kernel_rfl) Held.all rfl rfl rfl (Rd.move rfl rfl) ?_
    refine WD.take 12 rfl (by kernel_rfl) Held.all rfl rfl rfl ((by first | exact Rd.idx (k := i) rfl S46 rfl rfl (by omega) (by repeat (first | assumption | exact mS | apply mT)) (by first | omega | (simp only [List.length_cons, List.length_nil, List.length_append, List.length_map]; omega)) | exact Rd.idxA (k := i) rfl S46 rfl rfl (by omega) (by repeat (first | assumption | exact mS | apply mT)) (by first | omega | (simp only [List.length_cons, List.length_nil, List.length_append, List.length_map]; omega)) | exact Rd.idxR (k := i) rfl S46 rfl rfl (by omega) (by omega))) ?_
    refine WD.take 13 rfl (by kernel_rfl) Held.all rfl rfl rfl ((by first | exact Rd.field rfl F49_3 rfl rfl | exact Rd.fieldE rfl F49_3 rfl (by repeat (first | assumption | exact mS | apply mT)) (by omega) | exact Rd.fieldA rfl F49_3 rfl (by repeat (first | assumption | exact mS | apply mT)) (by omega))) ?_
    refine WD.take 14 rfl (by kernel_rfl) Held.all rfl rfl rfl (Rd.getF (enc := encC) (size := 5) (xs := l) (k := i) (f := 3) (a := l[i]!) (u := .bool l[i]!.old.2) rfl C4 rfl (by repeat (first | assumption | exact mS | apply mT)) (fun x => rfl) (by omega) (get!_of_lt (by omega)) rfl) ?_
    refine WD.take 15 rfl (by kernel_rfl) Held.all rfl rfl rfl (Rd.buildN (ps := [(0, _), (1, _)]) rfl Bs38 I38 rfl (by repeat (first | exact Evs.nil | apply Evs.cons rfl)) (by repeat (first | exact CellsOf.nil | apply CellsOf.cons rfl)) (by apply NFo.mk; repeat (first | exact NF.nil | apply NF.cons))) ?_
    refine WD.take 16 rfl (by kernel_rfl) Held.all rfl rfl rfl (Rd.move rfl rfl) ?_
    refine WD.take 17 rfl (by kernel_rfl) Held.all rfl rfl rfl (Rd.move rfl rfl) ?_
    refine WD.take 18 rfl (by kernel_rfl) Held.all rfl rfl rfl ((by first | exact Rd.idx (k := i) rfl S46 rfl rfl (by omega) (by repeat (first | assumption | exact mS | apply mT)) (by first | omega | (simp only [List.length_cons, List.length_nil, List.length_append, List.length_map]; omega)) | exact Rd.idxA (k := i) rfl S46 rfl rfl (by omega) (by repeat (first | assumption | exact mS | apply mT)) (by first | omega | (simp only [List.length_cons, List.length_nil, List.length_append, List.length_map]; omega)) | exact Rd.idxR (k := i) rfl S46 rfl rfl (by omega) (by omega))) ?_
    refine WD.take 19 rfl (by kernel_rfl) Held.all rfl rfl rfl ((by first | exact Rd.field rfl F49_2 rfl rfl | exact Rd.fieldE rfl F49_2 rfl (by repeat (first | assumption | exact mS | apply mT)) (by omega) | exact Rd.fieldA rfl F49_2 rfl (by repeat (first | assumption | exact mS | apply mT)) (by omega))) ?_
    refine WD.take 20 rfl (by kernel_rfl) Held.all rfl rfl rfl (Rd.getF (enc := encC) (size := 5) (xs := l) (k := i) (f := 2) (a := l[i]!) (u := vs l[i]!.new.1) rfl C9 rfl (by repeat (first | assumption | exact mS | apply mT)) (fun x => rfl) (by omega) (get!_of_lt (by omega)) rfl) ?_
    refine WD.take 21 rfl (by kernel_rfl) Held.all rfl rfl rfl (Rd.move rfl rfl) ?_
    refine WD.take 22 rfl (by kernel_rfl) Held.all rfl rfl rfl (Rd.move rfl rfl) ?_
    refine WD.take 23 rfl (by kernel_rfl) Held.all rfl rfl rfl ((by first | exact Rd.idx (k := i) rfl S46 rfl rfl (by omega) (by repeat (first | assumption | exact mS | apply mT)) (by first | omega | (simp only [List.length_cons, List.length_nil, List.length_append, List.length_map]; omega)) | exact Rd.idxA (k := i) rfl S46 rfl rfl (by omega) (by repeat (first | assumption | exact mS | apply mT)) (by first | omega | (simp only [List.length_cons, List.length_nil, List.length_append, List.length_map]; omega)) | exact Rd.idxR (k := i) rfl S46 rfl rfl (by omega) (by omega))) ?_
    refine WD.take 24 rfl (by kernel_rfl) Held.all rfl rfl rfl ((by first | exact Rd.field rfl F49_4 rfl rfl | exact Rd.fieldE rfl F49_4 rfl (by repeat (first | assumption | exact mS | apply mT)) (by omega) | exact Rd.fieldA rfl F49_4 rfl (by repeat (first | assumption | exact mS | apply mT)) (by omega))) ?_
    refine WD.take 25 rfl (by kernel_rfl) Held.all rfl rfl rfl (Rd.getF (enc := encC) (size := 5) (xs := l) (k := i) (f := 4) (a := l[i]!) (u := .bool l[i]!.new.2) rfl C4 rfl (by repeat (first | assumption | exact mS | apply mT)) (fun x => rfl) (by omega) (get!_of_lt (by omega)) rfl) ?_
    refine WD.take 26 rfl (by kernel_rfl) Held.all rfl rfl rfl (Rd.buildN (ps := [(0, _), (1, _)]) rfl Bs38 I38 rfl (by repeat (first | exact Evs.nil | apply Evs.cons rfl)) (by repeat (first | exact CellsOf.nil | apply CellsOf.cons rfl)) (by apply NFo.mk; repeat (first | exact NF.nil | apply NF.cons))) ?_
    refine WD.take 27 rfl (by kernel_rfl) Held.all rfl rfl rfl (Rd.buildN (ps := [(0, _), (1, _), (2, _)]) rfl Bs51 I51 rfl (by repeat (first | exact Evs.nil | apply Evs.cons rfl)) (by repeat (first | exact CellsOf.nil | apply CellsOf.cons rfl)) (by apply NFo.mk; repeat (first | exact NF.nil | apply NF.cons))) ?_
    refine WD.one 28 rfl (by kernel_rfl) rfl ?_
    refine OpW.alloc rfl I51 rfl Z.N rfl rfl ?_; intro b12
    refine ⟨Z.H, ?_⟩
    refine WD.one 29 rfl (by kernel_rfl) rfl ?_
    refine OpW.storeS rfl G51 rfl rfl Z.N Z.T rfl rfl Z.N rfl ?_
    refine ⟨Z.H, ?_⟩
    refine WD.done (by kernel_rfl) ?_
    refine thenQ.normal ?_
    refine WC.cut (α := Unit) (fun _ => [(1, lv), (5, vx), (6, vu), (7, x), (8, .bool (decide (¬ (OrdG (l.take (i + 1)) ∧ RightP U)))), (9, .bool (decide (Frm l (i)))), (10, .bool (decide (Stl U l (i)))), (11, .int .i64 (i : Int)), (12, .pointer (some ⟨b12, 0, none⟩))]) (fun _ => SlE encI vu U :: SlE encI vx U :: R) (fun _ => rowC b12 51 [vs l[i]!.key, vs l[i]!.old.1, .bool l[i]!.old.2, vs l[i]!.new.1, .bool l[i]!.new.2] :: accC 51 5 encG x (l.take i) :: O) (fun _ => True) ?_ ?_
    ·
     refine WC.still mixed (by kernel_rfl) ?_
     refine WA.rd rfl rfl rfl (Rd.move rfl rfl) ?_
     refine WA.rd rfl rfl rfl (Rd.move rfl rfl) ?_
     refine WA.case 72 rfl (fun hg72 => ?_) (fun hg72 => ?_)
     ·
      refine WA.no rfl rfl rfl rfl rfl rfl ?_
      refine WA.no rfl rfl rfl rfl rfl rfl ?_
      refine WA.no rfl rfl rfl rfl rfl rfl ?_
      refine WA.noU rfl rfl rfl rfl rfl rfl ?_
      refine WA.noU rfl rfl rfl rfl rfl rfl ?_
      refine WA.noU rfl rfl rfl rfl rfl rfl ?_
      refine WA.noU rfl rfl rfl rfl rfl rfl ?_
      refine WA.noU rfl rfl rfl rfl rfl rfl ?_
      refine WA.noU rfl rfl rfl rfl rfl rfl ?_
      refine WA.noU rfl rfl rfl rfl rfl rfl ?_
      refine WA.noU rfl rfl rfl rfl rfl rfl ?_
      refine WA.noU rfl rfl rfl rfl rfl rfl ?_
      refine WA.noU rfl rfl rfl rfl rfl rfl ?_
      refine WA.noU rfl rfl rfl rfl rfl rfl ?_
      refine WA.noU rfl rfl rfl rfl rfl rfl ?_
      refine WA.no rfl rfl rfl rfl rfl rfl ?_
      refine WA.rd rfl rfl rfl (Rd.pick_t rfl rfl rfl) ?_
      refine WA.rd rfl rfl rfl (Rd.assign rfl rfl) ?_
      refine WA.nil ?_
      exact ⟨(), trivial, (by repeat (first | exact Sub.nil | refine Sub.cons rfl (by first | rfl | exact vb_t (fun h => hg72 ⟨((OrdG.snoc (by omega)).1 h.1).1, h.2⟩) | exact vb ⟨fun h g => ((OrdG.snoc (by omega)).1 g.1).2 ⟨by omega, h⟩, fun h hh => h ⟨(OrdG.snoc (by omega)).2 ⟨(Decidable.not_not.1 hg72).1, fun g => g.2 hh⟩, (Decidable.not_not.1 hg72).2⟩⟩ | exact vb_f (fun h => h ⟨(OrdG.snoc (by omega)).2 ⟨(Decidable.not_not.1 hg72).1, fun g => hg75 (by omega)⟩, (Decidable.not_not.1 hg72).2⟩)) ?_)), (fun w h => OwnL.sat (by repeat (first | exact OwnL.refl | apply OwnL.take (by repeat (first | exact Take.head _ | apply Take.tail)) | apply OwnL.drop)) w (h.thin (SubL.mem (by repeat (first | exact SubL.refl | refine SubL.cons (by repeat (first | assumption | exact mS | apply mT)) ?_ | refine SubL.skip ?_)))))⟩
     ·
      refine WA.rd_yes rfl rfl rfl rfl rfl rfl (Rd.move rfl rfl) ?_
      refine WA.rd_yes rfl rfl rfl rfl rfl rfl (Rd.gtr rfl rfl rfl) ?_
      refine WA.rd_yes rfl rfl rfl rfl rfl rfl (Rd.move rfl rfl) ?_
      refine WA.case 75 rfl (fun hg75 => ?_) (fun hg75 => ?_)
      ·
       refine WA.rd_yes rfl rfl rfl rfl rfl rfl (Rd.move rfl rfl) ?_
       refine WA.rd_yes rfl rfl rfl rfl rfl rfl (Rd.move rfl rfl) ?_
       refine WA.rd_yes rfl rfl rfl rfl rfl rfl ((by first | exact Rd.idx (k := i) rfl S46 rfl rfl (by omega) (by repeat (first | assumption | exact mS | apply mT)) (by first | omega | (simp only [List.length_cons, List.length_nil, List.length_append, List.length_map]; omega)) | exact Rd.idxA (k := i) rfl S46 rfl rfl (by omega) (by repeat (first | assumption | exact mS | apply mT)) (by first | omega | (simp only [List.length_cons, List.length_nil, List.length_append, List.length_map]; omega)) | exact Rd.idxR (k := i) rfl S46 rfl rfl (by omega) (by omega))) ?_
       refine WA.rd_yes rfl rfl rfl rfl rfl rfl ((by first | exact Rd.field rfl F49_0 rfl rfl | exact Rd.fieldE rfl F49_0 rfl (by repeat (first | assumption | exact mS | apply mT)) (by omega) | exact Rd.fieldA rfl F49_0 rfl (by repeat (first | assumption | exact mS | apply mT)) (by omega))) ?_
       refine WA.rd_yes rfl rfl rfl rfl rfl rfl (Rd.getF (enc := encC) (size := 5) (xs := l) (k := i) (f := 0) (a := l[i]!) (u := vs l[i]!.key) rfl C9 rfl (by repeat (first | assumption | exact mS | apply mT)) (fun x => rfl) (by omega) (get!_of_lt (by omega)) rfl) ?_
       refine WA.rd_yes rfl rfl rfl rfl rfl rfl (Rd.move rfl rfl) ?_
       refine WA.rd_yes rfl rfl rfl rfl rfl rfl (Rd.move rfl rfl) ?_
       refine WA.rd_yes rfl rfl rfl rfl rfl rfl (Rd.sub rfl rfl rfl (by omega)) ?_
       refine WA.rd_yes rfl rfl rfl rfl rfl rfl ((by first | exact Rd.idx (k := i - 1) rfl S46 rfl rfl (by omega) (by repeat (first | assumption | exact mS | apply mT)) (by first | omega | (simp only [List.length_cons, List.length_nil, List.length_append, List.length_map]; omega)) | exact Rd.idxA (k := i - 1) rfl S46 rfl rfl (by omega) (by repeat (first | assumption | exact mS | apply mT)) (by first | omega | (simp only [List.length_cons, List.length_nil, List.length_append, List.length_map]; omega)) | exact Rd.idxR (k := i - 1) rfl S46 rfl rfl (by omega) (by omega))) ?_
       refine WA.rd_yes rfl rfl rfl rfl rfl rfl ((by first | exact Rd.field rfl F49_0 rfl rfl | exact Rd.fieldE rfl F49_0 rfl (by repeat (first | assumption | exact mS | apply mT)) (by omega) | exact Rd.fieldA rfl F49_0 rfl (by repeat (first | assumption | exact mS | apply mT)) (by omega))) ?_
       refine WA.rd_yes rfl rfl rfl rfl rfl rfl (Rd.getF (enc := encC) (size := 5) (xs := l) (k := i - 1) (f := 0) (a := l[i - 1]!) (u := vs l[i - 1]!.key) rfl C9 rfl (by repeat (first | assumption | exact mS | apply mT)) (fun x => rfl) (by omega) (get!_of_lt (by omega)) rfl) ?_
       refine WA.rd_yes rfl rfl rfl rfl rfl rfl (Rd.sleqP rfl rfl rfl) ?_
       refine WA.rd_yes rfl rfl rfl rfl rfl rfl (Rd.pick_t rfl rfl rfl) ?_
       refine WA.rd rfl rfl rfl (Rd.pick_f rfl rfl rfl) ?_
       refine WA.rd rfl rfl rfl (Rd.assign rfl rfl) ?_
       refine WA.nil ?_
       exact ⟨(), trivial, (by repeat (first | exact Sub.nil | refine Sub.cons rfl (by first | rfl | exact vb_t (fun h => hg72 ⟨((OrdG.snoc (by omega)).1 h.1).1, h.2⟩) | exact vb ⟨fun h g => ((OrdG.snoc (by omega)).1 g.1).2 ⟨by omega, h⟩, fun h hh => h ⟨(OrdG.snoc (by omega)).2 ⟨(Decidable.not_not.1 hg72).1, fun g => g.2 hh⟩, (Decidable.not_not.1 hg72).2⟩⟩ | exact vb_f (fun h => h ⟨(OrdG.snoc (by omega)).2 ⟨(Decidable.not_not.1 hg72).1, fun g => hg75 (by omega)⟩, (Decidable.not_not.1 hg72).2⟩)) ?_)), (fun w h => OwnL.sat (by repeat (first | exact OwnL.refl | apply OwnL.take (by repeat (first | exact Take.head _ | apply Take.tail)) | apply OwnL.drop)) w (h.thin (SubL.mem (by repeat (first | exact SubL.refl | refine SubL.cons (by repeat (first | assumption | exact mS | apply mT)) ?_ | refine SubL.skip ?_)))))⟩
      ·
       refine WA.no rfl rfl rfl rfl rfl rfl ?_
       refine WA.no rfl rfl rfl rfl rfl rfl ?_
       refine WA.no rfl rfl rfl rfl rfl rfl ?_
       refine WA.no rfl rfl rfl rfl rfl rfl ?_
       refine WA.no rfl rfl rfl rfl rfl rfl ?_
       refine WA.no rfl rfl rfl rfl rfl rfl ?_
       refine WA.no rfl rfl rfl rfl rfl rfl ?_
       refine WA.no rfl rfl rfl rfl rfl rfl ?_
       refine WA.no rfl rfl rfl rfl rfl rfl ?_
       refine WA.no rfl rfl rfl rfl rfl rfl ?_
       refine WA.no rfl rfl rfl rfl rfl rfl ?_
       refine WA.no rfl rfl rfl rfl rfl rfl ?_
       refine WA.rd_yes rfl rfl rfl rfl rfl rfl (Rd.pick_f rfl rfl rfl) ?_
       refine WA.rd rfl rfl rfl (Rd.pick_f rfl rfl rfl) ?_
       refine WA.rd rfl rfl rfl (Rd.assign rfl rfl) ?_
       refine WA.nil ?_
       exact ⟨(), trivial, (by repeat (first | exact Sub.nil | refine Sub.cons rfl (by first | rfl | exact vb_t (fun h => hg72 ⟨((OrdG.snoc (by omega)).1 h.1).1, h.2⟩) | exact vb ⟨fun h g => ((OrdG.snoc (by omega)).1 g.1).2 ⟨by omega, h⟩, fun h hh => h ⟨(OrdG.snoc (by omega)).2 ⟨(Decidable.not_not.1 hg72).1, fun g => g.2 hh⟩, (Decidable.not_not.1 hg72).2⟩⟩ | exact vb_f (fun h => h ⟨(OrdG.snoc (by omega)).2 ⟨(Decidable.not_not.1 hg72).1, fun g => hg75 (by omega)⟩, (Decidable.not_not.1 hg72).2⟩)) ?_)), (fun w h => OwnL.sat (by repeat (first | exact OwnL.refl | apply OwnL.take (by repeat (first | exact Take.head _ | apply Take.tail)) | apply OwnL.drop)) w (h.thin (SubL.mem (by repeat (first | exact SubL.refl | refine SubL.cons (by repeat (first | assumption | exact mS | apply mT)) ?_ | refine SubL.skip ?_)))))⟩
    ·
     rintro ⟨⟩ -
     refine WC.cut (α := Unit) (fun _ => [(1, lv), (5, vx), (6, vu), (7, x), (8, .bool (decide (¬ (OrdG (l.take (i + 1)) ∧ RightP U)))), (9, .bool (decide (Frm l (i + 1)))), (10, .bool (decide (Stl U l (i)))), (11, .int .i64 (i : Int)), (12, .pointer (some ⟨b12, 0, none⟩))]) (fun _ => SlE encI vu U :: SlE encI vx U :: R) (fun _ => rowC b12 51 [vs l[i]!.key, vs l[i]!.old.1, .bool l[i]!.old.2, vs l[i]!.new.1, .bool l[i]!.new.2] :: accC 51 5 encG x (l.take i) :: O) (fun _ => True) ?_ ?_
     ·
      refine WC.region ?_
      refine WL.rd rfl rfl rfl (Rd.move rfl rfl) ?_
      refine WL.rd rfl rfl rfl (Rd.move rfl rfl) ?_
      refine WL.case 91 rfl (fun hg91 => ?_) (fun hg91 => ?_)
      ·
       refine WL.no rfl rfl rfl rfl rfl rfl ?_
       refine WL.no rfl rfl rfl rfl rfl rfl ?_
       refine WL.no rfl rfl rfl rfl rfl rfl ?_
       refine WL.no rfl rfl rfl rfl rfl rfl ?_
       refine WL.no rfl rfl rfl rfl rfl rfl ?_
       refine WL.no rfl rfl rfl rfl rfl rfl ?_
       refine WL.no rfl rfl rfl rfl rfl rfl ?_
       refine WL.noU rfl rfl rfl rfl rfl rfl ?_
       refine WL.noU rfl rfl rfl rfl rfl rfl ?_
       refine WL.noU rfl rfl rfl rfl rfl rfl ?_
       refine WL.noU rfl rfl rfl rfl rfl rfl ?_
       refine WL.noU rfl rfl rfl rfl rfl rfl ?_
       refine WL.noU rfl rfl rfl rfl rfl rfl ?_
       refine WL.no rfl rfl rfl rfl rfl rfl ?_
       refine WL.rd rfl rfl rfl (Rd.pick_t rfl rfl rfl) ?_
       refine WL.rd rfl rfl rfl (Rd.move rfl rfl) ?_
       refine WL.no rfl rfl rfl rfl rfl rfl ?_
       refine WL.no rfl rfl rfl rfl rfl rfl ?_
       refine WL.no rfl rfl rfl rfl rfl rfl ?_
       refine WL.no rfl rfl rfl rfl rfl rfl ?_
       refine WL.no rfl rfl rfl rfl rfl rfl ?_
       refine WL.no rfl rfl rfl rfl rfl rfl ?_
       refine WL.no rfl rfl rfl rfl rfl rfl ?_
       refine WL.noU rfl rfl rfl rfl rfl rfl ?_
       refine WL.noU rfl rfl rfl rfl rfl rfl ?_
       refine WL.noU rfl rfl rfl rfl rfl rfl ?_
       refine WL.noU rfl rfl rfl rfl rfl rfl ?_
       refine WL.noU rfl rfl rfl rfl rfl rfl ?_
       refine WL.noU rfl rfl rfl rfl rfl rfl ?_
       refine WL.no rfl rfl rfl rfl rfl rfl ?_
       refine WL.rd rfl rfl rfl (Rd.pick_t rfl rfl rfl) ?_
       refine WL.rd rfl rfl rfl (Rd.assign rfl rfl) ?_
       refine WL.nil ?_
       exact ⟨(), trivial, (by repeat (first | exact Sub.nil | refine Sub.cons rfl (by first | rfl | exact vb_t ((Frm.snoc (by omega)).2 (.inl hg91)) | exact vb_t ((Frm.snoc (by omega)).2 (.inr (.inl ⟨hg98, hg107⟩))) | exact vb ⟨fun h => (Frm.snoc (by omega)).2 (.inr (.inr ⟨hg114, h⟩)), fun h => ((Frm.snoc (by omega)).1 h).elim (fun g => (hg91 g).elim) (fun g => g.elim (fun g => (hg107 g.2).elim) (fun g => g.2))⟩ | exact vb_f (fun h => ((Frm.snoc (by omega)).1 h).elim hg91 (fun g => g.elim (fun g => hg107 g.2) (fun g => hg114 g.1))) | exact vb ⟨fun h => (Frm.snoc (by omega)).2 (.inr (.inr ⟨hg114, h⟩)), fun h => ((Frm.snoc (by omega)).1 h).elim (fun g => (hg91 g).elim) (fun g => g.elim (fun g => (hg98 g.1).elim) (fun g => g.2))⟩ | exact vb_f (fun h => ((Frm.snoc (by omega)).1 h).elim hg91 (fun g => g.elim (fun g => hg98 g.1) (fun g => hg114 g.1)))) ?_)), (fun w h => OwnL.sat (by repeat (first | exact OwnL.refl | apply OwnL.take (by repeat (first | exact Take.head _ | apply Take.tail)) | apply OwnL.drop)) w (h.thin (SubL.mem (by repeat (first | exact SubL.refl | refine SubL.cons (by repeat (first | assumption | exact mS | apply mT)) ?_ | refine SubL.skip ?_)))))⟩
      ·
       refine WL.rd_yes rfl rfl rfl rfl rfl rfl (Rd.move rfl rfl) ?_
       refine WL.rd_yes rfl rfl rfl rfl rfl rfl (Rd.move rfl rfl) ?_
       refine WL.rd_yes rfl rfl rfl rfl rfl rfl ((by first | exact Rd.idx (k := i) rfl S46 rfl rfl (by omega) (by repeat (first | assumption | exact mS | apply mT)) (by first | omega | (simp only [List.length_cons, List.length_nil, List.length_append, List.length_map]; omega)) | exact Rd.idxA (k := i) rfl S46 rfl rfl (by omega) (by repeat (first | assumption | exact mS | apply mT)) (by first | omega | (simp only [List.length_cons, List.length_nil, List.length_append, List.length_map]; omega)) | exact Rd.idxR (k := i) rfl S46 rfl rfl (by omega) (by omega))) ?_
       refine WL.rd_yes rfl rfl rfl rfl rfl rfl ((by first | exact Rd.field rfl F49_3 rfl rfl | exact Rd.fieldE rfl F49_3 rfl (by repeat (first | assumption | exact mS | apply mT)) (by omega) | exact Rd.fieldA rfl F49_3 rfl (by repeat (first | assumption | exact mS | apply mT)) (by omega))) ?_
       refine WL.rd_yes rfl rfl rfl rfl rfl rfl (Rd.getF (enc := encC) (size := 5) (xs := l) (k := i) (f := 3) (a := l[i]!) (u := .bool l[i]!.old.2) rfl C4 rfl (by repeat (first | assumption | exact mS | apply mT)) (fun x => rfl) (by omega) (get!_of_lt (by omega)) rfl) ?_
       refine WL.rd_yes rfl rfl rfl rfl rfl rfl ((by first | exact Rd.notd rfl rfl | exact Rd.not rfl rfl)) ?_
       refine WL.say 97 (u := .bool (decide (l[i]!.old.2 = false))) rfl (by cases l[i]!.old.2 <;> rfl) ?_
       refine WL.rd_yes rfl rfl rfl rfl rfl rfl (Rd.move rfl rfl) ?_
       refine WL.case 98 rfl (fun hg98 => ?_) (fun hg98 => ?_)
       ·
        refine WL.rd_yes rfl rfl rfl rfl rfl rfl (Rd.move rfl rfl) ?_
        refine WL.rd_yes rfl rfl rfl rfl rfl rfl (Rd.move rfl rfl) ?_
        refine WL.rd_yes rfl rfl rfl rfl rfl rfl ((by first | exact Rd.idx (k := i) rfl S46 rfl rfl (by omega) (by repeat (first | assumption | exact mS | apply mT)) (by first | omega | (simp only [List.length_cons, List.length_nil, List.length_append, List.length_map]; omega)) | exact Rd.idxA (k := i) rfl S46 rfl rfl (by omega) (by repeat (first | assumption | exact mS | apply mT)) (by first | omega | (simp only [List.length_cons, List.length_nil, List.length_append, List.length_map]; omega)) | exact Rd.idxR (k := i) rfl S46 rfl rfl (by omega) (by omega))) ?_
        refine WL.rd_yes rfl rfl rfl rfl rfl rfl ((by first | exact Rd.field rfl F49_1 rfl rfl | exact Rd.fieldE rfl F49_1 rfl (by repeat (first | assumption | exact mS | apply mT)) (by omega) | exact Rd.fieldA rfl F49_1 rfl (by repeat (first | assumption | exact mS | apply mT)) (by omega))) ?_
        refine WL.rd_yes rfl rfl rfl rfl rfl rfl (Rd.getF (enc := encC) (size := 5) (xs := l) (k := i) (f := 1) (a := l[i]!) (u := vs l[i]!.old.1) rfl C9 rfl (by repeat (first | assumption | exact mS | apply mT)) (fun x => rfl) (by omega) (get!_of_lt (by omega)) rfl) ?_
        refine WL.rd_yes rfl rfl rfl rfl rfl rfl (Rd.sneq rfl rfl rfl) ?_
        refine WL.rd_yes rfl rfl rfl rfl rfl rfl (Rd.pick_t rfl rfl rfl) ?_
        refine WL.rd rfl rfl rfl (Rd.pick_f rfl rfl rfl) ?_
        refine WL.rd rfl rfl rfl (Rd.move rfl rfl) ?_
        refine WL.case 107 rfl (fun hg107 => ?_) (fun hg107 => ?_)
        ·
         refine WL.no rfl rfl rfl rfl rfl rfl ?_
         refine WL.no rfl rfl rfl rfl rfl rfl ?_
         refine WL.no rfl rfl rfl rfl rfl rfl ?_
         refine WL.no rfl rfl rfl rfl rfl rfl ?_
         refine WL.no rfl rfl rfl rfl rfl rfl ?_
         refine WL.no rfl rfl rfl rfl rfl rfl ?_
         refine WL.no rfl rfl rfl rfl rfl rfl ?_
         refine WL.noU rfl rfl rfl rfl rfl rfl ?_
         refine WL.noU rfl rfl rfl rfl rfl rfl ?_
         refine WL.noU rfl rfl rfl rfl rfl rfl ?_
         refine WL.noU rfl rfl rfl rfl rfl rfl ?_
         refine WL.noU rfl rfl rfl rfl rfl rfl ?_
         refine WL.noU rfl rfl rfl rfl rfl rfl ?_
         refine WL.no rfl rfl rfl rfl rfl rfl ?_
         refine WL.rd rfl rfl rfl (Rd.pick_t rfl rfl rfl) ?_
         refine WL.rd rfl rfl rfl (Rd.assign rfl rfl) ?_
         refine WL.nil ?_
         exact ⟨(), trivial, (by repeat (first | exact Sub.nil | refine Sub.cons rfl (by first | rfl | exact vb_t ((Frm.snoc (by omega)).2 (.inl hg91)) | exact vb_t ((Frm.snoc (by omega)).2 (.inr (.inl ⟨hg98, hg107⟩))) | exact vb ⟨fun h => (Frm.snoc (by omega)).2 (.inr (.inr ⟨hg114, h⟩)), fun h => ((Frm.snoc (by omega)).1 h).elim (fun g => (hg91 g).elim) (fun g => g.elim (fun g => (hg107 g.2).elim) (fun g => g.2))⟩ | exact vb_f (fun h => ((Frm.snoc (by omega)).1 h).elim hg91 (fun g => g.elim (fun g => hg107 g.2) (fun g => hg114 g.1))) | exact vb ⟨fun h => (Frm.snoc (by omega)).2 (.inr (.inr ⟨hg114, h⟩)), fun h => ((Frm.snoc (by omega)).1 h).elim (fun g => (hg91 g).elim) (fun g => g.elim (fun g => (hg98 g.1).elim) (fun g => g.2))⟩ | exact vb_f (fun h => ((Frm.snoc (by omega)).1 h).elim hg91 (fun g => g.elim (fun g => hg98 g.1) (fun g => hg114 g.1)))) ?_)), (fun w h => OwnL.sat (by repeat (first | exact OwnL.refl | apply OwnL.take (by repeat (first | exact Take.head _ | apply Take.tail)) | apply OwnL.drop)) w (h.thin (SubL.mem (by repeat (first | exact SubL.refl | refine SubL.cons (by repeat (first | assumption | exact mS | apply mT)) ?_ | refine SubL.skip ?_)))))⟩
        ·
         refine WL.rd_yes rfl rfl rfl rfl rfl rfl (Rd.move rfl rfl) ?_
         refine WL.rd_yes rfl rfl rfl rfl rfl rfl (Rd.move rfl rfl) ?_
         refine WL.rd_yes rfl rfl rfl rfl rfl rfl ((by first | exact Rd.idx (k := i) rfl S46 rfl rfl (by omega) (by repeat (first | assumption | exact mS | apply mT)) (by first | omega | (simp only [List.length_cons, List.length_nil, List.length_append, List.length_map]; omega)) | exact Rd.idxA (k := i) rfl S46 rfl rfl (by omega) (by repeat (first | assumption | exact mS | apply mT)) (by first | omega | (simp only [List.length_cons, List.length_nil, List.length_append, List.length_map]; omega)) | exact Rd.idxR (k := i) rfl S46 rfl rfl (by omega) (by omega))) ?_
         refine WL.rd_yes rfl rfl rfl rfl rfl rfl ((by first | exact Rd.field rfl F49_4 rfl rfl | exact Rd.fieldE rfl F49_4 rfl (by repeat (first | assumption | exact mS | apply mT)) (by omega) | exact Rd.fieldA rfl F49_4 rfl (by repeat (first | assumption | exact mS | apply mT)) (by omega))) ?_
         refine WL.rd_yes rfl rfl rfl rfl rfl rfl (Rd.getF (enc := encC) (size := 5) (xs := l) (k := i) (f := 4) (a := l[i]!) (u := .bool l[i]!.new.2) rfl C4 rfl (by repeat (first | assumption | exact mS | apply mT)) (fun x => rfl) (by omega) (get!_of_lt (by omega)) rfl) ?_
         refine WL.rd_yes rfl rfl rfl rfl rfl rfl ((by first | exact Rd.notd rfl rfl | exact Rd.not rfl rfl)) ?_
         refine WL.say 113 (u := .bool (decide (l[i]!.new.2 = false))) rfl (by cases l[i]!.new.2 <;> rfl) ?_
         refine WL.rd_yes rfl rfl rfl rfl rfl rfl (Rd.move rfl rfl) ?_
         refine WL.case 114 rfl (fun hg114 => ?_) (fun hg114 => ?_)
         ·
          refine WL.rd_yes rfl rfl rfl rfl rfl rfl (Rd.move rfl rfl) ?_
          refine WL.rd_yes rfl rfl rfl rfl rfl rfl (Rd.move rfl rfl) ?_
          refine WL.rd_yes rfl rfl rfl rfl rfl rfl ((by first | exact Rd.idx (k := i) rfl S46 rfl rfl (by omega) (by repeat (first | assumption | exact mS | apply mT)) (by first | omega | (simp only [List.length_cons, List.length_nil, List.length_append, List.length_map]; omega)) | exact Rd.idxA (k := i) rfl S46 rfl rfl (by omega) (by repeat (first | assumption | exact mS | apply mT)) (by first | omega | (simp only [List.length_cons, List.length_nil, List.length_append, List.length_map]; omega)) | exact Rd.idxR (k := i) rfl S46 rfl rfl (by omega) (by omega))) ?_
          refine WL.rd_yes rfl rfl rfl rfl rfl rfl ((by first | exact Rd.field rfl F49_2 rfl rfl | exact Rd.fieldE rfl F49_2 rfl (by repeat (first | assumption | exact mS | apply mT)) (by omega) | exact Rd.fieldA rfl F49_2 rfl (by repeat (first | assumption | exact mS | apply mT)) (by omega))) ?_
          refine WL.rd_yes rfl rfl rfl rfl rfl rfl (Rd.getF (enc := encC) (size := 5) (xs := l) (k := i) (f := 2) (a := l[i]!) (u := vs l[i]!.new.1) rfl C9 rfl (by repeat (first | assumption | exact mS | apply mT)) (fun x => rfl) (by omega) (get!_of_lt (by omega)) rfl) ?_
          refine WL.rd_yes rfl rfl rfl rfl rfl rfl (Rd.sneq rfl rfl rfl) ?_
          refine WL.rd_yes rfl rfl rfl rfl rfl rfl (Rd.pick_t rfl rfl rfl) ?_
          refine WL.rd rfl rfl rfl (Rd.pick_f rfl rfl rfl) ?_
          refine WL.rd rfl rfl rfl (Rd.assign rfl rfl) ?_
          refine WL.nil ?_
          exact ⟨(), trivial, (by repeat (first | exact Sub.nil | refine Sub.cons rfl (by first | rfl | exact vb_t ((Frm.snoc (by omega)).2 (.inl hg91)) | exact vb_t ((Frm.snoc (by omega)).2 (.inr (.inl ⟨hg98, hg107⟩))) | exact vb ⟨fun h => (Frm.snoc (by omega)).2 (.inr (.inr ⟨hg114, h⟩)), fun h => ((Frm.snoc (by omega)).1 h).elim (fun g => (hg91 g).elim) (fun g => g.elim (fun g => (hg107 g.2).elim) (fun g => g.2))⟩ | exact vb_f (fun h => ((Frm.snoc (by omega)).1 h).elim hg91 (fun g => g.elim (fun g => hg107 g.2) (fun g => hg114 g.1))) | exact vb ⟨fun h => (Frm.snoc (by omega)).2 (.inr (.inr ⟨hg114, h⟩)), fun h => ((Frm.snoc (by omega)).1 h).elim (fun g => (hg91 g).elim) (fun g => g.elim (fun g => (hg98 g.1).elim) (fun g => g.2))⟩ | exact vb_f (fun h => ((Frm.snoc (by omega)).1 h).elim hg91 (fun g => g.elim (fun g => hg98 g.1) (fun g => hg114 g.1)))) ?_)), (fun w h => OwnL.sat (by repeat (first | exact OwnL.refl | apply OwnL.take (by repeat (first | exact Take.head _ | apply Take.tail)) | apply OwnL.drop)) w (h.thin (SubL.mem (by repeat (first | exact SubL.refl | refine SubL.cons (by repeat (first | assumption | exact mS | apply mT)) ?_ | refine SubL.skip ?_)))))⟩
         ·
          refine WL.no rfl rfl rfl rfl rfl rfl ?_
          refine WL.no rfl rfl rfl rfl rfl rfl ?_
          refine WL.no rfl rfl rfl rfl rfl rfl ?_
          refine WL.no rfl rfl rfl rfl rfl rfl ?_
          refine WL.no rfl rfl rfl rfl rfl rfl ?_
          refine WL.no rfl rfl rfl rfl rfl rfl ?_
          refine WL.rd_yes rfl rfl rfl rfl rfl rfl (Rd.pick_f rfl rfl rfl) ?_
          refine WL.rd rfl rfl rfl (Rd.pick_f rfl rfl rfl) ?_
          refine WL.rd rfl rfl rfl (Rd.assign rfl rfl) ?_
          refine WL.nil ?_
          exact ⟨(), trivial, (by repeat (first | exact Sub.nil | refine Sub.cons rfl (by first | rfl | exact vb_t ((Frm.snoc (by omega)).2 (.inl hg91)) | exact vb_t ((Frm.snoc (by omega)).2 (.inr (.inl ⟨hg98, hg107⟩))) | exact vb ⟨fun h => (Frm.snoc (by omega)).2 (.inr (.inr ⟨hg114, h⟩)), fun h => ((Frm.snoc (by omega)).1 h).elim (fun g => (hg91 g).elim) (fun g => g.elim (fun g => (hg107 g.2).elim) (fun g => g.2))⟩ | exact vb_f (fun h => ((Frm.snoc (by omega)).1 h).elim hg91 (fun g => g.elim (fun g => hg107 g.2) (fun g => hg114 g.1))) | exact vb ⟨fun h => (Frm.snoc (by omega)).2 (.inr (.inr ⟨hg114, h⟩)), fun h => ((Frm.snoc (by omega)).1 h).elim (fun g => (hg91 g).elim) (fun g => g.elim (fun g => (hg98 g.1).elim) (fun g => g.2))⟩ | exact vb_f (fun h => ((Frm.snoc (by omega)).1 h).elim hg91 (fun g => g.elim (fun g => hg98 g.1) (fun g => hg114 g.1)))) ?_)), (fun w h => OwnL.sat (by repeat (first | exact OwnL.refl | apply OwnL.take (by repeat (first | exact Take.head _ | apply Take.tail)) | apply OwnL.drop)) w (h.thin (SubL.mem (by repeat (first | exact SubL.refl | refine SubL.cons (by repeat (first | assumption | exact mS | apply mT)) ?_ | refine SubL.skip ?_)))))⟩
       ·
        refine WL.no rfl rfl rfl rfl rfl rfl ?_
        refine WL.no rfl rfl rfl rfl rfl rfl ?_
        refine WL.no rfl rfl rfl rfl rfl rfl ?_
        refine WL.no rfl rfl rfl rfl rfl rfl ?_
        refine WL.no rfl rfl rfl rfl rfl rfl ?_
        refine WL.no rfl rfl rfl rfl rfl rfl ?_
        refine WL.rd_yes rfl rfl rfl rfl rfl rfl (Rd.pick_f rfl rfl rfl) ?_
        refine WL.rd rfl rfl rfl (Rd.pick_f rfl rfl rfl) ?_
        refine WL.rd rfl rfl rfl (Rd.move rfl rfl) ?_
        refine WL.rd_yes rfl rfl rfl rfl rfl rfl (Rd.move rfl rfl) ?_
        refine WL.rd_yes rfl rfl rfl rfl rfl rfl (Rd.move rfl rfl) ?_
        refine WL.rd_yes rfl rfl rfl rfl rfl rfl ((by first | exact Rd.idx (k := i) rfl S46 rfl rfl (by omega) (by repeat (first | assumption | exact mS | apply mT)) (by first | omega | (simp only [List.length_cons, List.length_nil, List.length_append, List.length_map]; omega)) | exact Rd.idxA (k := i) rfl S46 rfl rfl (by omega) (by repeat (first | assumption | exact mS | apply mT)) (by first | omega | (simp only [List.length_cons, List.length_nil, List.length_append, List.length_map]; omega)) | exact Rd.idxR (k := i) rfl S46 rfl rfl (by omega) (by omega))) ?_
        refine WL.rd_yes rfl rfl rfl rfl rfl rfl ((by first | exact Rd.field rfl F49_4 rfl rfl | exact Rd.fieldE rfl F49_4 rfl (by repeat (first | assumption | exact mS | apply mT)) (by omega) | exact Rd.fieldA rfl F49_4 rfl (by repeat (first | assumption | exact mS | apply mT)) (by omega))) ?_
        refine WL.rd_yes rfl rfl rfl rfl rfl rfl (Rd.getF (enc := encC) (size := 5) (xs := l) (k := i) (f := 4) (a := l[i]!) (u := .bool l[i]!.new.2) rfl C4 rfl (by repeat (first | assumption | exact mS | apply mT)) (fun x => rfl) (by omega) (get!_of_lt (by omega)) rfl) ?_
        refine WL.rd_yes rfl rfl rfl rfl rfl rfl ((by first | exact Rd.notd rfl rfl | exact Rd.not rfl rfl)) ?_
        refine WL.say 113 (u := .bool (decide (l[i]!.new.2 = false))) rfl (by cases l[i]!.new.2 <;> rfl) ?_
        refine WL.rd_yes rfl rfl rfl rfl rfl rfl (Rd.move rfl rfl) ?_
        refine WL.case 114 rfl (fun hg114 => ?_) (fun hg114 => ?_)
        ·
         refine WL.rd_yes rfl rfl rfl rfl rfl rfl (Rd.move rfl rfl) ?_
         refine WL.rd_yes rfl rfl rfl rfl rfl rfl (Rd.move rfl rfl) ?_
         refine WL.rd_yes rfl rfl rfl rfl rfl rfl ((by first | exact Rd.idx (k := i) rfl S46 rfl rfl (by omega) (by repeat (first | assumption | exact mS | apply mT)) (by first | omega | (simp only [List.length_cons, List.length_nil, List.length_append, List.length_map]; omega)) | exact Rd.idxA (k := i) rfl S46 rfl rfl (by omega) (by repeat (first | assumption | exact mS | apply mT)) (by first | omega | (simp only [List.length_cons, List.length_nil, List.length_append, List.length_map]; omega)) | exact Rd.idxR (k := i) rfl S46 rfl rfl (by omega) (by omega))) ?_
         refine WL.rd_yes rfl rfl rfl rfl rfl rfl ((by first | exact Rd.field rfl F49_2 rfl rfl | exact Rd.fieldE rfl F49_2 rfl (by repeat (first | assumption | exact mS | apply mT)) (by omega) | exact Rd.fieldA rfl F49_2 rfl (by repeat (first | assumption | exact mS | apply mT)) (by omega))) ?_
         refine WL.rd_yes rfl rfl rfl rfl rfl rfl (Rd.getF (enc := encC) (size := 5) (xs := l) (k := i) (f := 2) (a := l[i]!) (u := vs l[i]!.new.1) rfl C9 rfl (by repeat (first | assumption | exact mS | apply mT)) (fun x => rfl) (by omega) (get!_of_lt (by omega)) rfl) ?_
         refine WL.rd_yes rfl rfl rfl rfl rfl rfl (Rd.sneq rfl rfl rfl) ?_
         refine WL.rd_yes rfl rfl rfl rfl rfl rfl (Rd.pick_t rfl rfl rfl) ?_
         refine WL.rd rfl rfl rfl (Rd.pick_f rfl rfl rfl) ?_
         refine WL.rd rfl rfl rfl (Rd.assign rfl rfl) ?_
         refine WL.nil ?_
         exact ⟨(), trivial, (by repeat (first | exact Sub.nil | refine Sub.cons rfl (by first | rfl | exact vb_t ((Frm.snoc (by omega)).2 (.inl hg91)) | exact vb_t ((Frm.snoc (by omega)).2 (.inr (.inl ⟨hg98, hg107⟩))) | exact vb ⟨fun h => (Frm.snoc (by omega)).2 (.inr (.inr ⟨hg114, h⟩)), fun h => ((Frm.snoc (by omega)).1 h).elim (fun g => (hg91 g).elim) (fun g => g.elim (fun g => (hg107 g.2).elim) (fun g => g.2))⟩ | exact vb_f (fun h => ((Frm.snoc (by omega)).1 h).elim hg91 (fun g => g.elim (fun g => hg107 g.2) (fun g => hg114 g.1))) | exact vb ⟨fun h => (Frm.snoc (by omega)).2 (.inr (.inr ⟨hg114, h⟩)), fun h => ((Frm.snoc (by omega)).1 h).elim (fun g => (hg91 g).elim) (fun g => g.elim (fun g => (hg98 g.1).elim) (fun g => g.2))⟩ | exact vb_f (fun h => ((Frm.snoc (by omega)).1 h).elim hg91 (fun g => g.elim (fun g => hg98 g.1) (fun g => hg114 g.1)))) ?_)), (fun w h => OwnL.sat (by repeat (first | exact OwnL.refl | apply OwnL.take (by repeat (first | exact Take.head _ | apply Take.tail)) | apply OwnL.drop)) w (h.thin (SubL.mem (by repeat (first | exact SubL.refl | refine SubL.cons (by repeat (first | assumption | exact mS | apply mT)) ?_ | refine SubL.skip ?_)))))⟩
        ·
         refine WL.no rfl rfl rfl rfl rfl rfl ?_
         refine WL.no rfl rfl rfl rfl rfl rfl ?_
         refine WL.no rfl rfl rfl rfl rfl rfl ?_
         refine WL.no rfl rfl rfl rfl rfl rfl ?_
         refine WL.no rfl rfl rfl rfl rfl rfl ?_
         refine WL.no rfl rfl rfl rfl rfl rfl ?_
         refine WL.rd_yes rfl rfl rfl rfl rfl rfl (Rd.pick_f rfl rfl rfl) ?_
         refine WL.rd rfl rfl rfl (Rd.pick_f rfl rfl rfl) ?_
         refine WL.rd rfl rfl rfl (Rd.assign rfl rfl) ?_
         refine WL.nil ?_
         exact ⟨(), trivial, (by repeat (first | exact Sub.nil | refine Sub.cons rfl (by first | rfl | exact vb_t ((Frm.snoc (by omega)).2 (.inl hg91)) | exact vb_t ((Frm.snoc (by omega)).2 (.inr (.inl ⟨hg98, hg107⟩))) | exact vb ⟨fun h => (Frm.snoc (by omega)).2 (.inr (.inr ⟨hg114, h⟩)), fun h => ((Frm.snoc (by omega)).1 h).elim (fun g => (hg91 g).elim) (fun g => g.elim (fun g => (hg107 g.2).elim) (fun g => g.2))⟩ | exact vb_f (fun h => ((Frm.snoc (by omega)).1 h).elim hg91 (fun g => g.elim (fun g => hg107 g.2) (fun g => hg114 g.1))) | exact vb ⟨fun h => (Frm.snoc (by omega)).2 (.inr (.inr ⟨hg114, h⟩)), fun h => ((Frm.snoc (by omega)).1 h).elim (fun g => (hg91 g).elim) (fun g => g.elim (fun g => (hg98 g.1).elim) (fun g => g.2))⟩ | exact vb_f (fun h => ((Frm.snoc (by omega)).1 h).elim hg91 (fun g => g.elim (fun g => hg98 g.1) (fun g => hg114 g.1)))) ?_)), (fun w h => OwnL.sat (by repeat (first | exact OwnL.refl | apply OwnL.take (by repeat (first | exact Take.head _ | apply Take.tail)) | apply OwnL.drop)) w (h.thin (SubL.mem (by repeat (first | exact SubL.refl | refine SubL.cons (by repeat (first | assumption | exact mS | apply mT)) ?_ | refine SubL.skip ?_)))))⟩
     ·
      rintro ⟨⟩ -
      refine WC.cut (α := Unit) (fun _ => [(1, lv), (5, vx), (6, vu), (7, x), (8, .bool (decide (¬ (OrdG (l.take (i + 1)) ∧ RightP U)))), (9, .bool (decide (Frm l (i + 1)))), (10, .bool (decide (Stl U l (i + 1)))), (11, .int .i64 (i : Int)), (12, .pointer (some ⟨b12, 0, none⟩))]) (fun _ => SlE encI vu U :: SlE encI vx U :: R) (fun _ => rowC b12 51 [vs l[i]!.key, vs l[i]!.old.1, .bool l[i]!.old.2, vs l[i]!.new.1, .bool l[i]!.new.2] :: accC 51 5 encG x (l.take i) :: O) (fun _ => True) ?_ ?_
      ·
       refine WC.drawnA 14 rfl mixed ?_
       refine WD.take 0 rfl (by kernel_rfl) Held.all rfl rfl rfl (Rd.move rfl rfl) ?_
       refine WD.take 1 rfl (by kernel_rfl) Held.all rfl rfl rfl (Rd.move rfl rfl) ?_
       refine WD.case 124 rfl (fun hg124 => ?_) (fun hg124 => ?_)
       ·
        refine WD.take_no 2 rfl (by kernel_rfl) Held.all rfl rfl rfl rfl rfl rfl ?_
        refine WD.take_no 3 rfl (by kernel_rfl) Held.all rfl rfl rfl rfl rfl rfl ?_
        refine WD.take_no 4 rfl (by kernel_rfl) Held.all rfl rfl rfl rfl rfl rfl ?_
        refine WD.take_no 5 rfl (by kernel_rfl) Held.all rfl rfl rfl rfl rfl rfl ?_
        refine WD.take_no 6 rfl (by kernel_rfl) Held.all rfl rfl rfl rfl rfl rfl ?_
        refine WD.take_no 7 rfl (by kernel_rfl) Held.all rfl rfl rfl rfl rfl rfl ?_
        refine WD.take_no 9 rfl (by kernel_rfl) Held.all rfl rfl rfl rfl rfl rfl ?_
        refine WD.take_no 10 rfl (by kernel_rfl) Held.all rfl rfl rfl rfl rfl rfl ?_
        refine WD.take_no 8 rfl (by kernel_rfl) Held.all rfl rfl rfl rfl rfl rfl ?_
        refine WD.take_no 11 rfl (by kernel_rfl) Held.all rfl rfl rfl rfl rfl rfl ?_
        refine WD.take 12 rfl (by kernel_rfl) Held.all rfl rfl rfl (Rd.pick_t rfl rfl rfl) ?_
        refine WD.take 13 rfl (by kernel_rfl) Held.all rfl rfl rfl (Rd.assign rfl rfl) ?_
        refine WD.done (by kernel_rfl) ?_
        exact ⟨(), trivial, (by repeat (first | exact Sub.nil | refine Sub.cons rfl (by first | rfl | exact vb_t ((Stl.snoc (by omega)).2 (.inl hg124)) | exact vb ⟨fun h => (Stl.snoc (by omega)).2 (.inr h), fun h => ((Stl.snoc (by omega)).1 h).resolve_left hg124⟩) ?_)), (fun w h => OwnL.sat (by repeat (first | exact OwnL.refl | apply OwnL.take (by repeat (first | exact Take.head _ | apply Take.tail)) | apply OwnL.drop)) w (h.thin (SubL.mem (by repeat (first | exact SubL.refl | refine SubL.cons (by repeat (first | assumption | exact mS | apply mT)) ?_ | refine SubL.skip ?_)))))⟩
       ·
        refine WD.take_yes 2 rfl (by kernel_rfl) Held.all rfl rfl rfl rfl rfl rfl (Rd.move rfl rfl) ?_
        refine WD.take_yes 3 rfl (by kernel_rfl) Held.all rfl rfl rfl rfl rfl rfl (Rd.move rfl rfl) ?_
        refine WD.take_yes 4 rfl (by kernel_rfl) Held.all rfl rfl rfl rfl rfl rfl (Rd.move rfl rfl) ?_
        refine WD.take_yes 5 rfl (by kernel_rfl) Held.all rfl rfl rfl rfl rfl rfl ((by first | exact Rd.idx (k := i) rfl S46 rfl rfl (by omega) (by repeat (first | assumption | exact mS | apply mT)) (by first | omega | (simp only [List.length_cons, List.length_nil, List.length_append, List.length_map]; omega)) | exact Rd.idxA (k := i) rfl S46 rfl rfl (by omega) (by repeat (first | assumption | exact mS | apply mT)) (by first | omega | (simp only [List.length_cons, List.length_nil, List.length_append, List.length_map]; omega)) | exact Rd.idxR (k := i) rfl S46 rfl rfl (by omega) (by omega))) ?_
        refine WD.take_yes 6 rfl (by kernel_rfl) Held.all rfl rfl rfl rfl rfl rfl ((by first | exact Rd.field rfl F49_0 rfl rfl | exact Rd.fieldE rfl F49_0 rfl (by repeat (first | assumption | exact mS | apply mT)) (by omega) | exact Rd.fieldA rfl F49_0 rfl (by repeat (first | assumption | exact mS | apply mT)) (by omega))) ?_
        refine WD.take_yes 7 rfl (by kernel_rfl) Held.all rfl rfl rfl rfl rfl rfl (Rd.getF (enc := encC) (size := 5) (xs := l) (k := i) (f := 0) (a := l[i]!) (u := vs l[i]!.key) rfl C9 rfl (by repeat (first | assumption | exact mS | apply mT)) (fun x => rfl) (by omega) (get!_of_lt (by omega)) rfl) ?_
        refine WD.take_yes 9 rfl (by kernel_rfl) Held.all rfl rfl rfl rfl rfl rfl ((by first | exact Rd.field rfl F51_1 rfl rfl | exact Rd.fieldE rfl F51_1 rfl (by repeat (first | assumption | exact mS | apply mT)) (by omega) | exact Rd.fieldA rfl F51_1 rfl (by repeat (first | assumption | exact mS | apply mT)) (by omega))) ?_
        refine WD.take_yes 10 rfl (by kernel_rfl) Held.all rfl rfl rfl rfl rfl rfl (Rd.rowS (b := b12) (off := 1) rfl G38 rfl (by repeat (first | assumption | exact mS | apply mT)) Z.N rfl) ?_
        refine WD.one_yes 8 rfl (by kernel_rfl) rfl rfl rfl rfl ?_
        refine OpW.call rfl rfl (by repeat (first | exact Evs.nil | apply Evs.cons rfl)) (by kernel_rfl) rfl rfl rfl ?_
        refine says_spec (l := U) (by repeat (first | assumption | exact mS | apply mT)) ?_
        refine ⟨Z.H, ?_⟩
        refine WD.take_yes 11 rfl (by kernel_rfl) Z.H rfl rfl rfl rfl rfl rfl (Rd.aneq rfl rfl rfl (EqSd (says U l[i]!.key) l[i]!.old)) ?_
        refine WD.take 12 rfl (by kernel_rfl) Z.H rfl rfl rfl (Rd.pick_f rfl rfl rfl) ?_
        refine WD.take 13 rfl (by kernel_rfl) Z.H rfl rfl rfl (Rd.assign rfl rfl) ?_
        refine WD.done (by kernel_rfl) ?_
        exact ⟨(), trivial, (by repeat (first | exact Sub.nil | refine Sub.cons rfl (by first | rfl | exact vb_t ((Stl.snoc (by omega)).2 (.inl hg124)) | exact vb ⟨fun h => (Stl.snoc (by omega)).2 (.inr h), fun h => ((Stl.snoc (by omega)).1 h).resolve_left hg124⟩) ?_)), (fun w h => OwnL.sat (by repeat (first | exact OwnL.refl | apply OwnL.take (by repeat (first | exact Take.head _ | apply Take.tail)) | apply OwnL.drop)) w (h.thin (SubL.mem (by repeat (first | exact SubL.refl | refine SubL.cons (by repeat (first | assumption | exact mS | apply mT)) ?_ | refine SubL.skip ?_)))))⟩
      ·
       rintro ⟨⟩ -
       refine WC.region ?_
       refine WL.rd rfl rfl rfl (Rd.move rfl rfl) ?_
       refine WL.rd rfl rfl rfl (Rd.rowS (b := b12) (off := 0) rfl G51 rfl (by repeat (first | assumption | exact mS | apply mT)) Z.N rfl) ?_
       refine WL.op rfl ?_
       refine OpW.buildSl (ps := [(0, _)]) rfl S47 (by repeat (first | exact Evs.nil | apply Evs.cons rfl)) rfl rfl (by repeat (first | exact CellsOf.nil | apply CellsOf.cons rfl)) (by kernel_rfl) rfl rfl rfl ?_; intro b138
       have hil := List.length_take (i := i) (l := l)
       refine WL.op rfl ?_
       refine OpW.appendRow (enc := encG) rfl S47 rfl rfl Z.T Z.T [l[i]!] rfl (by rfl) rfl (by intro x; first | rfl | (cases x; rfl) | (rcases x with ⟨_, _, _⟩; rfl) | (rcases x with ⟨_, _, _, _⟩; rfl)) (by intro x; first | rfl | (cases x; rfl) | (rcases x with ⟨_, _, _⟩; rfl) | (rcases x with ⟨_, _, _, _⟩; rfl)) ⟨by simp only [maxLen, List.length_append, List.length_nil, List.length_cons, List.length_drop, List.length_take, List.length_map]; omega, by first | omega | (simp only [List.length_append, List.length_nil, List.length_cons, List.length_drop, List.length_take, List.length_map]; omega)⟩ rfl rfl ?_; intro v139 hv139
       refine WL.rd rfl rfl rfl (Rd.assign rfl rfl) ?_
       refine WL.nil ?_
       refine blockQ.normal ?_
       refine thenQ.normal ?_
       refine WC.region ?_
       refine WL.rd rfl rfl rfl (Rd.move rfl rfl) ?_
       refine WL.rd rfl rfl rfl (Rd.add rfl rfl rfl (by omega)) ?_
       refine WL.rd rfl rfl rfl (Rd.assign rfl rfl) ?_
       refine WL.nil ?_
       exact loopQ2.mk (i + 1) v139 ⟨by omega, by omega⟩ (by omega) (by repeat (first | exact Sub.nil | refine Sub.cons rfl (by first | rfl | (congr 1; omega) | assumption) ?_)) (by rw [take_snoc (by omega)]; exact (fun w h => OwnL.sat (by repeat (first | exact OwnL.refl | apply OwnL.take (by repeat (first | exact Take.head _ | apply Take.tail)) | apply OwnL.drop)) w (h.thin (SubL.mem (by repeat (first | exact SubL.refl | refine SubL.cons (by repeat (first | assumption | exact mS | apply mT)) ?_ | refine SubL.skip ?_))))))
   ·
    have he : l.take i = l.take 40 := by
     rcases Nat.lt_or_ge i l.length with h | h
     ·
      rw [show i = 40 from by omega]
     ·
      rw [List.take_of_length_le h, List.take_of_length_le (by omega)]
    obtain ⟨C, hCe⟩ : ∃ C, C = l.take 40 := ⟨_, rfl⟩
    rw [← hCe] at kC hC40 he
    refine WC.say 8 (u := .bool (decide (¬ (OrdG C ∧ RightP U)))) rfl (vb (by rw [he])) ?_
    refine WC.say 9 (u := .bool (decide (∃ y ∈ C, BadG y))) rfl (vb (by unfold Frm; rw [he])) ?_
    refine WC.say 10 (u := .bool (decide (∃ y ∈ C, says U y.key ≠ y.old))) rfl (vb (by unfold Stl; rw [he])) ?_
    refine WC.heap (fun w h => by rw [he] at h; exact Sat.shareA (Take.head _) h) ?_
    refine WC.exit ?_
    refine thenQ.exit ?_
    refine loopQ2.exit ?_
    refine blockQ.exit ?_
    refine thenQ.normal ?_
    refine WC.seq ?_
    refine WC.region ?_
    refine WL.rd rfl rfl rfl (Rd.move rfl rfl) ?_
    refine WL.rd rfl rfl rfl (Rd.move rfl rfl) ?_
    refine WL.op rfl ?_
    refine OpW.call rfl rfl (by repeat (first | exact Evs.nil | apply Evs.cons rfl)) (by kernel_rfl) rfl rfl rfl ?_
    refine apply2_spec (a := U) (l := C) (by repeat (first | assumption | exact mS | apply mT)) (by repeat (first | assumption | exact mS | apply mT)) kU kC ?_; intro r e rv hA
    refine WL.rd rfl rfl rfl (Rd.move rfl rfl) ?_
    refine WL.rd rfl rfl rfl (Rd.extract rfl rfl rfl) ?_
    refine WL.rd rfl rfl rfl (Rd.extract rfl rfl rfl) ?_
    refine WL.rd rfl rfl rfl (Rd.assign rfl rfl) ?_
    refine WL.rd rfl rfl rfl (Rd.assign rfl rfl) ?_
    refine WL.nil ?_
    refine thenQ.normal ?_
    refine WC.seq ?_
    refine WC.block ?_
    refine WC.seq ?_
    refine WC.region ?_
    refine WL.rd rfl rfl rfl (Rd.move rfl rfl) ?_
    refine WL.rd rfl rfl rfl (Rd.assign rfl rfl) ?_
    refine WL.nil ?_
    refine thenQ.normal ?_
    first | refine WC.ite rfl (fun hc3 => ?_) (fun hc3 => ?_) | refine WC.cond rfl (fun hc3 => ?_) (fun hc3 => ?_)
    ·
     obtain ⟨he1, hr1⟩ := hA.1 hc3
     subst he1; subst hr1
     refine WC.seq ?_
     refine WC.region ?_
     refine WL.rd rfl rfl rfl (Rd.move rfl rfl) ?_
     refine WL.rd rfl rfl rfl (Rd.eql rfl rfl rfl) ?_
     refine WL.rd rfl rfl rfl (Rd.move rfl rfl) ?_
     refine WL.case 150 rfl (fun hg150 => ?_) (fun hg150 => ?_)
     ·
      refine WL.rd_yes rfl rfl rfl rfl rfl rfl (Rd.move rfl rfl) ?_
      refine WL.rd_yes rfl rfl rfl rfl rfl rfl ((by first | exact Rd.lenE rfl rfl Try.underlying24 (by repeat (first | assumption | exact mS | apply mT)) | exact Rd.lenA rfl rfl Try.underlying24 (by repeat (first | assumption | exact mS | apply mT)) | exact Rd.len rfl rfl Try.underlying24)) ?_
      refine WL.rd_yes rfl rfl rfl rfl rfl rfl (Rd.eql rfl rfl rfl) ?_
      refine WL.rd rfl rfl rfl (Rd.pick_t rfl rfl rfl) ?_
      refine WL.say 154 (u := .bool true) rfl rfl ?_
      refine WL.heap (R' := R) (O' := O) (fun w h => OwnL.sat (by repeat (first | exact OwnL.refl | apply OwnL.take (by repeat (first | exact Take.head _ | apply Take.tail)) | apply OwnL.drop)) w (h.thin (SubL.mem (by repeat (first | exact SubL.refl | refine SubL.cons (by repeat (first | assumption | exact mS | apply mT)) ?_ | refine SubL.skip ?_))))) ?_
      refine WL.rd rfl rfl rfl (Rd.assign rfl rfl) ?_
      refine WL.nil ?_
      refine thenQ.normal ?_
      refine WC.ret (Ret.one Try.results5 rfl ?_)
      exact hk
     ·
      exact absurd rfl hg150
    ·
     obtain ⟨hO, hR⟩ := Decidable.not_not.1 hc3
     refine WC.seq ?_
     refine WC.region ?_
     refine WL.rd rfl rfl rfl (Rd.move rfl rfl) ?_
     refine WL.rd rfl rfl rfl (Rd.assign rfl rfl) ?_
     refine WL.nil ?_
     refine thenQ.normal ?_
     first | refine WC.ite rfl (fun hc4 => ?_) (fun hc4 => ?_) | refine WC.cond rfl (fun hc4 => ?_) (fun hc4 => ?_)
     ·
      obtain ⟨he1, hr1⟩ := hA.2.1 hO hR hc4
      subst he1; subst hr1
      refine WC.seq ?_
      refine WC.region ?_
      refine WL.rd rfl rfl rfl (Rd.move rfl rfl) ?_
      refine WL.rd rfl rfl rfl (Rd.eql rfl rfl rfl) ?_
      refine WL.rd rfl rfl rfl (Rd.move rfl rfl) ?_
      refine WL.case 159 rfl (fun hg159 => ?_) (fun hg159 => ?_)
      ·
       refine WL.rd_yes rfl rfl rfl rfl rfl rfl (Rd.move rfl rfl) ?_
       refine WL.rd_yes rfl rfl rfl rfl rfl rfl ((by first | exact Rd.lenE rfl rfl Try.underlying24 (by repeat (first | assumption | exact mS | apply mT)) | exact Rd.lenA rfl rfl Try.underlying24 (by repeat (first | assumption | exact mS | apply mT)) | exact Rd.len rfl rfl Try.underlying24)) ?_
       refine WL.rd_yes rfl rfl rfl rfl rfl rfl (Rd.eql rfl rfl rfl) ?_
       refine WL.rd rfl rfl rfl (Rd.pick_t rfl rfl rfl) ?_
       refine WL.say 163 (u := .bool true) rfl rfl ?_
       refine WL.heap (R' := R) (O' := O) (fun w h => OwnL.sat (by repeat (first | exact OwnL.refl | apply OwnL.take (by repeat (first | exact Take.head _ | apply Take.tail)) | apply OwnL.drop)) w (h.thin (SubL.mem (by repeat (first | exact SubL.refl | refine SubL.cons (by repeat (first | assumption | exact mS | apply mT)) ?_ | refine SubL.skip ?_))))) ?_
       refine WL.rd rfl rfl rfl (Rd.assign rfl rfl) ?_
       refine WL.nil ?_
       refine thenQ.normal ?_
       refine WC.ret (Ret.one Try.results5 rfl ?_)
       exact hk
      ·
       exact absurd rfl hg159
     ·
      refine WC.seq ?_
      refine WC.region ?_
      refine WL.rd rfl rfl rfl (Rd.move rfl rfl) ?_
      refine WL.rd rfl rfl rfl (Rd.assign rfl rfl) ?_
      refine WL.nil ?_
      refine thenQ.normal ?_
      first | refine WC.ite rfl (fun hc5 => ?_) (fun hc5 => ?_) | refine WC.cond rfl (fun hc5 => ?_) (fun hc5 => ?_)
      ·
       obtain ⟨he1, hr1⟩ := hA.2.2.1 hO hR hc4 hc5
       subst he1; subst hr1
       refine WC.seq ?_
       refine WC.region ?_
       refine WL.rd rfl rfl rfl (Rd.move rfl rfl) ?_
       refine WL.rd rfl rfl rfl (Rd.eql rfl rfl rfl) ?_
       refine WL.rd rfl rfl rfl (Rd.move rfl rfl) ?_
       refine WL.case 168 rfl (fun hg168 => ?_) (fun hg168 => ?_)
       ·
        refine WL.rd_yes rfl rfl rfl rfl rfl rfl (Rd.move rfl rfl) ?_
        refine WL.rd_yes rfl rfl rfl rfl rfl rfl ((by first | exact Rd.lenE rfl rfl Try.underlying24 (by repeat (first | assumption | exact mS | apply mT)) | exact Rd.lenA rfl rfl Try.underlying24 (by repeat (first | assumption | exact mS | apply mT)) | exact Rd.len rfl rfl Try.underlying24)) ?_
        refine WL.rd_yes rfl rfl rfl rfl rfl rfl (Rd.eql rfl rfl rfl) ?_
        refine WL.rd rfl rfl rfl (Rd.pick_t rfl rfl rfl) ?_
        refine WL.say 172 (u := .bool true) rfl rfl ?_
        refine WL.heap (R' := R) (O' := O) (fun w h => OwnL.sat (by repeat (first | exact OwnL.refl | apply OwnL.take (by repeat (first | exact Take.head _ | apply Take.tail)) | apply OwnL.drop)) w (h.thin (SubL.mem (by repeat (first | exact SubL.refl | refine SubL.cons (by repeat (first | assumption | exact mS | apply mT)) ?_ | refine SubL.skip ?_))))) ?_
        refine WL.rd rfl rfl rfl (Rd.assign rfl rfl) ?_
        refine WL.nil ?_
        refine thenQ.normal ?_
        refine WC.ret (Ret.one Try.results5 rfl ?_)
        exact hk
       ·
        exact absurd rfl hg168
      ·
       obtain ⟨he1, ks, hks, hkm, hr1⟩ := hA.2.2.2 hO hR hc4 (fun x hx => Classical.byContradiction fun g => hc5 ⟨x, hx, g⟩)
       subst he1
       have hr80 : r.length ≤ 80 := by rw [hr1]; exact res_len hU40 hC40 hks hkm _
       have hrR : RightP r := by rw [hr1]; exact items_right hks
       have hrS : ∀ k, says r k = upd U C k := fun k => by rw [hr1]; exact says_items hks (fun k h => upd_full hc4 k h) (fun k h => upd_out hkm k h) k
       refine WC.heap (fun w h => Sat.nilE (enc := encI) h) ?_
       refine WC.skip ?_
       refine blockQ.normal ?_
       refine thenQ.normal ?_
       refine WC.seq ?_
       refine WC.seq ?_
       refine WC.region ?_
       refine WL.rd rfl rfl rfl (Rd.move rfl rfl) ?_
       refine WL.rd rfl rfl rfl (Rd.neq rfl rfl rfl) ?_
       refine WL.rd rfl rfl rfl (Rd.move rfl rfl) ?_
       refine WL.case 175 rfl (fun hg175 => ?_) (fun hg175 => ?_)
       ·
        exact absurd rfl hg175
       ·
        refine WL.rd_yes rfl rfl rfl rfl rfl rfl (Rd.move rfl rfl) ?_
        refine WL.op_yes rfl rfl rfl rfl ?_
        refine OpW.call rfl rfl (by repeat (first | exact Evs.nil | apply Evs.cons rfl)) (by kernel_rfl) rfl rfl rfl ?_
        refine right_spec (l := r) (by repeat (first | assumption | exact mS | apply mT)) ?_
        refine WL.rd_yes rfl rfl rfl rfl rfl rfl ((by first | exact Rd.notd rfl rfl | exact Rd.not rfl rfl)) ?_
        refine WL.rd rfl rfl rfl (Rd.pick_f rfl rfl rfl) ?_
        refine WL.nil ?_
        refine thenQ.normal ?_
        first | refine WC.ite rfl (fun hc6 => ?_) (fun hc6 => ?_) | refine WC.cond rfl (fun hc6 => ?_) (fun hc6 => ?_)
        ·
         exact absurd hrR hc6
        ·
         refine WC.skip ?_
         refine thenQ.normal ?_
         refine WC.seq ?_
         refine WC.region ?_
         refine WL.op rfl ?_
         refine OpW.call rfl rfl (by repeat (first | exact Evs.nil | apply Evs.cons rfl)) (by kernel_rfl) rfl rfl rfl ?_
         refine litems_spec (xs := []) (by repeat (first | assumption | exact mS | apply mT)) ?_; intro v1 v2; rw [List.take_nil]
         refine WL.heap (R' := SlE encI (.slice none 0 0) ([] : List It) :: SlE encI rv r :: SlE encG x C :: SlE encI vu U :: SlE encI vx U :: R) (O' := accC 42 2 encI v2 (r.take 0) :: O) (fun w h => by rw [List.take_zero]; exact (fun w h => OwnL.sat (by repeat (first | exact OwnL.refl | apply OwnL.take (by repeat (first | exact Take.head _ | apply Take.tail)) | apply OwnL.drop)) w (h.thin (SubL.mem (by repeat (first | exact SubL.refl | refine SubL.cons (by repeat (first | assumption | exact mS | apply mT)) ?_ | refine SubL.skip ?_))))) w h) ?_
         refine WL.rd rfl rfl rfl (Rd.move rfl rfl) ?_
         refine WL.rd rfl rfl rfl (Rd.extract rfl rfl rfl) ?_
         refine WL.rd rfl rfl rfl (Rd.extract rfl rfl rfl) ?_
         refine WL.rd rfl rfl rfl (Rd.assign rfl rfl) ?_
         refine WL.rd rfl rfl rfl (Rd.assign rfl rfl) ?_
         refine WL.nil ?_
         refine thenQ.normal ?_
         refine WC.seq ?_
         refine WC.seq ?_
         refine WC.region ?_
         refine WL.rd rfl rfl rfl (Rd.assign rfl rfl) ?_
         refine WL.nil ?_
         refine thenQ.normal ?_
         refine WC.block ?_
         refine WC.pick [16, 17, 6, 7, 13] (by repeat (first | exact Pick.nil | apply Pick.cons rfl)) ?_
         refine WC.loop2 2 (fun (i : Nat) (y : Value) => [(16, y), (17, .int .i64 (i : Int))]) (fun (i : Nat) (y : Value) => accC 42 2 encI y (r.take i) :: O) (fun (i : Nat) (y : Value) => i ≤ r.length) (fun (i : Nat) (y : Value) => r.length - i) (0) (v2) (by repeat (first | exact Split.zero | apply Split.succ)) ?hinv2 (by repeat (first | exact Sub.nil | refine Sub.cons rfl (by first | rfl | (congr 1; omega) | assumption) ?_)) (fun _ h => h) ?_
         case hinv2 =>
          exact Nat.zero_le _
         intro i y
         rintro i1
         refine WC.seq ?_
         refine WC.seq ?_
         refine WC.region ?_
         refine WL.rd rfl rfl rfl (Rd.move rfl rfl) ?_
         refine WL.rd rfl rfl rfl (Rd.move rfl rfl) ?_
         refine WL.rd rfl rfl rfl ((by first | exact Rd.lenE rfl rfl Try.underlying24 (by repeat (first | assumption | exact mS | apply mT)) | exact Rd.lenA rfl rfl Try.underlying24 (by repeat (first | assumption | exact mS | apply mT)) | exact Rd.len rfl rfl Try.underlying24)) ?_
         refine WL.rd rfl rfl rfl (Rd.lss rfl rfl rfl) ?_
         refine WL.nil ?_
         refine thenQ.normal ?_
         first | refine WC.ite rfl (fun hc7 => ?_) (fun hc7 => ?_) | refine WC.cond rfl (fun hc7 => ?_) (fun hc7 => ?_)
         ·
          refine WC.skip ?_
          refine thenQ.normal ?_
          refine WC.seq ?_
          refine WC.block ?_
          refine WC.region ?_
          refine WL.rd rfl rfl rfl (Rd.move rfl rfl) ?_
          refine WL.rd rfl rfl rfl (Rd.move rfl rfl) ?_
          refine WL.rd rfl rfl rfl (Rd.move rfl rfl) ?_
          refine WL.rd rfl rfl rfl ((by first | exact Rd.idx (k := i) rfl S24 rfl rfl (by omega) (by repeat (first | assumption | exact mS | apply mT)) (by first | omega | (simp only [List.length_cons, List.length_nil, List.length_append, List.length_map]; omega)) | exact Rd.idxA (k := i) rfl S24 rfl rfl (by omega) (by repeat (first | assumption | exact mS | apply mT)) (by first | omega | (simp only [List.length_cons, List.length_nil, List.length_append, List.length_map]; omega)) | exact Rd.idxR (k := i) rfl S24 rfl rfl (by omega) (by omega))) ?_
          refine WL.rd rfl rfl rfl (Rd.getS (enc := encI) (size := 2) (xs := r) (k := i) (a := r[i]!) (cs := [vs r[i]!.1, vs r[i]!.2]) rfl G45 rfl (by repeat (first | assumption | exact mS | apply mT)) (fun x => rfl) (get!_of_lt (by omega)) (NF.refl _)) ?_
          refine WL.op rfl ?_
          refine OpW.buildSl (ps := [(0, _)]) rfl S25 (by repeat (first | exact Evs.nil | apply Evs.cons rfl)) rfl rfl (by repeat (first | exact CellsOf.nil | apply CellsOf.cons rfl)) (by kernel_rfl) rfl rfl rfl ?_; intro b195
          have hil := List.length_take (i := i) (l := r)
          refine WL.op rfl ?_
          refine OpW.appendRow (enc := encI) rfl S25 rfl rfl Z.T Z.T [r[i]!] rfl (by rfl) rfl (by intro x; first | rfl | (cases x; rfl) | (rcases x with ⟨_, _, _⟩; rfl) | (rcases x with ⟨_, _, _, _⟩; rfl)) (by intro x; first | rfl | (cases x; rfl) | (rcases x with ⟨_, _, _⟩; rfl) | (rcases x with ⟨_, _, _, _⟩; rfl)) ⟨by simp only [maxLen, List.length_append, List.length_nil, List.length_cons, List.length_drop, List.length_take, List.length_map]; omega, by first | omega | (simp only [List.length_append, List.length_nil, List.length_cons, List.length_drop, List.length_take, List.length_map]; omega)⟩ rfl rfl ?_; intro v196 hv196
          refine WL.rd rfl rfl rfl (Rd.assign rfl rfl) ?_
          refine WL.nil ?_
          refine blockQ.normal ?_
          refine thenQ.normal ?_
          refine WC.region ?_
          refine WL.rd rfl rfl rfl (Rd.move rfl rfl) ?_
          refine WL.rd rfl rfl rfl (Rd.add rfl rfl rfl (by omega)) ?_
          refine WL.rd rfl rfl rfl (Rd.assign rfl rfl) ?_
          refine WL.nil ?_
          exact loopQ2.mk (i + 1) v196 (by omega) (by omega) (by repeat (first | exact Sub.nil | refine Sub.cons rfl (by first | rfl | (congr 1; omega) | assumption) ?_)) (by rw [take_snoc (by omega)]; exact (fun w h => OwnL.sat (by repeat (first | exact OwnL.refl | apply OwnL.take (by repeat (first | exact Take.head _ | apply Take.tail)) | apply OwnL.drop)) w (h.thin (SubL.mem (by repeat (first | exact SubL.refl | refine SubL.cons (by repeat (first | assumption | exact mS | apply mT)) ?_ | refine SubL.skip ?_))))))
         ·
          obtain rfl : i = r.length := by omega
          rw [List.take_length]
          refine WC.heap (fun w h => Sat.shareA (Take.head _) h) ?_
          refine WC.exit ?_
          refine thenQ.exit ?_
          refine loopQ2.exit ?_
          refine blockQ.exit ?_
          refine thenQ.normal ?_
          refine WC.seq ?_
          refine WC.region ?_
          refine WL.rd rfl rfl rfl (Rd.move rfl rfl) ?_
          refine WL.rd rfl rfl rfl (Rd.move rfl rfl) ?_
          refine WL.op rfl ?_
          refine OpW.call rfl rfl (by repeat (first | exact Evs.nil | apply Evs.cons rfl)) (by kernel_rfl) rfl rfl rfl ?_
          refine rkeys_spec (a := U) (b := r) (c := []) (by repeat (first | assumption | exact mS | apply mT)) (by repeat (first | assumption | exact mS | apply mT)) (by repeat (first | assumption | exact mS | apply mT)) kU.1 (by omega) (by simp) ?_; intro v199 ks2 hks2
          have hk2 : ks2.length ≤ 2000 := by
           have h1 := nodup_len hks2.1.nodup (fun x hx => (hks2.2 x).1 hx)
           have h2 : (keysIn [U, r, []]).length ≤ 2000 := by
            simp only [keysIn, List.flatMap_cons, List.flatMap_nil, List.length_append, List.length_map, List.length_nil]
            omega
           omega
          refine WL.heap (fun w h => Sat.shareA (Take.head _) h) ?_
          refine WL.rd rfl rfl rfl (Rd.assign rfl rfl) ?_
          refine WL.nil ?_
          refine thenQ.normal ?_
          refine WC.seq ?_
          refine WC.seq ?_
          refine WC.region ?_
          refine WL.rd rfl rfl rfl (Rd.assign rfl rfl) ?_
          refine WL.nil ?_
          refine thenQ.normal ?_
          refine WC.block ?_
          refine WC.pick [19, 6, 7, 16, 18] (by repeat (first | exact Pick.nil | apply Pick.cons rfl)) ?_
          refine WC.loop1 1 (fun (i : Nat) => [(19, .int .i64 (i : Int))]) (fun (i : Nat) => O) (fun (i : Nat) => i ≤ ks2.length) (fun (i : Nat) => ks2.length - i) (0) (by repeat (first | exact Split.zero | apply Split.succ)) ?hinv3 (by repeat (first | exact Sub.nil | refine Sub.cons rfl (by first | rfl | (congr 1; omega) | assumption) ?_)) (fun _ h => h) ?_
          case hinv3 =>
           exact Nat.zero_le _
          intro i
          rintro i1
          refine WC.seq ?_
          refine WC.seq ?_
          refine WC.region ?_
          refine WL.rd rfl rfl rfl (Rd.move rfl rfl) ?_
          refine WL.rd rfl rfl rfl (Rd.move rfl rfl) ?_
          refine WL.rd rfl rfl rfl ((by first | exact Rd.lenE rfl rfl Try.underlying33 (by repeat (first | assumption | exact mS | apply mT)) | exact Rd.lenA rfl rfl Try.underlying33 (by repeat (first | assumption | exact mS | apply mT)) | exact Rd.len rfl rfl Try.underlying33)) ?_
          refine WL.rd rfl rfl rfl (Rd.lss rfl rfl rfl) ?_
          refine WL.nil ?_
          refine thenQ.normal ?_
          first | refine WC.ite rfl (fun hc8 => ?_) (fun hc8 => ?_) | refine WC.cond rfl (fun hc8 => ?_) (fun hc8 => ?_)
          ·
           refine WC.skip ?_
           refine thenQ.normal ?_
           refine WC.seq ?_
           refine WC.block ?_
           refine WC.seq ?_
           refine WC.region ?_
           refine WL.rd rfl rfl rfl (Rd.move rfl rfl) ?_
           refine WL.rd rfl rfl rfl (Rd.move rfl rfl) ?_
           refine WL.rd rfl rfl rfl (Rd.move rfl rfl) ?_
           refine WL.rd rfl rfl rfl ((by first | exact Rd.idx1 (k := i) rfl S33 rfl rfl (by omega) (by repeat (first | assumption | exact mS | apply mT)) (by first | omega | (simp only [List.length_cons, List.length_nil, List.length_append, List.length_map]; omega)) | exact Rd.idxA1 (k := i) rfl S33 rfl rfl (by omega) (by repeat (first | assumption | exact mS | apply mT)) (by first | omega | (simp only [List.length_cons, List.length_nil, List.length_append, List.length_map]; omega)) | exact Rd.idxR1 (k := i) rfl S33 rfl rfl (by omega) (by omega))) ?_
           refine WL.rd rfl rfl rfl ((by first | exact Rd.get rfl C9 rfl (by repeat (first | assumption | exact mS | apply mT)) (by first | assumption | rfl | exact get!_of_lt (by omega)) | exact Rd.getA rfl C9 rfl (by repeat (first | assumption | exact mS | apply mT)) (by first | assumption | rfl | exact get!_of_lt (by omega)) | exact Rd.row1 rfl C9 rfl (by repeat (first | assumption | exact mS | apply mT)) (by rfl) | exact Rd.getF rfl C9 rfl (by repeat (first | assumption | exact mS | apply mT)) (by intro x; first | rfl | (cases x; rfl) | (rcases x with ⟨_, _, _⟩; rfl) | (rcases x with ⟨_, _, _, _⟩; rfl)) rfl (by first | assumption | rfl | exact get!_of_lt (by omega)) (by rfl) | exact Rd.getFA rfl C9 rfl (by repeat (first | assumption | exact mS | apply mT)) (by intro x; first | rfl | (cases x; rfl) | (rcases x with ⟨_, _, _⟩; rfl) | (rcases x with ⟨_, _, _, _⟩; rfl)) rfl (by first | assumption | rfl | exact get!_of_lt (by omega)) (by rfl))) ?_
           refine WL.op rfl ?_
           refine OpW.call rfl rfl (by repeat (first | exact Evs.nil | apply Evs.cons rfl)) (by kernel_rfl) rfl rfl rfl ?_
           refine says_spec (l := U) (by repeat (first | assumption | exact mS | apply mT)) ?_
           refine WL.op rfl ?_
           refine OpW.alloc rfl I36 rfl Z.N rfl rfl ?_; intro b20
           refine WL.op rfl ?_
           refine OpW.storeS rfl G36 rfl rfl Z.N Z.T rfl rfl Z.N rfl ?_
           refine WL.nil ?_
           refine thenQ.normal ?_
           refine WC.seq ?_
           refine WC.seq ?_
           refine WC.region ?_
           refine WL.rd rfl rfl rfl (Rd.assign rfl rfl) ?_
           refine WL.nil ?_
           refine thenQ.normal ?_
           refine WC.block ?_
           refine WC.pick [21, 6, 7, 16, 18, 19, 20] (by repeat (first | exact Pick.nil | apply Pick.cons rfl)) ?_
           refine WC.loop1 1 (fun (j : Nat) => [(21, .int .i64 (j : Int))]) (fun (j : Nat) => rowC b20 36 [vs (upd U (C.take j) ks2[i]!).1, .bool (upd U (C.take j) ks2[i]!).2] :: O) (fun (j : Nat) => j ≤ C.length) (fun (j : Nat) => C.length - j) (0) (by repeat (first | exact Split.zero | apply Split.succ)) ?hinv4 (by repeat (first | exact Sub.nil | refine Sub.cons rfl (by first | rfl | (congr 1; omega) | assumption) ?_)) (fun _ h => h) ?_
           case hinv4 =>
            exact Nat.zero_le _
           intro j
           rintro j1
           refine WC.seq ?_
           refine WC.seq ?_
           refine WC.region ?_
           refine WL.rd rfl rfl rfl (Rd.move rfl rfl) ?_
           refine WL.rd rfl rfl rfl (Rd.move rfl rfl) ?_
           refine WL.rd rfl rfl rfl ((by first | exact Rd.lenE rfl rfl Try.underlying47 (by repeat (first | assumption | exact mS | apply mT)) | exact Rd.lenA rfl rfl Try.underlying47 (by repeat (first | assumption | exact mS | apply mT)) | exact Rd.len rfl rfl Try.underlying47)) ?_
           refine WL.rd rfl rfl rfl (Rd.lss rfl rfl rfl) ?_
           refine WL.nil ?_
           refine thenQ.normal ?_
           first | refine WC.ite rfl (fun hc9 => ?_) (fun hc9 => ?_) | refine WC.cond rfl (fun hc9 => ?_) (fun hc9 => ?_)
           ·
            have hkn := at_key hO.asc.nodup (j := j) (by omega)
            have hCn := kC.1
            refine WC.skip ?_
            refine thenQ.normal ?_
            refine WC.seq ?_
            refine WC.block ?_
            refine WC.seq ?_
            refine WC.still mixed (by kernel_rfl) ?_
            refine WA.rd rfl rfl rfl (Rd.move rfl rfl) ?_
            refine WA.rd rfl rfl rfl (Rd.move rfl rfl) ?_
            refine WA.rd rfl rfl rfl ((by first | exact Rd.idx (k := j) rfl S47 rfl rfl (by omega) (by repeat (first | assumption | exact mS | apply mT)) (by first | omega | (simp only [List.length_cons, List.length_nil, List.length_append, List.length_map]; omega)) | exact Rd.idxA (k := j) rfl S47 rfl rfl (by omega) (by repeat (first | assumption | exact mS | apply mT)) (by first | omega | (simp only [List.length_cons, List.length_nil, List.length_append, List.length_map]; omega)) | exact Rd.idxR (k := j) rfl S47 rfl rfl (by omega) (by omega))) ?_
            refine WA.rd rfl rfl rfl ((by first | exact Rd.field rfl F51_0 rfl rfl | exact Rd.fieldE rfl F51_0 rfl (by repeat (first | assumption | exact mS | apply mT)) (by omega) | exact Rd.fieldA rfl F51_0 rfl (by repeat (first | assumption | exact mS | apply mT)) (by omega))) ?_
            refine WA.rd rfl rfl rfl (Rd.getF (enc := encG) (size := 5) (xs := C) (k := j) (f := 0) (a := C[j]!) (u := vs C[j]!.key) rfl C9 rfl (by repeat (first | assumption | exact mS | apply mT)) (fun x => rfl) (by omega) (get!_of_lt (by omega)) rfl) ?_
            refine WA.rd rfl rfl rfl (Rd.move rfl rfl) ?_
            refine WA.rd rfl rfl rfl (Rd.move rfl rfl) ?_
            refine WA.rd rfl rfl rfl ((by first | exact Rd.idx1 (k := i) rfl S33 rfl rfl (by omega) (by repeat (first | assumption | exact mS | apply mT)) (by first | omega | (simp only [List.length_cons, List.length_nil, List.length_append, List.length_map]; omega)) | exact Rd.idxA1 (k := i) rfl S33 rfl rfl (by omega) (by repeat (first | assumption | exact mS | apply mT)) (by first | omega | (simp only [List.length_cons, List.length_nil, List.length_append, List.length_map]; omega)) | exact Rd.idxR1 (k := i) rfl S33 rfl rfl (by omega) (by omega))) ?_
            refine WA.rd rfl rfl rfl ((by first | exact Rd.get rfl C9 rfl (by repeat (first | assumption | exact mS | apply mT)) (by first | assumption | rfl | exact get!_of_lt (by omega)) | exact Rd.getA rfl C9 rfl (by repeat (first | assumption | exact mS | apply mT)) (by first | assumption | rfl | exact get!_of_lt (by omega)) | exact Rd.row1 rfl C9 rfl (by repeat (first | assumption | exact mS | apply mT)) (by rfl) | exact Rd.getF rfl C9 rfl (by repeat (first | assumption | exact mS | apply mT)) (by intro x; first | rfl | (cases x; rfl) | (rcases x with ⟨_, _, _⟩; rfl) | (rcases x with ⟨_, _, _, _⟩; rfl)) rfl (by first | assumption | rfl | exact get!_of_lt (by omega)) (by rfl) | exact Rd.getFA rfl C9 rfl (by repeat (first | assumption | exact mS | apply mT)) (by intro x; first | rfl | (cases x; rfl) | (rcases x with ⟨_, _, _⟩; rfl) | (rcases x with ⟨_, _, _, _⟩; rfl)) rfl (by first | assumption | rfl | exact get!_of_lt (by omega)) (by rfl))) ?_
            refine WA.rd rfl rfl rfl (Rd.seql rfl rfl rfl) ?_
            refine WA.nil ?_
            refine thenQ.normal ?_
            first | refine WC.ite rfl (fun hc10 => ?_) (fun hc10 => ?_) | refine WC.cond rfl (fun hc10 => ?_) (fun hc10 => ?_)
            ·
             have hup : upd U (C.take (j + 1)) ks2[i]! = C[j]!.new := by rw [take_snoc (by omega), upd_snoc _ hkn, if_pos hc10.symm]
             refine WC.region ?_
             refine WL.rd rfl rfl rfl (Rd.move rfl rfl) ?_
             refine WL.rd rfl rfl rfl (Rd.move rfl rfl) ?_
             refine WL.rd rfl rfl rfl ((by first | exact Rd.idx (k := j) rfl S47 rfl rfl (by omega) (by repeat (first | assumption | exact mS | apply mT)) (by first | omega | (simp only [List.length_cons, List.length_nil, List.length_append, List.length_map]; omega)) | exact Rd.idxA (k := j) rfl S47 rfl rfl (by omega) (by repeat (first | assumption | exact mS | apply mT)) (by first | omega | (simp only [List.length_cons, List.length_nil, List.length_append, List.length_map]; omega)) | exact Rd.idxR (k := j) rfl S47 rfl rfl (by omega) (by omega))) ?_
             refine WL.rd rfl rfl rfl ((by first | exact Rd.field rfl F51_2 rfl rfl | exact Rd.fieldE rfl F51_2 rfl (by repeat (first | assumption | exact mS | apply mT)) (by omega) | exact Rd.fieldA rfl F51_2 rfl (by repeat (first | assumption | exact mS | apply mT)) (by omega))) ?_
             refine WL.rd rfl rfl rfl (Rd.getSF (enc := encG) (size := 5) (sz := 2) (xs := C) (k := j) (f := 3) (a := C[j]!) (cs := [vs C[j]!.new.1, .bool C[j]!.new.2]) rfl G38 rfl (by repeat (first | assumption | exact mS | apply mT)) (fun x => rfl) (by omega) (get!_of_lt (by omega)) rfl rfl) ?_
             refine WL.op rfl ?_
             refine OpW.storeS rfl G36 rfl rfl Z.N Z.T rfl rfl Z.N rfl ?_
             refine WL.nil ?_
             refine blockQ.normal ?_
             refine thenQ.normal ?_
             refine WC.region ?_
             refine WL.rd rfl rfl rfl (Rd.move rfl rfl) ?_
             refine WL.rd rfl rfl rfl (Rd.add rfl rfl rfl (by omega)) ?_
             refine WL.rd rfl rfl rfl (Rd.assign rfl rfl) ?_
             refine WL.nil ?_
             exact loopQ1.mk (j + 1) (by omega) (by omega) (by repeat (first | exact Sub.nil | refine Sub.cons rfl (by first | rfl | (congr 1; omega) | assumption) ?_)) (by rw [hup]; exact (fun w h => OwnL.sat (by repeat (first | exact OwnL.refl | apply OwnL.take (by repeat (first | exact Take.head _ | apply Take.tail)) | apply OwnL.drop)) w (h.thin (SubL.mem (by repeat (first | exact SubL.refl | refine SubL.cons (by repeat (first | assumption | exact mS | apply mT)) ?_ | refine SubL.skip ?_))))))
            ·
             have hup : upd U (C.take (j + 1)) ks2[i]! = upd U (C.take j) ks2[i]! := by rw [take_snoc (by omega), upd_snoc _ hkn, if_neg (fun h => hc10 h.symm)]
             refine WC.skip ?_
             refine blockQ.normal ?_
             refine thenQ.normal ?_
             refine WC.region ?_
             refine WL.rd rfl rfl rfl (Rd.move rfl rfl) ?_
             refine WL.rd rfl rfl rfl (Rd.add rfl rfl rfl (by omega)) ?_
             refine WL.rd rfl rfl rfl (Rd.assign rfl rfl) ?_
             refine WL.nil ?_
             exact loopQ1.mk (j + 1) (by omega) (by omega) (by repeat (first | exact Sub.nil | refine Sub.cons rfl (by first | rfl | (congr 1; omega) | assumption) ?_)) (by rw [hup]; exact (fun w h => OwnL.sat (by repeat (first | exact OwnL.refl | apply OwnL.take (by repeat (first | exact Take.head _ | apply Take.tail)) | apply OwnL.drop)) w (h.thin (SubL.mem (by repeat (first | exact SubL.refl | refine SubL.cons (by repeat (first | assumption | exact mS | apply mT)) ?_ | refine SubL.skip ?_))))))
           ·
            obtain rfl : j = C.length := by omega
            rw [List.take_length]
            refine WC.exit ?_
            refine thenQ.exit ?_
            refine loopQ1.exit ?_
            refine blockQ.exit ?_
            refine thenQ.normal ?_
            refine WC.seq ?_
            refine WC.drawn (rowC b20 36 [vs (upd U C ks2[i]!).1, .bool (upd U C ks2[i]!).2] :: O) 8 rfl mixed ?_
            refine WD.take 0 rfl (by kernel_rfl) Z.H rfl rfl rfl (Rd.move rfl rfl) ?_
            refine WD.take 1 rfl (by kernel_rfl) Z.H rfl rfl rfl (Rd.move rfl rfl) ?_
            refine WD.take 2 rfl (by kernel_rfl) Z.H rfl rfl rfl (Rd.move rfl rfl) ?_
            refine WD.take 3 rfl (by kernel_rfl) Z.H rfl rfl rfl ((by first | exact Rd.idx1 (k := i) rfl S33 rfl rfl (by omega) (by repeat (first | assumption | exact mS | apply mT)) (by first | omega | (simp only [List.length_cons, List.length_nil, List.length_append, List.length_map]; omega)) | exact Rd.idxA1 (k := i) rfl S33 rfl rfl (by omega) (by repeat (first | assumption | exact mS | apply mT)) (by first | omega | (simp only [List.length_cons, List.length_nil, List.length_append, List.length_map]; omega)) | exact Rd.idxR1 (k := i) rfl S33 rfl rfl (by omega) (by omega))) ?_
            refine WD.take 4 rfl (by kernel_rfl) Z.H rfl rfl rfl ((by first | exact Rd.get rfl C9 rfl (by repeat (first | assumption | exact mS | apply mT)) (by first | assumption | rfl | exact get!_of_lt (by omega)) | exact Rd.getA rfl C9 rfl (by repeat (first | assumption | exact mS | apply mT)) (by first | assumption | rfl | exact get!_of_lt (by omega)) | exact Rd.row1 rfl C9 rfl (by repeat (first | assumption | exact mS | apply mT)) (by rfl) | exact Rd.getF rfl C9 rfl (by repeat (first | assumption | exact mS | apply mT)) (by intro x; first | rfl | (cases x; rfl) | (rcases x with ⟨_, _, _⟩; rfl) | (rcases x with ⟨_, _, _, _⟩; rfl)) rfl (by first | assumption | rfl | exact get!_of_lt (by omega)) (by rfl) | exact Rd.getFA rfl C9 rfl (by repeat (first | assumption | exact mS | apply mT)) (by intro x; first | rfl | (cases x; rfl) | (rcases x with ⟨_, _, _⟩; rfl) | (rcases x with ⟨_, _, _, _⟩; rfl)) rfl (by first | assumption | rfl | exact get!_of_lt (by omega)) (by rfl))) ?_
            refine WD.take 6 rfl (by kernel_rfl) Z.H rfl rfl rfl (Rd.rowS (b := b20) (off := 0) rfl G36 rfl (by repeat (first | assumption | exact mS | apply mT)) Z.N rfl) ?_
            refine WD.one 5 rfl (by kernel_rfl) rfl ?_
            refine OpW.call rfl rfl (by repeat (first | exact Evs.nil | apply Evs.cons rfl)) (by kernel_rfl) rfl rfl rfl ?_
            refine says_spec (l := r) (by repeat (first | assumption | exact mS | apply mT)) ?_
            refine ⟨Z.H, ?_⟩
            refine WD.take 7 rfl (by kernel_rfl) Z.H rfl rfl rfl (Rd.aneq rfl rfl rfl (EqSr (says r ks2[i]!) (upd U C ks2[i]!))) ?_
            refine WD.done (by kernel_rfl) ?_
            refine thenQ.normal ?_
            first | refine WC.ite rfl (fun hc11 => ?_) (fun hc11 => ?_) | refine WC.cond rfl (fun hc11 => ?_) (fun hc11 => ?_)
            ·
             exact absurd (hrS _) hc11
            ·
             refine WC.skip ?_
             refine blockQ.normal ?_
             refine thenQ.normal ?_
             refine WC.region ?_
             refine WL.rd rfl rfl rfl (Rd.move rfl rfl) ?_
             refine WL.rd rfl rfl rfl (Rd.add rfl rfl rfl (by omega)) ?_
             refine WL.rd rfl rfl rfl (Rd.assign rfl rfl) ?_
             refine WL.nil ?_
             exact loopQ1.mk (i + 1) (by omega) (by omega) (by repeat (first | exact Sub.nil | refine Sub.cons rfl (by first | rfl | (congr 1; omega) | assumption) ?_)) (fun w h => OwnL.sat (by repeat (first | exact OwnL.refl | apply OwnL.take (by repeat (first | exact Take.head _ | apply Take.tail)) | apply OwnL.drop)) w (h.thin (SubL.mem (by repeat (first | exact SubL.refl | refine SubL.cons (by repeat (first | assumption | exact mS | apply mT)) ?_ | refine SubL.skip ?_)))))
          ·
           refine WC.exit ?_
           refine thenQ.exit ?_
           refine loopQ1.exit ?_
           refine blockQ.exit ?_
           refine thenQ.normal ?_
           refine WC.seq ?_
           refine WC.seq ?_
           refine WC.region ?_
           refine WL.rd rfl rfl rfl (Rd.assign rfl rfl) ?_
           refine WL.nil ?_
           refine thenQ.normal ?_
           refine WC.block ?_
           refine WC.pick [22, 7, 16] (by repeat (first | exact Pick.nil | apply Pick.cons rfl)) ?_
           refine WC.loop1 1 (fun (j : Nat) => [(22, .int .i64 (j : Int))]) (fun (j : Nat) => O) (fun (j : Nat) => j ≤ C.length) (fun (j : Nat) => C.length - j) (0) (by repeat (first | exact Split.zero | apply Split.succ)) ?hinv5 (by repeat (first | exact Sub.nil | refine Sub.cons rfl (by first | rfl | (congr 1; omega) | assumption) ?_)) (fun _ h => h) ?_
           case hinv5 =>
            exact Nat.zero_le _
           intro j
           rintro j1
           refine WC.seq ?_
           refine WC.seq ?_
           refine WC.region ?_
           refine WL.rd rfl rfl rfl (Rd.move rfl rfl) ?_
           refine WL.rd rfl rfl rfl (Rd.move rfl rfl) ?_
           refine WL.rd rfl rfl rfl ((by first | exact Rd.lenE rfl rfl Try.underlying47 (by repeat (first | assumption | exact mS | apply mT)) | exact Rd.lenA rfl rfl Try.underlying47 (by repeat (first | assumption | exact mS | apply mT)) | exact Rd.len rfl rfl Try.underlying47)) ?_
           refine WL.rd rfl rfl rfl (Rd.lss rfl rfl rfl) ?_
           refine WL.nil ?_
           refine thenQ.normal ?_
           first | refine WC.ite rfl (fun hc12 => ?_) (fun hc12 => ?_) | refine WC.cond rfl (fun hc12 => ?_) (fun hc12 => ?_)
           ·
            have hCn := kC.1
            refine WC.skip ?_
            refine thenQ.normal ?_
            refine WC.seq ?_
            refine WC.block ?_
            refine WC.seq ?_
            refine WC.drawn (O) 13 rfl mixed ?_
            refine WD.take 0 rfl (by kernel_rfl) Z.H rfl rfl rfl (Rd.move rfl rfl) ?_
            refine WD.take 1 rfl (by kernel_rfl) Z.H rfl rfl rfl (Rd.move rfl rfl) ?_
            refine WD.take 2 rfl (by kernel_rfl) Z.H rfl rfl rfl (Rd.move rfl rfl) ?_
            refine WD.take 3 rfl (by kernel_rfl) Z.H rfl rfl rfl ((by first | exact Rd.idx (k := j) rfl S47 rfl rfl (by omega) (by repeat (first | assumption | exact mS | apply mT)) (by first | omega | (simp only [List.length_cons, List.length_nil, List.length_append, List.length_map]; omega)) | exact Rd.idxA (k := j) rfl S47 rfl rfl (by omega) (by repeat (first | assumption | exact mS | apply mT)) (by first | omega | (simp only [List.length_cons, List.length_nil, List.length_append, List.length_map]; omega)) | exact Rd.idxR (k := j) rfl S47 rfl rfl (by omega) (by omega))) ?_
            refine WD.take 4 rfl (by kernel_rfl) Z.H rfl rfl rfl ((by first | exact Rd.field rfl F51_0 rfl rfl | exact Rd.fieldE rfl F51_0 rfl (by repeat (first | assumption | exact mS | apply mT)) (by omega) | exact Rd.fieldA rfl F51_0 rfl (by repeat (first | assumption | exact mS | apply mT)) (by omega))) ?_
            refine WD.take 5 rfl (by kernel_rfl) Z.H rfl rfl rfl (Rd.getF (enc := encG) (size := 5) (xs := C) (k := j) (f := 0) (a := C[j]!) (u := vs C[j]!.key) rfl C9 rfl (by repeat (first | assumption | exact mS | apply mT)) (fun x => rfl) (by omega) (get!_of_lt (by omega)) rfl) ?_
            refine WD.take 7 rfl (by kernel_rfl) Z.H rfl rfl rfl (Rd.move rfl rfl) ?_
            refine WD.take 8 rfl (by kernel_rfl) Z.H rfl rfl rfl (Rd.move rfl rfl) ?_
            refine WD.take 9 rfl (by kernel_rfl) Z.H rfl rfl rfl ((by first | exact Rd.idx (k := j) rfl S47 rfl rfl (by omega) (by repeat (first | assumption | exact mS | apply mT)) (by first | omega | (simp only [List.length_cons, List.length_nil, List.length_append, List.length_map]; omega)) | exact Rd.idxA (k := j) rfl S47 rfl rfl (by omega) (by repeat (first | assumption | exact mS | apply mT)) (by first | omega | (simp only [List.length_cons, List.length_nil, List.length_append, List.length_map]; omega)) | exact Rd.idxR (k := j) rfl S47 rfl rfl (by omega) (by omega))) ?_
            refine WD.take 10 rfl (by kernel_rfl) Z.H rfl rfl rfl ((by first | exact Rd.field rfl F51_2 rfl rfl | exact Rd.fieldE rfl F51_2 rfl (by repeat (first | assumption | exact mS | apply mT)) (by omega) | exact Rd.fieldA rfl F51_2 rfl (by repeat (first | assumption | exact mS | apply mT)) (by omega))) ?_
            refine WD.take 11 rfl (by kernel_rfl) Z.H rfl rfl rfl (Rd.getSF (enc := encG) (size := 5) (sz := 2) (xs := C) (k := j) (f := 3) (a := C[j]!) (cs := [vs C[j]!.new.1, .bool C[j]!.new.2]) rfl G38 rfl (by repeat (first | assumption | exact mS | apply mT)) (fun x => rfl) (by omega) (get!_of_lt (by omega)) rfl rfl) ?_
            refine WD.one 6 rfl (by kernel_rfl) rfl ?_
            refine OpW.call rfl rfl (by repeat (first | exact Evs.nil | apply Evs.cons rfl)) (by kernel_rfl) rfl rfl rfl ?_
            refine says_spec (l := r) (by repeat (first | assumption | exact mS | apply mT)) ?_
            refine ⟨Z.H, ?_⟩
            refine WD.take 12 rfl (by kernel_rfl) Z.H rfl rfl rfl (Rd.aneq rfl rfl rfl (EqSr (says r C[j]!.key) C[j]!.new)) ?_
            refine WD.done (by kernel_rfl) ?_
            refine thenQ.normal ?_
            first | refine WC.ite rfl (fun hc13 => ?_) (fun hc13 => ?_) | refine WC.cond rfl (fun hc13 => ?_) (fun hc13 => ?_)
            ·
             exact absurd (by rw [hrS]; exact upd_mem hO.asc.nodup (get!_mem (by omega))) hc13
            ·
             refine WC.skip ?_
             refine blockQ.normal ?_
             refine thenQ.normal ?_
             refine WC.region ?_
             refine WL.rd rfl rfl rfl (Rd.move rfl rfl) ?_
             refine WL.rd rfl rfl rfl (Rd.add rfl rfl rfl (by omega)) ?_
             refine WL.rd rfl rfl rfl (Rd.assign rfl rfl) ?_
             refine WL.nil ?_
             exact loopQ1.mk (j + 1) (by omega) (by omega) (by repeat (first | exact Sub.nil | refine Sub.cons rfl (by first | rfl | (congr 1; omega) | assumption) ?_)) (fun w h => OwnL.sat (by repeat (first | exact OwnL.refl | apply OwnL.take (by repeat (first | exact Take.head _ | apply Take.tail)) | apply OwnL.drop)) w (h.thin (SubL.mem (by repeat (first | exact SubL.refl | refine SubL.cons (by repeat (first | assumption | exact mS | apply mT)) ?_ | refine SubL.skip ?_)))))
           ·
            refine WC.heap (R' := R) (O' := O) (fun w h => OwnL.sat (by repeat (first | exact OwnL.refl | apply OwnL.take (by repeat (first | exact Take.head _ | apply Take.tail)) | apply OwnL.drop)) w (h.thin (SubL.mem (by repeat (first | exact SubL.refl | refine SubL.cons (by repeat (first | assumption | exact mS | apply mT)) ?_ | refine SubL.skip ?_))))) ?_
            refine WC.exit ?_
            refine thenQ.exit ?_
            refine loopQ1.exit ?_
            refine blockQ.exit ?_
            refine thenQ.normal ?_
            refine WC.seq ?_
            refine WC.region ?_
            refine WL.rd rfl rfl rfl (Rd.assign rfl rfl) ?_
            refine WL.nil ?_
            refine thenQ.normal ?_
            refine WC.ret (Ret.one Try.results5 rfl ?_)
            exact hk
theorem applies2_spec {p : List It} {l : List Ch} {pv lv : Value} (hp : SlE encI pv p ∈ R) (hl : SlE encC lv l ∈ R) (qp : AllQ QI p ∈ R) (ql : AllQ QC l ∈ R) (hk : POST (.bool true) R O) : Fun Try.prog 5 #[pv, lv] R O POST :=
 Fun.know qp (fun _ h => h) fun h1 => Fun.know ql (fun _ h => h) fun h2 => applies_spec hp hl h1 h2 hk
end
end Go.Proofs.Ytbbeifdmgmadiaa
