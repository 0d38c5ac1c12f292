/-
 Layer 20: KeydiffSides; the laws' arguments.
-/
import Derived.Test.YtbbeifdmgmadiaaKd11
import Derived.Test.YtbbeifdmgmadiaaSho
import Derived.Test.YtbbeifdmgmadiaaOpa
import Derived.Test.YtbbeifdmgmadiaaKd10
namespace Go.SL
open Go Go.RowKit
section
variable {P : Program} {L : Env} {R : List RO} {O : List Own} {o : Oper} {x : Operand} {t : TypeId} {v : Value} {α : Type} {enc : α → List Value} {xs : List α} {size : Nat}
/-- A part of an element, of several cells. -/
theorem Rd.getSF {sz f j k : Nat} {a : α} {cs : List Value} (ho : o.op = .load t x) (hc : Agg P t sz) (hx : ev L x = some (.pointer (some (elemAddr v j)))) (hp : SlE enc v xs ∈ R) (hs : ∀ x, (enc x).length = size) (hj : j = k * size + f) (hk : xs[k]? = some a) (he : ((enc a).drop f).take sz = cs) (hl : cs.length = sz) : Rd P o L R O (.agg cs.toArray) := fun ρ w hρ hR _ => by
 subst he
 have hE := hR _ hp
 have hv : ∃ ad n c, v = .slice (some ad) n c := by
  obtain ⟨o', c, rfl, _, _, hn, ha⟩ := hE
  cases o' with
  | none => have h0 := hn rfl; rw [List.length_eq_zero_iff.1 h0] at hk; simp at hk
  | some ad => exact ⟨ad, _, _, rfl⟩
 have h := run_loadAgg (P := P) (w := w) hc (elemAddr_spot v j) hl (fun i u hi => by
  rw [← elemAddr_add v j i hv, hj, Nat.add_assoc]
  refine SlE.cell hE (flat_get hs xs k (f + i) a u hk ?_)
  rw [List.getElem?_take] at hi
  split at hi
  ·
   rwa [List.getElem?_drop] at hi
  ·
   cases hi)
 simp only [execOp, ho, hρ _ _ hx, Sem.run_bind, h, Result.andThen_ok, Sem.run_pure]
end
end Go.SL
namespace Go.Proofs.Ytbbeifdmgmadiaa
open Go Go.SL
def QI (_ : World) (x : It) : Prop := x.1.length ≤ 9223372036854775807
theorem QI.stable {W : World} {a : It} (w' : World) (h : QI W a) (_ : Agree (· ∈ owned []) W w') : QI w' a := h
theorem elsI : ElsW Try.prog 59 encI QI := by
 have h := elsW_arr2 (size := 1) Try.underlying59 (by kernel_rfl) (by kernel_rfl) (elsW_string Try.underlying9)
 refine elsW_map (fun z => (z.1, z.2)) h (fun _ => rfl) ?_
 rintro w a ⟨q1, _⟩
 exact Nat.le_trans q1 (by omega)
theorem len_map {α β : Type} (f : α → β) (l : List α) : (l.map f).length = l.length := List.length_map f
theorem KLof {l : List It} (h : ∀ x ∈ l, x.1.length ≤ 9223372036854775807) : KL (l.take 40) := ⟨by rw [List.length_take]; omega, fun x hx => h x (List.mem_of_mem_take hx)⟩
section
variable {R : List RO} {O O' : List Own} {POST : Value → List RO → List Own → Prop}
theorem merges2_spec {p q r : List It} {pv qv rv : Value} (hp : SlE encI pv p ∈ R) (hq : SlE encI qv q ∈ R) (hr : SlE encI rv r ∈ R) (qp : AllQ QI p ∈ R) (qq : AllQ QI q ∈ R) (qr : AllQ QI r ∈ R)
  (hk : POST (.bool true) R O) : Fun Try.prog 3 #[pv, qv, rv] R O POST :=
 Fun.know qp (fun _ h => h) fun h1 => Fun.know qq (fun _ h => h) fun h2 => Fun.know qr (fun _ h => h) fun h3 => merges_spec hp hq hr h1 h2 h3 hk
set_option maxRecDepth 20000 in
set_option maxHeartbeats 4000000 in
theorem sides_spec {p q r : List It} {pv qv rv : Value} (hp : SlE encI pv p ∈ R) (hq : SlE encI qv q ∈ R) (hr : SlE encI rv r ∈ R) (hKp : ∀ x ∈ p, x.1.length ≤ 9223372036854775807) (hKq : ∀ x ∈ q, x.1.length ≤ 9223372036854775807) (hKr : ∀ x ∈ r, x.1.length ≤ 9223372036854775807)
  (hk : POST (.bool true) R O) : Fun Try.prog 4 #[pv, qv, rv] R O POST := by
 have kU := KLof hKp; have kV := KLof hKq; have kW := KLof hKr
 refine Fun.enter (l := [_, _, _]) Try.func4 rfl Try.ntmps4 rfl (L0 := [(0, _), (1, _), (2, _)]) rfl ?_
 refine WC.seq ?_
 refine WC.region ?_
 refine WL.rd rfl rfl rfl (Rd.assign rfl rfl) ?_
 refine WL.nil ?_
 refine thenQ.normal ?_
 refine WC.seq ?_
 refine WC.seq ?_
 refine WC.region ?_
 refine WL.op rfl ?_
 refine OpW.call rfl rfl (by repeat (first | exact Evs.nil | apply Evs.cons rfl)) (by kernel_rfl) rfl rfl rfl ?_
 refine speaks_spec ?_
 refine WL.say 27 (u := .bool (decide True)) rfl (by simp) ?_
 refine WL.rd rfl rfl rfl ((by first | exact Rd.notd rfl rfl | exact Rd.not rfl rfl)) ?_
 refine WL.nil ?_
 refine thenQ.normal ?_
 first | refine WC.ite rfl (fun hc1 => ?_) (fun hc1 => ?_) | refine WC.cond rfl (fun hc1 => ?_) (fun hc1 => ?_)
 ·
  exact absurd trivial hc1
 ·
  refine WC.skip ?_
  refine thenQ.normal ?_
  refine WC.seq ?_
  refine WC.region ?_
  refine WL.rd rfl rfl rfl (Rd.move rfl rfl) ?_
  refine WL.op rfl ?_
  refine OpW.call rfl rfl (by repeat (first | exact Evs.nil | apply Evs.cons rfl)) (by kernel_rfl) rfl rfl rfl ?_
  refine litems_spec hp ?_; intro vx vu
  refine WL.heap (fun w h => Sat.shareA (Take.head _) (Sat.shareA (Take.head _) h)) ?_
  refine WL.rd rfl rfl rfl (Rd.move rfl rfl) ?_
  refine WL.rd rfl rfl rfl (Rd.extract rfl rfl rfl) ?_
  refine WL.rd rfl rfl rfl (Rd.extract rfl rfl rfl) ?_
  refine WL.rd rfl rfl rfl (Rd.assign rfl rfl) ?_
  refine WL.rd rfl rfl rfl (Rd.assign rfl rfl) ?_
  refine WL.nil ?_
  refine thenQ.normal ?_
  refine WC.seq ?_
  refine WC.region ?_
  refine WL.rd rfl rfl rfl (Rd.move rfl rfl) ?_
  refine WL.op rfl ?_
  refine OpW.call rfl rfl (by repeat (first | exact Evs.nil | apply Evs.cons rfl)) (by kernel_rfl) rfl rfl rfl ?_
  refine litems_spec (xs := q) (by repeat (first | assumption | exact mS | apply mT)) ?_; intro vy vv
  refine WL.heap (fun w h => Sat.shareA (Take.head _) (Sat.shareA (Take.head _) h)) ?_
  refine WL.rd rfl rfl rfl (Rd.move rfl rfl) ?_
  refine WL.rd rfl rfl rfl (Rd.extract rfl rfl rfl) ?_
  refine WL.rd rfl rfl rfl (Rd.extract rfl rfl rfl) ?_
  refine WL.rd rfl rfl rfl (Rd.assign rfl rfl) ?_
  refine WL.rd rfl rfl rfl (Rd.assign rfl rfl) ?_
  refine WL.nil ?_
  refine thenQ.normal ?_
  refine WC.seq ?_
  refine WC.region ?_
  refine WL.rd rfl rfl rfl (Rd.move rfl rfl) ?_
  refine WL.op rfl ?_
  refine OpW.call rfl rfl (by repeat (first | exact Evs.nil | apply Evs.cons rfl)) (by kernel_rfl) rfl rfl rfl ?_
  refine litems_spec (xs := r) (by repeat (first | assumption | exact mS | apply mT)) ?_; intro vz vw
  refine WL.heap (fun w h => Sat.shareA (Take.head _) (Sat.shareA (Take.head _) h)) ?_
  generalize p.take 40 = U at kU ⊢
  generalize q.take 40 = V at kV ⊢
  generalize r.take 40 = W at kW ⊢
  refine WL.rd rfl rfl rfl (Rd.move rfl rfl) ?_
  refine WL.rd rfl rfl rfl (Rd.extract rfl rfl rfl) ?_
  refine WL.rd rfl rfl rfl (Rd.extract rfl rfl rfl) ?_
  refine WL.rd rfl rfl rfl (Rd.assign rfl rfl) ?_
  refine WL.rd rfl rfl rfl (Rd.assign rfl rfl) ?_
  refine WL.nil ?_
  refine thenQ.normal ?_
  refine WC.seq ?_
  refine WC.region ?_
  refine WL.rd rfl rfl rfl (Rd.move rfl rfl) ?_
  refine WL.rd rfl rfl rfl (Rd.move rfl rfl) ?_
  refine WL.rd rfl rfl rfl (Rd.move rfl rfl) ?_
  refine WL.op rfl ?_
  refine OpW.call rfl rfl (by repeat (first | exact Evs.nil | apply Evs.cons rfl)) (by kernel_rfl) rfl rfl rfl ?_
  refine merge2_spec (U := U) (V := V) (W := W) (by repeat (first | assumption | exact mS | apply mT)) (by repeat (first | assumption | exact mS | apply mT)) (by repeat (first | assumption | exact mS | apply mT)) kU kV kW ?_; intro l c e lv cv hM
  refine WL.rd rfl rfl rfl (Rd.move rfl rfl) ?_
  refine WL.rd rfl rfl rfl (Rd.extract rfl rfl rfl) ?_
  refine WL.rd rfl rfl rfl (Rd.extract rfl rfl rfl) ?_
  refine WL.rd rfl rfl rfl (Rd.extract rfl rfl rfl) ?_
  refine WL.rd rfl rfl rfl (Rd.assign rfl rfl) ?_
  refine WL.rd rfl rfl rfl (Rd.assign rfl rfl) ?_
  refine WL.rd rfl rfl rfl (Rd.assign rfl rfl) ?_
  refine WL.nil ?_
  refine thenQ.normal ?_
  refine WC.seq ?_
  refine WC.region ?_
  refine WL.rd rfl rfl rfl (Rd.move rfl rfl) ?_
  refine WL.rd rfl rfl rfl (Rd.move rfl rfl) ?_
  refine WL.rd rfl rfl rfl (Rd.move rfl rfl) ?_
  refine WL.op rfl ?_
  refine OpW.call rfl rfl (by repeat (first | exact Evs.nil | apply Evs.cons rfl)) (by kernel_rfl) rfl rfl rfl ?_
  refine merge2_spec (U := U) (V := W) (W := V) (by repeat (first | assumption | exact mS | apply mT)) (by repeat (first | assumption | exact mS | apply mT)) (by repeat (first | assumption | exact mS | apply mT)) kU kW kV ?_; intro m d f mv dv hN
  obtain ⟨hef, hlm, hcd, hlc, hcx⟩ := sides hM hN
  subst hef; subst hlm; subst hcd
  have hcn := len_map turnF c
  refine WL.rd rfl rfl rfl (Rd.move rfl rfl) ?_
  refine WL.rd rfl rfl rfl (Rd.extract rfl rfl rfl) ?_
  refine WL.rd rfl rfl rfl (Rd.extract rfl rfl rfl) ?_
  refine WL.rd rfl rfl rfl (Rd.extract rfl rfl rfl) ?_
  refine WL.rd rfl rfl rfl (Rd.assign rfl rfl) ?_
  refine WL.rd rfl rfl rfl (Rd.assign rfl rfl) ?_
  refine WL.rd rfl rfl rfl (Rd.assign rfl rfl) ?_
  refine WL.nil ?_
  refine thenQ.normal ?_
  refine WC.seq ?_
  refine WC.pick [7, 8, 9, 10, 11, 12, 13, 14, 15, 16, 17, 18] (by repeat (first | exact Pick.nil | apply Pick.cons rfl)) ?_
  refine WC.val 86 (.bool (decide (0 < l.length ∧ 0 < c.length))) ?_ ?_
  ·
   refine WC.region ?_
   refine WL.rd rfl rfl rfl (Rd.move rfl rfl) ?_
   refine WL.rd rfl rfl rfl (Rd.move rfl rfl) ?_
   refine WL.rd rfl rfl rfl (Rd.neq rfl rfl rfl) ?_
   refine WL.rd rfl rfl rfl (Rd.move rfl rfl) ?_
   refine WL.case 63 rfl (fun hg63 => ?_) (fun hg63 => ?_)
   ·
    exact absurd rfl hg63
   ·
    refine WL.rd_yes rfl rfl rfl rfl rfl rfl (Rd.move rfl rfl) ?_
    refine WL.rd_yes rfl rfl rfl rfl rfl rfl ((by first | exact Rd.lenE rfl rfl Try.underlying24 (by repeat (first | assumption | exact mS | apply mT)) | exact Rd.lenA rfl rfl Try.underlying24 (by repeat (first | assumption | exact mS | apply mT)) | exact Rd.len rfl rfl Try.underlying24)) ?_
    refine WL.rd_yes rfl rfl rfl rfl rfl rfl (Rd.move rfl rfl) ?_
    refine WL.rd_yes rfl rfl rfl rfl rfl rfl ((by first | exact Rd.lenE rfl rfl Try.underlying24 (by repeat (first | assumption | exact mS | apply mT)) | exact Rd.lenA rfl rfl Try.underlying24 (by repeat (first | assumption | exact mS | apply mT)) | exact Rd.len rfl rfl Try.underlying24)) ?_
    refine WL.rd_yes rfl rfl rfl rfl rfl rfl (Rd.neq rfl rfl rfl) ?_
    refine WL.rd rfl rfl rfl (Rd.pick_f rfl rfl rfl) ?_
    refine WL.rd rfl rfl rfl (Rd.move rfl rfl) ?_
    refine WL.case 70 rfl (fun hg70 => ?_) (fun hg70 => ?_)
    ·
     exact absurd rfl hg70
    ·
     refine WL.rd_yes rfl rfl rfl rfl rfl rfl (Rd.move rfl rfl) ?_
     refine WL.rd_yes rfl rfl rfl rfl rfl rfl ((by first | exact Rd.lenE rfl rfl Try.underlying28 (by repeat (first | assumption | exact mS | apply mT)) | exact Rd.lenA rfl rfl Try.underlying28 (by repeat (first | assumption | exact mS | apply mT)) | exact Rd.len rfl rfl Try.underlying28)) ?_
     refine WL.rd_yes rfl rfl rfl rfl rfl rfl (Rd.move rfl rfl) ?_
     refine WL.rd_yes rfl rfl rfl rfl rfl rfl ((by first | exact Rd.lenE rfl rfl Try.underlying28 (by repeat (first | assumption | exact mS | apply mT)) | exact Rd.lenA rfl rfl Try.underlying28 (by repeat (first | assumption | exact mS | apply mT)) | exact Rd.len rfl rfl Try.underlying28)) ?_
     refine WL.rd_yes rfl rfl rfl rfl rfl rfl (Rd.neq rfl rfl rfl) ?_
     refine WL.rd rfl rfl rfl (Rd.pick_f rfl rfl rfl) ?_
     refine WL.rd rfl rfl rfl (Rd.move rfl rfl) ?_
     refine WL.case 77 rfl (fun hg77 => ?_) (fun hg77 => ?_)
     ·
      exact absurd (by rw [hcn]) hg77
     ·
      refine WL.rd_yes rfl rfl rfl rfl rfl rfl (Rd.move rfl rfl) ?_
      refine WL.rd_yes rfl rfl rfl rfl rfl rfl ((by first | exact Rd.lenE rfl rfl Try.underlying24 (by repeat (first | assumption | exact mS | apply mT)) | exact Rd.lenA rfl rfl Try.underlying24 (by repeat (first | assumption | exact mS | apply mT)) | exact Rd.len rfl rfl Try.underlying24)) ?_
      refine WL.rd_yes rfl rfl rfl rfl rfl rfl (Rd.gtr rfl rfl rfl) ?_
      refine WL.rd_yes rfl rfl rfl rfl rfl rfl (Rd.move rfl rfl) ?_
      refine WL.case 81 rfl (fun hg81 => ?_) (fun hg81 => ?_)
      ·
       refine WL.rd_yes rfl rfl rfl rfl rfl rfl (Rd.move rfl rfl) ?_
       refine WL.rd_yes rfl rfl rfl rfl rfl rfl ((by first | exact Rd.lenE rfl rfl Try.underlying28 (by repeat (first | assumption | exact mS | apply mT)) | exact Rd.lenA rfl rfl Try.underlying28 (by repeat (first | assumption | exact mS | apply mT)) | exact Rd.len rfl rfl Try.underlying28)) ?_
       refine WL.rd_yes rfl rfl rfl rfl rfl rfl (Rd.gtr rfl rfl rfl) ?_
       refine WL.rd_yes rfl rfl rfl rfl rfl rfl (Rd.pick_t rfl rfl rfl) ?_
       refine WL.rd rfl rfl rfl (Rd.pick_f rfl rfl rfl) ?_
       refine WL.nil ?_
       exact ⟨by repeat (first | exact Sub.nil | refine Sub.cons rfl (by first | rfl | (first | exact vb_f (fun h => hg81 (by have := h.1; omega)) | exact vb ⟨fun h => ⟨by omega, by omega⟩, fun h => by omega⟩)) ?_), by first | exact (fun _ h => h.thin (SubL.mem (by repeat (first | exact SubL.refl | refine SubL.cons (by repeat (first | assumption | exact mS | apply mT)) ?_ | refine SubL.skip ?_)))) | exact (fun w h => OwnL.sat (by repeat (first | exact OwnL.refl | apply OwnL.take (by repeat (first | exact Take.head _ | apply Take.tail)) | apply OwnL.drop)) w (h.thin (SubL.mem (by repeat (first | exact SubL.refl | refine SubL.cons (by repeat (first | assumption | exact mS | apply mT)) ?_ | refine SubL.skip ?_)))))⟩
      ·
       refine WL.no rfl rfl rfl rfl rfl rfl ?_
       refine WL.no rfl rfl rfl rfl rfl rfl ?_
       refine WL.no rfl rfl rfl rfl rfl rfl ?_
       refine WL.rd_yes rfl rfl rfl rfl rfl rfl (Rd.pick_f rfl rfl rfl) ?_
       refine WL.rd rfl rfl rfl (Rd.pick_f rfl rfl rfl) ?_
       refine WL.nil ?_
       exact ⟨by repeat (first | exact Sub.nil | refine Sub.cons rfl (by first | rfl | (first | exact vb_f (fun h => hg81 (by have := h.1; omega)) | exact vb ⟨fun h => ⟨by omega, by omega⟩, fun h => by omega⟩)) ?_), by first | exact (fun _ h => h.thin (SubL.mem (by repeat (first | exact SubL.refl | refine SubL.cons (by repeat (first | assumption | exact mS | apply mT)) ?_ | refine SubL.skip ?_)))) | exact (fun w h => OwnL.sat (by repeat (first | exact OwnL.refl | apply OwnL.take (by repeat (first | exact Take.head _ | apply Take.tail)) | apply OwnL.drop)) w (h.thin (SubL.mem (by repeat (first | exact SubL.refl | refine SubL.cons (by repeat (first | assumption | exact mS | apply mT)) ?_ | refine SubL.skip ?_)))))⟩
  ·
   first | refine WC.ite rfl (fun hc2 => ?_) (fun hc2 => ?_) | refine WC.cond rfl (fun hc2 => ?_) (fun hc2 => ?_)
   ·
    exact hlc.elim (fun h => absurd hc2.1 (by rw [h]; simp)) (fun h => absurd hc2.2 (by rw [h]; simp))
   ·
    refine WC.know (p := SlE encI lv l) (by repeat (first | assumption | exact mS | apply mT)) (fun w h => SlE.len h) fun hll => ?_
    refine WC.know (p := SlE encF cv c) (by repeat (first | assumption | exact mS | apply mT)) (fun w h => SlE.len h) fun hcl => ?_
    refine WC.skip ?_
    refine thenQ.normal ?_
    refine WC.seq ?_
    refine WC.seq ?_
    refine WC.region ?_
    refine WL.rd rfl rfl rfl (Rd.assign rfl rfl) ?_
    refine WL.nil ?_
    refine thenQ.normal ?_
    refine WC.block ?_
    refine WC.pick [19, 7, 8, 9, 10, 11, 12, 13, 14, 16, 17] (by repeat (first | exact Pick.nil | apply Pick.cons rfl)) ?_
    refine WC.loop1o 1 (fun (i : Nat) => [(19, .int .i64 (i : Int))]) (fun (i : Nat) => i ≤ l.length) (fun (i : Nat) => l.length - i) (0) (by repeat (first | exact Split.zero | apply Split.succ)) ?hinv1 (by repeat (first | exact Sub.nil | refine Sub.cons rfl (by first | rfl | (congr 1; omega) | assumption) ?_)) (fun _ h => h) ?_
    case hinv1 =>
     exact Nat.zero_le _
    intro i
    rintro i1
    refine WC.seq ?_
    refine WC.seq ?_
    refine WC.region ?_
    refine WL.rd rfl rfl rfl (Rd.move rfl rfl) ?_
    refine WL.rd rfl rfl rfl (Rd.move rfl rfl) ?_
    refine WL.rd rfl rfl rfl ((by first | exact Rd.lenE rfl rfl Try.underlying24 (by repeat (first | assumption | exact mS | apply mT)) | exact Rd.lenA rfl rfl Try.underlying24 (by repeat (first | assumption | exact mS | apply mT)) | exact Rd.len rfl rfl Try.underlying24)) ?_
    refine WL.rd rfl rfl rfl (Rd.lss rfl rfl rfl) ?_
    refine WL.nil ?_
    refine thenQ.normal ?_
    first | refine WC.ite rfl (fun hc3 => ?_) (fun hc3 => ?_) | refine WC.cond rfl (fun hc3 => ?_) (fun hc3 => ?_)
    ·
     refine WC.skip ?_
     refine thenQ.normal ?_
     refine WC.seq ?_
     refine WC.block ?_
     refine WC.seq ?_
     refine WC.still mixed (by kernel_rfl) ?_
     refine WA.rd rfl rfl rfl (Rd.move rfl rfl) ?_
     refine WA.rd rfl rfl rfl (Rd.move rfl rfl) ?_
     refine WA.rd rfl rfl rfl ((by first | exact Rd.idx (k := i) rfl S24 rfl rfl (by omega) (by repeat (first | assumption | exact mS | apply mT)) (by first | omega | (simp only [List.length_cons, List.length_nil, List.length_append, List.length_map]; omega)) | exact Rd.idxA (k := i) rfl S24 rfl rfl (by omega) (by repeat (first | assumption | exact mS | apply mT)) (by first | omega | (simp only [List.length_cons, List.length_nil, List.length_append, List.length_map]; omega)) | exact Rd.idxR (k := i) rfl S24 rfl rfl (by omega) (by omega))) ?_
     refine WA.rd rfl rfl rfl (Rd.getS (xs := l) (k := i) (a := l[i]!) (cs := [vs l[i]!.1, vs l[i]!.2]) rfl G45 rfl (by repeat (first | assumption | exact mS | apply mT)) (fun x => rfl) (get!_of_lt (by omega)) (NF.refl _)) ?_
     refine WA.rd rfl rfl rfl (Rd.move rfl rfl) ?_
     refine WA.rd rfl rfl rfl (Rd.move rfl rfl) ?_
     refine WA.rd rfl rfl rfl ((by first | exact Rd.idx (k := i) rfl S24 rfl rfl (by omega) (by repeat (first | assumption | exact mS | apply mT)) (by first | omega | (simp only [List.length_cons, List.length_nil, List.length_append, List.length_map]; omega)) | exact Rd.idxA (k := i) rfl S24 rfl rfl (by omega) (by repeat (first | assumption | exact mS | apply mT)) (by first | omega | (simp only [List.length_cons, List.length_nil, List.length_append, List.length_map]; omega)) | exact Rd.idxR (k := i) rfl S24 rfl rfl (by omega) (by omega))) ?_
     refine WA.rd rfl rfl rfl (Rd.getS (xs := l) (k := i) (a := l[i]!) (cs := [vs l[i]!.1, vs l[i]!.2]) rfl G45 rfl (by repeat (first | assumption | exact mS | apply mT)) (fun x => rfl) (get!_of_lt (by omega)) (NF.refl _)) ?_
     refine WA.rd rfl rfl rfl (Rd.aneq rfl rfl rfl (EqIk l[i]! l[i]!)) ?_
     refine WA.nil ?_
     refine thenQ.normal ?_
     first | refine WC.ite rfl (fun hc4 => ?_) (fun hc4 => ?_) | refine WC.cond rfl (fun hc4 => ?_) (fun hc4 => ?_)
     ·
      exact absurd rfl hc4
     ·
      refine WC.skip ?_
      refine blockQ.normal ?_
      refine thenQ.normal ?_
      refine WC.region ?_
      refine WL.rd rfl rfl rfl (Rd.move rfl rfl) ?_
      refine WL.rd rfl rfl rfl (Rd.add rfl rfl rfl (by omega)) ?_
      refine WL.rd rfl rfl rfl (Rd.assign rfl rfl) ?_
      refine WL.nil ?_
      exact loopQ1.mk (i + 1) (by omega) (by omega) (by repeat (first | exact Sub.nil | refine Sub.cons rfl (by first | rfl | (congr 1; omega) | assumption) ?_)) (fun w h => OwnL.sat (by repeat (first | exact OwnL.refl | apply OwnL.take (by repeat (first | exact Take.head _ | apply Take.tail)) | apply OwnL.drop)) w (h.thin (SubL.mem (by repeat (first | exact SubL.refl | refine SubL.cons (by repeat (first | assumption | exact mS | apply mT)) ?_ | refine SubL.skip ?_)))))
    ·
     refine WC.exit ?_
     refine thenQ.exit ?_
     refine loopQ1.exit ?_
     refine blockQ.exit ?_
     refine thenQ.normal ?_
     refine WC.seq ?_
     refine WC.seq ?_
     refine WC.region ?_
     refine WL.rd rfl rfl rfl (Rd.assign rfl rfl) ?_
     refine WL.nil ?_
     refine thenQ.normal ?_
     refine WC.block ?_
     refine WC.pick [20, 7, 8, 9, 10, 11, 12, 14, 17] (by repeat (first | exact Pick.nil | apply Pick.cons rfl)) ?_
     refine WC.loop1o 1 (fun (i : Nat) => [(20, .int .i64 (i : Int))]) (fun (i : Nat) => i ≤ c.length) (fun (i : Nat) => c.length - i) (0) (by repeat (first | exact Split.zero | apply Split.succ)) ?hinv2 (by repeat (first | exact Sub.nil | refine Sub.cons rfl (by first | rfl | (congr 1; omega) | assumption) ?_)) (fun _ h => h) ?_
     case hinv2 =>
      exact Nat.zero_le _
     intro i
     rintro i1
     refine WC.seq ?_
     refine WC.seq ?_
     refine WC.region ?_
     refine WL.rd rfl rfl rfl (Rd.move rfl rfl) ?_
     refine WL.rd rfl rfl rfl (Rd.move rfl rfl) ?_
     refine WL.rd rfl rfl rfl ((by first | exact Rd.lenE rfl rfl Try.underlying28 (by repeat (first | assumption | exact mS | apply mT)) | exact Rd.lenA rfl rfl Try.underlying28 (by repeat (first | assumption | exact mS | apply mT)) | exact Rd.len rfl rfl Try.underlying28)) ?_
     refine WL.rd rfl rfl rfl (Rd.lss rfl rfl rfl) ?_
     refine WL.nil ?_
     refine thenQ.normal ?_
     first | refine WC.ite rfl (fun hc5 => ?_) (fun hc5 => ?_) | refine WC.cond rfl (fun hc5 => ?_) (fun hc5 => ?_)
     ·
      have hti : ∀ (_ : i < c.length), (c.map turnF)[i]? = some (turnF c[i]!) := fun h => by rw [List.getElem?_map, get!_of_lt h]; rfl
      have hcx' := hcx c[i]! (get!_mem (by omega))
      refine WC.skip ?_
      refine thenQ.normal ?_
      refine WC.seq ?_
      refine WC.block ?_
      refine WC.seq ?_
      refine WC.still mixed (by kernel_rfl) ?_
      refine WA.rd rfl rfl rfl (Rd.move rfl rfl) ?_
      refine WA.rd rfl rfl rfl (Rd.move rfl rfl) ?_
      refine WA.rd rfl rfl rfl ((by first | exact Rd.idx (k := i) rfl S28 rfl rfl (by omega) (by repeat (first | assumption | exact mS | apply mT)) (by first | omega | (simp only [List.length_cons, List.length_nil, List.length_append, List.length_map]; omega)) | exact Rd.idxA (k := i) rfl S28 rfl rfl (by omega) (by repeat (first | assumption | exact mS | apply mT)) (by first | omega | (simp only [List.length_cons, List.length_nil, List.length_append, List.length_map]; omega)) | exact Rd.idxR (k := i) rfl S28 rfl rfl (by omega) (by omega))) ?_
      refine WA.rd rfl rfl rfl ((by first | exact Rd.field rfl F40_0 rfl rfl | exact Rd.fieldE rfl F40_0 rfl (by repeat (first | assumption | exact mS | apply mT)) (by omega) | exact Rd.fieldA rfl F40_0 rfl (by repeat (first | assumption | exact mS | apply mT)) (by omega))) ?_
      refine WA.rd rfl rfl rfl (Rd.getF (enc := encF) (size := 7) (xs := c) (k := i) (f := 0) (a := c[i]!) (u := vs c[i]!.key) rfl C9 rfl (by repeat (first | assumption | exact mS | apply mT)) (fun x => rfl) (by omega) (get!_of_lt (by omega)) rfl) ?_
      refine WA.rd rfl rfl rfl (Rd.move rfl rfl) ?_
      refine WA.rd rfl rfl rfl (Rd.move rfl rfl) ?_
      refine WA.rd rfl rfl rfl ((by first | exact Rd.idx (k := i) rfl S28 rfl rfl (by omega) (by repeat (first | assumption | exact mS | apply mT)) (by first | omega | (simp only [List.length_cons, List.length_nil, List.length_append, List.length_map]; omega)) | exact Rd.idxA (k := i) rfl S28 rfl rfl (by omega) (by repeat (first | assumption | exact mS | apply mT)) (by first | omega | (simp only [List.length_cons, List.length_nil, List.length_append, List.length_map]; omega)) | exact Rd.idxR (k := i) rfl S28 rfl rfl (by omega) (by omega))) ?_
      refine WA.rd rfl rfl rfl ((by first | exact Rd.field rfl F40_0 rfl rfl | exact Rd.fieldE rfl F40_0 rfl (by repeat (first | assumption | exact mS | apply mT)) (by omega) | exact Rd.fieldA rfl F40_0 rfl (by repeat (first | assumption | exact mS | apply mT)) (by omega))) ?_
      refine WA.rd rfl rfl rfl (Rd.getF (enc := encF) (size := 7) (xs := c.map turnF) (k := i) (f := 0) (a := (turnF c[i]!)) (u := vs (turnF c[i]!).key) rfl C9 rfl (by repeat (first | assumption | exact mS | apply mT)) (fun x => rfl) (by omega) (hti (by omega)) rfl) ?_
      refine WA.rd rfl rfl rfl (Rd.sneq rfl rfl rfl) ?_
      refine WA.rd rfl rfl rfl (Rd.move rfl rfl) ?_
      refine WA.case 119 rfl (fun hg119 => ?_) (fun hg119 => ?_)
      ·
       exact absurd rfl hg119
      ·
       refine WA.rd_yes rfl rfl rfl rfl rfl rfl (Rd.move rfl rfl) ?_
       refine WA.rd_yes rfl rfl rfl rfl rfl rfl (Rd.move rfl rfl) ?_
       refine WA.rd_yes rfl rfl rfl rfl rfl rfl ((by first | exact Rd.idx (k := i) rfl S28 rfl rfl (by omega) (by repeat (first | assumption | exact mS | apply mT)) (by first | omega | (simp only [List.length_cons, List.length_nil, List.length_append, List.length_map]; omega)) | exact Rd.idxA (k := i) rfl S28 rfl rfl (by omega) (by repeat (first | assumption | exact mS | apply mT)) (by first | omega | (simp only [List.length_cons, List.length_nil, List.length_append, List.length_map]; omega)) | exact Rd.idxR (k := i) rfl S28 rfl rfl (by omega) (by omega))) ?_
       refine WA.rd_yes rfl rfl rfl rfl rfl rfl ((by first | exact Rd.field rfl F40_2 rfl rfl | exact Rd.fieldE rfl F40_2 rfl (by repeat (first | assumption | exact mS | apply mT)) (by omega) | exact Rd.fieldA rfl F40_2 rfl (by repeat (first | assumption | exact mS | apply mT)) (by omega))) ?_
       refine WA.rd_yes rfl rfl rfl rfl rfl rfl (Rd.getSF (enc := encF) (size := 7) (sz := 2) (xs := c) (k := i) (f := 3) (a := c[i]!) (cs := [vs c[i]!.ours.1, .bool c[i]!.ours.2]) rfl G38 rfl (by repeat (first | assumption | exact mS | apply mT)) (fun x => rfl) (by omega) (get!_of_lt (by omega)) rfl rfl) ?_
       refine WA.rd_yes rfl rfl rfl rfl rfl rfl (Rd.move rfl rfl) ?_
       refine WA.rd_yes rfl rfl rfl rfl rfl rfl (Rd.move rfl rfl) ?_
       refine WA.rd_yes rfl rfl rfl rfl rfl rfl ((by first | exact Rd.idx (k := i) rfl S28 rfl rfl (by omega) (by repeat (first | assumption | exact mS | apply mT)) (by first | omega | (simp only [List.length_cons, List.length_nil, List.length_append, List.length_map]; omega)) | exact Rd.idxA (k := i) rfl S28 rfl rfl (by omega) (by repeat (first | assumption | exact mS | apply mT)) (by first | omega | (simp only [List.length_cons, List.length_nil, List.length_append, List.length_map]; omega)) | exact Rd.idxR (k := i) rfl S28 rfl rfl (by omega) (by omega))) ?_
       refine WA.rd_yes rfl rfl rfl rfl rfl rfl ((by first | exact Rd.field rfl F40_3 rfl rfl | exact Rd.fieldE rfl F40_3 rfl (by repeat (first | assumption | exact mS | apply mT)) (by omega) | exact Rd.fieldA rfl F40_3 rfl (by repeat (first | assumption | exact mS | apply mT)) (by omega))) ?_
       refine WA.rd_yes rfl rfl rfl rfl rfl rfl (Rd.getSF (enc := encF) (size := 7) (sz := 2) (xs := c.map turnF) (k := i) (f := 5) (a := (turnF c[i]!)) (cs := [vs (turnF c[i]!).theirs.1, .bool (turnF c[i]!).theirs.2]) rfl G38 rfl (by repeat (first | assumption | exact mS | apply mT)) (fun x => rfl) (by omega) (hti (by omega)) rfl rfl) ?_
       refine WA.rd_yes rfl rfl rfl rfl rfl rfl (Rd.aneq rfl rfl rfl (EqSd c[i]!.ours (turnF c[i]!).theirs)) ?_
       refine WA.rd rfl rfl rfl (Rd.pick_f rfl rfl rfl) ?_
       refine WA.rd rfl rfl rfl (Rd.move rfl rfl) ?_
       refine WA.case 132 rfl (fun hg132 => ?_) (fun hg132 => ?_)
       ·
        exact absurd rfl hg132
       ·
        refine WA.rd_yes rfl rfl rfl rfl rfl rfl (Rd.move rfl rfl) ?_
        refine WA.rd_yes rfl rfl rfl rfl rfl rfl (Rd.move rfl rfl) ?_
        refine WA.rd_yes rfl rfl rfl rfl rfl rfl ((by first | exact Rd.idx (k := i) rfl S28 rfl rfl (by omega) (by repeat (first | assumption | exact mS | apply mT)) (by first | omega | (simp only [List.length_cons, List.length_nil, List.length_append, List.length_map]; omega)) | exact Rd.idxA (k := i) rfl S28 rfl rfl (by omega) (by repeat (first | assumption | exact mS | apply mT)) (by first | omega | (simp only [List.length_cons, List.length_nil, List.length_append, List.length_map]; omega)) | exact Rd.idxR (k := i) rfl S28 rfl rfl (by omega) (by omega))) ?_
        refine WA.rd_yes rfl rfl rfl rfl rfl rfl ((by first | exact Rd.field rfl F40_3 rfl rfl | exact Rd.fieldE rfl F40_3 rfl (by repeat (first | assumption | exact mS | apply mT)) (by omega) | exact Rd.fieldA rfl F40_3 rfl (by repeat (first | assumption | exact mS | apply mT)) (by omega))) ?_
        refine WA.rd_yes rfl rfl rfl rfl rfl rfl (Rd.getSF (enc := encF) (size := 7) (sz := 2) (xs := c) (k := i) (f := 5) (a := c[i]!) (cs := [vs c[i]!.theirs.1, .bool c[i]!.theirs.2]) rfl G38 rfl (by repeat (first | assumption | exact mS | apply mT)) (fun x => rfl) (by omega) (get!_of_lt (by omega)) rfl rfl) ?_
        refine WA.rd_yes rfl rfl rfl rfl rfl rfl (Rd.move rfl rfl) ?_
        refine WA.rd_yes rfl rfl rfl rfl rfl rfl (Rd.move rfl rfl) ?_
        refine WA.rd_yes rfl rfl rfl rfl rfl rfl ((by first | exact Rd.idx (k := i) rfl S28 rfl rfl (by omega) (by repeat (first | assumption | exact mS | apply mT)) (by first | omega | (simp only [List.length_cons, List.length_nil, List.length_append, List.length_map]; omega)) | exact Rd.idxA (k := i) rfl S28 rfl rfl (by omega) (by repeat (first | assumption | exact mS | apply mT)) (by first | omega | (simp only [List.length_cons, List.length_nil, List.length_append, List.length_map]; omega)) | exact Rd.idxR (k := i) rfl S28 rfl rfl (by omega) (by omega))) ?_
        refine WA.rd_yes rfl rfl rfl rfl rfl rfl ((by first | exact Rd.field rfl F40_2 rfl rfl | exact Rd.fieldE rfl F40_2 rfl (by repeat (first | assumption | exact mS | apply mT)) (by omega) | exact Rd.fieldA rfl F40_2 rfl (by repeat (first | assumption | exact mS | apply mT)) (by omega))) ?_
        refine WA.rd_yes rfl rfl rfl rfl rfl rfl (Rd.getSF (enc := encF) (size := 7) (sz := 2) (xs := c.map turnF) (k := i) (f := 3) (a := (turnF c[i]!)) (cs := [vs (turnF c[i]!).ours.1, .bool (turnF c[i]!).ours.2]) rfl G38 rfl (by repeat (first | assumption | exact mS | apply mT)) (fun x => rfl) (by omega) (hti (by omega)) rfl rfl) ?_
        refine WA.rd_yes rfl rfl rfl rfl rfl rfl (Rd.aneq rfl rfl rfl (EqSd c[i]!.theirs (turnF c[i]!).ours)) ?_
        refine WA.rd rfl rfl rfl (Rd.pick_f rfl rfl rfl) ?_
        refine WA.rd rfl rfl rfl (Rd.move rfl rfl) ?_
        refine WA.case 145 rfl (fun hg145 => ?_) (fun hg145 => ?_)
        ·
         exact absurd rfl hg145
        ·
         refine WA.rd_yes rfl rfl rfl rfl rfl rfl (Rd.move rfl rfl) ?_
         refine WA.rd_yes rfl rfl rfl rfl rfl rfl (Rd.move rfl rfl) ?_
         refine WA.rd_yes rfl rfl rfl rfl rfl rfl ((by first | exact Rd.idx (k := i) rfl S28 rfl rfl (by omega) (by repeat (first | assumption | exact mS | apply mT)) (by first | omega | (simp only [List.length_cons, List.length_nil, List.length_append, List.length_map]; omega)) | exact Rd.idxA (k := i) rfl S28 rfl rfl (by omega) (by repeat (first | assumption | exact mS | apply mT)) (by first | omega | (simp only [List.length_cons, List.length_nil, List.length_append, List.length_map]; omega)) | exact Rd.idxR (k := i) rfl S28 rfl rfl (by omega) (by omega))) ?_
         refine WA.rd_yes rfl rfl rfl rfl rfl rfl ((by first | exact Rd.field rfl F40_2 rfl rfl | exact Rd.fieldE rfl F40_2 rfl (by repeat (first | assumption | exact mS | apply mT)) (by omega) | exact Rd.fieldA rfl F40_2 rfl (by repeat (first | assumption | exact mS | apply mT)) (by omega))) ?_
         refine WA.rd_yes rfl rfl rfl rfl rfl rfl (Rd.getSF (enc := encF) (size := 7) (sz := 2) (xs := c) (k := i) (f := 3) (a := c[i]!) (cs := [vs c[i]!.ours.1, .bool c[i]!.ours.2]) rfl G38 rfl (by repeat (first | assumption | exact mS | apply mT)) (fun x => rfl) (by omega) (get!_of_lt (by omega)) rfl rfl) ?_
         refine WA.rd_yes rfl rfl rfl rfl rfl rfl (Rd.move rfl rfl) ?_
         refine WA.rd_yes rfl rfl rfl rfl rfl rfl (Rd.move rfl rfl) ?_
         refine WA.rd_yes rfl rfl rfl rfl rfl rfl ((by first | exact Rd.idx (k := i) rfl S28 rfl rfl (by omega) (by repeat (first | assumption | exact mS | apply mT)) (by first | omega | (simp only [List.length_cons, List.length_nil, List.length_append, List.length_map]; omega)) | exact Rd.idxA (k := i) rfl S28 rfl rfl (by omega) (by repeat (first | assumption | exact mS | apply mT)) (by first | omega | (simp only [List.length_cons, List.length_nil, List.length_append, List.length_map]; omega)) | exact Rd.idxR (k := i) rfl S28 rfl rfl (by omega) (by omega))) ?_
         refine WA.rd_yes rfl rfl rfl rfl rfl rfl ((by first | exact Rd.field rfl F40_3 rfl rfl | exact Rd.fieldE rfl F40_3 rfl (by repeat (first | assumption | exact mS | apply mT)) (by omega) | exact Rd.fieldA rfl F40_3 rfl (by repeat (first | assumption | exact mS | apply mT)) (by omega))) ?_
         refine WA.rd_yes rfl rfl rfl rfl rfl rfl (Rd.getSF (enc := encF) (size := 7) (sz := 2) (xs := c) (k := i) (f := 5) (a := c[i]!) (cs := [vs c[i]!.theirs.1, .bool c[i]!.theirs.2]) rfl G38 rfl (by repeat (first | assumption | exact mS | apply mT)) (fun x => rfl) (by omega) (get!_of_lt (by omega)) rfl rfl) ?_
         refine WA.rd_yes rfl rfl rfl rfl rfl rfl (Rd.aeql rfl rfl rfl (EqSd c[i]!.ours c[i]!.theirs)) ?_
         refine WA.rd rfl rfl rfl (Rd.pick_f rfl rfl rfl) ?_
         refine WA.rd rfl rfl rfl (Rd.move rfl rfl) ?_
         refine WA.case 158 rfl (fun hg158 => ?_) (fun hg158 => ?_)
         ·
          exact absurd hg158 hcx'.1
         ·
          refine WA.rd_yes rfl rfl rfl rfl rfl rfl (Rd.move rfl rfl) ?_
          refine WA.rd_yes rfl rfl rfl rfl rfl rfl (Rd.move rfl rfl) ?_
          refine WA.rd_yes rfl rfl rfl rfl rfl rfl ((by first | exact Rd.idx (k := i) rfl S28 rfl rfl (by omega) (by repeat (first | assumption | exact mS | apply mT)) (by first | omega | (simp only [List.length_cons, List.length_nil, List.length_append, List.length_map]; omega)) | exact Rd.idxA (k := i) rfl S28 rfl rfl (by omega) (by repeat (first | assumption | exact mS | apply mT)) (by first | omega | (simp only [List.length_cons, List.length_nil, List.length_append, List.length_map]; omega)) | exact Rd.idxR (k := i) rfl S28 rfl rfl (by omega) (by omega))) ?_
          refine WA.rd_yes rfl rfl rfl rfl rfl rfl ((by first | exact Rd.field rfl F40_2 rfl rfl | exact Rd.fieldE rfl F40_2 rfl (by repeat (first | assumption | exact mS | apply mT)) (by omega) | exact Rd.fieldA rfl F40_2 rfl (by repeat (first | assumption | exact mS | apply mT)) (by omega))) ?_
          refine WA.rd_yes rfl rfl rfl rfl rfl rfl (Rd.getSF (enc := encF) (size := 7) (sz := 2) (xs := c) (k := i) (f := 3) (a := c[i]!) (cs := [vs c[i]!.ours.1, .bool c[i]!.ours.2]) rfl G38 rfl (by repeat (first | assumption | exact mS | apply mT)) (fun x => rfl) (by omega) (get!_of_lt (by omega)) rfl rfl) ?_
          refine WA.rd_yes rfl rfl rfl rfl rfl rfl (Rd.move rfl rfl) ?_
          refine WA.rd_yes rfl rfl rfl rfl rfl rfl (Rd.move rfl rfl) ?_
          refine WA.rd_yes rfl rfl rfl rfl rfl rfl ((by first | exact Rd.idx (k := i) rfl S28 rfl rfl (by omega) (by repeat (first | assumption | exact mS | apply mT)) (by first | omega | (simp only [List.length_cons, List.length_nil, List.length_append, List.length_map]; omega)) | exact Rd.idxA (k := i) rfl S28 rfl rfl (by omega) (by repeat (first | assumption | exact mS | apply mT)) (by first | omega | (simp only [List.length_cons, List.length_nil, List.length_append, List.length_map]; omega)) | exact Rd.idxR (k := i) rfl S28 rfl rfl (by omega) (by omega))) ?_
          refine WA.rd_yes rfl rfl rfl rfl rfl rfl ((by first | exact Rd.field rfl F40_1 rfl rfl | exact Rd.fieldE rfl F40_1 rfl (by repeat (first | assumption | exact mS | apply mT)) (by omega) | exact Rd.fieldA rfl F40_1 rfl (by repeat (first | assumption | exact mS | apply mT)) (by omega))) ?_
          refine WA.rd_yes rfl rfl rfl rfl rfl rfl (Rd.getSF (enc := encF) (size := 7) (sz := 2) (xs := c) (k := i) (f := 1) (a := c[i]!) (cs := [vs c[i]!.base.1, .bool c[i]!.base.2]) rfl G38 rfl (by repeat (first | assumption | exact mS | apply mT)) (fun x => rfl) (by omega) (get!_of_lt (by omega)) rfl rfl) ?_
          refine WA.rd_yes rfl rfl rfl rfl rfl rfl (Rd.aeql rfl rfl rfl (EqSd c[i]!.ours c[i]!.base)) ?_
          refine WA.rd rfl rfl rfl (Rd.pick_f rfl rfl rfl) ?_
          refine WA.rd rfl rfl rfl (Rd.move rfl rfl) ?_
          refine WA.case 171 rfl (fun hg171 => ?_) (fun hg171 => ?_)
          ·
           exact absurd hg171 hcx'.2.1
          ·
           refine WA.rd_yes rfl rfl rfl rfl rfl rfl (Rd.move rfl rfl) ?_
           refine WA.rd_yes rfl rfl rfl rfl rfl rfl (Rd.move rfl rfl) ?_
           refine WA.rd_yes rfl rfl rfl rfl rfl rfl ((by first | exact Rd.idx (k := i) rfl S28 rfl rfl (by omega) (by repeat (first | assumption | exact mS | apply mT)) (by first | omega | (simp only [List.length_cons, List.length_nil, List.length_append, List.length_map]; omega)) | exact Rd.idxA (k := i) rfl S28 rfl rfl (by omega) (by repeat (first | assumption | exact mS | apply mT)) (by first | omega | (simp only [List.length_cons, List.length_nil, List.length_append, List.length_map]; omega)) | exact Rd.idxR (k := i) rfl S28 rfl rfl (by omega) (by omega))) ?_
           refine WA.rd_yes rfl rfl rfl rfl rfl rfl ((by first | exact Rd.field rfl F40_3 rfl rfl | exact Rd.fieldE rfl F40_3 rfl (by repeat (first | assumption | exact mS | apply mT)) (by omega) | exact Rd.fieldA rfl F40_3 rfl (by repeat (first | assumption | exact mS | apply mT)) (by omega))) ?_
           refine WA.rd_yes rfl rfl rfl rfl rfl rfl (Rd.getSF (enc := encF) (size := 7) (sz := 2) (xs := c) (k := i) (f := 5) (a := c[i]!) (cs := [vs c[i]!.theirs.1, .bool c[i]!.theirs.2]) rfl G38 rfl (by repeat (first | assumption | exact mS | apply mT)) (fun x => rfl) (by omega) (get!_of_lt (by omega)) rfl rfl) ?_
           refine WA.rd_yes rfl rfl rfl rfl rfl rfl (Rd.move rfl rfl) ?_
           refine WA.rd_yes rfl rfl rfl rfl rfl rfl (Rd.move rfl rfl) ?_
           refine WA.rd_yes rfl rfl rfl rfl rfl rfl ((by first | exact Rd.idx (k := i) rfl S28 rfl rfl (by omega) (by repeat (first | assumption | exact mS | apply mT)) (by first | omega | (simp only [List.length_cons, List.length_nil, List.length_append, List.length_map]; omega)) | exact Rd.idxA (k := i) rfl S28 rfl rfl (by omega) (by repeat (first | assumption | exact mS | apply mT)) (by first | omega | (simp only [List.length_cons, List.length_nil, List.length_append, List.length_map]; omega)) | exact Rd.idxR (k := i) rfl S28 rfl rfl (by omega) (by omega))) ?_
           refine WA.rd_yes rfl rfl rfl rfl rfl rfl ((by first | exact Rd.field rfl F40_1 rfl rfl | exact Rd.fieldE rfl F40_1 rfl (by repeat (first | assumption | exact mS | apply mT)) (by omega) | exact Rd.fieldA rfl F40_1 rfl (by repeat (first | assumption | exact mS | apply mT)) (by omega))) ?_
           refine WA.rd_yes rfl rfl rfl rfl rfl rfl (Rd.getSF (enc := encF) (size := 7) (sz := 2) (xs := c) (k := i) (f := 1) (a := c[i]!) (cs := [vs c[i]!.base.1, .bool c[i]!.base.2]) rfl G38 rfl (by repeat (first | assumption | exact mS | apply mT)) (fun x => rfl) (by omega) (get!_of_lt (by omega)) rfl rfl) ?_
           refine WA.rd_yes rfl rfl rfl rfl rfl rfl (Rd.aeql rfl rfl rfl (EqSd c[i]!.theirs c[i]!.base)) ?_
           refine WA.rd rfl rfl rfl (Rd.pick_f rfl rfl rfl) ?_
           refine WA.nil ?_
           refine thenQ.normal ?_
           first | refine WC.ite rfl (fun hc6 => ?_) (fun hc6 => ?_) | refine WC.cond rfl (fun hc6 => ?_) (fun hc6 => ?_)
           ·
            exact absurd hc6 hcx'.2.2
           ·
            refine WC.skip ?_
            refine blockQ.normal ?_
            refine thenQ.normal ?_
            refine WC.region ?_
            refine WL.rd rfl rfl rfl (Rd.move rfl rfl) ?_
            refine WL.rd rfl rfl rfl (Rd.add rfl rfl rfl (by omega)) ?_
            refine WL.rd rfl rfl rfl (Rd.assign rfl rfl) ?_
            refine WL.nil ?_
            exact loopQ1.mk (i + 1) (by omega) (by omega) (by repeat (first | exact Sub.nil | refine Sub.cons rfl (by first | rfl | (congr 1; omega) | assumption) ?_)) (fun w h => OwnL.sat (by repeat (first | exact OwnL.refl | apply OwnL.take (by repeat (first | exact Take.head _ | apply Take.tail)) | apply OwnL.drop)) w (h.thin (SubL.mem (by repeat (first | exact SubL.refl | refine SubL.cons (by repeat (first | assumption | exact mS | apply mT)) ?_ | refine SubL.skip ?_)))))
     ·
      refine WC.exit ?_
      refine thenQ.exit ?_
      refine loopQ1.exit ?_
      refine blockQ.exit ?_
      refine thenQ.normal ?_
      refine WC.seq ?_
      refine WC.pick [7, 8, 9, 10, 11, 12] (by repeat (first | exact Pick.nil | apply Pick.cons rfl)) ?_
      refine WC.val 196 (.bool (decide (¬ (RightP U ∧ RightP V ∧ RightP W)))) ?_ ?_
      ·
       refine WC.region ?_
       refine WL.rd rfl rfl rfl (Rd.move rfl rfl) ?_
       refine WL.op rfl ?_
       refine OpW.call rfl rfl (by repeat (first | exact Evs.nil | apply Evs.cons rfl)) (by kernel_rfl) rfl rfl rfl ?_
       refine rright_spec (l := U) (by repeat (first | assumption | exact mS | apply mT)) ?_
       refine WL.rd rfl rfl rfl ((by first | exact Rd.notd rfl rfl | exact Rd.not rfl rfl)) ?_
       refine WL.rd rfl rfl rfl (Rd.move rfl rfl) ?_
       refine WL.case 187 rfl (fun hg187 => ?_) (fun hg187 => ?_)
       ·
        refine WL.no rfl rfl rfl rfl rfl rfl ?_
        refine WL.no rfl rfl rfl rfl rfl rfl ?_
        refine WL.no rfl rfl rfl rfl rfl rfl ?_
        refine WL.rd rfl rfl rfl (Rd.pick_t rfl rfl rfl) ?_
        refine WL.rd rfl rfl rfl (Rd.move rfl rfl) ?_
        refine WL.no rfl rfl rfl rfl rfl rfl ?_
        refine WL.no rfl rfl rfl rfl rfl rfl ?_
        refine WL.no rfl rfl rfl rfl rfl rfl ?_
        refine WL.rd rfl rfl rfl (Rd.pick_t rfl rfl rfl) ?_
        refine WL.nil ?_
        exact ⟨by repeat (first | exact Sub.nil | refine Sub.cons rfl (by first | rfl | (first | exact vb_t (fun h => hg187 h.1) | exact vb_t (fun h => hg192 h.2.1) | exact vb ⟨fun h h2 => h h2.2.2, fun h h2 => h ⟨Decidable.not_not.1 hg187, Decidable.not_not.1 hg192, h2⟩⟩)) ?_), by first | exact (fun _ h => h.thin (SubL.mem (by repeat (first | exact SubL.refl | refine SubL.cons (by repeat (first | assumption | exact mS | apply mT)) ?_ | refine SubL.skip ?_)))) | exact (fun w h => OwnL.sat (by repeat (first | exact OwnL.refl | apply OwnL.take (by repeat (first | exact Take.head _ | apply Take.tail)) | apply OwnL.drop)) w (h.thin (SubL.mem (by repeat (first | exact SubL.refl | refine SubL.cons (by repeat (first | assumption | exact mS | apply mT)) ?_ | refine SubL.skip ?_)))))⟩
       ·
        refine WL.rd_yes rfl rfl rfl rfl rfl rfl (Rd.move rfl rfl) ?_
        refine WL.op_yes rfl rfl rfl rfl ?_
        refine OpW.call rfl rfl (by repeat (first | exact Evs.nil | apply Evs.cons rfl)) (by kernel_rfl) rfl rfl rfl ?_
        refine rright_spec (l := V) (by repeat (first | assumption | exact mS | apply mT)) ?_
        refine WL.rd_yes rfl rfl rfl rfl rfl rfl ((by first | exact Rd.notd rfl rfl | exact Rd.not rfl rfl)) ?_
        refine WL.rd rfl rfl rfl (Rd.pick_f rfl rfl rfl) ?_
        refine WL.rd rfl rfl rfl (Rd.move rfl rfl) ?_
        refine WL.case 192 rfl (fun hg192 => ?_) (fun hg192 => ?_)
        ·
         refine WL.no rfl rfl rfl rfl rfl rfl ?_
         refine WL.no rfl rfl rfl rfl rfl rfl ?_
         refine WL.no rfl rfl rfl rfl rfl rfl ?_
         refine WL.rd rfl rfl rfl (Rd.pick_t rfl rfl rfl) ?_
         refine WL.nil ?_
         exact ⟨by repeat (first | exact Sub.nil | refine Sub.cons rfl (by first | rfl | (first | exact vb_t (fun h => hg187 h.1) | exact vb_t (fun h => hg192 h.2.1) | exact vb ⟨fun h h2 => h h2.2.2, fun h h2 => h ⟨Decidable.not_not.1 hg187, Decidable.not_not.1 hg192, h2⟩⟩)) ?_), by first | exact (fun _ h => h.thin (SubL.mem (by repeat (first | exact SubL.refl | refine SubL.cons (by repeat (first | assumption | exact mS | apply mT)) ?_ | refine SubL.skip ?_)))) | exact (fun w h => OwnL.sat (by repeat (first | exact OwnL.refl | apply OwnL.take (by repeat (first | exact Take.head _ | apply Take.tail)) | apply OwnL.drop)) w (h.thin (SubL.mem (by repeat (first | exact SubL.refl | refine SubL.cons (by repeat (first | assumption | exact mS | apply mT)) ?_ | refine SubL.skip ?_)))))⟩
        ·
         refine WL.rd_yes rfl rfl rfl rfl rfl rfl (Rd.move rfl rfl) ?_
         refine WL.op_yes rfl rfl rfl rfl ?_
         refine OpW.call rfl rfl (by repeat (first | exact Evs.nil | apply Evs.cons rfl)) (by kernel_rfl) rfl rfl rfl ?_
         refine rright_spec (l := W) (by repeat (first | assumption | exact mS | apply mT)) ?_
         refine WL.rd_yes rfl rfl rfl rfl rfl rfl ((by first | exact Rd.notd rfl rfl | exact Rd.not rfl rfl)) ?_
         refine WL.rd rfl rfl rfl (Rd.pick_f rfl rfl rfl) ?_
         refine WL.nil ?_
         exact ⟨by repeat (first | exact Sub.nil | refine Sub.cons rfl (by first | rfl | (first | exact vb_t (fun h => hg187 h.1) | exact vb_t (fun h => hg192 h.2.1) | exact vb ⟨fun h h2 => h h2.2.2, fun h h2 => h ⟨Decidable.not_not.1 hg187, Decidable.not_not.1 hg192, h2⟩⟩)) ?_), by first | exact (fun _ h => h.thin (SubL.mem (by repeat (first | exact SubL.refl | refine SubL.cons (by repeat (first | assumption | exact mS | apply mT)) ?_ | refine SubL.skip ?_)))) | exact (fun w h => OwnL.sat (by repeat (first | exact OwnL.refl | apply OwnL.take (by repeat (first | exact Take.head _ | apply Take.tail)) | apply OwnL.drop)) w (h.thin (SubL.mem (by repeat (first | exact SubL.refl | refine SubL.cons (by repeat (first | assumption | exact mS | apply mT)) ?_ | refine SubL.skip ?_)))))⟩
      ·
       first | refine WC.ite rfl (fun hc7 => ?_) (fun hc7 => ?_) | refine WC.cond rfl (fun hc7 => ?_) (fun hc7 => ?_)
       ·
        refine WC.heap (R' := R) (O' := O) (fun w h => OwnL.sat (by repeat (first | exact OwnL.refl | apply OwnL.take (by repeat (first | exact Take.head _ | apply Take.tail)) | apply OwnL.drop)) w (h.thin (SubL.mem (by repeat (first | exact SubL.refl | refine SubL.cons (by repeat (first | assumption | exact mS | apply mT)) ?_ | refine SubL.skip ?_))))) ?_
        refine WC.seq ?_
        refine WC.region ?_
        refine WL.rd rfl rfl rfl (Rd.assign rfl rfl) ?_
        refine WL.nil ?_
        refine thenQ.normal ?_
        refine WC.ret (Ret.one Try.results4 rfl ?_)
        exact hk
       ·
        obtain ⟨hU, hV, hW⟩ := Decidable.not_not.1 hc7
        refine WC.skip ?_
        refine thenQ.normal ?_
        refine WC.seq ?_
        refine WC.region ?_
        refine WL.rd rfl rfl rfl (Rd.move rfl rfl) ?_
        refine WL.rd rfl rfl rfl (Rd.move rfl rfl) ?_
        refine WL.rd rfl rfl rfl (Rd.move rfl rfl) ?_
        refine WL.op rfl ?_
        refine OpW.call rfl rfl (by repeat (first | exact Evs.nil | apply Evs.cons rfl)) (by kernel_rfl) rfl rfl rfl ?_
        refine merge2_spec (U := U) (V := U) (W := W) (by repeat (first | assumption | exact mS | apply mT)) (by repeat (first | assumption | exact mS | apply mT)) (by repeat (first | assumption | exact mS | apply mT)) kU kU kW ?_; intro l1 c1 e1 l1v c1v h1
        obtain ⟨hl1, hc1n⟩ := merge_base hU hW h1
        subst hc1n
        refine WL.rd rfl rfl rfl (Rd.move rfl rfl) ?_
        refine WL.rd rfl rfl rfl (Rd.extract rfl rfl rfl) ?_
        refine WL.rd rfl rfl rfl (Rd.extract rfl rfl rfl) ?_
        refine WL.rd rfl rfl rfl (Rd.extract rfl rfl rfl) ?_
        refine WL.rd rfl rfl rfl (Rd.assign rfl rfl) ?_
        refine WL.rd rfl rfl rfl (Rd.assign rfl rfl) ?_
        refine WL.rd rfl rfl rfl (Rd.assign rfl rfl) ?_
        refine WL.nil ?_
        refine thenQ.normal ?_
        refine WC.seq ?_
        refine WC.region ?_
        refine WL.rd rfl rfl rfl (Rd.move rfl rfl) ?_
        refine WL.rd rfl rfl rfl (Rd.move rfl rfl) ?_
        refine WL.rd rfl rfl rfl (Rd.move rfl rfl) ?_
        refine WL.op rfl ?_
        refine OpW.call rfl rfl (by repeat (first | exact Evs.nil | apply Evs.cons rfl)) (by kernel_rfl) rfl rfl rfl ?_
        refine merge2_spec (U := U) (V := V) (W := V) (by repeat (first | assumption | exact mS | apply mT)) (by repeat (first | assumption | exact mS | apply mT)) (by repeat (first | assumption | exact mS | apply mT)) kU kV kV ?_; intro l2 c2 e2 l2v c2v h2
        obtain ⟨hl2, hc2n⟩ := merge_alike hU hV h2
        subst hc2n
        refine WL.rd rfl rfl rfl (Rd.move rfl rfl) ?_
        refine WL.rd rfl rfl rfl (Rd.extract rfl rfl rfl) ?_
        refine WL.rd rfl rfl rfl (Rd.extract rfl rfl rfl) ?_
        refine WL.rd rfl rfl rfl (Rd.extract rfl rfl rfl) ?_
        refine WL.rd rfl rfl rfl (Rd.assign rfl rfl) ?_
        refine WL.rd rfl rfl rfl (Rd.assign rfl rfl) ?_
        refine WL.rd rfl rfl rfl (Rd.assign rfl rfl) ?_
        refine WL.nil ?_
        refine thenQ.normal ?_
        refine WC.seq ?_
        refine WC.region ?_
        refine WL.rd rfl rfl rfl (Rd.move rfl rfl) ?_
        refine WL.rd rfl rfl rfl ((by first | exact Rd.lenE rfl rfl Try.underlying28 (by repeat (first | assumption | exact mS | apply mT)) | exact Rd.lenA rfl rfl Try.underlying28 (by repeat (first | assumption | exact mS | apply mT)) | exact Rd.len rfl rfl Try.underlying28)) ?_
        refine WL.rd rfl rfl rfl (Rd.eql rfl rfl rfl) ?_
        refine WL.rd rfl rfl rfl (Rd.move rfl rfl) ?_
        refine WL.case 216 rfl (fun hg216 => ?_) (fun hg216 => ?_)
        ·
         refine WL.rd_yes rfl rfl rfl rfl rfl rfl (Rd.move rfl rfl) ?_
         refine WL.rd_yes rfl rfl rfl rfl rfl rfl ((by first | exact Rd.lenE rfl rfl Try.underlying28 (by repeat (first | assumption | exact mS | apply mT)) | exact Rd.lenA rfl rfl Try.underlying28 (by repeat (first | assumption | exact mS | apply mT)) | exact Rd.len rfl rfl Try.underlying28)) ?_
         refine WL.rd_yes rfl rfl rfl rfl rfl rfl (Rd.eql rfl rfl rfl) ?_
         refine WL.rd rfl rfl rfl (Rd.pick_t rfl rfl rfl) ?_
         refine WL.rd rfl rfl rfl (Rd.move rfl rfl) ?_
         refine WL.case 221 rfl (fun hg221 => ?_) (fun hg221 => ?_)
         ·
          refine WL.rd_yes rfl rfl rfl rfl rfl rfl (Rd.move rfl rfl) ?_
          refine WL.rd_yes rfl rfl rfl rfl rfl rfl (Rd.move rfl rfl) ?_
          refine WL.op_yes rfl rfl rfl rfl ?_
          refine OpW.call rfl rfl (by repeat (first | exact Evs.nil | apply Evs.cons rfl)) (by kernel_rfl) rfl rfl rfl ?_
          refine same_spec (a := l1) (b := W) (by repeat (first | assumption | exact mS | apply mT)) (by repeat (first | assumption | exact mS | apply mT)) ?_
          refine WL.rd rfl rfl rfl (Rd.pick_t rfl rfl rfl) ?_
          refine WL.rd rfl rfl rfl (Rd.move rfl rfl) ?_
          refine WL.case 226 rfl (fun hg226 => ?_) (fun hg226 => ?_)
          ·
           refine WL.rd_yes rfl rfl rfl rfl rfl rfl (Rd.move rfl rfl) ?_
           refine WL.rd_yes rfl rfl rfl rfl rfl rfl (Rd.move rfl rfl) ?_
           refine WL.op_yes rfl rfl rfl rfl ?_
           refine OpW.call rfl rfl (by repeat (first | exact Evs.nil | apply Evs.cons rfl)) (by kernel_rfl) rfl rfl rfl ?_
           refine same_spec (a := l2) (b := V) (by repeat (first | assumption | exact mS | apply mT)) (by repeat (first | assumption | exact mS | apply mT)) ?_
           refine WL.say 229 (u := .bool true) rfl (by rw [hl2]; simp) ?_
           refine WL.heap (R' := R) (O' := O) (fun w h => OwnL.sat (by repeat (first | exact OwnL.refl | apply OwnL.take (by repeat (first | exact Take.head _ | apply Take.tail)) | apply OwnL.drop)) w (h.thin (SubL.mem (by repeat (first | exact SubL.refl | refine SubL.cons (by repeat (first | assumption | exact mS | apply mT)) ?_ | refine SubL.skip ?_))))) ?_
           refine WL.rd rfl rfl rfl (Rd.pick_t rfl rfl rfl) ?_
           refine WL.rd rfl rfl rfl (Rd.assign rfl rfl) ?_
           refine WL.nil ?_
           refine thenQ.normal ?_
           refine WC.ret (Ret.one Try.results4 rfl ?_)
           exact hk
          ·
           exact absurd hl1 hg226
         ·
          exact absurd rfl hg221
        ·
         exact absurd rfl hg216
end
end Go.Proofs.Ytbbeifdmgmadiaa
