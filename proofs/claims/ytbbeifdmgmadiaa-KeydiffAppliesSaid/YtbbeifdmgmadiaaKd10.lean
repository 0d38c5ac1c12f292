/-
 Layer 20: KeydiffMerges.
-/
import Derived.Test.YtbbeifdmgmadiaaKd9
import Derived.Test.YtbbeifdmgmadiaaSho
namespace Go.Proofs.Ytbbeifdmgmadiaa
open Go Go.SL
section
variable {R : List RO} {O O' : List Own} {POST : Value → List RO → List Own → Prop}
set_option maxRecDepth 20000 in
set_option maxHeartbeats 8000000 in
theorem merges_spec {p q r : List It} {pv qv rv : Value} (hp : SlE encI pv p ∈ R) (hq : SlE encI qv q ∈ R) (hr : SlE encI rv r ∈ R) (hKp : ∀ x ∈ p, x.1.length ≤ 9223372036854775807) (hKq : ∀ x ∈ q, x.1.length ≤ 9223372036854775807) (hKr : ∀ x ∈ r, x.1.length ≤ 9223372036854775807)
  (hk : POST (.bool true) R O) : Fun Try.prog 3 #[pv, qv, rv] R O POST := by
 have hK : ∀ {l : List It}, (∀ x ∈ l, x.1.length ≤ 9223372036854775807) → KL (l.take 40) := fun h => ⟨by rw [List.length_take]; omega, fun x hx => h x (List.mem_of_mem_take hx)⟩
 have kU := hK hKp; have kV := hK hKq; have kW := hK hKr
 refine Fun.enter (l := [_, _, _]) Try.func3 rfl Try.ntmps3 rfl (L0 := [(0, _), (1, _), (2, _)]) rfl ?_
 refine WC.seq ?_
 refine WC.region ?_
 refine WL.rd rfl rfl rfl (Rd.assign rfl rfl) ?_
 refine WL.nil ?_
 refine thenQ.normal ?_
 refine WC.seq ?_
 refine WC.seq ?_
 refine WC.region ?_
 refine WL.op rfl ?_
 refine OpW.call rfl rfl (by repeat (first | exact Evs.nil | apply Evs.cons rfl)) (by kernel_rfl) rfl rfl rfl ?_
 refine speaks_spec ?_
 refine WL.say 24 (u := .bool (decide True)) rfl (by simp) ?_
 refine WL.rd rfl rfl rfl ((by first | exact Rd.notd rfl rfl | exact Rd.not rfl rfl)) ?_
 refine WL.nil ?_
 refine thenQ.normal ?_
 first | refine WC.ite rfl (fun hc1 => ?_) (fun hc1 => ?_) | refine WC.cond rfl (fun hc1 => ?_) (fun hc1 => ?_)
 ·
  exact absurd trivial hc1
 ·
  refine WC.skip ?_
  refine thenQ.normal ?_
  refine WC.seq ?_
  refine WC.region ?_
  refine WL.rd rfl rfl rfl (Rd.move rfl rfl) ?_
  refine WL.op rfl ?_
  refine OpW.call rfl rfl (by repeat (first | exact Evs.nil | apply Evs.cons rfl)) (by kernel_rfl) rfl rfl rfl ?_
  refine litems_spec hp ?_; intro vx vu
  refine WL.heap (fun w h => Sat.shareA (Take.head _) (Sat.shareA (Take.head _) h)) ?_
  refine WL.rd rfl rfl rfl (Rd.move rfl rfl) ?_
  refine WL.rd rfl rfl rfl (Rd.extract rfl rfl rfl) ?_
  refine WL.rd rfl rfl rfl (Rd.extract rfl rfl rfl) ?_
  refine WL.rd rfl rfl rfl (Rd.assign rfl rfl) ?_
  refine WL.rd rfl rfl rfl (Rd.assign rfl rfl) ?_
  refine WL.nil ?_
  refine thenQ.normal ?_
  refine WC.seq ?_
  refine WC.region ?_
  refine WL.rd rfl rfl rfl (Rd.move rfl rfl) ?_
  refine WL.op rfl ?_
  refine OpW.call rfl rfl (by repeat (first | exact Evs.nil | apply Evs.cons rfl)) (by kernel_rfl) rfl rfl rfl ?_
  refine litems_spec (xs := q) (by repeat (first | assumption | exact mS | apply mT)) ?_; intro vy vv
  refine WL.heap (fun w h => Sat.shareA (Take.head _) (Sat.shareA (Take.head _) h)) ?_
  refine WL.rd rfl rfl rfl (Rd.move rfl rfl) ?_
  refine WL.rd rfl rfl rfl (Rd.extract rfl rfl rfl) ?_
  refine WL.rd rfl rfl rfl (Rd.extract rfl rfl rfl) ?_
  refine WL.rd rfl rfl rfl (Rd.assign rfl rfl) ?_
  refine WL.rd rfl rfl rfl (Rd.assign rfl rfl) ?_
  refine WL.nil ?_
  refine thenQ.normal ?_
  refine WC.seq ?_
  refine WC.region ?_
  refine WL.rd rfl rfl rfl (Rd.move rfl rfl) ?_
  refine WL.op rfl ?_
  refine OpW.call rfl rfl (by repeat (first | exact Evs.nil | apply Evs.cons rfl)) (by kernel_rfl) rfl rfl rfl ?_
  refine litems_spec (xs := r) (by repeat (first | assumption | exact mS | apply mT)) ?_; intro vz vw
  refine WL.heap (fun w h => Sat.shareA (Take.head _) (Sat.shareA (Take.head _) h)) ?_
  generalize p.take 40 = U at kU ⊢
  generalize q.take 40 = V at kV ⊢
  generalize r.take 40 = W at kW ⊢
  refine WL.rd rfl rfl rfl (Rd.move rfl rfl) ?_
  refine WL.rd rfl rfl rfl (Rd.extract rfl rfl rfl) ?_
  refine WL.rd rfl rfl rfl (Rd.extract rfl rfl rfl) ?_
  refine WL.rd rfl rfl rfl (Rd.assign rfl rfl) ?_
  refine WL.rd rfl rfl rfl (Rd.assign rfl rfl) ?_
  refine WL.nil ?_
  refine thenQ.normal ?_
  refine WC.seq ?_
  refine WC.region ?_
  refine WL.rd rfl rfl rfl (Rd.move rfl rfl) ?_
  refine WL.rd rfl rfl rfl (Rd.move rfl rfl) ?_
  refine WL.rd rfl rfl rfl (Rd.move rfl rfl) ?_
  refine WL.op rfl ?_
  refine OpW.call rfl rfl (by repeat (first | exact Evs.nil | apply Evs.cons rfl)) (by kernel_rfl) rfl rfl rfl ?_
  refine merge2_spec (U := U) (V := V) (W := W) (by repeat (first | assumption | exact mS | apply mT)) (by repeat (first | assumption | exact mS | apply mT)) (by repeat (first | assumption | exact mS | apply mT)) kU kV kW ?_; intro l c e lv cv hM
  refine WL.rd rfl rfl rfl (Rd.move rfl rfl) ?_
  refine WL.rd rfl rfl rfl (Rd.extract rfl rfl rfl) ?_
  refine WL.rd rfl rfl rfl (Rd.extract rfl rfl rfl) ?_
  refine WL.rd rfl rfl rfl (Rd.extract rfl rfl rfl) ?_
  refine WL.rd rfl rfl rfl (Rd.assign rfl rfl) ?_
  refine WL.rd rfl rfl rfl (Rd.assign rfl rfl) ?_
  refine WL.rd rfl rfl rfl (Rd.assign rfl rfl) ?_
  refine WL.nil ?_
  refine thenQ.normal ?_
  refine WC.seq ?_
  refine WC.pick [8, 10, 12, 13, 14, 15] (by repeat (first | exact Pick.nil | apply Pick.cons rfl)) ?_
  refine WC.val 61 (.bool (decide (¬ (RightP U ∧ RightP V ∧ RightP W)))) ?_ ?_
  ·
   refine WC.region ?_
   refine WL.rd rfl rfl rfl (Rd.move rfl rfl) ?_
   refine WL.op rfl ?_
   refine OpW.call rfl rfl (by repeat (first | exact Evs.nil | apply Evs.cons rfl)) (by kernel_rfl) rfl rfl rfl ?_
   refine rright_spec (l := U) (by repeat (first | assumption | exact mS | apply mT)) ?_
   refine WL.rd rfl rfl rfl ((by first | exact Rd.notd rfl rfl | exact Rd.not rfl rfl)) ?_
   refine WL.rd rfl rfl rfl (Rd.move rfl rfl) ?_
   refine WL.case 52 rfl (fun hg52 => ?_) (fun hg52 => ?_)
   ·
    refine WL.no rfl rfl rfl rfl rfl rfl ?_
    refine WL.no rfl rfl rfl rfl rfl rfl ?_
    refine WL.no rfl rfl rfl rfl rfl rfl ?_
    refine WL.rd rfl rfl rfl (Rd.pick_t rfl rfl rfl) ?_
    refine WL.rd rfl rfl rfl (Rd.move rfl rfl) ?_
    refine WL.no rfl rfl rfl rfl rfl rfl ?_
    refine WL.no rfl rfl rfl rfl rfl rfl ?_
    refine WL.no rfl rfl rfl rfl rfl rfl ?_
    refine WL.rd rfl rfl rfl (Rd.pick_t rfl rfl rfl) ?_
    refine WL.nil ?_
    exact ⟨by repeat (first | exact Sub.nil | refine Sub.cons rfl (by first | rfl | (first | exact vb_t (fun h => hg52 h.1) | exact vb_t (fun h => hg57 h.2.1) | exact vb ⟨fun h h2 => h h2.2.2, fun h h2 => h ⟨Decidable.not_not.1 hg52, Decidable.not_not.1 hg57, h2⟩⟩)) ?_), by first | exact (fun _ h => h.thin (SubL.mem (by repeat (first | exact SubL.refl | refine SubL.cons (by repeat (first | assumption | exact mS | apply mT)) ?_ | refine SubL.skip ?_)))) | exact (fun w h => OwnL.sat (by repeat (first | exact OwnL.refl | apply OwnL.take (by repeat (first | exact Take.head _ | apply Take.tail)) | apply OwnL.drop)) w (h.thin (SubL.mem (by repeat (first | exact SubL.refl | refine SubL.cons (by repeat (first | assumption | exact mS | apply mT)) ?_ | refine SubL.skip ?_)))))⟩
   ·
    refine WL.rd_yes rfl rfl rfl rfl rfl rfl (Rd.move rfl rfl) ?_
    refine WL.op_yes rfl rfl rfl rfl ?_
    refine OpW.call rfl rfl (by repeat (first | exact Evs.nil | apply Evs.cons rfl)) (by kernel_rfl) rfl rfl rfl ?_
    refine rright_spec (l := V) (by repeat (first | assumption | exact mS | apply mT)) ?_
    refine WL.rd_yes rfl rfl rfl rfl rfl rfl ((by first | exact Rd.notd rfl rfl | exact Rd.not rfl rfl)) ?_
    refine WL.rd rfl rfl rfl (Rd.pick_f rfl rfl rfl) ?_
    refine WL.rd rfl rfl rfl (Rd.move rfl rfl) ?_
    refine WL.case 57 rfl (fun hg57 => ?_) (fun hg57 => ?_)
    ·
     refine WL.no rfl rfl rfl rfl rfl rfl ?_
     refine WL.no rfl rfl rfl rfl rfl rfl ?_
     refine WL.no rfl rfl rfl rfl rfl rfl ?_
     refine WL.rd rfl rfl rfl (Rd.pick_t rfl rfl rfl) ?_
     refine WL.nil ?_
     exact ⟨by repeat (first | exact Sub.nil | refine Sub.cons rfl (by first | rfl | (first | exact vb_t (fun h => hg52 h.1) | exact vb_t (fun h => hg57 h.2.1) | exact vb ⟨fun h h2 => h h2.2.2, fun h h2 => h ⟨Decidable.not_not.1 hg52, Decidable.not_not.1 hg57, h2⟩⟩)) ?_), by first | exact (fun _ h => h.thin (SubL.mem (by repeat (first | exact SubL.refl | refine SubL.cons (by repeat (first | assumption | exact mS | apply mT)) ?_ | refine SubL.skip ?_)))) | exact (fun w h => OwnL.sat (by repeat (first | exact OwnL.refl | apply OwnL.take (by repeat (first | exact Take.head _ | apply Take.tail)) | apply OwnL.drop)) w (h.thin (SubL.mem (by repeat (first | exact SubL.refl | refine SubL.cons (by repeat (first | assumption | exact mS | apply mT)) ?_ | refine SubL.skip ?_)))))⟩
    ·
     refine WL.rd_yes rfl rfl rfl rfl rfl rfl (Rd.move rfl rfl) ?_
     refine WL.op_yes rfl rfl rfl rfl ?_
     refine OpW.call rfl rfl (by repeat (first | exact Evs.nil | apply Evs.cons rfl)) (by kernel_rfl) rfl rfl rfl ?_
     refine rright_spec (l := W) (by repeat (first | assumption | exact mS | apply mT)) ?_
     refine WL.rd_yes rfl rfl rfl rfl rfl rfl ((by first | exact Rd.notd rfl rfl | exact Rd.not rfl rfl)) ?_
     refine WL.rd rfl rfl rfl (Rd.pick_f rfl rfl rfl) ?_
     refine WL.nil ?_
     exact ⟨by repeat (first | exact Sub.nil | refine Sub.cons rfl (by first | rfl | (first | exact vb_t (fun h => hg52 h.1) | exact vb_t (fun h => hg57 h.2.1) | exact vb ⟨fun h h2 => h h2.2.2, fun h h2 => h ⟨Decidable.not_not.1 hg52, Decidable.not_not.1 hg57, h2⟩⟩)) ?_), by first | exact (fun _ h => h.thin (SubL.mem (by repeat (first | exact SubL.refl | refine SubL.cons (by repeat (first | assumption | exact mS | apply mT)) ?_ | refine SubL.skip ?_)))) | exact (fun w h => OwnL.sat (by repeat (first | exact OwnL.refl | apply OwnL.take (by repeat (first | exact Take.head _ | apply Take.tail)) | apply OwnL.drop)) w (h.thin (SubL.mem (by repeat (first | exact SubL.refl | refine SubL.cons (by repeat (first | assumption | exact mS | apply mT)) ?_ | refine SubL.skip ?_)))))⟩
  ·
   first | refine WC.ite rfl (fun hc2 => ?_) (fun hc2 => ?_) | refine WC.cond rfl (fun hc2 => ?_) (fun hc2 => ?_)
   ·
    obtain ⟨rfl, rfl, rfl⟩ := hM.1 hc2
    refine WC.seq ?_
    refine WC.region ?_
    refine WL.rd rfl rfl rfl (Rd.move rfl rfl) ?_
    refine WL.rd rfl rfl rfl (Rd.eql rfl rfl rfl) ?_
    refine WL.rd rfl rfl rfl (Rd.move rfl rfl) ?_
    refine WL.case 64 rfl (fun hg64 => ?_) (fun hg64 => ?_)
    ·
     refine WL.rd_yes rfl rfl rfl rfl rfl rfl (Rd.move rfl rfl) ?_
     refine WL.rd_yes rfl rfl rfl rfl rfl rfl (Rd.lenE (enc := encI) (xs := ([] : List It)) rfl rfl Try.underlying24 (by repeat (first | assumption | exact mS | apply mT))) ?_
     refine WL.rd_yes rfl rfl rfl rfl rfl rfl (Rd.eql rfl rfl rfl) ?_
     refine WL.rd rfl rfl rfl (Rd.pick_t rfl rfl rfl) ?_
     refine WL.rd rfl rfl rfl (Rd.move rfl rfl) ?_
     refine WL.case 69 rfl (fun hg69 => ?_) (fun hg69 => ?_)
     ·
      refine WL.rd_yes rfl rfl rfl rfl rfl rfl (Rd.move rfl rfl) ?_
      refine WL.rd_yes rfl rfl rfl rfl rfl rfl (Rd.lenE (enc := encF) (xs := ([] : List Cf)) rfl rfl Try.underlying28 (by repeat (first | assumption | exact mS | apply mT))) ?_
      refine WL.rd_yes rfl rfl rfl rfl rfl rfl (Rd.eql rfl rfl rfl) ?_
      refine WL.rd rfl rfl rfl (Rd.pick_t rfl rfl rfl) ?_
      refine WL.say 73 (u := .bool true) rfl rfl ?_
      refine WL.rd rfl rfl rfl (Rd.assign rfl rfl) ?_
      refine WL.nil ?_
      refine thenQ.normal ?_
      refine WC.heap (R' := R) (O' := O) (fun w h => OwnL.sat (by repeat (first | exact OwnL.refl | apply OwnL.take (by repeat (first | exact Take.head _ | apply Take.tail)) | apply OwnL.drop)) w (h.thin (SubL.mem (by repeat (first | exact SubL.refl | refine SubL.cons (by repeat (first | assumption | exact mS | apply mT)) ?_ | refine SubL.skip ?_))))) ?_
      refine WC.ret (Ret.one Try.results3 rfl ?_)
      exact hk
     ·
      exact absurd rfl hg69
    ·
     exact absurd rfl hg64
   ·
    obtain ⟨hU, hV, hW⟩ := Decidable.not_not.1 hc2
    obtain ⟨rfl, ks, hks, hcc, hl1, hl2⟩ := hM.2 hU hV hW
    refine WC.skip ?_
    refine thenQ.normal ?_
    refine WC.seq ?_
    refine WC.region ?_
    refine WL.rd rfl rfl rfl (Rd.assign rfl rfl) ?_
    refine WL.nil ?_
    refine thenQ.normal ?_
    refine WC.seq ?_
    refine WC.region ?_
    refine WL.rd rfl rfl rfl (Rd.move rfl rfl) ?_
    refine WL.rd rfl rfl rfl (Rd.move rfl rfl) ?_
    refine WL.rd rfl rfl rfl (Rd.move rfl rfl) ?_
    refine WL.op rfl ?_
    refine OpW.call rfl rfl (by repeat (first | exact Evs.nil | apply Evs.cons rfl)) (by kernel_rfl) rfl rfl rfl ?_
    refine rkeys_spec (a := U) (b := V) (c := W) (by repeat (first | assumption | exact mS | apply mT)) (by repeat (first | assumption | exact mS | apply mT)) (by repeat (first | assumption | exact mS | apply mT)) kU.1 kV.1 kW.1 ?_; intro v77 ks' hks'
    obtain rfl : ks = ks' := hks.uniq hks' (fun _ => Iff.rfl)
    have hk3 : ks.length ≤ 3000 := by
     have h1 := nodup_len hks.1.nodup (fun x hx => (hks.2 x).1 hx)
     have h2 : (keysIn [U, V, W]).length ≤ 3000 := by
      simp only [keysIn, List.flatMap_cons, List.flatMap_nil, List.length_append, List.length_map, List.length_nil]
      have := kU.1; have := kV.1; have := kW.1; omega
     omega
    refine WL.heap (fun w h => Sat.accNil (e := 42) (size := 2) (enc := encI) (Sat.shareA (Take.head _) h)) ?_
    refine WL.rd rfl rfl rfl (Rd.assign rfl rfl) ?_
    refine WL.nil ?_
    refine thenQ.normal ?_
    refine WC.seq ?_
    refine WC.region ?_
    refine WL.rd rfl rfl rfl (Rd.assign rfl rfl) ?_
    refine WL.nil ?_
    refine thenQ.normal ?_
    refine WC.seq ?_
    refine WC.seq ?_
    refine WC.region ?_
    refine WL.rd rfl rfl rfl (Rd.assign rfl rfl) ?_
    refine WL.nil ?_
    refine thenQ.normal ?_
    refine WC.block ?_
    refine WC.pick [16, 18, 19, 8, 10, 12, 13, 14, 15, 17] (by repeat (first | exact Pick.nil | apply Pick.cons rfl)) ?_
    refine WC.loop2 3 (fun (i : Nat) (x : Value) => [(16, x), (18, .int .i64 ((mbad U V W (ks.take i)).length : Nat)), (19, .int .i64 (i : Int))]) (fun (i : Nat) (x : Value) => accC 42 2 encI x (wantL U V W (ks.take i)) :: O) (fun (i : Nat) (x : Value) => i ≤ ks.length) (fun (i : Nat) (x : Value) => ks.length - i) (0) (.slice none 0 0) (by repeat (first | exact Split.zero | apply Split.succ)) ?hinv1 (by repeat (first | exact Sub.nil | refine Sub.cons rfl (by first | rfl | (congr 1; omega) | assumption) ?_)) (fun _ h => h) ?_
    case hinv1 =>
     exact Nat.zero_le _
    intro i x
    rintro i1
    refine WC.seq ?_
    refine WC.seq ?_
    refine WC.region ?_
    refine WL.rd rfl rfl rfl (Rd.move rfl rfl) ?_
    refine WL.rd rfl rfl rfl (Rd.move rfl rfl) ?_
    refine WL.rd rfl rfl rfl ((by first | exact Rd.lenE rfl rfl Try.underlying33 (by repeat (first | assumption | exact mS | apply mT)) | exact Rd.lenA rfl rfl Try.underlying33 (by repeat (first | assumption | exact mS | apply mT)) | exact Rd.len rfl rfl Try.underlying33)) ?_
    refine WL.rd rfl rfl rfl (Rd.lss rfl rfl rfl) ?_
    refine WL.nil ?_
    refine thenQ.normal ?_
    first | refine WC.ite rfl (fun hc3 => ?_) (fun hc3 => ?_) | refine WC.cond rfl (fun hc3 => ?_) (fun hc3 => ?_)
    ·
     refine WC.skip ?_
     refine thenQ.normal ?_
     refine WC.seq ?_
     refine WC.block ?_
     refine WC.cut (α := Nat × Nat × Nat) (fun q => [(8, vu), (10, vv), (12, vw), (13, lv), (14, cv), (15, .int .i64 0), (16, x), (17, v77), (18, .int .i64 ((mbad U V W (ks.take i)).length : Nat)), (19, .int .i64 (i : Int)), (20, .pointer (some ⟨q.1, 0, none⟩)), (21, .pointer (some ⟨q.2.1, 0, none⟩)), (22, .pointer (some ⟨q.2.2, 0, none⟩))]) (fun _ => SlE (one vs) v77 ks :: SlE encI lv l :: SlE encF cv c :: SlE encI vw W :: SlE encI vv V :: SlE encI vu U :: SlE encI vx U :: SlE encI vy V :: SlE encI vz W :: R) (fun q => rowC q.1 36 [vs (says U ks[i]!).1, .bool (says U ks[i]!).2] :: rowC q.2.1 36 [vs (says V ks[i]!).1, .bool (says V ks[i]!).2] :: rowC q.2.2 36 [vs (says W ks[i]!).1, .bool (says W ks[i]!).2] :: accC 42 2 encI x (wantL U V W (ks.take i)) :: O) (fun _ => True) ?_ ?_
     ·
      refine WC.drawn (O) 24 rfl mixed ?_
      refine WD.take 0 rfl (by kernel_rfl) Z.H rfl rfl rfl (Rd.move rfl rfl) ?_
      refine WD.take 1 rfl (by kernel_rfl) Z.H rfl rfl rfl (Rd.move rfl rfl) ?_
      refine WD.take 2 rfl (by kernel_rfl) Z.H rfl rfl rfl (Rd.move rfl rfl) ?_
      refine WD.take 3 rfl (by kernel_rfl) Z.H rfl rfl rfl ((by first | exact Rd.idx1 (k := i) rfl S33 rfl rfl (by omega) (by repeat (first | assumption | exact mS | apply mT)) (by first | omega | (simp only [List.length_cons, List.length_nil, List.length_append, List.length_map]; omega)) | exact Rd.idxA1 (k := i) rfl S33 rfl rfl (by omega) (by repeat (first | assumption | exact mS | apply mT)) (by first | omega | (simp only [List.length_cons, List.length_nil, List.length_append, List.length_map]; omega)) | exact Rd.idxR1 (k := i) rfl S33 rfl rfl (by omega) (by omega))) ?_
      refine WD.take 4 rfl (by kernel_rfl) Z.H rfl rfl rfl ((by first | exact Rd.get rfl C9 rfl (by repeat (first | assumption | exact mS | apply mT)) (by first | assumption | rfl | exact get!_of_lt (by omega)) | exact Rd.getA rfl C9 rfl (by repeat (first | assumption | exact mS | apply mT)) (by first | assumption | rfl | exact get!_of_lt (by omega)) | exact Rd.row1 rfl C9 rfl (by repeat (first | assumption | exact mS | apply mT)) (by rfl) | exact Rd.getF rfl C9 rfl (by repeat (first | assumption | exact mS | apply mT)) (by intro x; first | rfl | (cases x; rfl) | (rcases x with ⟨_, _, _⟩; rfl) | (rcases x with ⟨_, _, _, _⟩; rfl)) rfl (by first | assumption | rfl | exact get!_of_lt (by omega)) (by rfl) | exact Rd.getFA rfl C9 rfl (by repeat (first | assumption | exact mS | apply mT)) (by intro x; first | rfl | (cases x; rfl) | (rcases x with ⟨_, _, _⟩; rfl) | (rcases x with ⟨_, _, _, _⟩; rfl)) rfl (by first | assumption | rfl | exact get!_of_lt (by omega)) (by rfl))) ?_
      refine WD.take 6 rfl (by kernel_rfl) Z.H rfl rfl rfl (Rd.move rfl rfl) ?_
      refine WD.take 7 rfl (by kernel_rfl) Z.H rfl rfl rfl (Rd.move rfl rfl) ?_
      refine WD.take 8 rfl (by kernel_rfl) Z.H rfl rfl rfl (Rd.move rfl rfl) ?_
      refine WD.take 9 rfl (by kernel_rfl) Z.H rfl rfl rfl ((by first | exact Rd.idx1 (k := i) rfl S33 rfl rfl (by omega) (by repeat (first | assumption | exact mS | apply mT)) (by first | omega | (simp only [List.length_cons, List.length_nil, List.length_append, List.length_map]; omega)) | exact Rd.idxA1 (k := i) rfl S33 rfl rfl (by omega) (by repeat (first | assumption | exact mS | apply mT)) (by first | omega | (simp only [List.length_cons, List.length_nil, List.length_append, List.length_map]; omega)) | exact Rd.idxR1 (k := i) rfl S33 rfl rfl (by omega) (by omega))) ?_
      refine WD.take 10 rfl (by kernel_rfl) Z.H rfl rfl rfl ((by first | exact Rd.get rfl C9 rfl (by repeat (first | assumption | exact mS | apply mT)) (by first | assumption | rfl | exact get!_of_lt (by omega)) | exact Rd.getA rfl C9 rfl (by repeat (first | assumption | exact mS | apply mT)) (by first | assumption | rfl | exact get!_of_lt (by omega)) | exact Rd.row1 rfl C9 rfl (by repeat (first | assumption | exact mS | apply mT)) (by rfl) | exact Rd.getF rfl C9 rfl (by repeat (first | assumption | exact mS | apply mT)) (by intro x; first | rfl | (cases x; rfl) | (rcases x with ⟨_, _, _⟩; rfl) | (rcases x with ⟨_, _, _, _⟩; rfl)) rfl (by first | assumption | rfl | exact get!_of_lt (by omega)) (by rfl) | exact Rd.getFA rfl C9 rfl (by repeat (first | assumption | exact mS | apply mT)) (by intro x; first | rfl | (cases x; rfl) | (rcases x with ⟨_, _, _⟩; rfl) | (rcases x with ⟨_, _, _, _⟩; rfl)) rfl (by first | assumption | rfl | exact get!_of_lt (by omega)) (by rfl))) ?_
      refine WD.take 12 rfl (by kernel_rfl) Z.H rfl rfl rfl (Rd.move rfl rfl) ?_
      refine WD.take 13 rfl (by kernel_rfl) Z.H rfl rfl rfl (Rd.move rfl rfl) ?_
      refine WD.take 14 rfl (by kernel_rfl) Z.H rfl rfl rfl (Rd.move rfl rfl) ?_
      refine WD.take 15 rfl (by kernel_rfl) Z.H rfl rfl rfl ((by first | exact Rd.idx1 (k := i) rfl S33 rfl rfl (by omega) (by repeat (first | assumption | exact mS | apply mT)) (by first | omega | (simp only [List.length_cons, List.length_nil, List.length_append, List.length_map]; omega)) | exact Rd.idxA1 (k := i) rfl S33 rfl rfl (by omega) (by repeat (first | assumption | exact mS | apply mT)) (by first | omega | (simp only [List.length_cons, List.length_nil, List.length_append, List.length_map]; omega)) | exact Rd.idxR1 (k := i) rfl S33 rfl rfl (by omega) (by omega))) ?_
      refine WD.take 16 rfl (by kernel_rfl) Z.H rfl rfl rfl ((by first | exact Rd.get rfl C9 rfl (by repeat (first | assumption | exact mS | apply mT)) (by first | assumption | rfl | exact get!_of_lt (by omega)) | exact Rd.getA rfl C9 rfl (by repeat (first | assumption | exact mS | apply mT)) (by first | assumption | rfl | exact get!_of_lt (by omega)) | exact Rd.row1 rfl C9 rfl (by repeat (first | assumption | exact mS | apply mT)) (by rfl) | exact Rd.getF rfl C9 rfl (by repeat (first | assumption | exact mS | apply mT)) (by intro x; first | rfl | (cases x; rfl) | (rcases x with ⟨_, _, _⟩; rfl) | (rcases x with ⟨_, _, _, _⟩; rfl)) rfl (by first | assumption | rfl | exact get!_of_lt (by omega)) (by rfl) | exact Rd.getFA rfl C9 rfl (by repeat (first | assumption | exact mS | apply mT)) (by intro x; first | rfl | (cases x; rfl) | (rcases x with ⟨_, _, _⟩; rfl) | (rcases x with ⟨_, _, _, _⟩; rfl)) rfl (by first | assumption | rfl | exact get!_of_lt (by omega)) (by rfl))) ?_
      refine WD.some [5, 18, 19, 20] (by kernel_rfl) (by simp) ?_
      intro i hi; simp only [List.mem_cons, List.not_mem_nil, or_false] at hi; rcases hi with rfl | rfl | rfl | rfl
      ·
       refine ⟨_, rfl, rfl, ?_⟩
       refine OpW.call rfl rfl (by repeat (first | exact Evs.nil | apply Evs.cons rfl)) (by kernel_rfl) rfl rfl rfl ?_
       refine says_spec (l := U) (by repeat (first | assumption | exact mS | apply mT)) ?_
       refine ⟨Z.H, ?_⟩
       refine WD.some [11, 18, 19, 20] (by kernel_rfl) (by simp) ?_
       intro i hi; simp only [List.mem_cons, List.not_mem_nil, or_false] at hi; rcases hi with rfl | rfl | rfl | rfl
       ·
        refine ⟨_, rfl, rfl, ?_⟩
        refine OpW.call rfl rfl (by repeat (first | exact Evs.nil | apply Evs.cons rfl)) (by kernel_rfl) rfl rfl rfl ?_
        refine says_spec (l := V) (by repeat (first | assumption | exact mS | apply mT)) ?_
        refine ⟨Z.H, ?_⟩
        refine WD.some [17, 18, 19, 20] (by kernel_rfl) (by simp) ?_
        intro i hi; simp only [List.mem_cons, List.not_mem_nil, or_false] at hi; rcases hi with rfl | rfl | rfl | rfl
        ·
         refine ⟨_, rfl, rfl, ?_⟩
         refine OpW.call rfl rfl (by repeat (first | exact Evs.nil | apply Evs.cons rfl)) (by kernel_rfl) rfl rfl rfl ?_
         refine says_spec (l := W) (by repeat (first | assumption | exact mS | apply mT)) ?_
         refine ⟨Z.H, ?_⟩
         refine WD.some [18, 19, 20] (by kernel_rfl) (by simp) ?_
         intro i hi; simp only [List.mem_cons, List.not_mem_nil, or_false] at hi; rcases hi with rfl | rfl | rfl
         ·
          refine ⟨_, rfl, rfl, ?_⟩
          refine OpW.alloc rfl I36 rfl Z.N rfl rfl ?_; intro b20
          refine ⟨Z.H, ?_⟩
          refine WD.two 19 20 rfl rfl (by kernel_rfl) rfl rfl ?_ ?_
          ·
           refine OpW.alloc rfl I36 rfl Z.N rfl rfl ?_; intro b21
           refine ⟨Z.H, ?_⟩
           refine WD.one 20 rfl (by kernel_rfl) rfl ?_
           refine OpW.alloc rfl I36 rfl Z.N rfl rfl ?_; intro b22
           refine ⟨Z.H, ?_⟩
           refine WD.one 21 rfl (by kernel_rfl) rfl ?_
           refine OpW.storeS rfl G36 rfl rfl Z.N Z.T rfl rfl Z.N rfl ?_
           refine ⟨Z.H, ?_⟩
           refine WD.one 22 rfl (by kernel_rfl) rfl ?_
           refine OpW.storeS rfl G36 rfl rfl Z.N Z.T rfl rfl Z.N rfl ?_
           refine ⟨Z.H, ?_⟩
           refine WD.one 23 rfl (by kernel_rfl) rfl ?_
           refine OpW.storeS rfl G36 rfl rfl Z.N Z.T rfl rfl Z.N rfl ?_
           refine ⟨Z.H, ?_⟩
           refine WD.done (by kernel_rfl) ?_
           exact ⟨(b20, b21, b22), trivial, (by repeat (first | exact Sub.nil | refine Sub.cons rfl (by first | rfl | (congr 1; omega) | assumption) ?_)), (fun w h => OwnL.sat (by repeat (first | exact OwnL.refl | apply OwnL.take (by repeat (first | exact Take.head _ | apply Take.tail)) | apply OwnL.drop)) w (h.thin (SubL.mem (by repeat (first | exact SubL.refl | refine SubL.cons (by repeat (first | assumption | exact mS | apply mT)) ?_ | refine SubL.skip ?_)))))⟩
          ·
           refine OpW.alloc rfl I36 rfl Z.N rfl rfl ?_; intro b22
           refine ⟨Z.H, ?_⟩
           refine WD.one 19 rfl (by kernel_rfl) rfl ?_
           refine OpW.alloc rfl I36 rfl Z.N rfl rfl ?_; intro b21
           refine ⟨Z.H, ?_⟩
           refine WD.one 21 rfl (by kernel_rfl) rfl ?_
           refine OpW.storeS rfl G36 rfl rfl Z.N Z.T rfl rfl Z.N rfl ?_
           refine ⟨Z.H, ?_⟩
           refine WD.one 22 rfl (by kernel_rfl) rfl ?_
           refine OpW.storeS rfl G36 rfl rfl Z.N Z.T rfl rfl Z.N rfl ?_
           refine ⟨Z.H, ?_⟩
           refine WD.one 23 rfl (by kernel_rfl) rfl ?_
           refine OpW.storeS rfl G36 rfl rfl Z.N Z.T rfl rfl Z.N rfl ?_
           refine ⟨Z.H, ?_⟩
           refine WD.done (by kernel_rfl) ?_
           exact ⟨(b20, b21, b22), trivial, (by repeat (first | exact Sub.nil | refine Sub.cons rfl (by first | rfl | (congr 1; omega) | assumption) ?_)), (fun w h => OwnL.sat (by repeat (first | exact OwnL.refl | apply OwnL.take (by repeat (first | exact Take.head _ | apply Take.tail)) | apply OwnL.drop)) w (h.thin (SubL.mem (by repeat (first | exact SubL.refl | refine SubL.cons (by repeat (first | assumption | exact mS | apply mT)) ?_ | refine SubL.skip ?_)))))⟩
         ·
          refine ⟨_, rfl, rfl, ?_⟩
          refine OpW.alloc rfl I36 rfl Z.N rfl rfl ?_; intro b21
          refine ⟨Z.H, ?_⟩
          refine WD.two 18 20 rfl rfl (by kernel_rfl) rfl rfl ?_ ?_
          ·
           refine OpW.alloc rfl I36 rfl Z.N rfl rfl ?_; intro b20
           refine ⟨Z.H, ?_⟩
           refine WD.one 20 rfl (by kernel_rfl) rfl ?_
           refine OpW.alloc rfl I36 rfl Z.N rfl rfl ?_; intro b22
           refine ⟨Z.H, ?_⟩
           refine WD.one 21 rfl (by kernel_rfl) rfl ?_
           refine OpW.storeS rfl G36 rfl rfl Z.N Z.T rfl rfl Z.N rfl ?_
           refine ⟨Z.H, ?_⟩
           refine WD.one 22 rfl (by kernel_rfl) rfl ?_
           refine OpW.storeS rfl G36 rfl rfl Z.N Z.T rfl rfl Z.N rfl ?_
           refine ⟨Z.H, ?_⟩
           refine WD.one 23 rfl (by kernel_rfl) rfl ?_
           refine OpW.storeS rfl G36 rfl rfl Z.N Z.T rfl rfl Z.N rfl ?_
           refine ⟨Z.H, ?_⟩
           refine WD.done (by kernel_rfl) ?_
           exact ⟨(b20, b21, b22), trivial, (by repeat (first | exact Sub.nil | refine Sub.cons rfl (by first | rfl | (congr 1; omega) | assumption) ?_)), (fun w h => OwnL.sat (by repeat (first | exact OwnL.refl | apply OwnL.take (by repeat (first | exact Take.head _ | apply Take.tail)) | apply OwnL.drop)) w (h.thin (SubL.mem (by repeat (first | exact SubL.refl | refine SubL.cons (by repeat (first | assumption | exact mS | apply mT)) ?_ | refine SubL.skip ?_)))))⟩
          ·
           refine OpW.alloc rfl I36 rfl Z.N rfl rfl ?_; intro b22
           refine ⟨Z.H, ?_⟩
           refine WD.one 18 rfl (by kernel_rfl) rfl ?_
           refine OpW.alloc rfl I36 rfl Z.N rfl rfl ?_; intro b20
           refine ⟨Z.H, ?_⟩
           refine WD.one 21 rfl (by kernel_rfl) rfl ?_
           refine OpW.storeS rfl G36 rfl rfl Z.N Z.T rfl rfl Z.N rfl ?_
           refine ⟨Z.H, ?_⟩
           refine WD.one 22 rfl (by kernel_rfl) rfl ?_
           refine OpW.storeS rfl G36 rfl rfl Z.N Z.T rfl rfl Z.N rfl ?_
           refine ⟨Z.H, ?_⟩
           refine WD.one 23 rfl (by kernel_rfl) rfl ?_
           refine OpW.storeS rfl G36 rfl rfl Z.N Z.T rfl rfl Z.N rfl ?_
           refine ⟨Z.H, ?_⟩
           refine WD.done (by kernel_rfl) ?_
           exact ⟨(b20, b21, b22), trivial, (by repeat (first | exact Sub.nil | refine Sub.cons rfl (by first | rfl | (congr 1; omega) | assumption) ?_)), (fun w h => OwnL.sat (by repeat (first | exact OwnL.refl | apply OwnL.take (by repeat (first | exact Take.head _ | apply Take.tail)) | apply OwnL.drop)) w (h.thin (SubL.mem (by repeat (first | exact SubL.refl | refine SubL.cons (by repeat (first | assumption | exact mS | apply mT)) ?_ | refine SubL.skip ?_)))))⟩
         ·
          refine ⟨_, rfl, rfl, ?_⟩
          refine OpW.alloc rfl I36 rfl Z.N rfl rfl ?_; intro b22
          refine ⟨Z.H, ?_⟩
          refine WD.two 18 19 rfl rfl (by kernel_rfl) rfl rfl ?_ ?_
          ·
           refine OpW.alloc rfl I36 rfl Z.N rfl rfl ?_; intro b20
           refine ⟨Z.H, ?_⟩
           refine WD.one 19 rfl (by kernel_rfl) rfl ?_
           refine OpW.alloc rfl I36 rfl Z.N rfl rfl ?_; intro b21
           refine ⟨Z.H, ?_⟩
           refine WD.one 21 rfl (by kernel_rfl) rfl ?_
           refine OpW.storeS rfl G36 rfl rfl Z.N Z.T rfl rfl Z.N rfl ?_
           refine ⟨Z.H, ?_⟩
           refine WD.one 22 rfl (by kernel_rfl) rfl ?_
           refine OpW.storeS rfl G36 rfl rfl Z.N Z.T rfl rfl Z.N rfl ?_
           refine ⟨Z.H, ?_⟩
           refine WD.one 23 rfl (by kernel_rfl) rfl ?_
           refine OpW.storeS rfl G36 rfl rfl Z.N Z.T rfl rfl Z.N rfl ?_
           refine ⟨Z.H, ?_⟩
           refine WD.done (by kernel_rfl) ?_
           exact ⟨(b20, b21, b22), trivial, (by repeat (first | exact Sub.nil | refine Sub.cons rfl (by first | rfl | (congr 1; omega) | assumption) ?_)), (fun w h => OwnL.sat (by repeat (first | exact OwnL.refl | apply OwnL.take (by repeat (first | exact Take.head _ | apply Take.tail)) | apply OwnL.drop)) w (h.thin (SubL.mem (by repeat (first | exact SubL.refl | refine SubL.cons (by repeat (first | assumption | exact mS | apply mT)) ?_ | refine SubL.skip ?_)))))⟩
          ·
           refine OpW.alloc rfl I36 rfl Z.N rfl rfl ?_; intro b21
           refine ⟨Z.H, ?_⟩
           refine WD.one 18 rfl (by kernel_rfl) rfl ?_
           refine OpW.alloc rfl I36 rfl Z.N rfl rfl ?_; intro b20
           refine ⟨Z.H, ?_⟩
           refine WD.one 21 rfl (by kernel_rfl) rfl ?_
           refine OpW.storeS rfl G36 rfl rfl Z.N Z.T rfl rfl Z.N rfl ?_
           refine ⟨Z.H, ?_⟩
           refine WD.one 22 rfl (by kernel_rfl) rfl ?_
           refine OpW.storeS rfl G36 rfl rfl Z.N Z.T rfl rfl Z.N rfl ?_
           refine ⟨Z.H, ?_⟩
           refine WD.one 23 rfl (by kernel_rfl) rfl ?_
           refine OpW.storeS rfl G36 rfl rfl Z.N Z.T rfl rfl Z.N rfl ?_
           refine ⟨Z.H, ?_⟩
           refine WD.done (by kernel_rfl) ?_
           exact ⟨(b20, b21, b22), trivial, (by repeat (first | exact Sub.nil | refine Sub.cons rfl (by first | rfl | (congr 1; omega) | assumption) ?_)), (fun w h => OwnL.sat (by repeat (first | exact OwnL.refl | apply OwnL.take (by repeat (first | exact Take.head _ | apply Take.tail)) | apply OwnL.drop)) w (h.thin (SubL.mem (by repeat (first | exact SubL.refl | refine SubL.cons (by repeat (first | assumption | exact mS | apply mT)) ?_ | refine SubL.skip ?_)))))⟩
        ·
         refine ⟨_, rfl, rfl, ?_⟩
         refine OpW.alloc rfl I36 rfl Z.N rfl rfl ?_; intro b20
         refine ⟨Z.H, ?_⟩
         refine WD.some [17, 19, 20] (by kernel_rfl) (by simp) ?_
         intro i hi; simp only [List.mem_cons, List.not_mem_nil, or_false] at hi; rcases hi with rfl | rfl | rfl
         ·
          refine ⟨_, rfl, rfl, ?_⟩
          refine OpW.call rfl rfl (by repeat (first | exact Evs.nil | apply Evs.cons rfl)) (by kernel_rfl) rfl rfl rfl ?_
          refine says_spec (l := W) (by repeat (first | assumption | exact mS | apply mT)) ?_
          refine ⟨Z.H, ?_⟩
          refine WD.two 19 20 rfl rfl (by kernel_rfl) rfl rfl ?_ ?_
          ·
           refine OpW.alloc rfl I36 rfl Z.N rfl rfl ?_; intro b21
           refine ⟨Z.H, ?_⟩
           refine WD.one 20 rfl (by kernel_rfl) rfl ?_
           refine OpW.alloc rfl I36 rfl Z.N rfl rfl ?_; intro b22
           refine ⟨Z.H, ?_⟩
           refine WD.one 21 rfl (by kernel_rfl) rfl ?_
           refine OpW.storeS rfl G36 rfl rfl Z.N Z.T rfl rfl Z.N rfl ?_
           refine ⟨Z.H, ?_⟩
           refine WD.one 22 rfl (by kernel_rfl) rfl ?_
           refine OpW.storeS rfl G36 rfl rfl Z.N Z.T rfl rfl Z.N rfl ?_
           refine ⟨Z.H, ?_⟩
           refine WD.one 23 rfl (by kernel_rfl) rfl ?_
           refine OpW.storeS rfl G36 rfl rfl Z.N Z.T rfl rfl Z.N rfl ?_
           refine ⟨Z.H, ?_⟩
           refine WD.done (by kernel_rfl) ?_
           exact ⟨(b20, b21, b22), trivial, (by repeat (first | exact Sub.nil | refine Sub.cons rfl (by first | rfl | (congr 1; omega) | assumption) ?_)), (fun w h => OwnL.sat (by repeat (first | exact OwnL.refl | apply OwnL.take (by repeat (first | exact Take.head _ | apply Take.tail)) | apply OwnL.drop)) w (h.thin (SubL.mem (by repeat (first | exact SubL.refl | refine SubL.cons (by repeat (first | assumption | exact mS | apply mT)) ?_ | refine SubL.skip ?_)))))⟩
          ·
           refine OpW.alloc rfl I36 rfl Z.N rfl rfl ?_; intro b22
           refine ⟨Z.H, ?_⟩
           refine WD.one 19 rfl (by kernel_rfl) rfl ?_
           refine OpW.alloc rfl I36 rfl Z.N rfl rfl ?_; intro b21
           refine ⟨Z.H, ?_⟩
           refine WD.one 21 rfl (by kernel_rfl) rfl ?_
           refine OpW.storeS rfl G36 rfl rfl Z.N Z.T rfl rfl Z.N rfl ?_
           refine ⟨Z.H, ?_⟩
           refine WD.one 22 rfl (by kernel_rfl) rfl ?_
           refine OpW.storeS rfl G36 rfl rfl Z.N Z.T rfl rfl Z.N rfl ?_
           refine ⟨Z.H, ?_⟩
           refine WD.one 23 rfl (by kernel_rfl) rfl ?_
           refine OpW.storeS rfl G36 rfl rfl Z.N Z.T rfl rfl Z.N rfl ?_
           refine ⟨Z.H, ?_⟩
           refine WD.done (by kernel_rfl) ?_
           exact ⟨(b20, b21, b22), trivial, (by repeat (first | exact Sub.nil | refine Sub.cons rfl (by first | rfl | (congr 1; omega) | assumption) ?_)), (fun w h => OwnL.sat (by repeat (first | exact OwnL.refl | apply OwnL.take (by repeat (first | exact Take.head _ | apply Take.tail)) | apply OwnL.drop)) w (h.thin (SubL.mem (by repeat (first | exact SubL.refl | refine SubL.cons (by repeat (first | assumption | exact mS | apply mT)) ?_ | refine SubL.skip ?_)))))⟩
         ·
          refine ⟨_, rfl, rfl, ?_⟩
          refine OpW.alloc rfl I36 rfl Z.N rfl rfl ?_; intro b21
          refine ⟨Z.H, ?_⟩
          refine WD.two 17 20 rfl rfl (by kernel_rfl) rfl rfl ?_ ?_
          ·
           refine OpW.call rfl rfl (by repeat (first | exact Evs.nil | apply Evs.cons rfl)) (by kernel_rfl) rfl rfl rfl ?_
           refine says_spec (l := W) (by repeat (first | assumption | exact mS | apply mT)) ?_
           refine ⟨Z.H, ?_⟩
           refine WD.one 20 rfl (by kernel_rfl) rfl ?_
           refine OpW.alloc rfl I36 rfl Z.N rfl rfl ?_; intro b22
           refine ⟨Z.H, ?_⟩
           refine WD.one 21 rfl (by kernel_rfl) rfl ?_
           refine OpW.storeS rfl G36 rfl rfl Z.N Z.T rfl rfl Z.N rfl ?_
           refine ⟨Z.H, ?_⟩
           refine WD.one 22 rfl (by kernel_rfl) rfl ?_
           refine OpW.storeS rfl G36 rfl rfl Z.N Z.T rfl rfl Z.N rfl ?_
           refine ⟨Z.H, ?_⟩
           refine WD.one 23 rfl (by kernel_rfl) rfl ?_
           refine OpW.storeS rfl G36 rfl rfl Z.N Z.T rfl rfl Z.N rfl ?_
           refine ⟨Z.H, ?_⟩
           refine WD.done (by kernel_rfl) ?_
           exact ⟨(b20, b21, b22), trivial, (by repeat (first | exact Sub.nil | refine Sub.cons rfl (by first | rfl | (congr 1; omega) | assumption) ?_)), (fun w h => OwnL.sat (by repeat (first | exact OwnL.refl | apply OwnL.take (by repeat (first | exact Take.head _ | apply Take.tail)) | apply OwnL.drop)) w (h.thin (SubL.mem (by repeat (first | exact SubL.refl | refine SubL.cons (by repeat (first | assumption | exact mS | apply mT)) ?_ | refine SubL.skip ?_)))))⟩
          ·
           refine OpW.alloc rfl I36 rfl Z.N rfl rfl ?_; intro b22
           refine ⟨Z.H, ?_⟩
           refine WD.one 17 rfl (by kernel_rfl) rfl ?_
           refine OpW.call rfl rfl (by repeat (first | exact Evs.nil | apply Evs.cons rfl)) (by kernel_rfl) rfl rfl rfl ?_
           refine says_spec (l := W) (by repeat (first | assumption | exact mS | apply mT)) ?_
           refine ⟨Z.H, ?_⟩
           refine WD.one 21 rfl (by kernel_rfl) rfl ?_
           refine OpW.storeS rfl G36 rfl rfl Z.N Z.T rfl rfl Z.N rfl ?_
           refine ⟨Z.H, ?_⟩
           refine WD.one 22 rfl (by kernel_rfl) rfl ?_
           refine OpW.storeS rfl G36 rfl rfl Z.N Z.T rfl rfl Z.N rfl ?_
           refine ⟨Z.H, ?_⟩
           refine WD.one 23 rfl (by kernel_rfl) rfl ?_
           refine OpW.storeS rfl G36 rfl rfl Z.N Z.T rfl rfl Z.N rfl ?_
           refine ⟨Z.H, ?_⟩
           refine WD.done (by kernel_rfl) ?_
           exact ⟨(b20, b21, b22), trivial, (by repeat (first | exact Sub.nil | refine Sub.cons rfl (by first | rfl | (congr 1; omega) | assumption) ?_)), (fun w h => OwnL.sat (by repeat (first | exact OwnL.refl | apply OwnL.take (by repeat (first | exact Take.head _ | apply Take.tail)) | apply OwnL.drop)) w (h.thin (SubL.mem (by repeat (first | exact SubL.refl | refine SubL.cons (by repeat (first | assumption | exact mS | apply mT)) ?_ | refine SubL.skip ?_)))))⟩
         ·
          refine ⟨_, rfl, rfl, ?_⟩
          refine OpW.alloc rfl I36 rfl Z.N rfl rfl ?_; intro b22
          refine ⟨Z.H, ?_⟩
          refine WD.two 17 19 rfl rfl (by kernel_rfl) rfl rfl ?_ ?_
          ·
           refine OpW.call rfl rfl (by repeat (first | exact Evs.nil | apply Evs.cons rfl)) (by kernel_rfl) rfl rfl rfl ?_
           refine says_spec (l := W) (by repeat (first | assumption | exact mS | apply mT)) ?_
           refine ⟨Z.H, ?_⟩
           refine WD.one 19 rfl (by kernel_rfl) rfl ?_
           refine OpW.alloc rfl I36 rfl Z.N rfl rfl ?_; intro b21
           refine ⟨Z.H, ?_⟩
           refine WD.one 21 rfl (by kernel_rfl) rfl ?_
           refine OpW.storeS rfl G36 rfl rfl Z.N Z.T rfl rfl Z.N rfl ?_
           refine ⟨Z.H, ?_⟩
           refine WD.one 22 rfl (by kernel_rfl) rfl ?_
           refine OpW.storeS rfl G36 rfl rfl Z.N Z.T rfl rfl Z.N rfl ?_
           refine ⟨Z.H, ?_⟩
           refine WD.one 23 rfl (by kernel_rfl) rfl ?_
           refine OpW.storeS rfl G36 rfl rfl Z.N Z.T rfl rfl Z.N rfl ?_
           refine ⟨Z.H, ?_⟩
           refine WD.done (by kernel_rfl) ?_
           exact ⟨(b20, b21, b22), trivial, (by repeat (first | exact Sub.nil | refine Sub.cons rfl (by first | rfl | (congr 1; omega) | assumption) ?_)), (fun w h => OwnL.sat (by repeat (first | exact OwnL.refl | apply OwnL.take (by repeat (first | exact Take.head _ | apply Take.tail)) | apply OwnL.drop)) w (h.thin (SubL.mem (by repeat (first | exact SubL.refl | refine SubL.cons (by repeat (first | assumption | exact mS | apply mT)) ?_ | refine SubL.skip ?_)))))⟩
          ·
           refine OpW.alloc rfl I36 rfl Z.N rfl rfl ?_; intro b21
           refine ⟨Z.H, ?_⟩
           refine WD.one 17 rfl (by kernel_rfl) rfl ?_
           refine OpW.call rfl rfl (by repeat (first | exact Evs.nil | apply Evs.cons rfl)) (by kernel_rfl) rfl rfl rfl ?_
           refine says_spec (l := W) (by repeat (first | assumption | exact mS | apply mT)) ?_
           refine ⟨Z.H, ?_⟩
           refine WD.one 21 rfl (by kernel_rfl) rfl ?_
           refine OpW.storeS rfl G36 rfl rfl Z.N Z.T rfl rfl Z.N rfl ?_
           refine ⟨Z.H, ?_⟩
           refine WD.one 22 rfl (by kernel_rfl) rfl ?_
           refine OpW.storeS rfl G36 rfl rfl Z.N Z.T rfl rfl Z.N rfl ?_
           refine ⟨Z.H, ?_⟩
           refine WD.one 23 rfl (by kernel_rfl) rfl ?_
           refine OpW.storeS rfl G36 rfl rfl Z.N Z.T rfl rfl Z.N rfl ?_
           refine ⟨Z.H, ?_⟩
           refine WD.done (by kernel_rfl) ?_
           exact ⟨(b20, b21, b22), trivial, (by repeat (first | exact Sub.nil | refine Sub.cons rfl (by first | rfl | (congr 1; omega) | assumption) ?_)), (fun w h => OwnL.sat (by repeat (first | exact OwnL.refl | apply OwnL.take (by repeat (first | exact Take.head _ | apply Take.tail)) | apply OwnL.drop)) w (h.thin (SubL.mem (by repeat (first | exact SubL.refl | refine SubL.cons (by repeat (first | assumption | exact mS | apply mT)) ?_ | refine SubL.skip ?_)))))⟩
        ·
         refine ⟨_, rfl, rfl, ?_⟩
         refine OpW.alloc rfl I36 rfl Z.N rfl rfl ?_; intro b21
         refine ⟨Z.H, ?_⟩
         refine WD.some [17, 18, 20] (by kernel_rfl) (by simp) ?_
         intro i hi; simp only [List.mem_cons, List.not_mem_nil, or_false] at hi; rcases hi with rfl | rfl | rfl
         ·
          refine ⟨_, rfl, rfl, ?_⟩
          refine OpW.call rfl rfl (by repeat (first | exact Evs.nil | apply Evs.cons rfl)) (by kernel_rfl) rfl rfl rfl ?_
          refine says_spec (l := W) (by repeat (first | assumption | exact mS | apply mT)) ?_
          refine ⟨Z.H, ?_⟩
          refine WD.two 18 20 rfl rfl (by kernel_rfl) rfl rfl ?_ ?_
          ·
           refine OpW.alloc rfl I36 rfl Z.N rfl rfl ?_; intro b20
           refine ⟨Z.H, ?_⟩
           refine WD.one 20 rfl (by kernel_rfl) rfl ?_
           refine OpW.alloc rfl I36 rfl Z.N rfl rfl ?_; intro b22
           refine ⟨Z.H, ?_⟩
           refine WD.one 21 rfl (by kernel_rfl) rfl ?_
           refine OpW.storeS rfl G36 rfl rfl Z.N Z.T rfl rfl Z.N rfl ?_
           refine ⟨Z.H, ?_⟩
           refine WD.one 22 rfl (by kernel_rfl) rfl ?_
           refine OpW.storeS rfl G36 rfl rfl Z.N Z.T rfl rfl Z.N rfl ?_
           refine ⟨Z.H, ?_⟩
           refine WD.one 23 rfl (by kernel_rfl) rfl ?_
           refine OpW.storeS rfl G36 rfl rfl Z.N Z.T rfl rfl Z.N rfl ?_
           refine ⟨Z.H, ?_⟩
           refine WD.done (by kernel_rfl) ?_
           exact ⟨(b20, b21, b22), trivial, (by repeat (first | exact Sub.nil | refine Sub.cons rfl (by first | rfl | (congr 1; omega) | assumption) ?_)), (fun w h => OwnL.sat (by repeat (first | exact OwnL.refl | apply OwnL.take (by repeat (first | exact Take.head _ | apply Take.tail)) | apply OwnL.drop)) w (h.thin (SubL.mem (by repeat (first | exact SubL.refl | refine SubL.cons (by repeat (first | assumption | exact mS | apply mT)) ?_ | refine SubL.skip ?_)))))⟩
          ·
           refine OpW.alloc rfl I36 rfl Z.N rfl rfl ?_; intro b22
           refine ⟨Z.H, ?_⟩
           refine WD.one 18 rfl (by kernel_rfl) rfl ?_
           refine OpW.alloc rfl I36 rfl Z.N rfl rfl ?_; intro b20
           refine ⟨Z.H, ?_⟩
           refine WD.one 21 rfl (by kernel_rfl) rfl ?_
           refine OpW.storeS rfl G36 rfl rfl Z.N Z.T rfl rfl Z.N rfl ?_
           refine ⟨Z.H, ?_⟩
           refine WD.one 22 rfl (by kernel_rfl) rfl ?_
           refine OpW.storeS rfl G36 rfl rfl Z.N Z.T rfl rfl Z.N rfl ?_
           refine ⟨Z.H, ?_⟩
           refine WD.one 23 rfl (by kernel_rfl) rfl ?_
           refine OpW.storeS rfl G36 rfl rfl Z.N Z.T rfl rfl Z.N rfl ?_
           refine ⟨Z.H, ?_⟩
           refine WD.done (by kernel_rfl) ?_
           exact ⟨(b20, b21, b22), trivial, (by repeat (first | exact Sub.nil | refine Sub.cons rfl (by first | rfl | (congr 1; omega) | assumption) ?_)), (fun w h => OwnL.sat (by repeat (first | exact OwnL.refl | apply OwnL.take (by repeat (first | exact Take.head _ | apply Take.tail)) | apply OwnL.drop)) w (h.thin (SubL.mem (by repeat (first | exact SubL.refl | refine SubL.cons (by repeat (first | assumption | exact mS | apply mT)) ?_ | refine SubL.skip ?_)))))⟩
         ·
          refine ⟨_, rfl, rfl, ?_⟩
          refine OpW.alloc rfl I36 rfl Z.N rfl rfl ?_; intro b20
          refine ⟨Z.H, ?_⟩
          refine WD.two 17 20 rfl rfl (by kernel_rfl) rfl rfl ?_ ?_
          ·
           refine OpW.call rfl rfl (by repeat (first | exact Evs.nil | apply Evs.cons rfl)) (by kernel_rfl) rfl rfl rfl ?_
           refine says_spec (l := W) (by repeat (first | assumption | exact mS | apply mT)) ?_
           refine ⟨Z.H, ?_⟩
           refine WD.one 20 rfl (by kernel_rfl) rfl ?_
           refine OpW.alloc rfl I36 rfl Z.N rfl rfl ?_; intro b22
           refine ⟨Z.H, ?_⟩
           refine WD.one 21 rfl (by kernel_rfl) rfl ?_
           refine OpW.storeS rfl G36 rfl rfl Z.N Z.T rfl rfl Z.N rfl ?_
           refine ⟨Z.H, ?_⟩
           refine WD.one 22 rfl (by kernel_rfl) rfl ?_
           refine OpW.storeS rfl G36 rfl rfl Z.N Z.T rfl rfl Z.N rfl ?_
           refine ⟨Z.H, ?_⟩
           refine WD.one 23 rfl (by kernel_rfl) rfl ?_
           refine OpW.storeS rfl G36 rfl rfl Z.N Z.T rfl rfl Z.N rfl ?_
           refine ⟨Z.H, ?_⟩
           refine WD.done (by kernel_rfl) ?_
           exact ⟨(b20, b21, b22), trivial, (by repeat (first | exact Sub.nil | refine Sub.cons rfl (by first | rfl | (congr 1; omega) | assumption) ?_)), (fun w h => OwnL.sat (by repeat (first | exact OwnL.refl | apply OwnL.take (by repeat (first | exact Take.head _ | apply Take.tail)) | apply OwnL.drop)) w (h.thin (SubL.mem (by repeat (first | exact SubL.refl | refine SubL.cons (by repeat (first | assumption | exact mS | apply mT)) ?_ | refine SubL.skip ?_)))))⟩
          ·
           refine OpW.alloc rfl I36 rfl Z.N rfl rfl ?_; intro b22
           refine ⟨Z.H, ?_⟩
           refine WD.one 17 rfl (by kernel_rfl) rfl ?_
           refine OpW.call rfl rfl (by repeat (first | exact Evs.nil | apply Evs.cons rfl)) (by kernel_rfl) rfl rfl rfl ?_
           refine says_spec (l := W) (by repeat (first | assumption | exact mS | apply mT)) ?_
           refine ⟨Z.H, ?_⟩
           refine WD.one 21 rfl (by kernel_rfl) rfl ?_
           refine OpW.storeS rfl G36 rfl rfl Z.N Z.T rfl rfl Z.N rfl ?_
           refine ⟨Z.H, ?_⟩
           refine WD.one 22 rfl (by kernel_rfl) rfl ?_
           refine OpW.storeS rfl G36 rfl rfl Z.N Z.T rfl rfl Z.N rfl ?_
           refine ⟨Z.H, ?_⟩
           refine WD.one 23 rfl (by kernel_rfl) rfl ?_
           refine OpW.storeS rfl G36 rfl rfl Z.N Z.T rfl rfl Z.N rfl ?_
           refine ⟨Z.H, ?_⟩
           refine WD.done (by kernel_rfl) ?_
           exact ⟨(b20, b21, b22), trivial, (by repeat (first | exact Sub.nil | refine Sub.cons rfl (by first | rfl | (congr 1; omega) | assumption) ?_)), (fun w h => OwnL.sat (by repeat (first | exact OwnL.refl | apply OwnL.take (by repeat (first | exact Take.head _ | apply Take.tail)) | apply OwnL.drop)) w (h.thin (SubL.mem (by repeat (first | exact SubL.refl | refine SubL.cons (by repeat (first | assumption | exact mS | apply mT)) ?_ | refine SubL.skip ?_)))))⟩
         ·
          refine ⟨_, rfl, rfl, ?_⟩
          refine OpW.alloc rfl I36 rfl Z.N rfl rfl ?_; intro b22
          refine ⟨Z.H, ?_⟩
          refine WD.two 17 18 rfl rfl (by kernel_rfl) rfl rfl ?_ ?_
          ·
           refine OpW.call rfl rfl (by repeat (first | exact Evs.nil | apply Evs.cons rfl)) (by kernel_rfl) rfl rfl rfl ?_
           refine says_spec (l := W) (by repeat (first | assumption | exact mS | apply mT)) ?_
           refine ⟨Z.H, ?_⟩
           refine WD.one 18 rfl (by kernel_rfl) rfl ?_
           refine OpW.alloc rfl I36 rfl Z.N rfl rfl ?_; intro b20
           refine ⟨Z.H, ?_⟩
           refine WD.one 21 rfl (by kernel_rfl) rfl ?_
           refine OpW.storeS rfl G36 rfl rfl Z.N Z.T rfl rfl Z.N rfl ?_
           refine ⟨Z.H, ?_⟩
           refine WD.one 22 rfl (by kernel_rfl) rfl ?_
           refine OpW.storeS rfl G36 rfl rfl Z.N Z.T rfl rfl Z.N rfl ?_
           refine ⟨Z.H, ?_⟩
           refine WD.one 23 rfl (by kernel_rfl) rfl ?_
           refine OpW.storeS rfl G36 rfl rfl Z.N Z.T rfl rfl Z.N rfl ?_
           refine ⟨Z.H, ?_⟩
           refine WD.done (by kernel_rfl) ?_
           exact ⟨(b20, b21, b22), trivial, (by repeat (first | exact Sub.nil | refine Sub.cons rfl (by first | rfl | (congr 1; omega) | assumption) ?_)), (fun w h => OwnL.sat (by repeat (first | exact OwnL.refl | apply OwnL.take (by repeat (first | exact Take.head _ | apply Take.tail)) | apply OwnL.drop)) w (h.thin (SubL.mem (by repeat (first | exact SubL.refl | refine SubL.cons (by repeat (first | assumption | exact mS | apply mT)) ?_ | refine SubL.skip ?_)))))⟩
          ·
           refine OpW.alloc rfl I36 rfl Z.N rfl rfl ?_; intro b20
           refine ⟨Z.H, ?_⟩
           refine WD.one 17 rfl (by kernel_rfl) rfl ?_
           refine OpW.call rfl rfl (by repeat (first | exact Evs.nil | apply Evs.cons rfl)) (by kernel_rfl) rfl rfl rfl ?_
           refine says_spec (l := W) (by repeat (first | assumption | exact mS | apply mT)) ?_
           refine ⟨Z.H, ?_⟩
           refine WD.one 21 rfl (by kernel_rfl) rfl ?_
           refine OpW.storeS rfl G36 rfl rfl Z.N Z.T rfl rfl Z.N rfl ?_
           refine ⟨Z.H, ?_⟩
           refine WD.one 22 rfl (by kernel_rfl) rfl ?_
           refine OpW.storeS rfl G36 rfl rfl Z.N Z.T rfl rfl Z.N rfl ?_
           refine ⟨Z.H, ?_⟩
           refine WD.one 23 rfl (by kernel_rfl) rfl ?_
           refine OpW.storeS rfl G36 rfl rfl Z.N Z.T rfl rfl Z.N rfl ?_
           refine ⟨Z.H, ?_⟩
           refine WD.done (by kernel_rfl) ?_
           exact ⟨(b20, b21, b22), trivial, (by repeat (first | exact Sub.nil | refine Sub.cons rfl (by first | rfl | (congr 1; omega) | assumption) ?_)), (fun w h => OwnL.sat (by repeat (first | exact OwnL.refl | apply OwnL.take (by repeat (first | exact Take.head _ | apply Take.tail)) | apply OwnL.drop)) w (h.thin (SubL.mem (by repeat (first | exact SubL.refl | refine SubL.cons (by repeat (first | assumption | exact mS | apply mT)) ?_ | refine SubL.skip ?_)))))⟩
        ·
         refine ⟨_, rfl, rfl, ?_⟩
         refine OpW.alloc rfl I36 rfl Z.N rfl rfl ?_; intro b22
         refine ⟨Z.H, ?_⟩
         refine WD.some [17, 18, 19] (by kernel_rfl) (by simp) ?_
         intro i hi; simp only [List.mem_cons, List.not_mem_nil, or_false] at hi; rcases hi with rfl | rfl | rfl
         ·
          refine ⟨_, rfl, rfl, ?_⟩
          refine OpW.call rfl rfl (by repeat (first | exact Evs.nil | apply Evs.cons rfl)) (by kernel_rfl) rfl rfl rfl ?_
          refine says_spec (l := W) (by repeat (first | assumption | exact mS | apply mT)) ?_
          refine ⟨Z.H, ?_⟩
          refine WD.two 18 19 rfl rfl (by kernel_rfl) rfl rfl ?_ ?_
          ·
           refine OpW.alloc rfl I36 rfl Z.N rfl rfl ?_; intro b20
           refine ⟨Z.H, ?_⟩
           refine WD.one 19 rfl (by kernel_rfl) rfl ?_
           refine OpW.alloc rfl I36 rfl Z.N rfl rfl ?_; intro b21
           refine ⟨Z.H, ?_⟩
           refine WD.one 21 rfl (by kernel_rfl) rfl ?_
           refine OpW.storeS rfl G36 rfl rfl Z.N Z.T rfl rfl Z.N rfl ?_
           refine ⟨Z.H, ?_⟩
           refine WD.one 22 rfl (by kernel_rfl) rfl ?_
           refine OpW.storeS rfl G36 rfl rfl Z.N Z.T rfl rfl Z.N rfl ?_
           refine ⟨Z.H, ?_⟩
           refine WD.one 23 rfl (by kernel_rfl) rfl ?_
           refine OpW.storeS rfl G36 rfl rfl Z.N Z.T rfl rfl Z.N rfl ?_
           refine ⟨Z.H, ?_⟩
           refine WD.done (by kernel_rfl) ?_
           exact ⟨(b20, b21, b22), trivial, (by repeat (first | exact Sub.nil | refine Sub.cons rfl (by first | rfl | (congr 1; omega) | assumption) ?_)), (fun w h => OwnL.sat (by repeat (first | exact OwnL.refl | apply OwnL.take (by repeat (first | exact Take.head _ | apply Take.tail)) | apply OwnL.drop)) w (h.thin (SubL.mem (by repeat (first | exact SubL.refl | refine SubL.cons (by repeat (first | assumption | exact mS | apply mT)) ?_ | refine SubL.skip ?_)))))⟩
          ·
           refine OpW.alloc rfl I36 rfl Z.N rfl rfl ?_; intro b21
           refine ⟨Z.H, ?_⟩
           refine WD.one 18 rfl (by kernel_rfl) rfl ?_
           refine OpW.alloc rfl I36 rfl Z.N rfl rfl ?_; intro b20
           refine ⟨Z.H, ?_⟩
           refine WD.one 21 rfl (by kernel_rfl) rfl ?_
           refine OpW.storeS rfl G36 rfl rfl Z.N Z.T rfl rfl Z.N rfl ?_
           refine ⟨Z.H, ?_⟩
           refine WD.one 22 rfl (by kernel_rfl) rfl ?_
           refine OpW.storeS rfl G36 rfl rfl Z.N Z.T rfl rfl Z.N rfl ?_
           refine ⟨Z.H, ?_⟩
           refine WD.one 23 rfl (by kernel_rfl) rfl ?_
           refine OpW.storeS rfl G36 rfl rfl Z.N Z.T rfl rfl Z.N rfl ?_
           refine ⟨Z.H, ?_⟩
           refine WD.done (by kernel_rfl) ?_
           exact ⟨(b20, b21, b22), trivial, (by repeat (first | exact Sub.nil | refine Sub.cons rfl (by first | rfl | (congr 1; omega) | assumption) ?_)), (fun w h => OwnL.sat (by repeat (first | exact OwnL.refl | apply OwnL.take (by repeat (first | exact Take.head _ | apply Take.tail)) | apply OwnL.drop)) w (h.thin (SubL.mem (by repeat (first | exact SubL.refl | refine SubL.cons (by repeat (first | assumption | exact mS | apply mT)) ?_ | refine SubL.skip ?_)))))⟩
         ·
          refine ⟨_, rfl, rfl, ?_⟩
          refine OpW.alloc rfl I36 rfl Z.N rfl rfl ?_; intro b20
          refine ⟨Z.H, ?_⟩
          refine WD.two 17 19 rfl rfl (by kernel_rfl) rfl rfl ?_ ?_
          ·
           refine OpW.call rfl rfl (by repeat (first | exact Evs.nil | apply Evs.cons rfl)) (by kernel_rfl) rfl rfl rfl ?_
           refine says_spec (l := W) (by repeat (first | assumption | exact mS | apply mT)) ?_
           refine ⟨Z.H, ?_⟩
           refine WD.one 19 rfl (by kernel_rfl) rfl ?_
           refine OpW.alloc rfl I36 rfl Z.N rfl rfl ?_; intro b21
           refine ⟨Z.H, ?_⟩
           refine WD.one 21 rfl (by kernel_rfl) rfl ?_
           refine OpW.storeS rfl G36 rfl rfl Z.N Z.T rfl rfl Z.N rfl ?_
           refine ⟨Z.H, ?_⟩
           refine WD.one 22 rfl (by kernel_rfl) rfl ?_
           refine OpW.storeS rfl G36 rfl rfl Z.N Z.T rfl rfl Z.N rfl ?_
           refine ⟨Z.H, ?_⟩
           refine WD.one 23 rfl (by kernel_rfl) rfl ?_
           refine OpW.storeS rfl G36 rfl rfl Z.N Z.T rfl rfl Z.N rfl ?_
           refine ⟨Z.H, ?_⟩
           refine WD.done (by kernel_rfl) ?_
           exact ⟨(b20, b21, b22), trivial, (by repeat (first | exact Sub.nil | refine Sub.cons rfl (by first | rfl | (congr 1; omega) | assumption) ?_)), (fun w h => OwnL.sat (by repeat (first | exact OwnL.refl | apply OwnL.take (by repeat (first | exact Take.head _ | apply Take.tail)) | apply OwnL.drop)) w (h.thin (SubL.mem (by repeat (first | exact SubL.refl | refine SubL.cons (by repeat (first | assumption | exact mS | apply mT)) ?_ | refine SubL.skip ?_)))))⟩
          ·
           refine OpW.alloc rfl I36 rfl Z.N rfl rfl ?_; intro b21
           refine ⟨Z.H, ?_⟩
           refine WD.one 17 rfl (by kernel_rfl) rfl ?_
           refine OpW.call rfl rfl (by repeat (first | exact Evs.nil | apply Evs.cons rfl)) (by kernel_rfl) rfl rfl rfl ?_
           refine says_spec (l := W) (by repeat (first | assumption | exact mS | apply mT)) ?_
           refine ⟨Z.H, ?_⟩
           refine WD.one 21 rfl (by kernel_rfl) rfl ?_
           refine OpW.storeS rfl G36 rfl rfl Z.N Z.T rfl rfl Z.N rfl ?_
           refine ⟨Z.H, ?_⟩
           refine WD.one 22 rfl (by kernel_rfl) rfl ?_
           refine OpW.storeS rfl G36 rfl rfl Z.N Z.T rfl rfl Z.N rfl ?_
           refine ⟨Z.H, ?_⟩
           refine WD.one 23 rfl (by kernel_rfl) rfl ?_
           refine OpW.storeS rfl G36 rfl rfl Z.N Z.T rfl rfl Z.N rfl ?_
           refine ⟨Z.H, ?_⟩
           refine WD.done (by kernel_rfl) ?_
           exact ⟨(b20, b21, b22), trivial, (by repeat (first | exact Sub.nil | refine Sub.cons rfl (by first | rfl | (congr 1; omega) | assumption) ?_)), (fun w h => OwnL.sat (by repeat (first | exact OwnL.refl | apply OwnL.take (by repeat (first | exact Take.head _ | apply Take.tail)) | apply OwnL.drop)) w (h.thin (SubL.mem (by repeat (first | exact SubL.refl | refine SubL.cons (by repeat (first | assumption | exact mS | apply mT)) ?_ | refine SubL.skip ?_)))))⟩
         ·
          refine ⟨_, rfl, rfl, ?_⟩
          refine OpW.alloc rfl I36 rfl Z.N rfl rfl ?_; intro b21
          refine ⟨Z.H, ?_⟩
          refine WD.two 17 18 rfl rfl (by kernel_rfl) rfl rfl ?_ ?_
          ·
           refine OpW.call rfl rfl (by repeat (first | exact Evs.nil | apply Evs.cons rfl)) (by kernel_rfl) rfl rfl rfl ?_
           refine says_spec (l := W) (by repeat (first | assumption | exact mS | apply mT)) ?_
           refine ⟨Z.H, ?_⟩
           refine WD.one 18 rfl (by kernel_rfl) rfl ?_
           refine OpW.alloc rfl I36 rfl Z.N rfl rfl ?_; intro b20
           refine ⟨Z.H, ?_⟩
           refine WD.one 21 rfl (by kernel_rfl) rfl ?_
           refine OpW.storeS rfl G36 rfl rfl Z.N Z.T rfl rfl Z.N rfl ?_
           refine ⟨Z.H, ?_⟩
           refine WD.one 22 rfl (by kernel_rfl) rfl ?_
           refine OpW.storeS rfl G36 rfl rfl Z.N Z.T rfl rfl Z.N rfl ?_
           refine ⟨Z.H, ?_⟩
           refine WD.one 23 rfl (by kernel_rfl) rfl ?_
           refine OpW.storeS rfl G36 rfl rfl Z.N Z.T rfl rfl Z.N rfl ?_
           refine ⟨Z.H, ?_⟩
           refine WD.done (by kernel_rfl) ?_
           exact ⟨(b20, b21, b22), trivial, (by repeat (first | exact Sub.nil | refine Sub.cons rfl (by first | rfl | (congr 1; omega) | assumption) ?_)), (fun w h => OwnL.sat (by repeat (first | exact OwnL.refl | apply OwnL.take (by repeat (first | exact Take.head _ | apply Take.tail)) | apply OwnL.drop)) w (h.thin (SubL.mem (by repeat (first | exact SubL.refl | refine SubL.cons (by repeat (first | assumption | exact mS | apply mT)) ?_ | refine SubL.skip ?_)))))⟩
          ·
           refine OpW.alloc rfl I36 rfl Z.N rfl rfl ?_; intro b20
           refine ⟨Z.H, ?_⟩
           refine WD.one 17 rfl (by kernel_rfl) rfl ?_
           refine OpW.call rfl rfl (by repeat (first | exact Evs.nil | apply Evs.cons rfl)) (by kernel_rfl) rfl rfl rfl ?_
           refine says_spec (l := W) (by repeat (first | assumption | exact mS | apply mT)) ?_
           refine ⟨Z.H, ?_⟩
           refine WD.one 21 rfl (by kernel_rfl) rfl ?_
           refine OpW.storeS rfl G36 rfl rfl Z.N Z.T rfl rfl Z.N rfl ?_
           refine ⟨Z.H, ?_⟩
           refine WD.one 22 rfl (by kernel_rfl) rfl ?_
           refine OpW.storeS rfl G36 rfl rfl Z.N Z.T rfl rfl Z.N rfl ?_
           refine ⟨Z.H, ?_⟩
           refine WD.one 23 rfl (by kernel_rfl) rfl ?_
           refine OpW.storeS rfl G36 rfl rfl Z.N Z.T rfl rfl Z.N rfl ?_
           refine ⟨Z.H, ?_⟩
           refine WD.done (by kernel_rfl) ?_
           exact ⟨(b20, b21, b22), trivial, (by repeat (first | exact Sub.nil | refine Sub.cons rfl (by first | rfl | (congr 1; omega) | assumption) ?_)), (fun w h => OwnL.sat (by repeat (first | exact OwnL.refl | apply OwnL.take (by repeat (first | exact Take.head _ | apply Take.tail)) | apply OwnL.drop)) w (h.thin (SubL.mem (by repeat (first | exact SubL.refl | refine SubL.cons (by repeat (first | assumption | exact mS | apply mT)) ?_ | refine SubL.skip ?_)))))⟩
       ·
        refine ⟨_, rfl, rfl, ?_⟩
        refine OpW.alloc rfl I36 rfl Z.N rfl rfl ?_; intro b20
        refine ⟨Z.H, ?_⟩
        refine WD.some [11, 19, 20] (by kernel_rfl) (by simp) ?_
        intro i hi; simp only [List.mem_cons, List.not_mem_nil, or_false] at hi; rcases hi with rfl | rfl | rfl
        ·
         refine ⟨_, rfl, rfl, ?_⟩
         refine OpW.call rfl rfl (by repeat (first | exact Evs.nil | apply Evs.cons rfl)) (by kernel_rfl) rfl rfl rfl ?_
         refine says_spec (l := V) (by repeat (first | assumption | exact mS | apply mT)) ?_
         refine ⟨Z.H, ?_⟩
         refine WD.some [17, 19, 20] (by kernel_rfl) (by simp) ?_
         intro i hi; simp only [List.mem_cons, List.not_mem_nil, or_false] at hi; rcases hi with rfl | rfl | rfl
         ·
          refine ⟨_, rfl, rfl, ?_⟩
          refine OpW.call rfl rfl (by repeat (first | exact Evs.nil | apply Evs.cons rfl)) (by kernel_rfl) rfl rfl rfl ?_
          refine says_spec (l := W) (by repeat (first | assumption | exact mS | apply mT)) ?_
          refine ⟨Z.H, ?_⟩
          refine WD.two 19 20 rfl rfl (by kernel_rfl) rfl rfl ?_ ?_
          ·
           refine OpW.alloc rfl I36 rfl Z.N rfl rfl ?_; intro b21
           refine ⟨Z.H, ?_⟩
           refine WD.one 20 rfl (by kernel_rfl) rfl ?_
           refine OpW.alloc rfl I36 rfl Z.N rfl rfl ?_; intro b22
           refine ⟨Z.H, ?_⟩
           refine WD.one 21 rfl (by kernel_rfl) rfl ?_
           refine OpW.storeS rfl G36 rfl rfl Z.N Z.T rfl rfl Z.N rfl ?_
           refine ⟨Z.H, ?_⟩
           refine WD.one 22 rfl (by kernel_rfl) rfl ?_
           refine OpW.storeS rfl G36 rfl rfl Z.N Z.T rfl rfl Z.N rfl ?_
           refine ⟨Z.H, ?_⟩
           refine WD.one 23 rfl (by kernel_rfl) rfl ?_
           refine OpW.storeS rfl G36 rfl rfl Z.N Z.T rfl rfl Z.N rfl ?_
           refine ⟨Z.H, ?_⟩
           refine WD.done (by kernel_rfl) ?_
           exact ⟨(b20, b21, b22), trivial, (by repeat (first | exact Sub.nil | refine Sub.cons rfl (by first | rfl | (congr 1; omega) | assumption) ?_)), (fun w h => OwnL.sat (by repeat (first | exact OwnL.refl | apply OwnL.take (by repeat (first | exact Take.head _ | apply Take.tail)) | apply OwnL.drop)) w (h.thin (SubL.mem (by repeat (first | exact SubL.refl | refine SubL.cons (by repeat (first | assumption | exact mS | apply mT)) ?_ | refine SubL.skip ?_)))))⟩
          ·
           refine OpW.alloc rfl I36 rfl Z.N rfl rfl ?_; intro b22
           refine ⟨Z.H, ?_⟩
           refine WD.one 19 rfl (by kernel_rfl) rfl ?_
           refine OpW.alloc rfl I36 rfl Z.N rfl rfl ?_; intro b21
           refine ⟨Z.H, ?_⟩
           refine WD.one 21 rfl (by kernel_rfl) rfl ?_
           refine OpW.storeS rfl G36 rfl rfl Z.N Z.T rfl rfl Z.N rfl ?_
           refine ⟨Z.H, ?_⟩
           refine WD.one 22 rfl (by kernel_rfl) rfl ?_
           refine OpW.storeS rfl G36 rfl rfl Z.N Z.T rfl rfl Z.N rfl ?_
           refine ⟨Z.H, ?_⟩
           refine WD.one 23 rfl (by kernel_rfl) rfl ?_
           refine OpW.storeS rfl G36 rfl rfl Z.N Z.T rfl rfl Z.N rfl ?_
           refine ⟨Z.H, ?_⟩
           refine WD.done (by kernel_rfl) ?_
           exact ⟨(b20, b21, b22), trivial, (by repeat (first | exact Sub.nil | refine Sub.cons rfl (by first | rfl | (congr 1; omega) | assumption) ?_)), (fun w h => OwnL.sat (by repeat (first | exact OwnL.refl | apply OwnL.take (by repeat (first | exact Take.head _ | apply Take.tail)) | apply OwnL.drop)) w (h.thin (SubL.mem (by repeat (first | exact SubL.refl | refine SubL.cons (by repeat (first | assumption | exact mS | apply mT)) ?_ | refine SubL.skip ?_)))))⟩
         ·
          refine ⟨_, rfl, rfl, ?_⟩
          refine OpW.alloc rfl I36 rfl Z.N rfl rfl ?_; intro b21
          refine ⟨Z.H, ?_⟩
          refine WD.two 17 20 rfl rfl (by kernel_rfl) rfl rfl ?_ ?_
          ·
           refine OpW.call rfl rfl (by repeat (first | exact Evs.nil | apply Evs.cons rfl)) (by kernel_rfl) rfl rfl rfl ?_
           refine says_spec (l := W) (by repeat (first | assumption | exact mS | apply mT)) ?_
           refine ⟨Z.H, ?_⟩
           refine WD.one 20 rfl (by kernel_rfl) rfl ?_
           refine OpW.alloc rfl I36 rfl Z.N rfl rfl ?_; intro b22
           refine ⟨Z.H, ?_⟩
           refine WD.one 21 rfl (by kernel_rfl) rfl ?_
           refine OpW.storeS rfl G36 rfl rfl Z.N Z.T rfl rfl Z.N rfl ?_
           refine ⟨Z.H, ?_⟩
           refine WD.one 22 rfl (by kernel_rfl) rfl ?_
           refine OpW.storeS rfl G36 rfl rfl Z.N Z.T rfl rfl Z.N rfl ?_
           refine ⟨Z.H, ?_⟩
           refine WD.one 23 rfl (by kernel_rfl) rfl ?_
           refine OpW.storeS rfl G36 rfl rfl Z.N Z.T rfl rfl Z.N rfl ?_
           refine ⟨Z.H, ?_⟩
           refine WD.done (by kernel_rfl) ?_
           exact ⟨(b20, b21, b22), trivial, (by repeat (first | exact Sub.nil | refine Sub.cons rfl (by first | rfl | (congr 1; omega) | assumption) ?_)), (fun w h => OwnL.sat (by repeat (first | exact OwnL.refl | apply OwnL.take (by repeat (first | exact Take.head _ | apply Take.tail)) | apply OwnL.drop)) w (h.thin (SubL.mem (by repeat (first | exact SubL.refl | refine SubL.cons (by repeat (first | assumption | exact mS | apply mT)) ?_ | refine SubL.skip ?_)))))⟩
          ·
           refine OpW.alloc rfl I36 rfl Z.N rfl rfl ?_; intro b22
           refine ⟨Z.H, ?_⟩
           refine WD.one 17 rfl (by kernel_rfl) rfl ?_
           refine OpW.call rfl rfl (by repeat (first | exact Evs.nil | apply Evs.cons rfl)) (by kernel_rfl) rfl rfl rfl ?_
           refine says_spec (l := W) (by repeat (first | assumption | exact mS | apply mT)) ?_
           refine ⟨Z.H, ?_⟩
           refine WD.one 21 rfl (by kernel_rfl) rfl ?_
           refine OpW.storeS rfl G36 rfl rfl Z.N Z.T rfl rfl Z.N rfl ?_
           refine ⟨Z.H, ?_⟩
           refine WD.one 22 rfl (by kernel_rfl) rfl ?_
           refine OpW.storeS rfl G36 rfl rfl Z.N Z.T rfl rfl Z.N rfl ?_
           refine ⟨Z.H, ?_⟩
           refine WD.one 23 rfl (by kernel_rfl) rfl ?_
           refine OpW.storeS rfl G36 rfl rfl Z.N Z.T rfl rfl Z.N rfl ?_
           refine ⟨Z.H, ?_⟩
           refine WD.done (by kernel_rfl) ?_
           exact ⟨(b20, b21, b22), trivial, (by repeat (first | exact Sub.nil | refine Sub.cons rfl (by first | rfl | (congr 1; omega) | assumption) ?_)), (fun w h => OwnL.sat (by repeat (first | exact OwnL.refl | apply OwnL.take (by repeat (first | exact Take.head _ | apply Take.tail)) | apply OwnL.drop)) w (h.thin (SubL.mem (by repeat (first | exact SubL.refl | refine SubL.cons (by repeat (first | assumption | exact mS | apply mT)) ?_ | refine SubL.skip ?_)))))⟩
         ·
          refine ⟨_, rfl, rfl, ?_⟩
          refine OpW.alloc rfl I36 rfl Z.N rfl rfl ?_; intro b22
          refine ⟨Z.H, ?_⟩
          refine WD.two 17 19 rfl rfl (by kernel_rfl) rfl rfl ?_ ?_
          ·
           refine OpW.call rfl rfl (by repeat (first | exact Evs.nil | apply Evs.cons rfl)) (by kernel_rfl) rfl rfl rfl ?_
           refine says_spec (l := W) (by repeat (first | assumption | exact mS | apply mT)) ?_
           refine ⟨Z.H, ?_⟩
           refine WD.one 19 rfl (by kernel_rfl) rfl ?_
           refine OpW.alloc rfl I36 rfl Z.N rfl rfl ?_; intro b21
           refine ⟨Z.H, ?_⟩
           refine WD.one 21 rfl (by kernel_rfl) rfl ?_
           refine OpW.storeS rfl G36 rfl rfl Z.N Z.T rfl rfl Z.N rfl ?_
           refine ⟨Z.H, ?_⟩
           refine WD.one 22 rfl (by kernel_rfl) rfl ?_
           refine OpW.storeS rfl G36 rfl rfl Z.N Z.T rfl rfl Z.N rfl ?_
           refine ⟨Z.H, ?_⟩
           refine WD.one 23 rfl (by kernel_rfl) rfl ?_
           refine OpW.storeS rfl G36 rfl rfl Z.N Z.T rfl rfl Z.N rfl ?_
           refine ⟨Z.H, ?_⟩
           refine WD.done (by kernel_rfl) ?_
           exact ⟨(b20, b21, b22), trivial, (by repeat (first | exact Sub.nil | refine Sub.cons rfl (by first | rfl | (congr 1; omega) | assumption) ?_)), (fun w h => OwnL.sat (by repeat (first | exact OwnL.refl | apply OwnL.take (by repeat (first | exact Take.head _ | apply Take.tail)) | apply OwnL.drop)) w (h.thin (SubL.mem (by repeat (first | exact SubL.refl | refine SubL.cons (by repeat (first | assumption | exact mS | apply mT)) ?_ | refine SubL.skip ?_)))))⟩
          ·
           refine OpW.alloc rfl I36 rfl Z.N rfl rfl ?_; intro b21
           refine ⟨Z.H, ?_⟩
           refine WD.one 17 rfl (by kernel_rfl) rfl ?_
           refine OpW.call rfl rfl (by repeat (first | exact Evs.nil | apply Evs.cons rfl)) (by kernel_rfl) rfl rfl rfl ?_
           refine says_spec (l := W) (by repeat (first | assumption | exact mS | apply mT)) ?_
           refine ⟨Z.H, ?_⟩
           refine WD.one 21 rfl (by kernel_rfl) rfl ?_
           refine OpW.storeS rfl G36 rfl rfl Z.N Z.T rfl rfl Z.N rfl ?_
           refine ⟨Z.H, ?_⟩
           refine WD.one 22 rfl (by kernel_rfl) rfl ?_
           refine OpW.storeS rfl G36 rfl rfl Z.N Z.T rfl rfl Z.N rfl ?_
           refine ⟨Z.H, ?_⟩
           refine WD.one 23 rfl (by kernel_rfl) rfl ?_
           refine OpW.storeS rfl G36 rfl rfl Z.N Z.T rfl rfl Z.N rfl ?_
           refine ⟨Z.H, ?_⟩
           refine WD.done (by kernel_rfl) ?_
           exact ⟨(b20, b21, b22), trivial, (by repeat (first | exact Sub.nil | refine Sub.cons rfl (by first | rfl | (congr 1; omega) | assumption) ?_)), (fun w h => OwnL.sat (by repeat (first | exact OwnL.refl | apply OwnL.take (by repeat (first | exact Take.head _ | apply Take.tail)) | apply OwnL.drop)) w (h.thin (SubL.mem (by repeat (first | exact SubL.refl | refine SubL.cons (by repeat (first | assumption | exact mS | apply mT)) ?_ | refine SubL.skip ?_)))))⟩
        ·
         refine ⟨_, rfl, rfl, ?_⟩
         refine OpW.alloc rfl I36 rfl Z.N rfl rfl ?_; intro b21
         refine ⟨Z.H, ?_⟩
         refine WD.two 11 20 rfl rfl (by kernel_rfl) rfl rfl ?_ ?_
         ·
          refine OpW.call rfl rfl (by repeat (first | exact Evs.nil | apply Evs.cons rfl)) (by kernel_rfl) rfl rfl rfl ?_
          refine says_spec (l := V) (by repeat (first | assumption | exact mS | apply mT)) ?_
          refine ⟨Z.H, ?_⟩
          refine WD.two 17 20 rfl rfl (by kernel_rfl) rfl rfl ?_ ?_
          ·
           refine OpW.call rfl rfl (by repeat (first | exact Evs.nil | apply Evs.cons rfl)) (by kernel_rfl) rfl rfl rfl ?_
           refine says_spec (l := W) (by repeat (first | assumption | exact mS | apply mT)) ?_
           refine ⟨Z.H, ?_⟩
           refine WD.one 20 rfl (by kernel_rfl) rfl ?_
           refine OpW.alloc rfl I36 rfl Z.N rfl rfl ?_; intro b22
           refine ⟨Z.H, ?_⟩
           refine WD.one 21 rfl (by kernel_rfl) rfl ?_
           refine OpW.storeS rfl G36 rfl rfl Z.N Z.T rfl rfl Z.N rfl ?_
           refine ⟨Z.H, ?_⟩
           refine WD.one 22 rfl (by kernel_rfl) rfl ?_
           refine OpW.storeS rfl G36 rfl rfl Z.N Z.T rfl rfl Z.N rfl ?_
           refine ⟨Z.H, ?_⟩
           refine WD.one 23 rfl (by kernel_rfl) rfl ?_
           refine OpW.storeS rfl G36 rfl rfl Z.N Z.T rfl rfl Z.N rfl ?_
           refine ⟨Z.H, ?_⟩
           refine WD.done (by kernel_rfl) ?_
           exact ⟨(b20, b21, b22), trivial, (by repeat (first | exact Sub.nil | refine Sub.cons rfl (by first | rfl | (congr 1; omega) | assumption) ?_)), (fun w h => OwnL.sat (by repeat (first | exact OwnL.refl | apply OwnL.take (by repeat (first | exact Take.head _ | apply Take.tail)) | apply OwnL.drop)) w (h.thin (SubL.mem (by repeat (first | exact SubL.refl | refine SubL.cons (by repeat (first | assumption | exact mS | apply mT)) ?_ | refine SubL.skip ?_)))))⟩
          ·
           refine OpW.alloc rfl I36 rfl Z.N rfl rfl ?_; intro b22
           refine ⟨Z.H, ?_⟩
           refine WD.one 17 rfl (by kernel_rfl) rfl ?_
           refine OpW.call rfl rfl (by repeat (first | exact Evs.nil | apply Evs.cons rfl)) (by kernel_rfl) rfl rfl rfl ?_
           refine says_spec (l := W) (by repeat (first | assumption | exact mS | apply mT)) ?_
           refine ⟨Z.H, ?_⟩
           refine WD.one 21 rfl (by kernel_rfl) rfl ?_
           refine OpW.storeS rfl G36 rfl rfl Z.N Z.T rfl rfl Z.N rfl ?_
           refine ⟨Z.H, ?_⟩
           refine WD.one 22 rfl (by kernel_rfl) rfl ?_
           refine OpW.storeS rfl G36 rfl rfl Z.N Z.T rfl rfl Z.N rfl ?_
           refine ⟨Z.H, ?_⟩
           refine WD.one 23 rfl (by kernel_rfl) rfl ?_
           refine OpW.storeS rfl G36 rfl rfl Z.N Z.T rfl rfl Z.N rfl ?_
           refine ⟨Z.H, ?_⟩
           refine WD.done (by kernel_rfl) ?_
           exact ⟨(b20, b21, b22), trivial, (by repeat (first | exact Sub.nil | refine Sub.cons rfl (by first | rfl | (congr 1; omega) | assumption) ?_)), (fun w h => OwnL.sat (by repeat (first | exact OwnL.refl | apply OwnL.take (by repeat (first | exact Take.head _ | apply Take.tail)) | apply OwnL.drop)) w (h.thin (SubL.mem (by repeat (first | exact SubL.refl | refine SubL.cons (by repeat (first | assumption | exact mS | apply mT)) ?_ | refine SubL.skip ?_)))))⟩
         ·
          refine OpW.alloc rfl I36 rfl Z.N rfl rfl ?_; intro b22
          refine ⟨Z.H, ?_⟩
          refine WD.one 11 rfl (by kernel_rfl) rfl ?_
          refine OpW.call rfl rfl (by repeat (first | exact Evs.nil | apply Evs.cons rfl)) (by kernel_rfl) rfl rfl rfl ?_
          refine says_spec (l := V) (by repeat (first | assumption | exact mS | apply mT)) ?_
          refine ⟨Z.H, ?_⟩
          refine WD.one 17 rfl (by kernel_rfl) rfl ?_
          refine OpW.call rfl rfl (by repeat (first | exact Evs.nil | apply Evs.cons rfl)) (by kernel_rfl) rfl rfl rfl ?_
          refine says_spec (l := W) (by repeat (first | assumption | exact mS | apply mT)) ?_
          refine ⟨Z.H, ?_⟩
          refine WD.one 21 rfl (by kernel_rfl) rfl ?_
          refine OpW.storeS rfl G36 rfl rfl Z.N Z.T rfl rfl Z.N rfl ?_
          refine ⟨Z.H, ?_⟩
          refine WD.one 22 rfl (by kernel_rfl) rfl ?_
          refine OpW.storeS rfl G36 rfl rfl Z.N Z.T rfl rfl Z.N rfl ?_
          refine ⟨Z.H, ?_⟩
          refine WD.one 23 rfl (by kernel_rfl) rfl ?_
          refine OpW.storeS rfl G36 rfl rfl Z.N Z.T rfl rfl Z.N rfl ?_
          refine ⟨Z.H, ?_⟩
          refine WD.done (by kernel_rfl) ?_
          exact ⟨(b20, b21, b22), trivial, (by repeat (first | exact Sub.nil | refine Sub.cons rfl (by first | rfl | (congr 1; omega) | assumption) ?_)), (fun w h => OwnL.sat (by repeat (first | exact OwnL.refl | apply OwnL.take (by repeat (first | exact Take.head _ | apply Take.tail)) | apply OwnL.drop)) w (h.thin (SubL.mem (by repeat (first | exact SubL.refl | refine SubL.cons (by repeat (first | assumption | exact mS | apply mT)) ?_ | refine SubL.skip ?_)))))⟩
        ·
         refine ⟨_, rfl, rfl, ?_⟩
         refine OpW.alloc rfl I36 rfl Z.N rfl rfl ?_; intro b22
         refine ⟨Z.H, ?_⟩
         refine WD.two 11 19 rfl rfl (by kernel_rfl) rfl rfl ?_ ?_
         ·
          refine OpW.call rfl rfl (by repeat (first | exact Evs.nil | apply Evs.cons rfl)) (by kernel_rfl) rfl rfl rfl ?_
          refine says_spec (l := V) (by repeat (first | assumption | exact mS | apply mT)) ?_
          refine ⟨Z.H, ?_⟩
          refine WD.two 17 19 rfl rfl (by kernel_rfl) rfl rfl ?_ ?_
          ·
           refine OpW.call rfl rfl (by repeat (first | exact Evs.nil | apply Evs.cons rfl)) (by kernel_rfl) rfl rfl rfl ?_
           refine says_spec (l := W) (by repeat (first | assumption | exact mS | apply mT)) ?_
           refine ⟨Z.H, ?_⟩
           refine WD.one 19 rfl (by kernel_rfl) rfl ?_
           refine OpW.alloc rfl I36 rfl Z.N rfl rfl ?_; intro b21
           refine ⟨Z.H, ?_⟩
           refine WD.one 21 rfl (by kernel_rfl) rfl ?_
           refine OpW.storeS rfl G36 rfl rfl Z.N Z.T rfl rfl Z.N rfl ?_
           refine ⟨Z.H, ?_⟩
           refine WD.one 22 rfl (by kernel_rfl) rfl ?_
           refine OpW.storeS rfl G36 rfl rfl Z.N Z.T rfl rfl Z.N rfl ?_
           refine ⟨Z.H, ?_⟩
           refine WD.one 23 rfl (by kernel_rfl) rfl ?_
           refine OpW.storeS rfl G36 rfl rfl Z.N Z.T rfl rfl Z.N rfl ?_
           refine ⟨Z.H, ?_⟩
           refine WD.done (by kernel_rfl) ?_
           exact ⟨(b20, b21, b22), trivial, (by repeat (first | exact Sub.nil | refine Sub.cons rfl (by first | rfl | (congr 1; omega) | assumption) ?_)), (fun w h => OwnL.sat (by repeat (first | exact OwnL.refl | apply OwnL.take (by repeat (first | exact Take.head _ | apply Take.tail)) | apply OwnL.drop)) w (h.thin (SubL.mem (by repeat (first | exact SubL.refl | refine SubL.cons (by repeat (first | assumption | exact mS | apply mT)) ?_ | refine SubL.skip ?_)))))⟩
          ·
           refine OpW.alloc rfl I36 rfl Z.N rfl rfl ?_; intro b21
           refine ⟨Z.H, ?_⟩
           refine WD.one 17 rfl (by kernel_rfl) rfl ?_
           refine OpW.call rfl rfl (by repeat (first | exact Evs.nil | apply Evs.cons rfl)) (by kernel_rfl) rfl rfl rfl ?_
           refine says_spec (l := W) (by repeat (first | assumption | exact mS | apply mT)) ?_
           refine ⟨Z.H, ?_⟩
           refine WD.one 21 rfl (by kernel_rfl) rfl ?_
           refine OpW.storeS rfl G36 rfl rfl Z.N Z.T rfl rfl Z.N rfl ?_
           refine ⟨Z.H, ?_⟩
           refine WD.one 22 rfl (by kernel_rfl) rfl ?_
           refine OpW.storeS rfl G36 rfl rfl Z.N Z.T rfl rfl Z.N rfl ?_
           refine ⟨Z.H, ?_⟩
           refine WD.one 23 rfl (by kernel_rfl) rfl ?_
           refine OpW.storeS rfl G36 rfl rfl Z.N Z.T rfl rfl Z.N rfl ?_
           refine ⟨Z.H, ?_⟩
           refine WD.done (by kernel_rfl) ?_
           exact ⟨(b20, b21, b22), trivial, (by repeat (first | exact Sub.nil | refine Sub.cons rfl (by first | rfl | (congr 1; omega) | assumption) ?_)), (fun w h => OwnL.sat (by repeat (first | exact OwnL.refl | apply OwnL.take (by repeat (first | exact Take.head _ | apply Take.tail)) | apply OwnL.drop)) w (h.thin (SubL.mem (by repeat (first | exact SubL.refl | refine SubL.cons (by repeat (first | assumption | exact mS | apply mT)) ?_ | refine SubL.skip ?_)))))⟩
         ·
          refine OpW.alloc rfl I36 rfl Z.N rfl rfl ?_; intro b21
          refine ⟨Z.H, ?_⟩
          refine WD.one 11 rfl (by kernel_rfl) rfl ?_
          refine OpW.call rfl rfl (by repeat (first | exact Evs.nil | apply Evs.cons rfl)) (by kernel_rfl) rfl rfl rfl ?_
          refine says_spec (l := V) (by repeat (first | assumption | exact mS | apply mT)) ?_
          refine ⟨Z.H, ?_⟩
          refine WD.one 17 rfl (by kernel_rfl) rfl ?_
          refine OpW.call rfl rfl (by repeat (first | exact Evs.nil | apply Evs.cons rfl)) (by kernel_rfl) rfl rfl rfl ?_
          refine says_spec (l := W) (by repeat (first | assumption | exact mS | apply mT)) ?_
          refine ⟨Z.H, ?_⟩
          refine WD.one 21 rfl (by kernel_rfl) rfl ?_
          refine OpW.storeS rfl G36 rfl rfl Z.N Z.T rfl rfl Z.N rfl ?_
          refine ⟨Z.H, ?_⟩
          refine WD.one 22 rfl (by kernel_rfl) rfl ?_
          refine OpW.storeS rfl G36 rfl rfl Z.N Z.T rfl rfl Z.N rfl ?_
          refine ⟨Z.H, ?_⟩
          refine WD.one 23 rfl (by kernel_rfl) rfl ?_
          refine OpW.storeS rfl G36 rfl rfl Z.N Z.T rfl rfl Z.N rfl ?_
          refine ⟨Z.H, ?_⟩
          refine WD.done (by kernel_rfl) ?_
          exact ⟨(b20, b21, b22), trivial, (by repeat (first | exact Sub.nil | refine Sub.cons rfl (by first | rfl | (congr 1; omega) | assumption) ?_)), (fun w h => OwnL.sat (by repeat (first | exact OwnL.refl | apply OwnL.take (by repeat (first | exact Take.head _ | apply Take.tail)) | apply OwnL.drop)) w (h.thin (SubL.mem (by repeat (first | exact SubL.refl | refine SubL.cons (by repeat (first | assumption | exact mS | apply mT)) ?_ | refine SubL.skip ?_)))))⟩
       ·
        refine ⟨_, rfl, rfl, ?_⟩
        refine OpW.alloc rfl I36 rfl Z.N rfl rfl ?_; intro b21
        refine ⟨Z.H, ?_⟩
        refine WD.some [11, 18, 20] (by kernel_rfl) (by simp) ?_
        intro i hi; simp only [List.mem_cons, List.not_mem_nil, or_false] at hi; rcases hi with rfl | rfl | rfl
        ·
         refine ⟨_, rfl, rfl, ?_⟩
         refine OpW.call rfl rfl (by repeat (first | exact Evs.nil | apply Evs.cons rfl)) (by kernel_rfl) rfl rfl rfl ?_
         refine says_spec (l := V) (by repeat (first | assumption | exact mS | apply mT)) ?_
         refine ⟨Z.H, ?_⟩
         refine WD.some [17, 18, 20] (by kernel_rfl) (by simp) ?_
         intro i hi; simp only [List.mem_cons, List.not_mem_nil, or_false] at hi; rcases hi with rfl | rfl | rfl
         ·
          refine ⟨_, rfl, rfl, ?_⟩
          refine OpW.call rfl rfl (by repeat (first | exact Evs.nil | apply Evs.cons rfl)) (by kernel_rfl) rfl rfl rfl ?_
          refine says_spec (l := W) (by repeat (first | assumption | exact mS | apply mT)) ?_
          refine ⟨Z.H, ?_⟩
          refine WD.two 18 20 rfl rfl (by kernel_rfl) rfl rfl ?_ ?_
          ·
           refine OpW.alloc rfl I36 rfl Z.N rfl rfl ?_; intro b20
           refine ⟨Z.H, ?_⟩
           refine WD.one 20 rfl (by kernel_rfl) rfl ?_
           refine OpW.alloc rfl I36 rfl Z.N rfl rfl ?_; intro b22
           refine ⟨Z.H, ?_⟩
           refine WD.one 21 rfl (by kernel_rfl) rfl ?_
           refine OpW.storeS rfl G36 rfl rfl Z.N Z.T rfl rfl Z.N rfl ?_
           refine ⟨Z.H, ?_⟩
           refine WD.one 22 rfl (by kernel_rfl) rfl ?_
           refine OpW.storeS rfl G36 rfl rfl Z.N Z.T rfl rfl Z.N rfl ?_
           refine ⟨Z.H, ?_⟩
           refine WD.one 23 rfl (by kernel_rfl) rfl ?_
           refine OpW.storeS rfl G36 rfl rfl Z.N Z.T rfl rfl Z.N rfl ?_
           refine ⟨Z.H, ?_⟩
           refine WD.done (by kernel_rfl) ?_
           exact ⟨(b20, b21, b22), trivial, (by repeat (first | exact Sub.nil | refine Sub.cons rfl (by first | rfl | (congr 1; omega) | assumption) ?_)), (fun w h => OwnL.sat (by repeat (first | exact OwnL.refl | apply OwnL.take (by repeat (first | exact Take.head _ | apply Take.tail)) | apply OwnL.drop)) w (h.thin (SubL.mem (by repeat (first | exact SubL.refl | refine SubL.cons (by repeat (first | assumption | exact mS | apply mT)) ?_ | refine SubL.skip ?_)))))⟩
          ·
           refine OpW.alloc rfl I36 rfl Z.N rfl rfl ?_; intro b22
           refine ⟨Z.H, ?_⟩
           refine WD.one 18 rfl (by kernel_rfl) rfl ?_
           refine OpW.alloc rfl I36 rfl Z.N rfl rfl ?_; intro b20
           refine ⟨Z.H, ?_⟩
           refine WD.one 21 rfl (by kernel_rfl) rfl ?_
           refine OpW.storeS rfl G36 rfl rfl Z.N Z.T rfl rfl Z.N rfl ?_
           refine ⟨Z.H, ?_⟩
           refine WD.one 22 rfl (by kernel_rfl) rfl ?_
           refine OpW.storeS rfl G36 rfl rfl Z.N Z.T rfl rfl Z.N rfl ?_
           refine ⟨Z.H, ?_⟩
           refine WD.one 23 rfl (by kernel_rfl) rfl ?_
           refine OpW.storeS rfl G36 rfl rfl Z.N Z.T rfl rfl Z.N rfl ?_
           refine ⟨Z.H, ?_⟩
           refine WD.done (by kernel_rfl) ?_
           exact ⟨(b20, b21, b22), trivial, (by repeat (first | exact Sub.nil | refine Sub.cons rfl (by first | rfl | (congr 1; omega) | assumption) ?_)), (fun w h => OwnL.sat (by repeat (first | exact OwnL.refl | apply OwnL.take (by repeat (first | exact Take.head _ | apply Take.tail)) | apply OwnL.drop)) w (h.thin (SubL.mem (by repeat (first | exact SubL.refl | refine SubL.cons (by repeat (first | assumption | exact mS | apply mT)) ?_ | refine SubL.skip ?_)))))⟩
         ·
          refine ⟨_, rfl, rfl, ?_⟩
          refine OpW.alloc rfl I36 rfl Z.N rfl rfl ?_; intro b20
          refine ⟨Z.H, ?_⟩
          refine WD.two 17 20 rfl rfl (by kernel_rfl) rfl rfl ?_ ?_
          ·
           refine OpW.call rfl rfl (by repeat (first | exact Evs.nil | apply Evs.cons rfl)) (by kernel_rfl) rfl rfl rfl ?_
           refine says_spec (l := W) (by repeat (first | assumption | exact mS | apply mT)) ?_
           refine ⟨Z.H, ?_⟩
           refine WD.one 20 rfl (by kernel_rfl) rfl ?_
           refine OpW.alloc rfl I36 rfl Z.N rfl rfl ?_; intro b22
           refine ⟨Z.H, ?_⟩
           refine WD.one 21 rfl (by kernel_rfl) rfl ?_
           refine OpW.storeS rfl G36 rfl rfl Z.N Z.T rfl rfl Z.N rfl ?_
           refine ⟨Z.H, ?_⟩
           refine WD.one 22 rfl (by kernel_rfl) rfl ?_
           refine OpW.storeS rfl G36 rfl rfl Z.N Z.T rfl rfl Z.N rfl ?_
           refine ⟨Z.H, ?_⟩
           refine WD.one 23 rfl (by kernel_rfl) rfl ?_
           refine OpW.storeS rfl G36 rfl rfl Z.N Z.T rfl rfl Z.N rfl ?_
           refine ⟨Z.H, ?_⟩
           refine WD.done (by kernel_rfl) ?_
           exact ⟨(b20, b21, b22), trivial, (by repeat (first | exact Sub.nil | refine Sub.cons rfl (by first | rfl | (congr 1; omega) | assumption) ?_)), (fun w h => OwnL.sat (by repeat (first | exact OwnL.refl | apply OwnL.take (by repeat (first | exact Take.head _ | apply Take.tail)) | apply OwnL.drop)) w (h.thin (SubL.mem (by repeat (first | exact SubL.refl | refine SubL.cons (by repeat (first | assumption | exact mS | apply mT)) ?_ | refine SubL.skip ?_)))))⟩
          ·
           refine OpW.alloc rfl I36 rfl Z.N rfl rfl ?_; intro b22
           refine ⟨Z.H, ?_⟩
           refine WD.one 17 rfl (by kernel_rfl) rfl ?_
           refine OpW.call rfl rfl (by repeat (first | exact Evs.nil | apply Evs.cons rfl)) (by kernel_rfl) rfl rfl rfl ?_
           refine says_spec (l := W) (by repeat (first | assumption | exact mS | apply mT)) ?_
           refine ⟨Z.H, ?_⟩
           refine WD.one 21 rfl (by kernel_rfl) rfl ?_
           refine OpW.storeS rfl G36 rfl rfl Z.N Z.T rfl rfl Z.N rfl ?_
           refine ⟨Z.H, ?_⟩
           refine WD.one 22 rfl (by kernel_rfl) rfl ?_
           refine OpW.storeS rfl G36 rfl rfl Z.N Z.T rfl rfl Z.N rfl ?_
           refine ⟨Z.H, ?_⟩
           refine WD.one 23 rfl (by kernel_rfl) rfl ?_
           refine OpW.storeS rfl G36 rfl rfl Z.N Z.T rfl rfl Z.N rfl ?_
           refine ⟨Z.H, ?_⟩
           refine WD.done (by kernel_rfl) ?_
           exact ⟨(b20, b21, b22), trivial, (by repeat (first | exact Sub.nil | refine Sub.cons rfl (by first | rfl | (congr 1; omega) | assumption) ?_)), (fun w h => OwnL.sat (by repeat (first | exact OwnL.refl | apply OwnL.take (by repeat (first | exact Take.head _ | apply Take.tail)) | apply OwnL.drop)) w (h.thin (SubL.mem (by repeat (first | exact SubL.refl | refine SubL.cons (by repeat (first | assumption | exact mS | apply mT)) ?_ | refine SubL.skip ?_)))))⟩
         ·
          refine ⟨_, rfl, rfl, ?_⟩
          refine OpW.alloc rfl I36 rfl Z.N rfl rfl ?_; intro b22
          refine ⟨Z.H, ?_⟩
          refine WD.two 17 18 rfl rfl (by kernel_rfl) rfl rfl ?_ ?_
          ·
           refine OpW.call rfl rfl (by repeat (first | exact Evs.nil | apply Evs.cons rfl)) (by kernel_rfl) rfl rfl rfl ?_
           refine says_spec (l := W) (by repeat (first | assumption | exact mS | apply mT)) ?_
           refine ⟨Z.H, ?_⟩
           refine WD.one 18 rfl (by kernel_rfl) rfl ?_
           refine OpW.alloc rfl I36 rfl Z.N rfl rfl ?_; intro b20
           refine ⟨Z.H, ?_⟩
           refine WD.one 21 rfl (by kernel_rfl) rfl ?_
           refine OpW.storeS rfl G36 rfl rfl Z.N Z.T rfl rfl Z.N rfl ?_
           refine ⟨Z.H, ?_⟩
           refine WD.one 22 rfl (by kernel_rfl) rfl ?_
           refine OpW.storeS rfl G36 rfl rfl Z.N Z.T rfl rfl Z.N rfl ?_
           refine ⟨Z.H, ?_⟩
           refine WD.one 23 rfl (by kernel_rfl) rfl ?_
           refine OpW.storeS rfl G36 rfl rfl Z.N Z.T rfl rfl Z.N rfl ?_
           refine ⟨Z.H, ?_⟩
           refine WD.done (by kernel_rfl) ?_
           exact ⟨(b20, b21, b22), trivial, (by repeat (first | exact Sub.nil | refine Sub.cons rfl (by first | rfl | (congr 1; omega) | assumption) ?_)), (fun w h => OwnL.sat (by repeat (first | exact OwnL.refl | apply OwnL.take (by repeat (first | exact Take.head _ | apply Take.tail)) | apply OwnL.drop)) w (h.thin (SubL.mem (by repeat (first | exact SubL.refl | refine SubL.cons (by repeat (first | assumption | exact mS | apply mT)) ?_ | refine SubL.skip ?_)))))⟩
          ·
           refine OpW.alloc rfl I36 rfl Z.N rfl rfl ?_; intro b20
           refine ⟨Z.H, ?_⟩
           refine WD.one 17 rfl (by kernel_rfl) rfl ?_
           refine OpW.call rfl rfl (by repeat (first | exact Evs.nil | apply Evs.cons rfl)) (by kernel_rfl) rfl rfl rfl ?_
           refine says_spec (l := W) (by repeat (first | assumption | exact mS | apply mT)) ?_
           refine ⟨Z.H, ?_⟩
           refine WD.one 21 rfl (by kernel_rfl) rfl ?_
           refine OpW.storeS rfl G36 rfl rfl Z.N Z.T rfl rfl Z.N rfl ?_
           refine ⟨Z.H, ?_⟩
           refine WD.one 22 rfl (by kernel_rfl) rfl ?_
           refine OpW.storeS rfl G36 rfl rfl Z.N Z.T rfl rfl Z.N rfl ?_
           refine ⟨Z.H, ?_⟩
           refine WD.one 23 rfl (by kernel_rfl) rfl ?_
           refine OpW.storeS rfl G36 rfl rfl Z.N Z.T rfl rfl Z.N rfl ?_
           refine ⟨Z.H, ?_⟩
           refine WD.done (by kernel_rfl) ?_
           exact ⟨(b20, b21, b22), trivial, (by repeat (first | exact Sub.nil | refine Sub.cons rfl (by first | rfl | (congr 1; omega) | assumption) ?_)), (fun w h => OwnL.sat (by repeat (first | exact OwnL.refl | apply OwnL.take (by repeat (first | exact Take.head _ | apply Take.tail)) | apply OwnL.drop)) w (h.thin (SubL.mem (by repeat (first | exact SubL.refl | refine SubL.cons (by repeat (first | assumption | exact mS | apply mT)) ?_ | refine SubL.skip ?_)))))⟩
        ·
         refine ⟨_, rfl, rfl, ?_⟩
         refine OpW.alloc rfl I36 rfl Z.N rfl rfl ?_; intro b20
         refine ⟨Z.H, ?_⟩
         refine WD.two 11 20 rfl rfl (by kernel_rfl) rfl rfl ?_ ?_
         ·
          refine OpW.call rfl rfl (by repeat (first | exact Evs.nil | apply Evs.cons rfl)) (by kernel_rfl) rfl rfl rfl ?_
          refine says_spec (l := V) (by repeat (first | assumption | exact mS | apply mT)) ?_
          refine ⟨Z.H, ?_⟩
          refine WD.two 17 20 rfl rfl (by kernel_rfl) rfl rfl ?_ ?_
          ·
           refine OpW.call rfl rfl (by repeat (first | exact Evs.nil | apply Evs.cons rfl)) (by kernel_rfl) rfl rfl rfl ?_
           refine says_spec (l := W) (by repeat (first | assumption | exact mS | apply mT)) ?_
           refine ⟨Z.H, ?_⟩
           refine WD.one 20 rfl (by kernel_rfl) rfl ?_
           refine OpW.alloc rfl I36 rfl Z.N rfl rfl ?_; intro b22
           refine ⟨Z.H, ?_⟩
           refine WD.one 21 rfl (by kernel_rfl) rfl ?_
           refine OpW.storeS rfl G36 rfl rfl Z.N Z.T rfl rfl Z.N rfl ?_
           refine ⟨Z.H, ?_⟩
           refine WD.one 22 rfl (by kernel_rfl) rfl ?_
           refine OpW.storeS rfl G36 rfl rfl Z.N Z.T rfl rfl Z.N rfl ?_
           refine ⟨Z.H, ?_⟩
           refine WD.one 23 rfl (by kernel_rfl) rfl ?_
           refine OpW.storeS rfl G36 rfl rfl Z.N Z.T rfl rfl Z.N rfl ?_
           refine ⟨Z.H, ?_⟩
           refine WD.done (by kernel_rfl) ?_
           exact ⟨(b20, b21, b22), trivial, (by repeat (first | exact Sub.nil | refine Sub.cons rfl (by first | rfl | (congr 1; omega) | assumption) ?_)), (fun w h => OwnL.sat (by repeat (first | exact OwnL.refl | apply OwnL.take (by repeat (first | exact Take.head _ | apply Take.tail)) | apply OwnL.drop)) w (h.thin (SubL.mem (by repeat (first | exact SubL.refl | refine SubL.cons (by repeat (first | assumption | exact mS | apply mT)) ?_ | refine SubL.skip ?_)))))⟩
          ·
           refine OpW.alloc rfl I36 rfl Z.N rfl rfl ?_; intro b22
           refine ⟨Z.H, ?_⟩
           refine WD.one 17 rfl (by kernel_rfl) rfl ?_
           refine OpW.call rfl rfl (by repeat (first | exact Evs.nil | apply Evs.cons rfl)) (by kernel_rfl) rfl rfl rfl ?_
           refine says_spec (l := W) (by repeat (first | assumption | exact mS | apply mT)) ?_
           refine ⟨Z.H, ?_⟩
           refine WD.one 21 rfl (by kernel_rfl) rfl ?_
           refine OpW.storeS rfl G36 rfl rfl Z.N Z.T rfl rfl Z.N rfl ?_
           refine ⟨Z.H, ?_⟩
           refine WD.one 22 rfl (by kernel_rfl) rfl ?_
           refine OpW.storeS rfl G36 rfl rfl Z.N Z.T rfl rfl Z.N rfl ?_
           refine ⟨Z.H, ?_⟩
           refine WD.one 23 rfl (by kernel_rfl) rfl ?_
           refine OpW.storeS rfl G36 rfl rfl Z.N Z.T rfl rfl Z.N rfl ?_
           refine ⟨Z.H, ?_⟩
           refine WD.done (by kernel_rfl) ?_
           exact ⟨(b20, b21, b22), trivial, (by repeat (first | exact Sub.nil | refine Sub.cons rfl (by first | rfl | (congr 1; omega) | assumption) ?_)), (fun w h => OwnL.sat (by repeat (first | exact OwnL.refl | apply OwnL.take (by repeat (first | exact Take.head _ | apply Take.tail)) | apply OwnL.drop)) w (h.thin (SubL.mem (by repeat (first | exact SubL.refl | refine SubL.cons (by repeat (first | assumption | exact mS | apply mT)) ?_ | refine SubL.skip ?_)))))⟩
         ·
          refine OpW.alloc rfl I36 rfl Z.N rfl rfl ?_; intro b22
          refine ⟨Z.H, ?_⟩
          refine WD.one 11 rfl (by kernel_rfl) rfl ?_
          refine OpW.call rfl rfl (by repeat (first | exact Evs.nil | apply Evs.cons rfl)) (by kernel_rfl) rfl rfl rfl ?_
          refine says_spec (l := V) (by repeat (first | assumption | exact mS | apply mT)) ?_
          refine ⟨Z.H, ?_⟩
          refine WD.one 17 rfl (by kernel_rfl) rfl ?_
          refine OpW.call rfl rfl (by repeat (first | exact Evs.nil | apply Evs.cons rfl)) (by kernel_rfl) rfl rfl rfl ?_
          refine says_spec (l := W) (by repeat (first | assumption | exact mS | apply mT)) ?_
          refine ⟨Z.H, ?_⟩
          refine WD.one 21 rfl (by kernel_rfl) rfl ?_
          refine OpW.storeS rfl G36 rfl rfl Z.N Z.T rfl rfl Z.N rfl ?_
          refine ⟨Z.H, ?_⟩
          refine WD.one 22 rfl (by kernel_rfl) rfl ?_
          refine OpW.storeS rfl G36 rfl rfl Z.N Z.T rfl rfl Z.N rfl ?_
          refine ⟨Z.H, ?_⟩
          refine WD.one 23 rfl (by kernel_rfl) rfl ?_
          refine OpW.storeS rfl G36 rfl rfl Z.N Z.T rfl rfl Z.N rfl ?_
          refine ⟨Z.H, ?_⟩
          refine WD.done (by kernel_rfl) ?_
          exact ⟨(b20, b21, b22), trivial, (by repeat (first | exact Sub.nil | refine Sub.cons rfl (by first | rfl | (congr 1; omega) | assumption) ?_)), (fun w h => OwnL.sat (by repeat (first | exact OwnL.refl | apply OwnL.take (by repeat (first | exact Take.head _ | apply Take.tail)) | apply OwnL.drop)) w (h.thin (SubL.mem (by repeat (first | exact SubL.refl | refine SubL.cons (by repeat (first | assumption | exact mS | apply mT)) ?_ | refine SubL.skip ?_)))))⟩
        ·
         refine ⟨_, rfl, rfl, ?_⟩
         refine OpW.alloc rfl I36 rfl Z.N rfl rfl ?_; intro b22
         refine ⟨Z.H, ?_⟩
         refine WD.two 11 18 rfl rfl (by kernel_rfl) rfl rfl ?_ ?_
         ·
          refine OpW.call rfl rfl (by repeat (first | exact Evs.nil | apply Evs.cons rfl)) (by kernel_rfl) rfl rfl rfl ?_
          refine says_spec (l := V) (by repeat (first | assumption | exact mS | apply mT)) ?_
          refine ⟨Z.H, ?_⟩
          refine WD.two 17 18 rfl rfl (by kernel_rfl) rfl rfl ?_ ?_
          ·
           refine OpW.call rfl rfl (by repeat (first | exact Evs.nil | apply Evs.cons rfl)) (by kernel_rfl) rfl rfl rfl ?_
           refine says_spec (l := W) (by repeat (first | assumption | exact mS | apply mT)) ?_
           refine ⟨Z.H, ?_⟩
           refine WD.one 18 rfl (by kernel_rfl) rfl ?_
           refine OpW.alloc rfl I36 rfl Z.N rfl rfl ?_; intro b20
           refine ⟨Z.H, ?_⟩
           refine WD.one 21 rfl (by kernel_rfl) rfl ?_
           refine OpW.storeS rfl G36 rfl rfl Z.N Z.T rfl rfl Z.N rfl ?_
           refine ⟨Z.H, ?_⟩
           refine WD.one 22 rfl (by kernel_rfl) rfl ?_
           refine OpW.storeS rfl G36 rfl rfl Z.N Z.T rfl rfl Z.N rfl ?_
           refine ⟨Z.H, ?_⟩
           refine WD.one 23 rfl (by kernel_rfl) rfl ?_
           refine OpW.storeS rfl G36 rfl rfl Z.N Z.T rfl rfl Z.N rfl ?_
           refine ⟨Z.H, ?_⟩
           refine WD.done (by kernel_rfl) ?_
           exact ⟨(b20, b21, b22), trivial, (by repeat (first | exact Sub.nil | refine Sub.cons rfl (by first | rfl | (congr 1; omega) | assumption) ?_)), (fun w h => OwnL.sat (by repeat (first | exact OwnL.refl | apply OwnL.take (by repeat (first | exact Take.head _ | apply Take.tail)) | apply OwnL.drop)) w (h.thin (SubL.mem (by repeat (first | exact SubL.refl | refine SubL.cons (by repeat (first | assumption | exact mS | apply mT)) ?_ | refine SubL.skip ?_)))))⟩
          ·
           refine OpW.alloc rfl I36 rfl Z.N rfl rfl ?_; intro b20
           refine ⟨Z.H, ?_⟩
           refine WD.one 17 rfl (by kernel_rfl) rfl ?_
           refine OpW.call rfl rfl (by repeat (first | exact Evs.nil | apply Evs.cons rfl)) (by kernel_rfl) rfl rfl rfl ?_
           refine says_spec (l := W) (by repeat (first | assumption | exact mS | apply mT)) ?_
           refine ⟨Z.H, ?_⟩
           refine WD.one 21 rfl (by kernel_rfl) rfl ?_
           refine OpW.storeS rfl G36 rfl rfl Z.N Z.T rfl rfl Z.N rfl ?_
           refine ⟨Z.H, ?_⟩
           refine WD.one 22 rfl (by kernel_rfl) rfl ?_
           refine OpW.storeS rfl G36 rfl rfl Z.N Z.T rfl rfl Z.N rfl ?_
           refine ⟨Z.H, ?_⟩
           refine WD.one 23 rfl (by kernel_rfl) rfl ?_
           refine OpW.storeS rfl G36 rfl rfl Z.N Z.T rfl rfl Z.N rfl ?_
           refine ⟨Z.H, ?_⟩
           refine WD.done (by kernel_rfl) ?_
           exact ⟨(b20, b21, b22), trivial, (by repeat (first | exact Sub.nil | refine Sub.cons rfl (by first | rfl | (congr 1; omega) | assumption) ?_)), (fun w h => OwnL.sat (by repeat (first | exact OwnL.refl | apply OwnL.take (by repeat (first | exact Take.head _ | apply Take.tail)) | apply OwnL.drop)) w (h.thin (SubL.mem (by repeat (first | exact SubL.refl | refine SubL.cons (by repeat (first | assumption | exact mS | apply mT)) ?_ | refine SubL.skip ?_)))))⟩
         ·
          refine OpW.alloc rfl I36 rfl Z.N rfl rfl ?_; intro b20
          refine ⟨Z.H, ?_⟩
          refine WD.one 11 rfl (by kernel_rfl) rfl ?_
          refine OpW.call rfl rfl (by repeat (first | exact Evs.nil | apply Evs.cons rfl)) (by kernel_rfl) rfl rfl rfl ?_
          refine says_spec (l := V) (by repeat (first | assumption | exact mS | apply mT)) ?_
          refine ⟨Z.H, ?_⟩
          refine WD.one 17 rfl (by kernel_rfl) rfl ?_
          refine OpW.call rfl rfl (by repeat (first | exact Evs.nil | apply Evs.cons rfl)) (by kernel_rfl) rfl rfl rfl ?_
          refine says_spec (l := W) (by repeat (first | assumption | exact mS | apply mT)) ?_
          refine ⟨Z.H, ?_⟩
          refine WD.one 21 rfl (by kernel_rfl) rfl ?_
          refine OpW.storeS rfl G36 rfl rfl Z.N Z.T rfl rfl Z.N rfl ?_
          refine ⟨Z.H, ?_⟩
          refine WD.one 22 rfl (by kernel_rfl) rfl ?_
          refine OpW.storeS rfl G36 rfl rfl Z.N Z.T rfl rfl Z.N rfl ?_
          refine ⟨Z.H, ?_⟩
          refine WD.one 23 rfl (by kernel_rfl) rfl ?_
          refine OpW.storeS rfl G36 rfl rfl Z.N Z.T rfl rfl Z.N rfl ?_
          refine ⟨Z.H, ?_⟩
          refine WD.done (by kernel_rfl) ?_
          exact ⟨(b20, b21, b22), trivial, (by repeat (first | exact Sub.nil | refine Sub.cons rfl (by first | rfl | (congr 1; omega) | assumption) ?_)), (fun w h => OwnL.sat (by repeat (first | exact OwnL.refl | apply OwnL.take (by repeat (first | exact Take.head _ | apply Take.tail)) | apply OwnL.drop)) w (h.thin (SubL.mem (by repeat (first | exact SubL.refl | refine SubL.cons (by repeat (first | assumption | exact mS | apply mT)) ?_ | refine SubL.skip ?_)))))⟩
       ·
        refine ⟨_, rfl, rfl, ?_⟩
        refine OpW.alloc rfl I36 rfl Z.N rfl rfl ?_; intro b22
        refine ⟨Z.H, ?_⟩
        refine WD.some [11, 18, 19] (by kernel_rfl) (by simp) ?_
        intro i hi; simp only [List.mem_cons, List.not_mem_nil, or_false] at hi; rcases hi with rfl | rfl | rfl
        ·
         refine ⟨_, rfl, rfl, ?_⟩
         refine OpW.call rfl rfl (by repeat (first | exact Evs.nil | apply Evs.cons rfl)) (by kernel_rfl) rfl rfl rfl ?_
         refine says_spec (l := V) (by repeat (first | assumption | exact mS | apply mT)) ?_
         refine ⟨Z.H, ?_⟩
         refine WD.some [17, 18, 19] (by kernel_rfl) (by simp) ?_
         intro i hi; simp only [List.mem_cons, List.not_mem_nil, or_false] at hi; rcases hi with rfl | rfl | rfl
         ·
          refine ⟨_, rfl, rfl, ?_⟩
          refine OpW.call rfl rfl (by repeat (first | exact Evs.nil | apply Evs.cons rfl)) (by kernel_rfl) rfl rfl rfl ?_
          refine says_spec (l := W) (by repeat (first | assumption | exact mS | apply mT)) ?_
          refine ⟨Z.H, ?_⟩
          refine WD.two 18 19 rfl rfl (by kernel_rfl) rfl rfl ?_ ?_
          ·
           refine OpW.alloc rfl I36 rfl Z.N rfl rfl ?_; intro b20
           refine ⟨Z.H, ?_⟩
           refine WD.one 19 rfl (by kernel_rfl) rfl ?_
           refine OpW.alloc rfl I36 rfl Z.N rfl rfl ?_; intro b21
           refine ⟨Z.H, ?_⟩
           refine WD.one 21 rfl (by kernel_rfl) rfl ?_
           refine OpW.storeS rfl G36 rfl rfl Z.N Z.T rfl rfl Z.N rfl ?_
           refine ⟨Z.H, ?_⟩
           refine WD.one 22 rfl (by kernel_rfl) rfl ?_
           refine OpW.storeS rfl G36 rfl rfl Z.N Z.T rfl rfl Z.N rfl ?_
           refine ⟨Z.H, ?_⟩
           refine WD.one 23 rfl (by kernel_rfl) rfl ?_
           refine OpW.storeS rfl G36 rfl rfl Z.N Z.T rfl rfl Z.N rfl ?_
           refine ⟨Z.H, ?_⟩
           refine WD.done (by kernel_rfl) ?_
           exact ⟨(b20, b21, b22), trivial, (by repeat (first | exact Sub.nil | refine Sub.cons rfl (by first | rfl | (congr 1; omega) | assumption) ?_)), (fun w h => OwnL.sat (by repeat (first | exact OwnL.refl | apply OwnL.take (by repeat (first | exact Take.head _ | apply Take.tail)) | apply OwnL.drop)) w (h.thin (SubL.mem (by repeat (first | exact SubL.refl | refine SubL.cons (by repeat (first | assumption | exact mS | apply mT)) ?_ | refine SubL.skip ?_)))))⟩
          ·
           refine OpW.alloc rfl I36 rfl Z.N rfl rfl ?_; intro b21
           refine ⟨Z.H, ?_⟩
           refine WD.one 18 rfl (by kernel_rfl) rfl ?_
           refine OpW.alloc rfl I36 rfl Z.N rfl rfl ?_; intro b20
           refine ⟨Z.H, ?_⟩
           refine WD.one 21 rfl (by kernel_rfl) rfl ?_
           refine OpW.storeS rfl G36 rfl rfl Z.N Z.T rfl rfl Z.N rfl ?_
           refine ⟨Z.H, ?_⟩
           refine WD.one 22 rfl (by kernel_rfl) rfl ?_
           refine OpW.storeS rfl G36 rfl rfl Z.N Z.T rfl rfl Z.N rfl ?_
           refine ⟨Z.H, ?_⟩
           refine WD.one 23 rfl (by kernel_rfl) rfl ?_
           refine OpW.storeS rfl G36 rfl rfl Z.N Z.T rfl rfl Z.N rfl ?_
           refine ⟨Z.H, ?_⟩
           refine WD.done (by kernel_rfl) ?_
           exact ⟨(b20, b21, b22), trivial, (by repeat (first | exact Sub.nil | refine Sub.cons rfl (by first | rfl | (congr 1; omega) | assumption) ?_)), (fun w h => OwnL.sat (by repeat (first | exact OwnL.refl | apply OwnL.take (by repeat (first | exact Take.head _ | apply Take.tail)) | apply OwnL.drop)) w (h.thin (SubL.mem (by repeat (first | exact SubL.refl | refine SubL.cons (by repeat (first | assumption | exact mS | apply mT)) ?_ | refine SubL.skip ?_)))))⟩
         ·
          refine ⟨_, rfl, rfl, ?_⟩
          refine OpW.alloc rfl I36 rfl Z.N rfl rfl ?_; intro b20
          refine ⟨Z.H, ?_⟩
          refine WD.two 17 19 rfl rfl (by kernel_rfl) rfl rfl ?_ ?_
          ·
           refine OpW.call rfl rfl (by repeat (first | exact Evs.nil | apply Evs.cons rfl)) (by kernel_rfl) rfl rfl rfl ?_
           refine says_spec (l := W) (by repeat (first | assumption | exact mS | apply mT)) ?_
           refine ⟨Z.H, ?_⟩
           refine WD.one 19 rfl (by kernel_rfl) rfl ?_
           refine OpW.alloc rfl I36 rfl Z.N rfl rfl ?_; intro b21
           refine ⟨Z.H, ?_⟩
           refine WD.one 21 rfl (by kernel_rfl) rfl ?_
           refine OpW.storeS rfl G36 rfl rfl Z.N Z.T rfl rfl Z.N rfl ?_
           refine ⟨Z.H, ?_⟩
           refine WD.one 22 rfl (by kernel_rfl) rfl ?_
           refine OpW.storeS rfl G36 rfl rfl Z.N Z.T rfl rfl Z.N rfl ?_
           refine ⟨Z.H, ?_⟩
           refine WD.one 23 rfl (by kernel_rfl) rfl ?_
           refine OpW.storeS rfl G36 rfl rfl Z.N Z.T rfl rfl Z.N rfl ?_
           refine ⟨Z.H, ?_⟩
           refine WD.done (by kernel_rfl) ?_
           exact ⟨(b20, b21, b22), trivial, (by repeat (first | exact Sub.nil | refine Sub.cons rfl (by first | rfl | (congr 1; omega) | assumption) ?_)), (fun w h => OwnL.sat (by repeat (first | exact OwnL.refl | apply OwnL.take (by repeat (first | exact Take.head _ | apply Take.tail)) | apply OwnL.drop)) w (h.thin (SubL.mem (by repeat (first | exact SubL.refl | refine SubL.cons (by repeat (first | assumption | exact mS | apply mT)) ?_ | refine SubL.skip ?_)))))⟩
          ·
           refine OpW.alloc rfl I36 rfl Z.N rfl rfl ?_; intro b21
           refine ⟨Z.H, ?_⟩
           refine WD.one 17 rfl (by kernel_rfl) rfl ?_
           refine OpW.call rfl rfl (by repeat (first | exact Evs.nil | apply Evs.cons rfl)) (by kernel_rfl) rfl rfl rfl ?_
           refine says_spec (l := W) (by repeat (first | assumption | exact mS | apply mT)) ?_
           refine ⟨Z.H, ?_⟩
           refine WD.one 21 rfl (by kernel_rfl) rfl ?_
           refine OpW.storeS rfl G36 rfl rfl Z.N Z.T rfl rfl Z.N rfl ?_
           refine ⟨Z.H, ?_⟩
           refine WD.one 22 rfl (by kernel_rfl) rfl ?_
           refine OpW.storeS rfl G36 rfl rfl Z.N Z.T rfl rfl Z.N rfl ?_
           refine ⟨Z.H, ?_⟩
           refine WD.one 23 rfl (by kernel_rfl) rfl ?_
           refine OpW.storeS rfl G36 rfl rfl Z.N Z.T rfl rfl Z.N rfl ?_
           refine ⟨Z.H, ?_⟩
           refine WD.done (by kernel_rfl) ?_
           exact ⟨(b20, b21, b22), trivial, (by repeat (first | exact Sub.nil | refine Sub.cons rfl (by first | rfl | (congr 1; omega) | assumption) ?_)), (fun w h => OwnL.sat (by repeat (first | exact OwnL.refl | apply OwnL.take (by repeat (first | exact Take.head _ | apply Take.tail)) | apply OwnL.drop)) w (h.thin (SubL.mem (by repeat (first | exact SubL.refl | refine SubL.cons (by repeat (first | assumption | exact mS | apply mT)) ?_ | refine SubL.skip ?_)))))⟩
         ·
          refine ⟨_, rfl, rfl, ?_⟩
          refine OpW.alloc rfl I36 rfl Z.N rfl rfl ?_; intro b21
          refine ⟨Z.H, ?_⟩
          refine WD.two 17 18 rfl rfl (by kernel_rfl) rfl rfl ?_ ?_
          ·
           refine OpW.call rfl rfl (by repeat (first | exact Evs.nil | apply Evs.cons rfl)) (by kernel_rfl) rfl rfl rfl ?_
           refine says_spec (l := W) (by repeat (first | assumption | exact mS | apply mT)) ?_
           refine ⟨Z.H, ?_⟩
           refine WD.one 18 rfl (by kernel_rfl) rfl ?_
           refine OpW.alloc rfl I36 rfl Z.N rfl rfl ?_; intro b20
           refine ⟨Z.H, ?_⟩
           refine WD.one 21 rfl (by kernel_rfl) rfl ?_
           refine OpW.storeS rfl G36 rfl rfl Z.N Z.T rfl rfl Z.N rfl ?_
           refine ⟨Z.H, ?_⟩
           refine WD.one 22 rfl (by kernel_rfl) rfl ?_
           refine OpW.storeS rfl G36 rfl rfl Z.N Z.T rfl rfl Z.N rfl ?_
           refine ⟨Z.H, ?_⟩
           refine WD.one 23 rfl (by kernel_rfl) rfl ?_
           refine OpW.storeS rfl G36 rfl rfl Z.N Z.T rfl rfl Z.N rfl ?_
           refine ⟨Z.H, ?_⟩
           refine WD.done (by kernel_rfl) ?_
           exact ⟨(b20, b21, b22), trivial, (by repeat (first | exact Sub.nil | refine Sub.cons rfl (by first | rfl | (congr 1; omega) | assumption) ?_)), (fun w h => OwnL.sat (by repeat (first | exact OwnL.refl | apply OwnL.take (by repeat (first | exact Take.head _ | apply Take.tail)) | apply OwnL.drop)) w (h.thin (SubL.mem (by repeat (first | exact SubL.refl | refine SubL.cons (by repeat (first | assumption | exact mS | apply mT)) ?_ | refine SubL.skip ?_)))))⟩
          ·
           refine OpW.alloc rfl I36 rfl Z.N rfl rfl ?_; intro b20
           refine ⟨Z.H, ?_⟩
           refine WD.one 17 rfl (by kernel_rfl) rfl ?_
           refine OpW.call rfl rfl (by repeat (first | exact Evs.nil | apply Evs.cons rfl)) (by kernel_rfl) rfl rfl rfl ?_
           refine says_spec (l := W) (by repeat (first | assumption | exact mS | apply mT)) ?_
           refine ⟨Z.H, ?_⟩
           refine WD.one 21 rfl (by kernel_rfl) rfl ?_
           refine OpW.storeS rfl G36 rfl rfl Z.N Z.T rfl rfl Z.N rfl ?_
           refine ⟨Z.H, ?_⟩
           refine WD.one 22 rfl (by kernel_rfl) rfl ?_
           refine OpW.storeS rfl G36 rfl rfl Z.N Z.T rfl rfl Z.N rfl ?_
           refine ⟨Z.H, ?_⟩
           refine WD.one 23 rfl (by kernel_rfl) rfl ?_
           refine OpW.storeS rfl G36 rfl rfl Z.N Z.T rfl rfl Z.N rfl ?_
           refine ⟨Z.H, ?_⟩
           refine WD.done (by kernel_rfl) ?_
           exact ⟨(b20, b21, b22), trivial, (by repeat (first | exact Sub.nil | refine Sub.cons rfl (by first | rfl | (congr 1; omega) | assumption) ?_)), (fun w h => OwnL.sat (by repeat (first | exact OwnL.refl | apply OwnL.take (by repeat (first | exact Take.head _ | apply Take.tail)) | apply OwnL.drop)) w (h.thin (SubL.mem (by repeat (first | exact SubL.refl | refine SubL.cons (by repeat (first | assumption | exact mS | apply mT)) ?_ | refine SubL.skip ?_)))))⟩
        ·
         refine ⟨_, rfl, rfl, ?_⟩
         refine OpW.alloc rfl I36 rfl Z.N rfl rfl ?_; intro b20
         refine ⟨Z.H, ?_⟩
         refine WD.two 11 19 rfl rfl (by kernel_rfl) rfl rfl ?_ ?_
         ·
          refine OpW.call rfl rfl (by repeat (first | exact Evs.nil | apply Evs.cons rfl)) (by kernel_rfl) rfl rfl rfl ?_
          refine says_spec (l := V) (by repeat (first | assumption | exact mS | apply mT)) ?_
          refine ⟨Z.H, ?_⟩
          refine WD.two 17 19 rfl rfl (by kernel_rfl) rfl rfl ?_ ?_
          ·
           refine OpW.call rfl rfl (by repeat (first | exact Evs.nil | apply Evs.cons rfl)) (by kernel_rfl) rfl rfl rfl ?_
           refine says_spec (l := W) (by repeat (first | assumption | exact mS | apply mT)) ?_
           refine ⟨Z.H, ?_⟩
           refine WD.one 19 rfl (by kernel_rfl) rfl ?_
           refine OpW.alloc rfl I36 rfl Z.N rfl rfl ?_; intro b21
           refine ⟨Z.H, ?_⟩
           refine WD.one 21 rfl (by kernel_rfl) rfl ?_
           refine OpW.storeS rfl G36 rfl rfl Z.N Z.T rfl rfl Z.N rfl ?_
           refine ⟨Z.H, ?_⟩
           refine WD.one 22 rfl (by kernel_rfl) rfl ?_
           refine OpW.storeS rfl G36 rfl rfl Z.N Z.T rfl rfl Z.N rfl ?_
           refine ⟨Z.H, ?_⟩
           refine WD.one 23 rfl (by kernel_rfl) rfl ?_
           refine OpW.storeS rfl G36 rfl rfl Z.N Z.T rfl rfl Z.N rfl ?_
           refine ⟨Z.H, ?_⟩
           refine WD.done (by kernel_rfl) ?_
           exact ⟨(b20, b21, b22), trivial, (by repeat (first | exact Sub.nil | refine Sub.cons rfl (by first | rfl | (congr 1; omega) | assumption) ?_)), (fun w h => OwnL.sat (by repeat (first | exact OwnL.refl | apply OwnL.take (by repeat (first | exact Take.head _ | apply Take.tail)) | apply OwnL.drop)) w (h.thin (SubL.mem (by repeat (first | exact SubL.refl | refine SubL.cons (by repeat (first | assumption | exact mS | apply mT)) ?_ | refine SubL.skip ?_)))))⟩
          ·
           refine OpW.alloc rfl I36 rfl Z.N rfl rfl ?_; intro b21
           refine ⟨Z.H, ?_⟩
           refine WD.one 17 rfl (by kernel_rfl) rfl ?_
           refine OpW.call rfl rfl (by repeat (first | exact Evs.nil | apply Evs.cons rfl)) (by kernel_rfl) rfl rfl rfl ?_
           refine says_spec (l := W) (by repeat (first | assumption | exact mS | apply mT)) ?_
           refine ⟨Z.H, ?_⟩
           refine WD.one 21 rfl (by kernel_rfl) rfl ?_
           refine OpW.storeS rfl G36 rfl rfl Z.N Z.T rfl rfl Z.N rfl ?_
           refine ⟨Z.H, ?_⟩
           refine WD.one 22 rfl (by kernel_rfl) rfl ?_
           refine OpW.storeS rfl G36 rfl rfl Z.N Z.T rfl rfl Z.N rfl ?_
           refine ⟨Z.H, ?_⟩
           refine WD.one 23 rfl (by kernel_rfl) rfl ?_
           refine OpW.storeS rfl G36 rfl rfl Z.N Z.T rfl rfl Z.N rfl ?_
           refine ⟨Z.H, ?_⟩
           refine WD.done (by kernel_rfl) ?_
           exact ⟨(b20, b21, b22), trivial, (by repeat (first | exact Sub.nil | refine Sub.cons rfl (by first | rfl | (congr 1; omega) | assumption) ?_)), (fun w h => OwnL.sat (by repeat (first | exact OwnL.refl | apply OwnL.take (by repeat (first | exact Take.head _ | apply Take.tail)) | apply OwnL.drop)) w (h.thin (SubL.mem (by repeat (first | exact SubL.refl | refine SubL.cons (by repeat (first | assumption | exact mS | apply mT)) ?_ | refine SubL.skip ?_)))))⟩
         ·
          refine OpW.alloc rfl I36 rfl Z.N rfl rfl ?_; intro b21
          refine ⟨Z.H, ?_⟩
          refine WD.one 11 rfl (by kernel_rfl) rfl ?_
          refine OpW.call rfl rfl (by repeat (first | exact Evs.nil | apply Evs.cons rfl)) (by kernel_rfl) rfl rfl rfl ?_
          refine says_spec (l := V) (by repeat (first | assumption | exact mS | apply mT)) ?_
          refine ⟨Z.H, ?_⟩
          refine WD.one 17 rfl (by kernel_rfl) rfl ?_
          refine OpW.call rfl rfl (by repeat (first | exact Evs.nil | apply Evs.cons rfl)) (by kernel_rfl) rfl rfl rfl ?_
          refine says_spec (l := W) (by repeat (first | assumption | exact mS | apply mT)) ?_
          refine ⟨Z.H, ?_⟩
          refine WD.one 21 rfl (by kernel_rfl) rfl ?_
          refine OpW.storeS rfl G36 rfl rfl Z.N Z.T rfl rfl Z.N rfl ?_
          refine ⟨Z.H, ?_⟩
          refine WD.one 22 rfl (by kernel_rfl) rfl ?_
          refine OpW.storeS rfl G36 rfl rfl Z.N Z.T rfl rfl Z.N rfl ?_
          refine ⟨Z.H, ?_⟩
          refine WD.one 23 rfl (by kernel_rfl) rfl ?_
          refine OpW.storeS rfl G36 rfl rfl Z.N Z.T rfl rfl Z.N rfl ?_
          refine ⟨Z.H, ?_⟩
          refine WD.done (by kernel_rfl) ?_
          exact ⟨(b20, b21, b22), trivial, (by repeat (first | exact Sub.nil | refine Sub.cons rfl (by first | rfl | (congr 1; omega) | assumption) ?_)), (fun w h => OwnL.sat (by repeat (first | exact OwnL.refl | apply OwnL.take (by repeat (first | exact Take.head _ | apply Take.tail)) | apply OwnL.drop)) w (h.thin (SubL.mem (by repeat (first | exact SubL.refl | refine SubL.cons (by repeat (first | assumption | exact mS | apply mT)) ?_ | refine SubL.skip ?_)))))⟩
        ·
         refine ⟨_, rfl, rfl, ?_⟩
         refine OpW.alloc rfl I36 rfl Z.N rfl rfl ?_; intro b21
         refine ⟨Z.H, ?_⟩
         refine WD.two 11 18 rfl rfl (by kernel_rfl) rfl rfl ?_ ?_
         ·
          refine OpW.call rfl rfl (by repeat (first | exact Evs.nil | apply Evs.cons rfl)) (by kernel_rfl) rfl rfl rfl ?_
          refine says_spec (l := V) (by repeat (first | assumption | exact mS | apply mT)) ?_
          refine ⟨Z.H, ?_⟩
          refine WD.two 17 18 rfl rfl (by kernel_rfl) rfl rfl ?_ ?_
          ·
           refine OpW.call rfl rfl (by repeat (first | exact Evs.nil | apply Evs.cons rfl)) (by kernel_rfl) rfl rfl rfl ?_
           refine says_spec (l := W) (by repeat (first | assumption | exact mS | apply mT)) ?_
           refine ⟨Z.H, ?_⟩
           refine WD.one 18 rfl (by kernel_rfl) rfl ?_
           refine OpW.alloc rfl I36 rfl Z.N rfl rfl ?_; intro b20
           refine ⟨Z.H, ?_⟩
           refine WD.one 21 rfl (by kernel_rfl) rfl ?_
           refine OpW.storeS rfl G36 rfl rfl Z.N Z.T rfl rfl Z.N rfl ?_
           refine ⟨Z.H, ?_⟩
           refine WD.one 22 rfl (by kernel_rfl) rfl ?_
           refine OpW.storeS rfl G36 rfl rfl Z.N Z.T rfl rfl Z.N rfl ?_
           refine ⟨Z.H, ?_⟩
           refine WD.one 23 rfl (by kernel_rfl) rfl ?_
           refine OpW.storeS rfl G36 rfl rfl Z.N Z.T rfl rfl Z.N rfl ?_
           refine ⟨Z.H, ?_⟩
           refine WD.done (by kernel_rfl) ?_
           exact ⟨(b20, b21, b22), trivial, (by repeat (first | exact Sub.nil | refine Sub.cons rfl (by first | rfl | (congr 1; omega) | assumption) ?_)), (fun w h => OwnL.sat (by repeat (first | exact OwnL.refl | apply OwnL.take (by repeat (first | exact Take.head _ | apply Take.tail)) | apply OwnL.drop)) w (h.thin (SubL.mem (by repeat (first | exact SubL.refl | refine SubL.cons (by repeat (first | assumption | exact mS | apply mT)) ?_ | refine SubL.skip ?_)))))⟩
          ·
           refine OpW.alloc rfl I36 rfl Z.N rfl rfl ?_; intro b20
           refine ⟨Z.H, ?_⟩
           refine WD.one 17 rfl (by kernel_rfl) rfl ?_
           refine OpW.call rfl rfl (by repeat (first | exact Evs.nil | apply Evs.cons rfl)) (by kernel_rfl) rfl rfl rfl ?_
           refine says_spec (l := W) (by repeat (first | assumption | exact mS | apply mT)) ?_
           refine ⟨Z.H, ?_⟩
           refine WD.one 21 rfl (by kernel_rfl) rfl ?_
           refine OpW.storeS rfl G36 rfl rfl Z.N Z.T rfl rfl Z.N rfl ?_
           refine ⟨Z.H, ?_⟩
           refine WD.one 22 rfl (by kernel_rfl) rfl ?_
           refine OpW.storeS rfl G36 rfl rfl Z.N Z.T rfl rfl Z.N rfl ?_
           refine ⟨Z.H, ?_⟩
           refine WD.one 23 rfl (by kernel_rfl) rfl ?_
           refine OpW.storeS rfl G36 rfl rfl Z.N Z.T rfl rfl Z.N rfl ?_
           refine ⟨Z.H, ?_⟩
           refine WD.done (by kernel_rfl) ?_
           exact ⟨(b20, b21, b22), trivial, (by repeat (first | exact Sub.nil | refine Sub.cons rfl (by first | rfl | (congr 1; omega) | assumption) ?_)), (fun w h => OwnL.sat (by repeat (first | exact OwnL.refl | apply OwnL.take (by repeat (first | exact Take.head _ | apply Take.tail)) | apply OwnL.drop)) w (h.thin (SubL.mem (by repeat (first | exact SubL.refl | refine SubL.cons (by repeat (first | assumption | exact mS | apply mT)) ?_ | refine SubL.skip ?_)))))⟩
         ·
          refine OpW.alloc rfl I36 rfl Z.N rfl rfl ?_; intro b20
          refine ⟨Z.H, ?_⟩
          refine WD.one 11 rfl (by kernel_rfl) rfl ?_
          refine OpW.call rfl rfl (by repeat (first | exact Evs.nil | apply Evs.cons rfl)) (by kernel_rfl) rfl rfl rfl ?_
          refine says_spec (l := V) (by repeat (first | assumption | exact mS | apply mT)) ?_
          refine ⟨Z.H, ?_⟩
          refine WD.one 17 rfl (by kernel_rfl) rfl ?_
          refine OpW.call rfl rfl (by repeat (first | exact Evs.nil | apply Evs.cons rfl)) (by kernel_rfl) rfl rfl rfl ?_
          refine says_spec (l := W) (by repeat (first | assumption | exact mS | apply mT)) ?_
          refine ⟨Z.H, ?_⟩
          refine WD.one 21 rfl (by kernel_rfl) rfl ?_
          refine OpW.storeS rfl G36 rfl rfl Z.N Z.T rfl rfl Z.N rfl ?_
          refine ⟨Z.H, ?_⟩
          refine WD.one 22 rfl (by kernel_rfl) rfl ?_
          refine OpW.storeS rfl G36 rfl rfl Z.N Z.T rfl rfl Z.N rfl ?_
          refine ⟨Z.H, ?_⟩
          refine WD.one 23 rfl (by kernel_rfl) rfl ?_
          refine OpW.storeS rfl G36 rfl rfl Z.N Z.T rfl rfl Z.N rfl ?_
          refine ⟨Z.H, ?_⟩
          refine WD.done (by kernel_rfl) ?_
          exact ⟨(b20, b21, b22), trivial, (by repeat (first | exact Sub.nil | refine Sub.cons rfl (by first | rfl | (congr 1; omega) | assumption) ?_)), (fun w h => OwnL.sat (by repeat (first | exact OwnL.refl | apply OwnL.take (by repeat (first | exact Take.head _ | apply Take.tail)) | apply OwnL.drop)) w (h.thin (SubL.mem (by repeat (first | exact SubL.refl | refine SubL.cons (by repeat (first | assumption | exact mS | apply mT)) ?_ | refine SubL.skip ?_)))))⟩
      ·
       refine ⟨_, rfl, rfl, ?_⟩
       refine OpW.alloc rfl I36 rfl Z.N rfl rfl ?_; intro b20
       refine ⟨Z.H, ?_⟩
       refine WD.some [5, 19, 20] (by kernel_rfl) (by simp) ?_
       intro i hi; simp only [List.mem_cons, List.not_mem_nil, or_false] at hi; rcases hi with rfl | rfl | rfl
       ·
        refine ⟨_, rfl, rfl, ?_⟩
        refine OpW.call rfl rfl (by repeat (first | exact Evs.nil | apply Evs.cons rfl)) (by kernel_rfl) rfl rfl rfl ?_
        refine says_spec (l := U) (by repeat (first | assumption | exact mS | apply mT)) ?_
        refine ⟨Z.H, ?_⟩
        refine WD.some [11, 19, 20] (by kernel_rfl) (by simp) ?_
        intro i hi; simp only [List.mem_cons, List.not_mem_nil, or_false] at hi; rcases hi with rfl | rfl | rfl
        ·
         refine ⟨_, rfl, rfl, ?_⟩
         refine OpW.call rfl rfl (by repeat (first | exact Evs.nil | apply Evs.cons rfl)) (by kernel_rfl) rfl rfl rfl ?_
         refine says_spec (l := V) (by repeat (first | assumption | exact mS | apply mT)) ?_
         refine ⟨Z.H, ?_⟩
         refine WD.some [17, 19, 20] (by kernel_rfl) (by simp) ?_
         intro i hi; simp only [List.mem_cons, List.not_mem_nil, or_false] at hi; rcases hi with rfl | rfl | rfl
         ·
          refine ⟨_, rfl, rfl, ?_⟩
          refine OpW.call rfl rfl (by repeat (first | exact Evs.nil | apply Evs.cons rfl)) (by kernel_rfl) rfl rfl rfl ?_
          refine says_spec (l := W) (by repeat (first | assumption | exact mS | apply mT)) ?_
          refine ⟨Z.H, ?_⟩
          refine WD.two 19 20 rfl rfl (by kernel_rfl) rfl rfl ?_ ?_
          ·
           refine OpW.alloc rfl I36 rfl Z.N rfl rfl ?_; intro b21
           refine ⟨Z.H, ?_⟩
           refine WD.one 20 rfl (by kernel_rfl) rfl ?_
           refine OpW.alloc rfl I36 rfl Z.N rfl rfl ?_; intro b22
           refine ⟨Z.H, ?_⟩
           refine WD.one 21 rfl (by kernel_rfl) rfl ?_
           refine OpW.storeS rfl G36 rfl rfl Z.N Z.T rfl rfl Z.N rfl ?_
           refine ⟨Z.H, ?_⟩
           refine WD.one 22 rfl (by kernel_rfl) rfl ?_
           refine OpW.storeS rfl G36 rfl rfl Z.N Z.T rfl rfl Z.N rfl ?_
           refine ⟨Z.H, ?_⟩
           refine WD.one 23 rfl (by kernel_rfl) rfl ?_
           refine OpW.storeS rfl G36 rfl rfl Z.N Z.T rfl rfl Z.N rfl ?_
           refine ⟨Z.H, ?_⟩
           refine WD.done (by kernel_rfl) ?_
           exact ⟨(b20, b21, b22), trivial, (by repeat (first | exact Sub.nil | refine Sub.cons rfl (by first | rfl | (congr 1; omega) | assumption) ?_)), (fun w h => OwnL.sat (by repeat (first | exact OwnL.refl | apply OwnL.take (by repeat (first | exact Take.head _ | apply Take.tail)) | apply OwnL.drop)) w (h.thin (SubL.mem (by repeat (first | exact SubL.refl | refine SubL.cons (by repeat (first | assumption | exact mS | apply mT)) ?_ | refine SubL.skip ?_)))))⟩
          ·
           refine OpW.alloc rfl I36 rfl Z.N rfl rfl ?_; intro b22
           refine ⟨Z.H, ?_⟩
           refine WD.one 19 rfl (by kernel_rfl) rfl ?_
           refine OpW.alloc rfl I36 rfl Z.N rfl rfl ?_; intro b21
           refine ⟨Z.H, ?_⟩
           refine WD.one 21 rfl (by kernel_rfl) rfl ?_
           refine OpW.storeS rfl G36 rfl rfl Z.N Z.T rfl rfl Z.N rfl ?_
           refine ⟨Z.H, ?_⟩
           refine WD.one 22 rfl (by kernel_rfl) rfl ?_
           refine OpW.storeS rfl G36 rfl rfl Z.N Z.T rfl rfl Z.N rfl ?_
           refine ⟨Z.H, ?_⟩
           refine WD.one 23 rfl (by kernel_rfl) rfl ?_
           refine OpW.storeS rfl G36 rfl rfl Z.N Z.T rfl rfl Z.N rfl ?_
           refine ⟨Z.H, ?_⟩
           refine WD.done (by kernel_rfl) ?_
           exact ⟨(b20, b21, b22), trivial, (by repeat (first | exact Sub.nil | refine Sub.cons rfl (by first | rfl | (congr 1; omega) | assumption) ?_)), (fun w h => OwnL.sat (by repeat (first | exact OwnL.refl | apply OwnL.take (by repeat (first | exact Take.head _ | apply Take.tail)) | apply OwnL.drop)) w (h.thin (SubL.mem (by repeat (first | exact SubL.refl | refine SubL.cons (by repeat (first | assumption | exact mS | apply mT)) ?_ | refine SubL.skip ?_)))))⟩
         ·
          refine ⟨_, rfl, rfl, ?_⟩
          refine OpW.alloc rfl I36 rfl Z.N rfl rfl ?_; intro b21
          refine ⟨Z.H, ?_⟩
          refine WD.two 17 20 rfl rfl (by kernel_rfl) rfl rfl ?_ ?_
          ·
           refine OpW.call rfl rfl (by repeat (first | exact Evs.nil | apply Evs.cons rfl)) (by kernel_rfl) rfl rfl rfl ?_
           refine says_spec (l := W) (by repeat (first | assumption | exact mS | apply mT)) ?_
           refine ⟨Z.H, ?_⟩
           refine WD.one 20 rfl (by kernel_rfl) rfl ?_
           refine OpW.alloc rfl I36 rfl Z.N rfl rfl ?_; intro b22
           refine ⟨Z.H, ?_⟩
           refine WD.one 21 rfl (by kernel_rfl) rfl ?_
           refine OpW.storeS rfl G36 rfl rfl Z.N Z.T rfl rfl Z.N rfl ?_
           refine ⟨Z.H, ?_⟩
           refine WD.one 22 rfl (by kernel_rfl) rfl ?_
           refine OpW.storeS rfl G36 rfl rfl Z.N Z.T rfl rfl Z.N rfl ?_
           refine ⟨Z.H, ?_⟩
           refine WD.one 23 rfl (by kernel_rfl) rfl ?_
           refine OpW.storeS rfl G36 rfl rfl Z.N Z.T rfl rfl Z.N rfl ?_
           refine ⟨Z.H, ?_⟩
           refine WD.done (by kernel_rfl) ?_
           exact ⟨(b20, b21, b22), trivial, (by repeat (first | exact Sub.nil | refine Sub.cons rfl (by first | rfl | (congr 1; omega) | assumption) ?_)), (fun w h => OwnL.sat (by repeat (first | exact OwnL.refl | apply OwnL.take (by repeat (first | exact Take.head _ | apply Take.tail)) | apply OwnL.drop)) w (h.thin (SubL.mem (by repeat (first | exact SubL.refl | refine SubL.cons (by repeat (first | assumption | exact mS | apply mT)) ?_ | refine SubL.skip ?_)))))⟩
          ·
           refine OpW.alloc rfl I36 rfl Z.N rfl rfl ?_; intro b22
           refine ⟨Z.H, ?_⟩
           refine WD.one 17 rfl (by kernel_rfl) rfl ?_
           refine OpW.call rfl rfl (by repeat (first | exact Evs.nil | apply Evs.cons rfl)) (by kernel_rfl) rfl rfl rfl ?_
           refine says_spec (l := W) (by repeat (first | assumption | exact mS | apply mT)) ?_
           refine ⟨Z.H, ?_⟩
           refine WD.one 21 rfl (by kernel_rfl) rfl ?_
           refine OpW.storeS rfl G36 rfl rfl Z.N Z.T rfl rfl Z.N rfl ?_
           refine ⟨Z.H, ?_⟩
           refine WD.one 22 rfl (by kernel_rfl) rfl ?_
           refine OpW.storeS rfl G36 rfl rfl Z.N Z.T rfl rfl Z.N rfl ?_
           refine ⟨Z.H, ?_⟩
           refine WD.one 23 rfl (by kernel_rfl) rfl ?_
           refine OpW.storeS rfl G36 rfl rfl Z.N Z.T rfl rfl Z.N rfl ?_
           refine ⟨Z.H, ?_⟩
           refine WD.done (by kernel_rfl) ?_
           exact ⟨(b20, b21, b22), trivial, (by repeat (first | exact Sub.nil | refine Sub.cons rfl (by first | rfl | (congr 1; omega) | assumption) ?_)), (fun w h => OwnL.sat (by repeat (first | exact OwnL.refl | apply OwnL.take (by repeat (first | exact Take.head _ | apply Take.tail)) | apply OwnL.drop)) w (h.thin (SubL.mem (by repeat (first | exact SubL.refl | refine SubL.cons (by repeat (first | assumption | exact mS | apply mT)) ?_ | refine SubL.skip ?_)))))⟩
         ·
          refine ⟨_, rfl, rfl, ?_⟩
          refine OpW.alloc rfl I36 rfl Z.N rfl rfl ?_; intro b22
          refine ⟨Z.H, ?_⟩
          refine WD.two 17 19 rfl rfl (by kernel_rfl) rfl rfl ?_ ?_
          ·
           refine OpW.call rfl rfl (by repeat (first | exact Evs.nil | apply Evs.cons rfl)) (by kernel_rfl) rfl rfl rfl ?_
           refine says_spec (l := W) (by repeat (first | assumption | exact mS | apply mT)) ?_
           refine ⟨Z.H, ?_⟩
           refine WD.one 19 rfl (by kernel_rfl) rfl ?_
           refine OpW.alloc rfl I36 rfl Z.N rfl rfl ?_; intro b21
           refine ⟨Z.H, ?_⟩
           refine WD.one 21 rfl (by kernel_rfl) rfl ?_
           refine OpW.storeS rfl G36 rfl rfl Z.N Z.T rfl rfl Z.N rfl ?_
           refine ⟨Z.H, ?_⟩
           refine WD.one 22 rfl (by kernel_rfl) rfl ?_
           refine OpW.storeS rfl G36 rfl rfl Z.N Z.T rfl rfl Z.N rfl ?_
           refine ⟨Z.H, ?_⟩
           refine WD.one 23 rfl (by kernel_rfl) rfl ?_
           refine OpW.storeS rfl G36 rfl rfl Z.N Z.T rfl rfl Z.N rfl ?_
           refine ⟨Z.H, ?_⟩
           refine WD.done (by kernel_rfl) ?_
           exact ⟨(b20, b21, b22), trivial, (by repeat (first | exact Sub.nil | refine Sub.cons rfl (by first | rfl | (congr 1; omega) | assumption) ?_)), (fun w h => OwnL.sat (by repeat (first | exact OwnL.refl | apply OwnL.take (by repeat (first | exact Take.head _ | apply Take.tail)) | apply OwnL.drop)) w (h.thin (SubL.mem (by repeat (first | exact SubL.refl | refine SubL.cons (by repeat (first | assumption | exact mS | apply mT)) ?_ | refine SubL.skip ?_)))))⟩
          ·
           refine OpW.alloc rfl I36 rfl Z.N rfl rfl ?_; intro b21
           refine ⟨Z.H, ?_⟩
           refine WD.one 17 rfl (by kernel_rfl) rfl ?_
           refine OpW.call rfl rfl (by repeat (first | exact Evs.nil | apply Evs.cons rfl)) (by kernel_rfl) rfl rfl rfl ?_
           refine says_spec (l := W) (by repeat (first | assumption | exact mS | apply mT)) ?_
           refine ⟨Z.H, ?_⟩
           refine WD.one 21 rfl (by kernel_rfl) rfl ?_
           refine OpW.storeS rfl G36 rfl rfl Z.N Z.T rfl rfl Z.N rfl ?_
           refine ⟨Z.H, ?_⟩
           refine WD.one 22 rfl (by kernel_rfl) rfl ?_
           refine OpW.storeS rfl G36 rfl rfl Z.N Z.T rfl rfl Z.N rfl ?_
           refine ⟨Z.H, ?_⟩
           refine WD.one 23 rfl (by kernel_rfl) rfl ?_
           refine OpW.storeS rfl G36 rfl rfl Z.N Z.T rfl rfl Z.N rfl ?_
           refine ⟨Z.H, ?_⟩
           refine WD.done (by kernel_rfl) ?_
           exact ⟨(b20, b21, b22), trivial, (by repeat (first | exact Sub.nil | refine Sub.cons rfl (by first | rfl | (congr 1; omega) | assumption) ?_)), (fun w h => OwnL.sat (by repeat (first | exact OwnL.refl | apply OwnL.take (by repeat (first | exact Take.head _ | apply Take.tail)) | apply OwnL.drop)) w (h.thin (SubL.mem (by repeat (first | exact SubL.refl | refine SubL.cons (by repeat (first | assumption | exact mS | apply mT)) ?_ | refine SubL.skip ?_)))))⟩
        ·
         refine ⟨_, rfl, rfl, ?_⟩
         refine OpW.alloc rfl I36 rfl Z.N rfl rfl ?_; intro b21
         refine ⟨Z.H, ?_⟩
         refine WD.two 11 20 rfl rfl (by kernel_rfl) rfl rfl ?_ ?_
         ·
          refine OpW.call rfl rfl (by repeat (first | exact Evs.nil | apply Evs.cons rfl)) (by kernel_rfl) rfl rfl rfl ?_
          refine says_spec (l := V) (by repeat (first | assumption | exact mS | apply mT)) ?_
          refine ⟨Z.H, ?_⟩
          refine WD.two 17 20 rfl rfl (by kernel_rfl) rfl rfl ?_ ?_
          ·
           refine OpW.call rfl rfl (by repeat (first | exact Evs.nil | apply Evs.cons rfl)) (by kernel_rfl) rfl rfl rfl ?_
           refine says_spec (l := W) (by repeat (first | assumption | exact mS | apply mT)) ?_
           refine ⟨Z.H, ?_⟩
           refine WD.one 20 rfl (by kernel_rfl) rfl ?_
           refine OpW.alloc rfl I36 rfl Z.N rfl rfl ?_; intro b22
           refine ⟨Z.H, ?_⟩
           refine WD.one 21 rfl (by kernel_rfl) rfl ?_
           refine OpW.storeS rfl G36 rfl rfl Z.N Z.T rfl rfl Z.N rfl ?_
           refine ⟨Z.H, ?_⟩
           refine WD.one 22 rfl (by kernel_rfl) rfl ?_
           refine OpW.storeS rfl G36 rfl rfl Z.N Z.T rfl rfl Z.N rfl ?_
           refine ⟨Z.H, ?_⟩
           refine WD.one 23 rfl (by kernel_rfl) rfl ?_
           refine OpW.storeS rfl G36 rfl rfl Z.N Z.T rfl rfl Z.N rfl ?_
           refine ⟨Z.H, ?_⟩
           refine WD.done (by kernel_rfl) ?_
           exact ⟨(b20, b21, b22), trivial, (by repeat (first | exact Sub.nil | refine Sub.cons rfl (by first | rfl | (congr 1; omega) | assumption) ?_)), (fun w h => OwnL.sat (by repeat (first | exact OwnL.refl | apply OwnL.take (by repeat (first | exact Take.head _ | apply Take.tail)) | apply OwnL.drop)) w (h.thin (SubL.mem (by repeat (first | exact SubL.refl | refine SubL.cons (by repeat (first | assumption | exact mS | apply mT)) ?_ | refine SubL.skip ?_)))))⟩
          ·
           refine OpW.alloc rfl I36 rfl Z.N rfl rfl ?_; intro b22
           refine ⟨Z.H, ?_⟩
           refine WD.one 17 rfl (by kernel_rfl) rfl ?_
           refine OpW.call rfl rfl (by repeat (first | exact Evs.nil | apply Evs.cons rfl)) (by kernel_rfl) rfl rfl rfl ?_
           refine says_spec (l := W) (by repeat (first | assumption | exact mS | apply mT)) ?_
           refine ⟨Z.H, ?_⟩
           refine WD.one 21 rfl (by kernel_rfl) rfl ?_
           refine OpW.storeS rfl G36 rfl rfl Z.N Z.T rfl rfl Z.N rfl ?_
           refine ⟨Z.H, ?_⟩
           refine WD.one 22 rfl (by kernel_rfl) rfl ?_
           refine OpW.storeS rfl G36 rfl rfl Z.N Z.T rfl rfl Z.N rfl ?_
           refine ⟨Z.H, ?_⟩
           refine WD.one 23 rfl (by kernel_rfl) rfl ?_
           refine OpW.storeS rfl G36 rfl rfl Z.N Z.T rfl rfl Z.N rfl ?_
           refine ⟨Z.H, ?_⟩
           refine WD.done (by kernel_rfl) ?_
           exact ⟨(b20, b21, b22), trivial, (by repeat (first | exact Sub.nil | refine Sub.cons rfl (by first | rfl | (congr 1; omega) | assumption) ?_)), (fun w h => OwnL.sat (by repeat (first | exact OwnL.refl | apply OwnL.take (by repeat (first | exact Take.head _ | apply Take.tail)) | apply OwnL.drop)) w (h.thin (SubL.mem (by repeat (first | exact SubL.refl | refine SubL.cons (by repeat (first | assumption | exact mS | apply mT)) ?_ | refine SubL.skip ?_)))))⟩
         ·
          refine OpW.alloc rfl I36 rfl Z.N rfl rfl ?_; intro b22
          refine ⟨Z.H, ?_⟩
          refine WD.one 11 rfl (by kernel_rfl) rfl ?_
          refine OpW.call rfl rfl (by repeat (first | exact Evs.nil | apply Evs.cons rfl)) (by kernel_rfl) rfl rfl rfl ?_
          refine says_spec (l := V) (by repeat (first | assumption | exact mS | apply mT)) ?_
          refine ⟨Z.H, ?_⟩
          refine WD.one 17 rfl (by kernel_rfl) rfl ?_
          refine OpW.call rfl rfl (by repeat (first | exact Evs.nil | apply Evs.cons rfl)) (by kernel_rfl) rfl rfl rfl ?_
          refine says_spec (l := W) (by repeat (first | assumption | exact mS | apply mT)) ?_
          refine ⟨Z.H, ?_⟩
          refine WD.one 21 rfl (by kernel_rfl) rfl ?_
          refine OpW.storeS rfl G36 rfl rfl Z.N Z.T rfl rfl Z.N rfl ?_
          refine ⟨Z.H, ?_⟩
          refine WD.one 22 rfl (by kernel_rfl) rfl ?_
          refine OpW.storeS rfl G36 rfl rfl Z.N Z.T rfl rfl Z.N rfl ?_
          refine ⟨Z.H, ?_⟩
          refine WD.one 23 rfl (by kernel_rfl) rfl ?_
          refine OpW.storeS rfl G36 rfl rfl Z.N Z.T rfl rfl Z.N rfl ?_
          refine ⟨Z.H, ?_⟩
          refine WD.done (by kernel_rfl) ?_
          exact ⟨(b20, b21, b22), trivial, (by repeat (first | exact Sub.nil | refine Sub.cons rfl (by first | rfl | (congr 1; omega) | assumption) ?_)), (fun w h => OwnL.sat (by repeat (first | exact OwnL.refl | apply OwnL.take (by repeat (first | exact Take.head _ | apply Take.tail)) | apply OwnL.drop)) w (h.thin (SubL.mem (by repeat (first | exact SubL.refl | refine SubL.cons (by repeat (first | assumption | exact mS | apply mT)) ?_ | refine SubL.skip ?_)))))⟩
        ·
         refine ⟨_, rfl, rfl, ?_⟩
         refine OpW.alloc rfl I36 rfl Z.N rfl rfl ?_; intro b22
         refine ⟨Z.H, ?_⟩
         refine WD.two 11 19 rfl rfl (by kernel_rfl) rfl rfl ?_ ?_
         ·
          refine OpW.call rfl rfl (by repeat (first | exact Evs.nil | apply Evs.cons rfl)) (by kernel_rfl) rfl rfl rfl ?_
          refine says_spec (l := V) (by repeat (first | assumption | exact mS | apply mT)) ?_
          refine ⟨Z.H, ?_⟩
          refine WD.two 17 19 rfl rfl (by kernel_rfl) rfl rfl ?_ ?_
          ·
           refine OpW.call rfl rfl (by repeat (first | exact Evs.nil | apply Evs.cons rfl)) (by kernel_rfl) rfl rfl rfl ?_
           refine says_spec (l := W) (by repeat (first | assumption | exact mS | apply mT)) ?_
           refine ⟨Z.H, ?_⟩
           refine WD.one 19 rfl (by kernel_rfl) rfl ?_
           refine OpW.alloc rfl I36 rfl Z.N rfl rfl ?_; intro b21
           refine ⟨Z.H, ?_⟩
           refine WD.one 21 rfl (by kernel_rfl) rfl ?_
           refine OpW.storeS rfl G36 rfl rfl Z.N Z.T rfl rfl Z.N rfl ?_
           refine ⟨Z.H, ?_⟩
           refine WD.one 22 rfl (by kernel_rfl) rfl ?_
           refine OpW.storeS rfl G36 rfl rfl Z.N Z.T rfl rfl Z.N rfl ?_
           refine ⟨Z.H, ?_⟩
           refine WD.one 23 rfl (by kernel_rfl) rfl ?_
           refine OpW.storeS rfl G36 rfl rfl Z.N Z.T rfl rfl Z.N rfl ?_
           refine ⟨Z.H, ?_⟩
           refine WD.done (by kernel_rfl) ?_
           exact ⟨(b20, b21, b22), trivial, (by repeat (first | exact Sub.nil | refine Sub.cons rfl (by first | rfl | (congr 1; omega) | assumption) ?_)), (fun w h => OwnL.sat (by repeat (first | exact OwnL.refl | apply OwnL.take (by repeat (first | exact Take.head _ | apply Take.tail)) | apply OwnL.drop)) w (h.thin (SubL.mem (by repeat (first | exact SubL.refl | refine SubL.cons (by repeat (first | assumption | exact mS | apply mT)) ?_ | refine SubL.skip ?_)))))⟩
          ·
           refine OpW.alloc rfl I36 rfl Z.N rfl rfl ?_; intro b21
           refine ⟨Z.H, ?_⟩
           refine WD.one 17 rfl (by kernel_rfl) rfl ?_
           refine OpW.call rfl rfl (by repeat (first | exact Evs.nil | apply Evs.cons rfl)) (by kernel_rfl) rfl rfl rfl ?_
           refine says_spec (l := W) (by repeat (first | assumption | exact mS | apply mT)) ?_
           refine ⟨Z.H, ?_⟩
           refine WD.one 21 rfl (by kernel_rfl) rfl ?_
           refine OpW.storeS rfl G36 rfl rfl Z.N Z.T rfl rfl Z.N rfl ?_
           refine ⟨Z.H, ?_⟩
           refine WD.one 22 rfl (by kernel_rfl) rfl ?_
           refine OpW.storeS rfl G36 rfl rfl Z.N Z.T rfl rfl Z.N rfl ?_
           refine ⟨Z.H, ?_⟩
           refine WD.one 23 rfl (by kernel_rfl) rfl ?_
           refine OpW.storeS rfl G36 rfl rfl Z.N Z.T rfl rfl Z.N rfl ?_
           refine ⟨Z.H, ?_⟩
           refine WD.done (by kernel_rfl) ?_
           exact ⟨(b20, b21, b22), trivial, (by repeat (first | exact Sub.nil | refine Sub.cons rfl (by first | rfl | (congr 1; omega) | assumption) ?_)), (fun w h => OwnL.sat (by repeat (first | exact OwnL.refl | apply OwnL.take (by repeat (first | exact Take.head _ | apply Take.tail)) | apply OwnL.drop)) w (h.thin (SubL.mem (by repeat (first | exact SubL.refl | refine SubL.cons (by repeat (first | assumption | exact mS | apply mT)) ?_ | refine SubL.skip ?_)))))⟩
         ·
          refine OpW.alloc rfl I36 rfl Z.N rfl rfl ?_; intro b21
          refine ⟨Z.H, ?_⟩
          refine WD.one 11 rfl (by kernel_rfl) rfl ?_
          refine OpW.call rfl rfl (by repeat (first | exact Evs.nil | apply Evs.cons rfl)) (by kernel_rfl) rfl rfl rfl ?_
          refine says_spec (l := V) (by repeat (first | assumption | exact mS | apply mT)) ?_
          refine ⟨Z.H, ?_⟩
          refine WD.one 17 rfl (by kernel_rfl) rfl ?_
          refine OpW.call rfl rfl (by repeat (first | exact Evs.nil | apply Evs.cons rfl)) (by kernel_rfl) rfl rfl rfl ?_
          refine says_spec (l := W) (by repeat (first | assumption | exact mS | apply mT)) ?_
          refine ⟨Z.H, ?_⟩
          refine WD.one 21 rfl (by kernel_rfl) rfl ?_
          refine OpW.storeS rfl G36 rfl rfl Z.N Z.T rfl rfl Z.N rfl ?_
          refine ⟨Z.H, ?_⟩
          refine WD.one 22 rfl (by kernel_rfl) rfl ?_
          refine OpW.storeS rfl G36 rfl rfl Z.N Z.T rfl rfl Z.N rfl ?_
          refine ⟨Z.H, ?_⟩
          refine WD.one 23 rfl (by kernel_rfl) rfl ?_
          refine OpW.storeS rfl G36 rfl rfl Z.N Z.T rfl rfl Z.N rfl ?_
          refine ⟨Z.H, ?_⟩
          refine WD.done (by kernel_rfl) ?_
          exact ⟨(b20, b21, b22), trivial, (by repeat (first | exact Sub.nil | refine Sub.cons rfl (by first | rfl | (congr 1; omega) | assumption) ?_)), (fun w h => OwnL.sat (by repeat (first | exact OwnL.refl | apply OwnL.take (by repeat (first | exact Take.head _ | apply Take.tail)) | apply OwnL.drop)) w (h.thin (SubL.mem (by repeat (first | exact SubL.refl | refine SubL.cons (by repeat (first | assumption | exact mS | apply mT)) ?_ | refine SubL.skip ?_)))))⟩
       ·
        refine ⟨_, rfl, rfl, ?_⟩
        refine OpW.alloc rfl I36 rfl Z.N rfl rfl ?_; intro b21
        refine ⟨Z.H, ?_⟩
        refine WD.two 5 20 rfl rfl (by kernel_rfl) rfl rfl ?_ ?_
        ·
         refine OpW.call rfl rfl (by repeat (first | exact Evs.nil | apply Evs.cons rfl)) (by kernel_rfl) rfl rfl rfl ?_
         refine says_spec (l := U) (by repeat (first | assumption | exact mS | apply mT)) ?_
         refine ⟨Z.H, ?_⟩
         refine WD.two 11 20 rfl rfl (by kernel_rfl) rfl rfl ?_ ?_
         ·
          refine OpW.call rfl rfl (by repeat (first | exact Evs.nil | apply Evs.cons rfl)) (by kernel_rfl) rfl rfl rfl ?_
          refine says_spec (l := V) (by repeat (first | assumption | exact mS | apply mT)) ?_
          refine ⟨Z.H, ?_⟩
          refine WD.two 17 20 rfl rfl (by kernel_rfl) rfl rfl ?_ ?_
          ·
           refine OpW.call rfl rfl (by repeat (first | exact Evs.nil | apply Evs.cons rfl)) (by kernel_rfl) rfl rfl rfl ?_
           refine says_spec (l := W) (by repeat (first | assumption | exact mS | apply mT)) ?_
           refine ⟨Z.H, ?_⟩
           refine WD.one 20 rfl (by kernel_rfl) rfl ?_
           refine OpW.alloc rfl I36 rfl Z.N rfl rfl ?_; intro b22
           refine ⟨Z.H, ?_⟩
           refine WD.one 21 rfl (by kernel_rfl) rfl ?_
           refine OpW.storeS rfl G36 rfl rfl Z.N Z.T rfl rfl Z.N rfl ?_
           refine ⟨Z.H, ?_⟩
           refine WD.one 22 rfl (by kernel_rfl) rfl ?_
           refine OpW.storeS rfl G36 rfl rfl Z.N Z.T rfl rfl Z.N rfl ?_
           refine ⟨Z.H, ?_⟩
           refine WD.one 23 rfl (by kernel_rfl) rfl ?_
           refine OpW.storeS rfl G36 rfl rfl Z.N Z.T rfl rfl Z.N rfl ?_
           refine ⟨Z.H, ?_⟩
           refine WD.done (by kernel_rfl) ?_
           exact ⟨(b20, b21, b22), trivial, (by repeat (first | exact Sub.nil | refine Sub.cons rfl (by first | rfl | (congr 1; omega) | assumption) ?_)), (fun w h => OwnL.sat (by repeat (first | exact OwnL.refl | apply OwnL.take (by repeat (first | exact Take.head _ | apply Take.tail)) | apply OwnL.drop)) w (h.thin (SubL.mem (by repeat (first | exact SubL.refl | refine SubL.cons (by repeat (first | assumption | exact mS | apply mT)) ?_ | refine SubL.skip ?_)))))⟩
          ·
           refine OpW.alloc rfl I36 rfl Z.N rfl rfl ?_; intro b22
           refine ⟨Z.H, ?_⟩
           refine WD.one 17 rfl (by kernel_rfl) rfl ?_
           refine OpW.call rfl rfl (by repeat (first | exact Evs.nil | apply Evs.cons rfl)) (by kernel_rfl) rfl rfl rfl ?_
           refine says_spec (l := W) (by repeat (first | assumption | exact mS | apply mT)) ?_
           refine ⟨Z.H, ?_⟩
           refine WD.one 21 rfl (by kernel_rfl) rfl ?_
           refine OpW.storeS rfl G36 rfl rfl Z.N Z.T rfl rfl Z.N rfl ?_
           refine ⟨Z.H, ?_⟩
           refine WD.one 22 rfl (by kernel_rfl) rfl ?_
           refine OpW.storeS rfl G36 rfl rfl Z.N Z.T rfl rfl Z.N rfl ?_
           refine ⟨Z.H, ?_⟩
           refine WD.one 23 rfl (by kernel_rfl) rfl ?_
           refine OpW.storeS rfl G36 rfl rfl Z.N Z.T rfl rfl Z.N rfl ?_
           refine ⟨Z.H, ?_⟩
           refine WD.done (by kernel_rfl) ?_
           exact ⟨(b20, b21, b22), trivial, (by repeat (first | exact Sub.nil | refine Sub.cons rfl (by first | rfl | (congr 1; omega) | assumption) ?_)), (fun w h => OwnL.sat (by repeat (first | exact OwnL.refl | apply OwnL.take (by repeat (first | exact Take.head _ | apply Take.tail)) | apply OwnL.drop)) w (h.thin (SubL.mem (by repeat (first | exact SubL.refl | refine SubL.cons (by repeat (first | assumption | exact mS | apply mT)) ?_ | refine SubL.skip ?_)))))⟩
         ·
          refine OpW.alloc rfl I36 rfl Z.N rfl rfl ?_; intro b22
          refine ⟨Z.H, ?_⟩
          refine WD.one 11 rfl (by kernel_rfl) rfl ?_
          refine OpW.call rfl rfl (by repeat (first | exact Evs.nil | apply Evs.cons rfl)) (by kernel_rfl) rfl rfl rfl ?_
          refine says_spec (l := V) (by repeat (first | assumption | exact mS | apply mT)) ?_
          refine ⟨Z.H, ?_⟩
          refine WD.one 17 rfl (by kernel_rfl) rfl ?_
          refine OpW.call rfl rfl (by repeat (first | exact Evs.nil | apply Evs.cons rfl)) (by kernel_rfl) rfl rfl rfl ?_
          refine says_spec (l := W) (by repeat (first | assumption | exact mS | apply mT)) ?_
          refine ⟨Z.H, ?_⟩
          refine WD.one 21 rfl (by kernel_rfl) rfl ?_
          refine OpW.storeS rfl G36 rfl rfl Z.N Z.T rfl rfl Z.N rfl ?_
          refine ⟨Z.H, ?_⟩
          refine WD.one 22 rfl (by kernel_rfl) rfl ?_
          refine OpW.storeS rfl G36 rfl rfl Z.N Z.T rfl rfl Z.N rfl ?_
          refine ⟨Z.H, ?_⟩
          refine WD.one 23 rfl (by kernel_rfl) rfl ?_
          refine OpW.storeS rfl G36 rfl rfl Z.N Z.T rfl rfl Z.N rfl ?_
          refine ⟨Z.H, ?_⟩
          refine WD.done (by kernel_rfl) ?_
          exact ⟨(b20, b21, b22), trivial, (by repeat (first | exact Sub.nil | refine Sub.cons rfl (by first | rfl | (congr 1; omega) | assumption) ?_)), (fun w h => OwnL.sat (by repeat (first | exact OwnL.refl | apply OwnL.take (by repeat (first | exact Take.head _ | apply Take.tail)) | apply OwnL.drop)) w (h.thin (SubL.mem (by repeat (first | exact SubL.refl | refine SubL.cons (by repeat (first | assumption | exact mS | apply mT)) ?_ | refine SubL.skip ?_)))))⟩
        ·
         refine OpW.alloc rfl I36 rfl Z.N rfl rfl ?_; intro b22
         refine ⟨Z.H, ?_⟩
         refine WD.one 5 rfl (by kernel_rfl) rfl ?_
         refine OpW.call rfl rfl (by repeat (first | exact Evs.nil | apply Evs.cons rfl)) (by kernel_rfl) rfl rfl rfl ?_
         refine says_spec (l := U) (by repeat (first | assumption | exact mS | apply mT)) ?_
         refine ⟨Z.H, ?_⟩
         refine WD.one 11 rfl (by kernel_rfl) rfl ?_
         refine OpW.call rfl rfl (by repeat (first | exact Evs.nil | apply Evs.cons rfl)) (by kernel_rfl) rfl rfl rfl ?_
         refine says_spec (l := V) (by repeat (first | assumption | exact mS | apply mT)) ?_
         refine ⟨Z.H, ?_⟩
         refine WD.one 17 rfl (by kernel_rfl) rfl ?_
         refine OpW.call rfl rfl (by repeat (first | exact Evs.nil | apply Evs.cons rfl)) (by kernel_rfl) rfl rfl rfl ?_
         refine says_spec (l := W) (by repeat (first | assumption | exact mS | apply mT)) ?_
         refine ⟨Z.H, ?_⟩
         refine WD.one 21 rfl (by kernel_rfl) rfl ?_
         refine OpW.storeS rfl G36 rfl rfl Z.N Z.T rfl rfl Z.N rfl ?_
         refine ⟨Z.H, ?_⟩
         refine WD.one 22 rfl (by kernel_rfl) rfl ?_
         refine OpW.storeS rfl G36 rfl rfl Z.N Z.T rfl rfl Z.N rfl ?_
         refine ⟨Z.H, ?_⟩
         refine WD.one 23 rfl (by kernel_rfl) rfl ?_
         refine OpW.storeS rfl G36 rfl rfl Z.N Z.T rfl rfl Z.N rfl ?_
         refine ⟨Z.H, ?_⟩
         refine WD.done (by kernel_rfl) ?_
         exact ⟨(b20, b21, b22), trivial, (by repeat (first | exact Sub.nil | refine Sub.cons rfl (by first | rfl | (congr 1; omega) | assumption) ?_)), (fun w h => OwnL.sat (by repeat (first | exact OwnL.refl | apply OwnL.take (by repeat (first | exact Take.head _ | apply Take.tail)) | apply OwnL.drop)) w (h.thin (SubL.mem (by repeat (first | exact SubL.refl | refine SubL.cons (by repeat (first | assumption | exact mS | apply mT)) ?_ | refine SubL.skip ?_)))))⟩
       ·
        refine ⟨_, rfl, rfl, ?_⟩
        refine OpW.alloc rfl I36 rfl Z.N rfl rfl ?_; intro b22
        refine ⟨Z.H, ?_⟩
        refine WD.two 5 19 rfl rfl (by kernel_rfl) rfl rfl ?_ ?_
        ·
         refine OpW.call rfl rfl (by repeat (first | exact Evs.nil | apply Evs.cons rfl)) (by kernel_rfl) rfl rfl rfl ?_
         refine says_spec (l := U) (by repeat (first | assumption | exact mS | apply mT)) ?_
         refine ⟨Z.H, ?_⟩
         refine WD.two 11 19 rfl rfl (by kernel_rfl) rfl rfl ?_ ?_
         ·
          refine OpW.call rfl rfl (by repeat (first | exact Evs.nil | apply Evs.cons rfl)) (by kernel_rfl) rfl rfl rfl ?_
          refine says_spec (l := V) (by repeat (first | assumption | exact mS | apply mT)) ?_
          refine ⟨Z.H, ?_⟩
          refine WD.two 17 19 rfl rfl (by kernel_rfl) rfl rfl ?_ ?_
          ·
           refine OpW.call rfl rfl (by repeat (first | exact Evs.nil | apply Evs.cons rfl)) (by kernel_rfl) rfl rfl rfl ?_
           refine says_spec (l := W) (by repeat (first | assumption | exact mS | apply mT)) ?_
           refine ⟨Z.H, ?_⟩
           refine WD.one 19 rfl (by kernel_rfl) rfl ?_
           refine OpW.alloc rfl I36 rfl Z.N rfl rfl ?_; intro b21
           refine ⟨Z.H, ?_⟩
           refine WD.one 21 rfl (by kernel_rfl) rfl ?_
           refine OpW.storeS rfl G36 rfl rfl Z.N Z.T rfl rfl Z.N rfl ?_
           refine ⟨Z.H, ?_⟩
           refine WD.one 22 rfl (by kernel_rfl) rfl ?_
           refine OpW.storeS rfl G36 rfl rfl Z.N Z.T rfl rfl Z.N rfl ?_
           refine ⟨Z.H, ?_⟩
           refine WD.one 23 rfl (by kernel_rfl) rfl ?_
           refine OpW.storeS rfl G36 rfl rfl Z.N Z.T rfl rfl Z.N rfl ?_
           refine ⟨Z.H, ?_⟩
           refine WD.done (by kernel_rfl) ?_
           exact ⟨(b20, b21, b22), trivial, (by repeat (first | exact Sub.nil | refine Sub.cons rfl (by first | rfl | (congr 1; omega) | assumption) ?_)), (fun w h => OwnL.sat (by repeat (first | exact OwnL.refl | apply OwnL.take (by repeat (first | exact Take.head _ | apply Take.tail)) | apply OwnL.drop)) w (h.thin (SubL.mem (by repeat (first | exact SubL.refl | refine SubL.cons (by repeat (first | assumption | exact mS | apply mT)) ?_ | refine SubL.skip ?_)))))⟩
          ·
           refine OpW.alloc rfl I36 rfl Z.N rfl rfl ?_; intro b21
           refine ⟨Z.H, ?_⟩
           refine WD.one 17 rfl (by kernel_rfl) rfl ?_
           refine OpW.call rfl rfl (by repeat (first | exact Evs.nil | apply Evs.cons rfl)) (by kernel_rfl) rfl rfl rfl ?_
           refine says_spec (l := W) (by repeat (first | assumption | exact mS | apply mT)) ?_
           refine ⟨Z.H, ?_⟩
           refine WD.one 21 rfl (by kernel_rfl) rfl ?_
           refine OpW.storeS rfl G36 rfl rfl Z.N Z.T rfl rfl Z.N rfl ?_
           refine ⟨Z.H, ?_⟩
           refine WD.one 22 rfl (by kernel_rfl) rfl ?_
           refine OpW.storeS rfl G36 rfl rfl Z.N Z.T rfl rfl Z.N rfl ?_
           refine ⟨Z.H, ?_⟩
           refine WD.one 23 rfl (by kernel_rfl) rfl ?_
           refine OpW.storeS rfl G36 rfl rfl Z.N Z.T rfl rfl Z.N rfl ?_
           refine ⟨Z.H, ?_⟩
           refine WD.done (by kernel_rfl) ?_
           exact ⟨(b20, b21, b22), trivial, (by repeat (first | exact Sub.nil | refine Sub.cons rfl (by first | rfl | (congr 1; omega) | assumption) ?_)), (fun w h => OwnL.sat (by repeat (first | exact OwnL.refl | apply OwnL.take (by repeat (first | exact Take.head _ | apply Take.tail)) | apply OwnL.drop)) w (h.thin (SubL.mem (by repeat (first | exact SubL.refl | refine SubL.cons (by repeat (first | assumption | exact mS | apply mT)) ?_ | refine SubL.skip ?_)))))⟩
         ·
          refine OpW.alloc rfl I36 rfl Z.N rfl rfl ?_; intro b21
          refine ⟨Z.H, ?_⟩
          refine WD.one 11 rfl (by kernel_rfl) rfl ?_
          refine OpW.call rfl rfl (by repeat (first | exact Evs.nil | apply Evs.cons rfl)) (by kernel_rfl) rfl rfl rfl ?_
          refine says_spec (l := V) (by repeat (first | assumption | exact mS | apply mT)) ?_
          refine ⟨Z.H, ?_⟩
          refine WD.one 17 rfl (by kernel_rfl) rfl ?_
          refine OpW.call rfl rfl (by repeat (first | exact Evs.nil | apply Evs.cons rfl)) (by kernel_rfl) rfl rfl rfl ?_
          refine says_spec (l := W) (by repeat (first | assumption | exact mS | apply mT)) ?_
          refine ⟨Z.H, ?_⟩
          refine WD.one 21 rfl (by kernel_rfl) rfl ?_
          refine OpW.storeS rfl G36 rfl rfl Z.N Z.T rfl rfl Z.N rfl ?_
          refine ⟨Z.H, ?_⟩
          refine WD.one 22 rfl (by kernel_rfl) rfl ?_
          refine OpW.storeS rfl G36 rfl rfl Z.N Z.T rfl rfl Z.N rfl ?_
          refine ⟨Z.H, ?_⟩
          refine WD.one 23 rfl (by kernel_rfl) rfl ?_
          refine OpW.storeS rfl G36 rfl rfl Z.N Z.T rfl rfl Z.N rfl ?_
          refine ⟨Z.H, ?_⟩
          refine WD.done (by kernel_rfl) ?_
          exact ⟨(b20, b21, b22), trivial, (by repeat (first | exact Sub.nil | refine Sub.cons rfl (by first | rfl | (congr 1; omega) | assumption) ?_)), (fun w h => OwnL.sat (by repeat (first | exact OwnL.refl | apply OwnL.take (by repeat (first | exact Take.head _ | apply Take.tail)) | apply OwnL.drop)) w (h.thin (SubL.mem (by repeat (first | exact SubL.refl | refine SubL.cons (by repeat (first | assumption | exact mS | apply mT)) ?_ | refine SubL.skip ?_)))))⟩
        ·
         refine OpW.alloc rfl I36 rfl Z.N rfl rfl ?_; intro b21
         refine ⟨Z.H, ?_⟩
         refine WD.one 5 rfl (by kernel_rfl) rfl ?_
         refine OpW.call rfl rfl (by repeat (first | exact Evs.nil | apply Evs.cons rfl)) (by kernel_rfl) rfl rfl rfl ?_
         refine says_spec (l := U) (by repeat (first | assumption | exact mS | apply mT)) ?_
         refine ⟨Z.H, ?_⟩
         refine WD.one 11 rfl (by kernel_rfl) rfl ?_
         refine OpW.call rfl rfl (by repeat (first | exact Evs.nil | apply Evs.cons rfl)) (by kernel_rfl) rfl rfl rfl ?_
         refine says_spec (l := V) (by repeat (first | assumption | exact mS | apply mT)) ?_
         refine ⟨Z.H, ?_⟩
         refine WD.one 17 rfl (by kernel_rfl) rfl ?_
         refine OpW.call rfl rfl (by repeat (first | exact Evs.nil | apply Evs.cons rfl)) (by kernel_rfl) rfl rfl rfl ?_
         refine says_spec (l := W) (by repeat (first | assumption | exact mS | apply mT)) ?_
         refine ⟨Z.H, ?_⟩
         refine WD.one 21 rfl (by kernel_rfl) rfl ?_
         refine OpW.storeS rfl G36 rfl rfl Z.N Z.T rfl rfl Z.N rfl ?_
         refine ⟨Z.H, ?_⟩
         refine WD.one 22 rfl (by kernel_rfl) rfl ?_
         refine OpW.storeS rfl G36 rfl rfl Z.N Z.T rfl rfl Z.N rfl ?_
         refine ⟨Z.H, ?_⟩
         refine WD.one 23 rfl (by kernel_rfl) rfl ?_
         refine OpW.storeS rfl G36 rfl rfl Z.N Z.T rfl rfl Z.N rfl ?_
         refine ⟨Z.H, ?_⟩
         refine WD.done (by kernel_rfl) ?_
         exact ⟨(b20, b21, b22), trivial, (by repeat (first | exact Sub.nil | refine Sub.cons rfl (by first | rfl | (congr 1; omega) | assumption) ?_)), (fun w h => OwnL.sat (by repeat (first | exact OwnL.refl | apply OwnL.take (by repeat (first | exact Take.head _ | apply Take.tail)) | apply OwnL.drop)) w (h.thin (SubL.mem (by repeat (first | exact SubL.refl | refine SubL.cons (by repeat (first | assumption | exact mS | apply mT)) ?_ | refine SubL.skip ?_)))))⟩
      ·
       refine ⟨_, rfl, rfl, ?_⟩
       refine OpW.alloc rfl I36 rfl Z.N rfl rfl ?_; intro b21
       refine ⟨Z.H, ?_⟩
       refine WD.some [5, 18, 20] (by kernel_rfl) (by simp) ?_
       intro i hi; simp only [List.mem_cons, List.not_mem_nil, or_false] at hi; rcases hi with rfl | rfl | rfl
       ·
        refine ⟨_, rfl, rfl, ?_⟩
        refine OpW.call rfl rfl (by repeat (first | exact Evs.nil | apply Evs.cons rfl)) (by kernel_rfl) rfl rfl rfl ?_
        refine says_spec (l := U) (by repeat (first | assumption | exact mS | apply mT)) ?_
        refine ⟨Z.H, ?_⟩
        refine WD.some [11, 18, 20] (by kernel_rfl) (by simp) ?_
        intro i hi; simp only [List.mem_cons, List.not_mem_nil, or_false] at hi; rcases hi with rfl | rfl | rfl
        ·
         refine ⟨_, rfl, rfl, ?_⟩
         refine OpW.call rfl rfl (by repeat (first | exact Evs.nil | apply Evs.cons rfl)) (by kernel_rfl) rfl rfl rfl ?_
         refine says_spec (l := V) (by repeat (first | assumption | exact mS | apply mT)) ?_
         refine ⟨Z.H, ?_⟩
         refine WD.some [17, 18, 20] (by kernel_rfl) (by simp) ?_
         intro i hi; simp only [List.mem_cons, List.not_mem_nil, or_false] at hi; rcases hi with rfl | rfl | rfl
         ·
          refine ⟨_, rfl, rfl, ?_⟩
          refine OpW.call rfl rfl (by repeat (first | exact Evs.nil | apply Evs.cons rfl)) (by kernel_rfl) rfl rfl rfl ?_
          refine says_spec (l := W) (by repeat (first | assumption | exact mS | apply mT)) ?_
          refine ⟨Z.H, ?_⟩
          refine WD.two 18 20 rfl rfl (by kernel_rfl) rfl rfl ?_ ?_
          ·
           refine OpW.alloc rfl I36 rfl Z.N rfl rfl ?_; intro b20
           refine ⟨Z.H, ?_⟩
           refine WD.one 20 rfl (by kernel_rfl) rfl ?_
           refine OpW.alloc rfl I36 rfl Z.N rfl rfl ?_; intro b22
           refine ⟨Z.H, ?_⟩
           refine WD.one 21 rfl (by kernel_rfl) rfl ?_
           refine OpW.storeS rfl G36 rfl rfl Z.N Z.T rfl rfl Z.N rfl ?_
           refine ⟨Z.H, ?_⟩
           refine WD.one 22 rfl (by kernel_rfl) rfl ?_
           refine OpW.storeS rfl G36 rfl rfl Z.N Z.T rfl rfl Z.N rfl ?_
           refine ⟨Z.H, ?_⟩
           refine WD.one 23 rfl (by kernel_rfl) rfl ?_
           refine OpW.storeS rfl G36 rfl rfl Z.N Z.T rfl rfl Z.N rfl ?_
           refine ⟨Z.H, ?_⟩
           refine WD.done (by kernel_rfl) ?_
           exact ⟨(b20, b21, b22), trivial, (by repeat (first | exact Sub.nil | refine Sub.cons rfl (by first | rfl | (congr 1; omega) | assumption) ?_)), (fun w h => OwnL.sat (by repeat (first | exact OwnL.refl | apply OwnL.take (by repeat (first | exact Take.head _ | apply Take.tail)) | apply OwnL.drop)) w (h.thin (SubL.mem (by repeat (first | exact SubL.refl | refine SubL.cons (by repeat (first | assumption | exact mS | apply mT)) ?_ | refine SubL.skip ?_)))))⟩
          ·
           refine OpW.alloc rfl I36 rfl Z.N rfl rfl ?_; intro b22
           refine ⟨Z.H, ?_⟩
           refine WD.one 18 rfl (by kernel_rfl) rfl ?_
           refine OpW.alloc rfl I36 rfl Z.N rfl rfl ?_; intro b20
           refine ⟨Z.H, ?_⟩
           refine WD.one 21 rfl (by kernel_rfl) rfl ?_
           refine OpW.storeS rfl G36 rfl rfl Z.N Z.T rfl rfl Z.N rfl ?_
           refine ⟨Z.H, ?_⟩
           refine WD.one 22 rfl (by kernel_rfl) rfl ?_
           refine OpW.storeS rfl G36 rfl rfl Z.N Z.T rfl rfl Z.N rfl ?_
           refine ⟨Z.H, ?_⟩
           refine WD.one 23 rfl (by kernel_rfl) rfl ?_
           refine OpW.storeS rfl G36 rfl rfl Z.N Z.T rfl rfl Z.N rfl ?_
           refine ⟨Z.H, ?_⟩
           refine WD.done (by kernel_rfl) ?_
           exact ⟨(b20, b21, b22), trivial, (by repeat (first | exact Sub.nil | refine Sub.cons rfl (by first | rfl | (congr 1; omega) | assumption) ?_)), (fun w h => OwnL.sat (by repeat (first | exact OwnL.refl | apply OwnL.take (by repeat (first | exact Take.head _ | apply Take.tail)) | apply OwnL.drop)) w (h.thin (SubL.mem (by repeat (first | exact SubL.refl | refine SubL.cons (by repeat (first | assumption | exact mS | apply mT)) ?_ | refine SubL.skip ?_)))))⟩
         ·
          refine ⟨_, rfl, rfl, ?_⟩
          refine OpW.alloc rfl I36 rfl Z.N rfl rfl ?_; intro b20
          refine ⟨Z.H, ?_⟩
          refine WD.two 17 20 rfl rfl (by kernel_rfl) rfl rfl ?_ ?_
          ·
           refine OpW.call rfl rfl (by repeat (first | exact Evs.nil | apply Evs.cons rfl)) (by kernel_rfl) rfl rfl rfl ?_
           refine says_spec (l := W) (by repeat (first | assumption | exact mS | apply mT)) ?_
           refine ⟨Z.H, ?_⟩
           refine WD.one 20 rfl (by kernel_rfl) rfl ?_
           refine OpW.alloc rfl I36 rfl Z.N rfl rfl ?_; intro b22
           refine ⟨Z.H, ?_⟩
           refine WD.one 21 rfl (by kernel_rfl) rfl ?_
           refine OpW.storeS rfl G36 rfl rfl Z.N Z.T rfl rfl Z.N rfl ?_
           refine ⟨Z.H, ?_⟩
           refine WD.one 22 rfl (by kernel_rfl) rfl ?_
           refine OpW.storeS rfl G36 rfl rfl Z.N Z.T rfl rfl Z.N rfl ?_
           refine ⟨Z.H, ?_⟩
           refine WD.one 23 rfl (by kernel_rfl) rfl ?_
           refine OpW.storeS rfl G36 rfl rfl Z.N Z.T rfl rfl Z.N rfl ?_
           refine ⟨Z.H, ?_⟩
           refine WD.done (by kernel_rfl) ?_
           exact ⟨(b20, b21, b22), trivial, (by repeat (first | exact Sub.nil | refine Sub.cons rfl (by first | rfl | (congr 1; omega) | assumption) ?_)), (fun w h => OwnL.sat (by repeat (first | exact OwnL.refl | apply OwnL.take (by repeat (first | exact Take.head _ | apply Take.tail)) | apply OwnL.drop)) w (h.thin (SubL.mem (by repeat (first | exact SubL.refl | refine SubL.cons (by repeat (first | assumption | exact mS | apply mT)) ?_ | refine SubL.skip ?_)))))⟩
          ·
           refine OpW.alloc rfl I36 rfl Z.N rfl rfl ?_; intro b22
           refine ⟨Z.H, ?_⟩
           refine WD.one 17 rfl (by kernel_rfl) rfl ?_
           refine OpW.call rfl rfl (by repeat (first | exact Evs.nil | apply Evs.cons rfl)) (by kernel_rfl) rfl rfl rfl ?_
           refine says_spec (l := W) (by repeat (first | assumption | exact mS | apply mT)) ?_
           refine ⟨Z.H, ?_⟩
           refine WD.one 21 rfl (by kernel_rfl) rfl ?_
           refine OpW.storeS rfl G36 rfl rfl Z.N Z.T rfl rfl Z.N rfl ?_
           refine ⟨Z.H, ?_⟩
           refine WD.one 22 rfl (by kernel_rfl) rfl ?_
           refine OpW.storeS rfl G36 rfl rfl Z.N Z.T rfl rfl Z.N rfl ?_
           refine ⟨Z.H, ?_⟩
           refine WD.one 23 rfl (by kernel_rfl) rfl ?_
           refine OpW.storeS rfl G36 rfl rfl Z.N Z.T rfl rfl Z.N rfl ?_
           refine ⟨Z.H, ?_⟩
           refine WD.done (by kernel_rfl) ?_
           exact ⟨(b20, b21, b22), trivial, (by repeat (first | exact Sub.nil | refine Sub.cons rfl (by first | rfl | (congr 1; omega) | assumption) ?_)), (fun w h => OwnL.sat (by repeat (first | exact OwnL.refl | apply OwnL.take (by repeat (first | exact Take.head _ | apply Take.tail)) | apply OwnL.drop)) w (h.thin (SubL.mem (by repeat (first | exact SubL.refl | refine SubL.cons (by repeat (first | assumption | exact mS | apply mT)) ?_ | refine SubL.skip ?_)))))⟩
         ·
          refine ⟨_, rfl, rfl, ?_⟩
          refine OpW.alloc rfl I36 rfl Z.N rfl rfl ?_; intro b22
          refine ⟨Z.H, ?_⟩
          refine WD.two 17 18 rfl rfl (by kernel_rfl) rfl rfl ?_ ?_
          ·
           refine OpW.call rfl rfl (by repeat (first | exact Evs.nil | apply Evs.cons rfl)) (by kernel_rfl) rfl rfl rfl ?_
           refine says_spec (l := W) (by repeat (first | assumption | exact mS | apply mT)) ?_
           refine ⟨Z.H, ?_⟩
           refine WD.one 18 rfl (by kernel_rfl) rfl ?_
           refine OpW.alloc rfl I36 rfl Z.N rfl rfl ?_; intro b20
           refine ⟨Z.H, ?_⟩
           refine WD.one 21 rfl (by kernel_rfl) rfl ?_
           refine OpW.storeS rfl G36 rfl rfl Z.N Z.T rfl rfl Z.N rfl ?_
           refine ⟨Z.H, ?_⟩
           refine WD.one 22 rfl (by kernel_rfl) rfl ?_
           refine OpW.storeS rfl G36 rfl rfl Z.N Z.T rfl rfl Z.N rfl ?_
           refine ⟨Z.H, ?_⟩
           refine WD.one 23 rfl (by kernel_rfl) rfl ?_
           refine OpW.storeS rfl G36 rfl rfl Z.N Z.T rfl rfl Z.N rfl ?_
           refine ⟨Z.H, ?_⟩
           refine WD.done (by kernel_rfl) ?_
           exact ⟨(b20, b21, b22), trivial, (by repeat (first | exact Sub.nil | refine Sub.cons rfl (by first | rfl | (congr 1; omega) | assumption) ?_)), (fun w h => OwnL.sat (by repeat (first | exact OwnL.refl | apply OwnL.take (by repeat (first | exact Take.head _ | apply Take.tail)) | apply OwnL.drop)) w (h.thin (SubL.mem (by repeat (first | exact SubL.refl | refine SubL.cons (by repeat (first | assumption | exact mS | apply mT)) ?_ | refine SubL.skip ?_)))))⟩
          ·
           refine OpW.alloc rfl I36 rfl Z.N rfl rfl ?_; intro b20
           refine ⟨Z.H, ?_⟩
           refine WD.one 17 rfl (by kernel_rfl) rfl ?_
           refine OpW.call rfl rfl (by repeat (first | exact Evs.nil | apply Evs.cons rfl)) (by kernel_rfl) rfl rfl rfl ?_
           refine says_spec (l := W) (by repeat (first | assumption | exact mS | apply mT)) ?_
           refine ⟨Z.H, ?_⟩
           refine WD.one 21 rfl (by kernel_rfl) rfl ?_
           refine OpW.storeS rfl G36 rfl rfl Z.N Z.T rfl rfl Z.N rfl ?_
           refine ⟨Z.H, ?_⟩
           refine WD.one 22 rfl (by kernel_rfl) rfl ?_
           refine OpW.storeS rfl G36 rfl rfl Z.N Z.T rfl rfl Z.N rfl ?_
           refine ⟨Z.H, ?_⟩
           refine WD.one 23 rfl (by kernel_rfl) rfl ?_
           refine OpW.storeS rfl G36 rfl rfl Z.N Z.T rfl rfl Z.N rfl ?_
           refine ⟨Z.H, ?_⟩
           refine WD.done (by kernel_rfl) ?_
           exact ⟨(b20, b21, b22), trivial, (by repeat (first | exact Sub.nil | refine Sub.cons rfl (by first | rfl | (congr 1; omega) | assumption) ?_)), (fun w h => OwnL.sat (by repeat (first | exact OwnL.refl | apply OwnL.take (by repeat (first | exact Take.head _ | apply Take.tail)) | apply OwnL.drop)) w (h.thin (SubL.mem (by repeat (first | exact SubL.refl | refine SubL.cons (by repeat (first | assumption | exact mS | apply mT)) ?_ | refine SubL.skip ?_)))))⟩
        ·
         refine ⟨_, rfl, rfl, ?_⟩
         refine OpW.alloc rfl I36 rfl Z.N rfl rfl ?_; intro b20
         refine ⟨Z.H, ?_⟩
         refine WD.two 11 20 rfl rfl (by kernel_rfl) rfl rfl ?_ ?_
         ·
          refine OpW.call rfl rfl (by repeat (first | exact Evs.nil | apply Evs.cons rfl)) (by kernel_rfl) rfl rfl rfl ?_
          refine says_spec (l := V) (by repeat (first | assumption | exact mS | apply mT)) ?_
          refine ⟨Z.H, ?_⟩
          refine WD.two 17 20 rfl rfl (by kernel_rfl) rfl rfl ?_ ?_
          ·
           refine OpW.call rfl rfl (by repeat (first | exact Evs.nil | apply Evs.cons rfl)) (by kernel_rfl) rfl rfl rfl ?_
           refine says_spec (l := W) (by repeat (first | assumption | exact mS | apply mT)) ?_
           refine ⟨Z.H, ?_⟩
           refine WD.one 20 rfl (by kernel_rfl) rfl ?_
           refine OpW.alloc rfl I36 rfl Z.N rfl rfl ?_; intro b22
           refine ⟨Z.H, ?_⟩
           refine WD.one 21 rfl (by kernel_rfl) rfl ?_
           refine OpW.storeS rfl G36 rfl rfl Z.N Z.T rfl rfl Z.N rfl ?_
           refine ⟨Z.H, ?_⟩
           refine WD.one 22 rfl (by kernel_rfl) rfl ?_
           refine OpW.storeS rfl G36 rfl rfl Z.N Z.T rfl rfl Z.N rfl ?_
           refine ⟨Z.H, ?_⟩
           refine WD.one 23 rfl (by kernel_rfl) rfl ?_
           refine OpW.storeS rfl G36 rfl rfl Z.N Z.T rfl rfl Z.N rfl ?_
           refine ⟨Z.H, ?_⟩
           refine WD.done (by kernel_rfl) ?_
           exact ⟨(b20, b21, b22), trivial, (by repeat (first | exact Sub.nil | refine Sub.cons rfl (by first | rfl | (congr 1; omega) | assumption) ?_)), (fun w h => OwnL.sat (by repeat (first | exact OwnL.refl | apply OwnL.take (by repeat (first | exact Take.head _ | apply Take.tail)) | apply OwnL.drop)) w (h.thin (SubL.mem (by repeat (first | exact SubL.refl | refine SubL.cons (by repeat (first | assumption | exact mS | apply mT)) ?_ | refine SubL.skip ?_)))))⟩
          ·
           refine OpW.alloc rfl I36 rfl Z.N rfl rfl ?_; intro b22
           refine ⟨Z.H, ?_⟩
           refine WD.one 17 rfl (by kernel_rfl) rfl ?_
           refine OpW.call rfl rfl (by repeat (first | exact Evs.nil | apply Evs.cons rfl)) (by kernel_rfl) rfl rfl rfl ?_
           refine says_spec (l := W) (by repeat (first | assumption | exact mS | apply mT)) ?_
           refine ⟨Z.H, ?_⟩
           refine WD.one 21 rfl (by kernel_rfl) rfl ?_
           refine OpW.storeS rfl G36 rfl rfl Z.N Z.T rfl rfl Z.N rfl ?_
           refine ⟨Z.H, ?_⟩
           refine WD.one 22 rfl (by kernel_rfl) rfl ?_
           refine OpW.storeS rfl G36 rfl rfl Z.N Z.T rfl rfl Z.N rfl ?_
           refine ⟨Z.H, ?_⟩
           refine WD.one 23 rfl (by kernel_rfl) rfl ?_
           refine OpW.storeS rfl G36 rfl rfl Z.N Z.T rfl rfl Z.N rfl ?_
           refine ⟨Z.H, ?_⟩
           refine WD.done (by kernel_rfl) ?_
           exact ⟨(b20, b21, b22), trivial, (by repeat (first | exact Sub.nil | refine Sub.cons rfl (by first | rfl | (congr 1; omega) | assumption) ?_)), (fun w h => OwnL.sat (by repeat (first | exact OwnL.refl | apply OwnL.take (by repeat (first | exact Take.head _ | apply Take.tail)) | apply OwnL.drop)) w (h.thin (SubL.mem (by repeat (first | exact SubL.refl | refine SubL.cons (by repeat (first | assumption | exact mS | apply mT)) ?_ | refine SubL.skip ?_)))))⟩
         ·
          refine OpW.alloc rfl I36 rfl Z.N rfl rfl ?_; intro b22
          refine ⟨Z.H, ?_⟩
          refine WD.one 11 rfl (by kernel_rfl) rfl ?_
          refine OpW.call rfl rfl (by repeat (first | exact Evs.nil | apply Evs.cons rfl)) (by kernel_rfl) rfl rfl rfl ?_
          refine says_spec (l := V) (by repeat (first | assumption | exact mS | apply mT)) ?_
          refine ⟨Z.H, ?_⟩
          refine WD.one 17 rfl (by kernel_rfl) rfl ?_
          refine OpW.call rfl rfl (by repeat (first | exact Evs.nil | apply Evs.cons rfl)) (by kernel_rfl) rfl rfl rfl ?_
          refine says_spec (l := W) (by repeat (first | assumption | exact mS | apply mT)) ?_
          refine ⟨Z.H, ?_⟩
          refine WD.one 21 rfl (by kernel_rfl) rfl ?_
          refine OpW.storeS rfl G36 rfl rfl Z.N Z.T rfl rfl Z.N rfl ?_
          refine ⟨Z.H, ?_⟩
          refine WD.one 22 rfl (by kernel_rfl) rfl ?_
          refine OpW.storeS rfl G36 rfl rfl Z.N Z.T rfl rfl Z.N rfl ?_
          refine ⟨Z.H, ?_⟩
          refine WD.one 23 rfl (by kernel_rfl) rfl ?_
          refine OpW.storeS rfl G36 rfl rfl Z.N Z.T rfl rfl Z.N rfl ?_
          refine ⟨Z.H, ?_⟩
          refine WD.done (by kernel_rfl) ?_
          exact ⟨(b20, b21, b22), trivial, (by repeat (first | exact Sub.nil | refine Sub.cons rfl (by first | rfl | (congr 1; omega) | assumption) ?_)), (fun w h => OwnL.sat (by repeat (first | exact OwnL.refl | apply OwnL.take (by repeat (first | exact Take.head _ | apply Take.tail)) | apply OwnL.drop)) w (h.thin (SubL.mem (by repeat (first | exact SubL.refl | refine SubL.cons (by repeat (first | assumption | exact mS | apply mT)) ?_ | refine SubL.skip ?_)))))⟩
        ·
         refine ⟨_, rfl, rfl, ?_⟩
         refine OpW.alloc rfl I36 rfl Z.N rfl rfl ?_; intro b22
         refine ⟨Z.H, ?_⟩
         refine WD.two 11 18 rfl rfl (by kernel_rfl) rfl rfl ?_ ?_
         ·
          refine OpW.call rfl rfl (by repeat (first | exact Evs.nil | apply Evs.cons rfl)) (by kernel_rfl) rfl rfl rfl ?_
          refine says_spec (l := V) (by repeat (first | assumption | exact mS | apply mT)) ?_
          refine ⟨Z.H, ?_⟩
          refine WD.two 17 18 rfl rfl (by kernel_rfl) rfl rfl ?_ ?_
          ·
           refine OpW.call rfl rfl (by repeat (first | exact Evs.nil | apply Evs.cons rfl)) (by kernel_rfl) rfl rfl rfl ?_
           refine says_spec (l := W) (by repeat (first | assumption | exact mS | apply mT)) ?_
           refine ⟨Z.H, ?_⟩
           refine WD.one 18 rfl (by kernel_rfl) rfl ?_
           refine OpW.alloc rfl I36 rfl Z.N rfl rfl ?_; intro b20
           refine ⟨Z.H, ?_⟩
           refine WD.one 21 rfl (by kernel_rfl) rfl ?_
           refine OpW.storeS rfl G36 rfl rfl Z.N Z.T rfl rfl Z.N rfl ?_
           refine ⟨Z.H, ?_⟩
           refine WD.one 22 rfl (by kernel_rfl) rfl ?_
           refine OpW.storeS rfl G36 rfl rfl Z.N Z.T rfl rfl Z.N rfl ?_
           refine ⟨Z.H, ?_⟩
           refine WD.one 23 rfl (by kernel_rfl) rfl ?_
           refine OpW.storeS rfl G36 rfl rfl Z.N Z.T rfl rfl Z.N rfl ?_
           refine ⟨Z.H, ?_⟩
           refine WD.done (by kernel_rfl) ?_
           exact ⟨(b20, b21, b22), trivial, (by repeat (first | exact Sub.nil | refine Sub.cons rfl (by first | rfl | (congr 1; omega) | assumption) ?_)), (fun w h => OwnL.sat (by repeat (first | exact OwnL.refl | apply OwnL.take (by repeat (first | exact Take.head _ | apply Take.tail)) | apply OwnL.drop)) w (h.thin (SubL.mem (by repeat (first | exact SubL.refl | refine SubL.cons (by repeat (first | assumption | exact mS | apply mT)) ?_ | refine SubL.skip ?_)))))⟩
          ·
           refine OpW.alloc rfl I36 rfl Z.N rfl rfl ?_; intro b20
           refine ⟨Z.H, ?_⟩
           refine WD.one 17 rfl (by kernel_rfl) rfl ?_
           refine OpW.call rfl rfl (by repeat (first | exact Evs.nil | apply Evs.cons rfl)) (by kernel_rfl) rfl rfl rfl ?_
           refine says_spec (l := W) (by repeat (first | assumption | exact mS | apply mT)) ?_
           refine ⟨Z.H, ?_⟩
           refine WD.one 21 rfl (by kernel_rfl) rfl ?_
           refine OpW.storeS rfl G36 rfl rfl Z.N Z.T rfl rfl Z.N rfl ?_
           refine ⟨Z.H, ?_⟩
           refine WD.one 22 rfl (by kernel_rfl) rfl ?_
           refine OpW.storeS rfl G36 rfl rfl Z.N Z.T rfl rfl Z.N rfl ?_
           refine ⟨Z.H, ?_⟩
           refine WD.one 23 rfl (by kernel_rfl) rfl ?_
           refine OpW.storeS rfl G36 rfl rfl Z.N Z.T rfl rfl Z.N rfl ?_
           refine ⟨Z.H, ?_⟩
           refine WD.done (by kernel_rfl) ?_
           exact ⟨(b20, b21, b22), trivial, (by repeat (first | exact Sub.nil | refine Sub.cons rfl (by first | rfl | (congr 1; omega) | assumption) ?_)), (fun w h => OwnL.sat (by repeat (first | exact OwnL.refl | apply OwnL.take (by repeat (first | exact Take.head _ | apply Take.tail)) | apply OwnL.drop)) w (h.thin (SubL.mem (by repeat (first | exact SubL.refl | refine SubL.cons (by repeat (first | assumption | exact mS | apply mT)) ?_ | refine SubL.skip ?_)))))⟩
         ·
          refine OpW.alloc rfl I36 rfl Z.N rfl rfl ?_; intro b20
          refine ⟨Z.H, ?_⟩
          refine WD.one 11 rfl (by kernel_rfl) rfl ?_
          refine OpW.call rfl rfl (by repeat (first | exact Evs.nil | apply Evs.cons rfl)) (by kernel_rfl) rfl rfl rfl ?_
          refine says_spec (l := V) (by repeat (first | assumption | exact mS | apply mT)) ?_
          refine ⟨Z.H, ?_⟩
          refine WD.one 17 rfl (by kernel_rfl) rfl ?_
          refine OpW.call rfl rfl (by repeat (first | exact Evs.nil | apply Evs.cons rfl)) (by kernel_rfl) rfl rfl rfl ?_
          refine says_spec (l := W) (by repeat (first | assumption | exact mS | apply mT)) ?_
          refine ⟨Z.H, ?_⟩
          refine WD.one 21 rfl (by kernel_rfl) rfl ?_
          refine OpW.storeS rfl G36 rfl rfl Z.N Z.T rfl rfl Z.N rfl ?_
          refine ⟨Z.H, ?_⟩
          refine WD.one 22 rfl (by kernel_rfl) rfl ?_
          refine OpW.storeS rfl G36 rfl rfl Z.N Z.T rfl rfl Z.N rfl ?_
          refine ⟨Z.H, ?_⟩
          refine WD.one 23 rfl (by kernel_rfl) rfl ?_
          refine OpW.storeS rfl G36 rfl rfl Z.N Z.T rfl rfl Z.N rfl ?_
          refine ⟨Z.H, ?_⟩
          refine WD.done (by kernel_rfl) ?_
          exact ⟨(b20, b21, b22), trivial, (by repeat (first | exact Sub.nil | refine Sub.cons rfl (by first | rfl | (congr 1; omega) | assumption) ?_)), (fun w h => OwnL.sat (by repeat (first | exact OwnL.refl | apply OwnL.take (by repeat (first | exact Take.head _ | apply Take.tail)) | apply OwnL.drop)) w (h.thin (SubL.mem (by repeat (first | exact SubL.refl | refine SubL.cons (by repeat (first | assumption | exact mS | apply mT)) ?_ | refine SubL.skip ?_)))))⟩
       ·
        refine ⟨_, rfl, rfl, ?_⟩
        refine OpW.alloc rfl I36 rfl Z.N rfl rfl ?_; intro b20
        refine ⟨Z.H, ?_⟩
        refine WD.two 5 20 rfl rfl (by kernel_rfl) rfl rfl ?_ ?_
        ·
         refine OpW.call rfl rfl (by repeat (first | exact Evs.nil | apply Evs.cons rfl)) (by kernel_rfl) rfl rfl rfl ?_
         refine says_spec (l := U) (by repeat (first | assumption | exact mS | apply mT)) ?_
         refine ⟨Z.H, ?_⟩
         refine WD.two 11 20 rfl rfl (by kernel_rfl) rfl rfl ?_ ?_
         ·
          refine OpW.call rfl rfl (by repeat (first | exact Evs.nil | apply Evs.cons rfl)) (by kernel_rfl) rfl rfl rfl ?_
          refine says_spec (l := V) (by repeat (first | assumption | exact mS | apply mT)) ?_
          refine ⟨Z.H, ?_⟩
          refine WD.two 17 20 rfl rfl (by kernel_rfl) rfl rfl ?_ ?_
          ·
           refine OpW.call rfl rfl (by repeat (first | exact Evs.nil | apply Evs.cons rfl)) (by kernel_rfl) rfl rfl rfl ?_
           refine says_spec (l := W) (by repeat (first | assumption | exact mS | apply mT)) ?_
           refine ⟨Z.H, ?_⟩
           refine WD.one 20 rfl (by kernel_rfl) rfl ?_
           refine OpW.alloc rfl I36 rfl Z.N rfl rfl ?_; intro b22
           refine ⟨Z.H, ?_⟩
           refine WD.one 21 rfl (by kernel_rfl) rfl ?_
           refine OpW.storeS rfl G36 rfl rfl Z.N Z.T rfl rfl Z.N rfl ?_
           refine ⟨Z.H, ?_⟩
           refine WD.one 22 rfl (by kernel_rfl) rfl ?_
           refine OpW.storeS rfl G36 rfl rfl Z.N Z.T rfl rfl Z.N rfl ?_
           refine ⟨Z.H, ?_⟩
           refine WD.one 23 rfl (by kernel_rfl) rfl ?_
           refine OpW.storeS rfl G36 rfl rfl Z.N Z.T rfl rfl Z.N rfl ?_
           refine ⟨Z.H, ?_⟩
           refine WD.done (by kernel_rfl) ?_
           exact ⟨(b20, b21, b22), trivial, (by repeat (first | exact Sub.nil | refine Sub.cons rfl (by first | rfl | (congr 1; omega) | assumption) ?_)), (fun w h => OwnL.sat (by repeat (first | exact OwnL.refl | apply OwnL.take (by repeat (first | exact Take.head _ | apply Take.tail)) | apply OwnL.drop)) w (h.thin (SubL.mem (by repeat (first | exact SubL.refl | refine SubL.cons (by repeat (first | assumption | exact mS | apply mT)) ?_ | refine SubL.skip ?_)))))⟩
          ·
           refine OpW.alloc rfl I36 rfl Z.N rfl rfl ?_; intro b22
           refine ⟨Z.H, ?_⟩
           refine WD.one 17 rfl (by kernel_rfl) rfl ?_
           refine OpW.call rfl rfl (by repeat (first | exact Evs.nil | apply Evs.cons rfl)) (by kernel_rfl) rfl rfl rfl ?_
           refine says_spec (l := W) (by repeat (first | assumption | exact mS | apply mT)) ?_
           refine ⟨Z.H, ?_⟩
           refine WD.one 21 rfl (by kernel_rfl) rfl ?_
           refine OpW.storeS rfl G36 rfl rfl Z.N Z.T rfl rfl Z.N rfl ?_
           refine ⟨Z.H, ?_⟩
           refine WD.one 22 rfl (by kernel_rfl) rfl ?_
           refine OpW.storeS rfl G36 rfl rfl Z.N Z.T rfl rfl Z.N rfl ?_
           refine ⟨Z.H, ?_⟩
           refine WD.one 23 rfl (by kernel_rfl) rfl ?_
           refine OpW.storeS rfl G36 rfl rfl Z.N Z.T rfl rfl Z.N rfl ?_
           refine ⟨Z.H, ?_⟩
           refine WD.done (by kernel_rfl) ?_
           exact ⟨(b20, b21, b22), trivial, (by repeat (first | exact Sub.nil | refine Sub.cons rfl (by first | rfl | (congr 1; omega) | assumption) ?_)), (fun w h => OwnL.sat (by repeat (first | exact OwnL.refl | apply OwnL.take (by repeat (first | exact Take.head _ | apply Take.tail)) | apply OwnL.drop)) w (h.thin (SubL.mem (by repeat (first | exact SubL.refl | refine SubL.cons (by repeat (first | assumption | exact mS | apply mT)) ?_ | refine SubL.skip ?_)))))⟩
         ·
          refine OpW.alloc rfl I36 rfl Z.N rfl rfl ?_; intro b22
          refine ⟨Z.H, ?_⟩
          refine WD.one 11 rfl (by kernel_rfl) rfl ?_
          refine OpW.call rfl rfl (by repeat (first | exact Evs.nil | apply Evs.cons rfl)) (by kernel_rfl) rfl rfl rfl ?_
          refine says_spec (l := V) (by repeat (first | assumption | exact mS | apply mT)) ?_
          refine ⟨Z.H, ?_⟩
          refine WD.one 17 rfl (by kernel_rfl) rfl ?_
          refine OpW.call rfl rfl (by repeat (first | exact Evs.nil | apply Evs.cons rfl)) (by kernel_rfl) rfl rfl rfl ?_
          refine says_spec (l := W) (by repeat (first | assumption | exact mS | apply mT)) ?_
          refine ⟨Z.H, ?_⟩
          refine WD.one 21 rfl (by kernel_rfl) rfl ?_
          refine OpW.storeS rfl G36 rfl rfl Z.N Z.T rfl rfl Z.N rfl ?_
          refine ⟨Z.H, ?_⟩
          refine WD.one 22 rfl (by kernel_rfl) rfl ?_
          refine OpW.storeS rfl G36 rfl rfl Z.N Z.T rfl rfl Z.N rfl ?_
          refine ⟨Z.H, ?_⟩
          refine WD.one 23 rfl (by kernel_rfl) rfl ?_
          refine OpW.storeS rfl G36 rfl rfl Z.N Z.T rfl rfl Z.N rfl ?_
          refine ⟨Z.H, ?_⟩
          refine WD.done (by kernel_rfl) ?_
          exact ⟨(b20, b21, b22), trivial, (by repeat (first | exact Sub.nil | refine Sub.cons rfl (by first | rfl | (congr 1; omega) | assumption) ?_)), (fun w h => OwnL.sat (by repeat (first | exact OwnL.refl | apply OwnL.take (by repeat (first | exact Take.head _ | apply Take.tail)) | apply OwnL.drop)) w (h.thin (SubL.mem (by repeat (first | exact SubL.refl | refine SubL.cons (by repeat (first | assumption | exact mS | apply mT)) ?_ | refine SubL.skip ?_)))))⟩
        ·
         refine OpW.alloc rfl I36 rfl Z.N rfl rfl ?_; intro b22
         refine ⟨Z.H, ?_⟩
         refine WD.one 5 rfl (by kernel_rfl) rfl ?_
         refine OpW.call rfl rfl (by repeat (first | exact Evs.nil | apply Evs.cons rfl)) (by kernel_rfl) rfl rfl rfl ?_
         refine says_spec (l := U) (by repeat (first | assumption | exact mS | apply mT)) ?_
         refine ⟨Z.H, ?_⟩
         refine WD.one 11 rfl (by kernel_rfl) rfl ?_
         refine OpW.call rfl rfl (by repeat (first | exact Evs.nil | apply Evs.cons rfl)) (by kernel_rfl) rfl rfl rfl ?_
         refine says_spec (l := V) (by repeat (first | assumption | exact mS | apply mT)) ?_
         refine ⟨Z.H, ?_⟩
         refine WD.one 17 rfl (by kernel_rfl) rfl ?_
         refine OpW.call rfl rfl (by repeat (first | exact Evs.nil | apply Evs.cons rfl)) (by kernel_rfl) rfl rfl rfl ?_
         refine says_spec (l := W) (by repeat (first | assumption | exact mS | apply mT)) ?_
         refine ⟨Z.H, ?_⟩
         refine WD.one 21 rfl (by kernel_rfl) rfl ?_
         refine OpW.storeS rfl G36 rfl rfl Z.N Z.T rfl rfl Z.N rfl ?_
         refine ⟨Z.H, ?_⟩
         refine WD.one 22 rfl (by kernel_rfl) rfl ?_
         refine OpW.storeS rfl G36 rfl rfl Z.N Z.T rfl rfl Z.N rfl ?_
         refine ⟨Z.H, ?_⟩
         refine WD.one 23 rfl (by kernel_rfl) rfl ?_
         refine OpW.storeS rfl G36 rfl rfl Z.N Z.T rfl rfl Z.N rfl ?_
         refine ⟨Z.H, ?_⟩
         refine WD.done (by kernel_rfl) ?_
         exact ⟨(b20, b21, b22), trivial, (by repeat (first | exact Sub.nil | refine Sub.cons rfl (by first | rfl | (congr 1; omega) | assumption) ?_)), (fun w h => OwnL.sat (by repeat (first | exact OwnL.refl | apply OwnL.take (by repeat (first | exact Take.head _ | apply Take.tail)) | apply OwnL.drop)) w (h.thin (SubL.mem (by repeat (first | exact SubL.refl | refine SubL.cons (by repeat (first | assumption | exact mS | apply mT)) ?_ | refine SubL.skip ?_)))))⟩
       ·
        refine ⟨_, rfl, rfl, ?_⟩
        refine OpW.alloc rfl I36 rfl Z.N rfl rfl ?_; intro b22
        refine ⟨Z.H, ?_⟩
        refine WD.two 5 18 rfl rfl (by kernel_rfl) rfl rfl ?_ ?_
        ·
         refine OpW.call rfl rfl (by repeat (first | exact Evs.nil | apply Evs.cons rfl)) (by kernel_rfl) rfl rfl rfl ?_
         refine says_spec (l := U) (by repeat (first | assumption | exact mS | apply mT)) ?_
         refine ⟨Z.H, ?_⟩
         refine WD.two 11 18 rfl rfl (by kernel_rfl) rfl rfl ?_ ?_
         ·
          refine OpW.call rfl rfl (by repeat (first | exact Evs.nil | apply Evs.cons rfl)) (by kernel_rfl) rfl rfl rfl ?_
          refine says_spec (l := V) (by repeat (first | assumption | exact mS | apply mT)) ?_
          refine ⟨Z.H, ?_⟩
          refine WD.two 17 18 rfl rfl (by kernel_rfl) rfl rfl ?_ ?_
          ·
           refine OpW.call rfl rfl (by repeat (first | exact Evs.nil | apply Evs.cons rfl)) (by kernel_rfl) rfl rfl rfl ?_
           refine says_spec (l := W) (by repeat (first | assumption | exact mS | apply mT)) ?_
           refine ⟨Z.H, ?_⟩
           refine WD.one 18 rfl (by kernel_rfl) rfl ?_
           refine OpW.alloc rfl I36 rfl Z.N rfl rfl ?_; intro b20
           refine ⟨Z.H, ?_⟩
           refine WD.one 21 rfl (by kernel_rfl) rfl ?_
           refine OpW.storeS rfl G36 rfl rfl Z.N Z.T rfl rfl Z.N rfl ?_
           refine ⟨Z.H, ?_⟩
           refine WD.one 22 rfl (by kernel_rfl) rfl ?_
           refine OpW.storeS rfl G36 rfl rfl Z.N Z.T rfl rfl Z.N rfl ?_
           refine ⟨Z.H, ?_⟩
           refine WD.one 23 rfl (by kernel_rfl) rfl ?_
           refine OpW.storeS rfl G36 rfl rfl Z.N Z.T rfl rfl Z.N rfl ?_
           refine ⟨Z.H, ?_⟩
           refine WD.done (by kernel_rfl) ?_
           exact ⟨(b20, b21, b22), trivial, (by repeat (first | exact Sub.nil | refine Sub.cons rfl (by first | rfl | (congr 1; omega) | assumption) ?_)), (fun w h => OwnL.sat (by repeat (first | exact OwnL.refl | apply OwnL.take (by repeat (first | exact Take.head _ | apply Take.tail)) | apply OwnL.drop)) w (h.thin (SubL.mem (by repeat (first | exact SubL.refl | refine SubL.cons (by repeat (first | assumption | exact mS | apply mT)) ?_ | refine SubL.skip ?_)))))⟩
          ·
           refine OpW.alloc rfl I36 rfl Z.N rfl rfl ?_; intro b20
           refine ⟨Z.H, ?_⟩
           refine WD.one 17 rfl (by kernel_rfl) rfl ?_
           refine OpW.call rfl rfl (by repeat (first | exact Evs.nil | apply Evs.cons rfl)) (by kernel_rfl) rfl rfl rfl ?_
           refine says_spec (l := W) (by repeat (first | assumption | exact mS | apply mT)) ?_
           refine ⟨Z.H, ?_⟩
           refine WD.one 21 rfl (by kernel_rfl) rfl ?_
           refine OpW.storeS rfl G36 rfl rfl Z.N Z.T rfl rfl Z.N rfl ?_
           refine ⟨Z.H, ?_⟩
           refine WD.one 22 rfl (by kernel_rfl) rfl ?_
           refine OpW.storeS rfl G36 rfl rfl Z.N Z.T rfl rfl Z.N rfl ?_
           refine ⟨Z.H, ?_⟩
           refine WD.one 23 rfl (by kernel_rfl) rfl ?_
           refine OpW.storeS rfl G36 rfl rfl Z.N Z.T rfl rfl Z.N rfl ?_
           refine ⟨Z.H, ?_⟩
           refine WD.done (by kernel_rfl) ?_
           exact ⟨(b20, b21, b22), trivial, (by repeat (first | exact Sub.nil | refine Sub.cons rfl (by first | rfl | (congr 1; omega) | assumption) ?_)), (fun w h => OwnL.sat (by repeat (first | exact OwnL.refl | apply OwnL.take (by repeat (first | exact Take.head _ | apply Take.tail)) | apply OwnL.drop)) w (h.thin (SubL.mem (by repeat (first | exact SubL.refl | refine SubL.cons (by repeat (first | assumption | exact mS | apply mT)) ?_ | refine SubL.skip ?_)))))⟩
         ·
          refine OpW.alloc rfl I36 rfl Z.N rfl rfl ?_; intro b20
          refine ⟨Z.H, ?_⟩
          refine WD.one 11 rfl (by kernel_rfl) rfl ?_
          refine OpW.call rfl rfl (by repeat (first | exact Evs.nil | apply Evs.cons rfl)) (by kernel_rfl) rfl rfl rfl ?_
          refine says_spec (l := V) (by repeat (first | assumption | exact mS | apply mT)) ?_
          refine ⟨Z.H, ?_⟩
          refine WD.one 17 rfl (by kernel_rfl) rfl ?_
          refine OpW.call rfl rfl (by repeat (first | exact Evs.nil | apply Evs.cons rfl)) (by kernel_rfl) rfl rfl rfl ?_
          refine says_spec (l := W) (by repeat (first | assumption | exact mS | apply mT)) ?_
          refine ⟨Z.H, ?_⟩
          refine WD.one 21 rfl (by kernel_rfl) rfl ?_
          refine OpW.storeS rfl G36 rfl rfl Z.N Z.T rfl rfl Z.N rfl ?_
          refine ⟨Z.H, ?_⟩
          refine WD.one 22 rfl (by kernel_rfl) rfl ?_
          refine OpW.storeS rfl G36 rfl rfl Z.N Z.T rfl rfl Z.N rfl ?_
          refine ⟨Z.H, ?_⟩
          refine WD.one 23 rfl (by kernel_rfl) rfl ?_
          refine OpW.storeS rfl G36 rfl rfl Z.N Z.T rfl rfl Z.N rfl ?_
          refine ⟨Z.H, ?_⟩
          refine WD.done (by kernel_rfl) ?_
          exact ⟨(b20, b21, b22), trivial, (by repeat (first | exact Sub.nil | refine Sub.cons rfl (by first | rfl | (congr 1; omega) | assumption) ?_)), (fun w h => OwnL.sat (by repeat (first | exact OwnL.refl | apply OwnL.take (by repeat (first | exact Take.head _ | apply Take.tail)) | apply OwnL.drop)) w (h.thin (SubL.mem (by repeat (first | exact SubL.refl | refine SubL.cons (by repeat (first | assumption | exact mS | apply mT)) ?_ | refine SubL.skip ?_)))))⟩
        ·
         refine OpW.alloc rfl I36 rfl Z.N rfl rfl ?_; intro b20
         refine ⟨Z.H, ?_⟩
         refine WD.one 5 rfl (by kernel_rfl) rfl ?_
         refine OpW.call rfl rfl (by repeat (first | exact Evs.nil | apply Evs.cons rfl)) (by kernel_rfl) rfl rfl rfl ?_
         refine says_spec (l := U) (by repeat (first | assumption | exact mS | apply mT)) ?_
         refine ⟨Z.H, ?_⟩
         refine WD.one 11 rfl (by kernel_rfl) rfl ?_
         refine OpW.call rfl rfl (by repeat (first | exact Evs.nil | apply Evs.cons rfl)) (by kernel_rfl) rfl rfl rfl ?_
         refine says_spec (l := V) (by repeat (first | assumption | exact mS | apply mT)) ?_
         refine ⟨Z.H, ?_⟩
         refine WD.one 17 rfl (by kernel_rfl) rfl ?_
         refine OpW.call rfl rfl (by repeat (first | exact Evs.nil | apply Evs.cons rfl)) (by kernel_rfl) rfl rfl rfl ?_
         refine says_spec (l := W) (by repeat (first | assumption | exact mS | apply mT)) ?_
         refine ⟨Z.H, ?_⟩
         refine WD.one 21 rfl (by kernel_rfl) rfl ?_
         refine OpW.storeS rfl G36 rfl rfl Z.N Z.T rfl rfl Z.N rfl ?_
         refine ⟨Z.H, ?_⟩
         refine WD.one 22 rfl (by kernel_rfl) rfl ?_
         refine OpW.storeS rfl G36 rfl rfl Z.N Z.T rfl rfl Z.N rfl ?_
         refine ⟨Z.H, ?_⟩
         refine WD.one 23 rfl (by kernel_rfl) rfl ?_
         refine OpW.storeS rfl G36 rfl rfl Z.N Z.T rfl rfl Z.N rfl ?_
         refine ⟨Z.H, ?_⟩
         refine WD.done (by kernel_rfl) ?_
         exact ⟨(b20, b21, b22), trivial, (by repeat (first | exact Sub.nil | refine Sub.cons rfl (by first | rfl | (congr 1; omega) | assumption) ?_)), (fun w h => OwnL.sat (by repeat (first | exact OwnL.refl | apply OwnL.take (by repeat (first | exact Take.head _ | apply Take.tail)) | apply OwnL.drop)) w (h.thin (SubL.mem (by repeat (first | exact SubL.refl | refine SubL.cons (by repeat (first | assumption | exact mS | apply mT)) ?_ | refine SubL.skip ?_)))))⟩
      ·
       refine ⟨_, rfl, rfl, ?_⟩
       refine OpW.alloc rfl I36 rfl Z.N rfl rfl ?_; intro b22
       refine ⟨Z.H, ?_⟩
       refine WD.some [5, 18, 19] (by kernel_rfl) (by simp) ?_
       intro i hi; simp only [List.mem_cons, List.not_mem_nil, or_false] at hi; rcases hi with rfl | rfl | rfl
       ·
        refine ⟨_, rfl, rfl, ?_⟩
        refine OpW.call rfl rfl (by repeat (first | exact Evs.nil | apply Evs.cons rfl)) (by kernel_rfl) rfl rfl rfl ?_
        refine says_spec (l := U) (by repeat (first | assumption | exact mS | apply mT)) ?_
        refine ⟨Z.H, ?_⟩
        refine WD.some [11, 18, 19] (by kernel_rfl) (by simp) ?_
        intro i hi; simp only [List.mem_cons, List.not_mem_nil, or_false] at hi; rcases hi with rfl | rfl | rfl
        ·
         refine ⟨_, rfl, rfl, ?_⟩
         refine OpW.call rfl rfl (by repeat (first | exact Evs.nil | apply Evs.cons rfl)) (by kernel_rfl) rfl rfl rfl ?_
         refine says_spec (l := V) (by repeat (first | assumption | exact mS | apply mT)) ?_
         refine ⟨Z.H, ?_⟩
         refine WD.some [17, 18, 19] (by kernel_rfl) (by simp) ?_
         intro i hi; simp only [List.mem_cons, List.not_mem_nil, or_false] at hi; rcases hi with rfl | rfl | rfl
         ·
          refine ⟨_, rfl, rfl, ?_⟩
          refine OpW.call rfl rfl (by repeat (first | exact Evs.nil | apply Evs.cons rfl)) (by kernel_rfl) rfl rfl rfl ?_
          refine says_spec (l := W) (by repeat (first | assumption | exact mS | apply mT)) ?_
          refine ⟨Z.H, ?_⟩
          refine WD.two 18 19 rfl rfl (by kernel_rfl) rfl rfl ?_ ?_
          ·
           refine OpW.alloc rfl I36 rfl Z.N rfl rfl ?_; intro b20
           refine ⟨Z.H, ?_⟩
           refine WD.one 19 rfl (by kernel_rfl) rfl ?_
           refine OpW.alloc rfl I36 rfl Z.N rfl rfl ?_; intro b21
           refine ⟨Z.H, ?_⟩
           refine WD.one 21 rfl (by kernel_rfl) rfl ?_
           refine OpW.storeS rfl G36 rfl rfl Z.N Z.T rfl rfl Z.N rfl ?_
           refine ⟨Z.H, ?_⟩
           refine WD.one 22 rfl (by kernel_rfl) rfl ?_
           refine OpW.storeS rfl G36 rfl rfl Z.N Z.T rfl rfl Z.N rfl ?_
           refine ⟨Z.H, ?_⟩
           refine WD.one 23 rfl (by kernel_rfl) rfl ?_
           refine OpW.storeS rfl G36 rfl rfl Z.N Z.T rfl rfl Z.N rfl ?_
           refine ⟨Z.H, ?_⟩
           refine WD.done (by kernel_rfl) ?_
           exact ⟨(b20, b21, b22), trivial, (by repeat (first | exact Sub.nil | refine Sub.cons rfl (by first | rfl | (congr 1; omega) | assumption) ?_)), (fun w h => OwnL.sat (by repeat (first | exact OwnL.refl | apply OwnL.take (by repeat (first | exact Take.head _ | apply Take.tail)) | apply OwnL.drop)) w (h.thin (SubL.mem (by repeat (first | exact SubL.refl | refine SubL.cons (by repeat (first | assumption | exact mS | apply mT)) ?_ | refine SubL.skip ?_)))))⟩
          ·
           refine OpW.alloc rfl I36 rfl Z.N rfl rfl ?_; intro b21
           refine ⟨Z.H, ?_⟩
           refine WD.one 18 rfl (by kernel_rfl) rfl ?_
           refine OpW.alloc rfl I36 rfl Z.N rfl rfl ?_; intro b20
           refine ⟨Z.H, ?_⟩
           refine WD.one 21 rfl (by kernel_rfl) rfl ?_
           refine OpW.storeS rfl G36 rfl rfl Z.N Z.T rfl rfl Z.N rfl ?_
           refine ⟨Z.H, ?_⟩
           refine WD.one 22 rfl (by kernel_rfl) rfl ?_
           refine OpW.storeS rfl G36 rfl rfl Z.N Z.T rfl rfl Z.N rfl ?_
           refine ⟨Z.H, ?_⟩
           refine WD.one 23 rfl (by kernel_rfl) rfl ?_
           refine OpW.storeS rfl G36 rfl rfl Z.N Z.T rfl rfl Z.N rfl ?_
           refine ⟨Z.H, ?_⟩
           refine WD.done (by kernel_rfl) ?_
           exact ⟨(b20, b21, b22), trivial, (by repeat (first | exact Sub.nil | refine Sub.cons rfl (by first | rfl | (congr 1; omega) | assumption) ?_)), (fun w h => OwnL.sat (by repeat (first | exact OwnL.refl | apply OwnL.take (by repeat (first | exact Take.head _ | apply Take.tail)) | apply OwnL.drop)) w (h.thin (SubL.mem (by repeat (first | exact SubL.refl | refine SubL.cons (by repeat (first | assumption | exact mS | apply mT)) ?_ | refine SubL.skip ?_)))))⟩
         ·
          refine ⟨_, rfl, rfl, ?_⟩
          refine OpW.alloc rfl I36 rfl Z.N rfl rfl ?_; intro b20
          refine ⟨Z.H, ?_⟩
          refine WD.two 17 19 rfl rfl (by kernel_rfl) rfl rfl ?_ ?_
          ·
           refine OpW.call rfl rfl (by repeat (first | exact Evs.nil | apply Evs.cons rfl)) (by kernel_rfl) rfl rfl rfl ?_
           refine says_spec (l := W) (by repeat (first | assumption | exact mS | apply mT)) ?_
           refine ⟨Z.H, ?_⟩
           refine WD.one 19 rfl (by kernel_rfl) rfl ?_
           refine OpW.alloc rfl I36 rfl Z.N rfl rfl ?_; intro b21
           refine ⟨Z.H, ?_⟩
           refine WD.one 21 rfl (by kernel_rfl) rfl ?_
           refine OpW.storeS rfl G36 rfl rfl Z.N Z.T rfl rfl Z.N rfl ?_
           refine ⟨Z.H, ?_⟩
           refine WD.one 22 rfl (by kernel_rfl) rfl ?_
           refine OpW.storeS rfl G36 rfl rfl Z.N Z.T rfl rfl Z.N rfl ?_
           refine ⟨Z.H, ?_⟩
           refine WD.one 23 rfl (by kernel_rfl) rfl ?_
           refine OpW.storeS rfl G36 rfl rfl Z.N Z.T rfl rfl Z.N rfl ?_
           refine ⟨Z.H, ?_⟩
           refine WD.done (by kernel_rfl) ?_
           exact ⟨(b20, b21, b22), trivial, (by repeat (first | exact Sub.nil | refine Sub.cons rfl (by first | rfl | (congr 1; omega) | assumption) ?_)), (fun w h => OwnL.sat (by repeat (first | exact OwnL.refl | apply OwnL.take (by repeat (first | exact Take.head _ | apply Take.tail)) | apply OwnL.drop)) w (h.thin (SubL.mem (by repeat (first | exact SubL.refl | refine SubL.cons (by repeat (first | assumption | exact mS | apply mT)) ?_ | refine SubL.skip ?_)))))⟩
          ·
           refine OpW.alloc rfl I36 rfl Z.N rfl rfl ?_; intro b21
           refine ⟨Z.H, ?_⟩
           refine WD.one 17 rfl (by kernel_rfl) rfl ?_
           refine OpW.call rfl rfl (by repeat (first | exact Evs.nil | apply Evs.cons rfl)) (by kernel_rfl) rfl rfl rfl ?_
           refine says_spec (l := W) (by repeat (first | assumption | exact mS | apply mT)) ?_
           refine ⟨Z.H, ?_⟩
           refine WD.one 21 rfl (by kernel_rfl) rfl ?_
           refine OpW.storeS rfl G36 rfl rfl Z.N Z.T rfl rfl Z.N rfl ?_
           refine ⟨Z.H, ?_⟩
           refine WD.one 22 rfl (by kernel_rfl) rfl ?_
           refine OpW.storeS rfl G36 rfl rfl Z.N Z.T rfl rfl Z.N rfl ?_
           refine ⟨Z.H, ?_⟩
           refine WD.one 23 rfl (by kernel_rfl) rfl ?_
           refine OpW.storeS rfl G36 rfl rfl Z.N Z.T rfl rfl Z.N rfl ?_
           refine ⟨Z.H, ?_⟩
           refine WD.done (by kernel_rfl) ?_
           exact ⟨(b20, b21, b22), trivial, (by repeat (first | exact Sub.nil | refine Sub.cons rfl (by first | rfl | (congr 1; omega) | assumption) ?_)), (fun w h => OwnL.sat (by repeat (first | exact OwnL.refl | apply OwnL.take (by repeat (first | exact Take.head _ | apply Take.tail)) | apply OwnL.drop)) w (h.thin (SubL.mem (by repeat (first | exact SubL.refl | refine SubL.cons (by repeat (first | assumption | exact mS | apply mT)) ?_ | refine SubL.skip ?_)))))⟩
         ·
          refine ⟨_, rfl, rfl, ?_⟩
          refine OpW.alloc rfl I36 rfl Z.N rfl rfl ?_; intro b21
          refine ⟨Z.H, ?_⟩
          refine WD.two 17 18 rfl rfl (by kernel_rfl) rfl rfl ?_ ?_
          ·
           refine OpW.call rfl rfl (by repeat (first | exact Evs.nil | apply Evs.cons rfl)) (by kernel_rfl) rfl rfl rfl ?_
           refine says_spec (l := W) (by repeat (first | assumption | exact mS | apply mT)) ?_
           refine ⟨Z.H, ?_⟩
           refine WD.one 18 rfl (by kernel_rfl) rfl ?_
           refine OpW.alloc rfl I36 rfl Z.N rfl rfl ?_; intro b20
           refine ⟨Z.H, ?_⟩
           refine WD.one 21 rfl (by kernel_rfl) rfl ?_
           refine OpW.storeS rfl G36 rfl rfl Z.N Z.T rfl rfl Z.N rfl ?_
           refine ⟨Z.H, ?_⟩
           refine WD.one 22 rfl (by kernel_rfl) rfl ?_
           refine OpW.storeS rfl G36 rfl rfl Z.N Z.T rfl rfl Z.N rfl ?_
           refine ⟨Z.H, ?_⟩
           refine WD.one 23 rfl (by kernel_rfl) rfl ?_
           refine OpW.storeS rfl G36 rfl rfl Z.N Z.T rfl rfl Z.N rfl ?_
           refine ⟨Z.H, ?_⟩
           refine WD.done (by kernel_rfl) ?_
           exact ⟨(b20, b21, b22), trivial, (by repeat (first | exact Sub.nil | refine Sub.cons rfl (by first | rfl | (congr 1; omega) | assumption) ?_)), (fun w h => OwnL.sat (by repeat (first | exact OwnL.refl | apply OwnL.take (by repeat (first | exact Take.head _ | apply Take.tail)) | apply OwnL.drop)) w (h.thin (SubL.mem (by repeat (first | exact SubL.refl | refine SubL.cons (by repeat (first | assumption | exact mS | apply mT)) ?_ | refine SubL.skip ?_)))))⟩
          ·
           refine OpW.alloc rfl I36 rfl Z.N rfl rfl ?_; intro b20
           refine ⟨Z.H, ?_⟩
           refine WD.one 17 rfl (by kernel_rfl) rfl ?_
           refine OpW.call rfl rfl (by repeat (first | exact Evs.nil | apply Evs.cons rfl)) (by kernel_rfl) rfl rfl rfl ?_
           refine says_spec (l := W) (by repeat (first | assumption | exact mS | apply mT)) ?_
           refine ⟨Z.H, ?_⟩
           refine WD.one 21 rfl (by kernel_rfl) rfl ?_
           refine OpW.storeS rfl G36 rfl rfl Z.N Z.T rfl rfl Z.N rfl ?_
           refine ⟨Z.H, ?_⟩
           refine WD.one 22 rfl (by kernel_rfl) rfl ?_
           refine OpW.storeS rfl G36 rfl rfl Z.N Z.T rfl rfl Z.N rfl ?_
           refine ⟨Z.H, ?_⟩
           refine WD.one 23 rfl (by kernel_rfl) rfl ?_
           refine OpW.storeS rfl G36 rfl rfl Z.N Z.T rfl rfl Z.N rfl ?_
           refine ⟨Z.H, ?_⟩
           refine WD.done (by kernel_rfl) ?_
           exact ⟨(b20, b21, b22), trivial, (by repeat (first | exact Sub.nil | refine Sub.cons rfl (by first | rfl | (congr 1; omega) | assumption) ?_)), (fun w h => OwnL.sat (by repeat (first | exact OwnL.refl | apply OwnL.take (by repeat (first | exact Take.head _ | apply Take.tail)) | apply OwnL.drop)) w (h.thin (SubL.mem (by repeat (first | exact SubL.refl | refine SubL.cons (by repeat (first | assumption | exact mS | apply mT)) ?_ | refine SubL.skip ?_)))))⟩
        ·
         refine ⟨_, rfl, rfl, ?_⟩
         refine OpW.alloc rfl I36 rfl Z.N rfl rfl ?_; intro b20
         refine ⟨Z.H, ?_⟩
         refine WD.two 11 19 rfl rfl (by kernel_rfl) rfl rfl ?_ ?_
         ·
          refine OpW.call rfl rfl (by repeat (first | exact Evs.nil | apply Evs.cons rfl)) (by kernel_rfl) rfl rfl rfl ?_
          refine says_spec (l := V) (by repeat (first | assumption | exact mS | apply mT)) ?_
          refine ⟨Z.H, ?_⟩
          refine WD.two 17 19 rfl rfl (by kernel_rfl) rfl rfl ?_ ?_
          ·
           refine OpW.call rfl rfl (by repeat (first | exact Evs.nil | apply Evs.cons rfl)) (by kernel_rfl) rfl rfl rfl ?_
           refine says_spec (l := W) (by repeat (first | assumption | exact mS | apply mT)) ?_
           refine ⟨Z.H, ?_⟩
           refine WD.one 19 rfl (by kernel_rfl) rfl ?_
           refine OpW.alloc rfl I36 rfl Z.N rfl rfl ?_; intro b21
           refine ⟨Z.H, ?_⟩
           refine WD.one 21 rfl (by kernel_rfl) rfl ?_
           refine OpW.storeS rfl G36 rfl rfl Z.N Z.T rfl rfl Z.N rfl ?_
           refine ⟨Z.H, ?_⟩
           refine WD.one 22 rfl (by kernel_rfl) rfl ?_
           refine OpW.storeS rfl G36 rfl rfl Z.N Z.T rfl rfl Z.N rfl ?_
           refine ⟨Z.H, ?_⟩
           refine WD.one 23 rfl (by kernel_rfl) rfl ?_
           refine OpW.storeS rfl G36 rfl rfl Z.N Z.T rfl rfl Z.N rfl ?_
           refine ⟨Z.H, ?_⟩
           refine WD.done (by kernel_rfl) ?_
           exact ⟨(b20, b21, b22), trivial, (by repeat (first | exact Sub.nil | refine Sub.cons rfl (by first | rfl | (congr 1; omega) | assumption) ?_)), (fun w h => OwnL.sat (by repeat (first | exact OwnL.refl | apply OwnL.take (by repeat (first | exact Take.head _ | apply Take.tail)) | apply OwnL.drop)) w (h.thin (SubL.mem (by repeat (first | exact SubL.refl | refine SubL.cons (by repeat (first | assumption | exact mS | apply mT)) ?_ | refine SubL.skip ?_)))))⟩
          ·
           refine OpW.alloc rfl I36 rfl Z.N rfl rfl ?_; intro b21
           refine ⟨Z.H, ?_⟩
           refine WD.one 17 rfl (by kernel_rfl) rfl ?_
           refine OpW.call rfl rfl (by repeat (first | exact Evs.nil | apply Evs.cons rfl)) (by kernel_rfl) rfl rfl rfl ?_
           refine says_spec (l := W) (by repeat (first | assumption | exact mS | apply mT)) ?_
           refine ⟨Z.H, ?_⟩
           refine WD.one 21 rfl (by kernel_rfl) rfl ?_
           refine OpW.storeS rfl G36 rfl rfl Z.N Z.T rfl rfl Z.N rfl ?_
           refine ⟨Z.H, ?_⟩
           refine WD.one 22 rfl (by kernel_rfl) rfl ?_
           refine OpW.storeS rfl G36 rfl rfl Z.N Z.T rfl rfl Z.N rfl ?_
           refine ⟨Z.H, ?_⟩
           refine WD.one 23 rfl (by kernel_rfl) rfl ?_
           refine OpW.storeS rfl G36 rfl rfl Z.N Z.T rfl rfl Z.N rfl ?_
           refine ⟨Z.H, ?_⟩
           refine WD.done (by kernel_rfl) ?_
           exact ⟨(b20, b21, b22), trivial, (by repeat (first | exact Sub.nil | refine Sub.cons rfl (by first | rfl | (congr 1; omega) | assumption) ?_)), (fun w h => OwnL.sat (by repeat (first | exact OwnL.refl | apply OwnL.take (by repeat (first | exact Take.head _ | apply Take.tail)) | apply OwnL.drop)) w (h.thin (SubL.mem (by repeat (first | exact SubL.refl | refine SubL.cons (by repeat (first | assumption | exact mS | apply mT)) ?_ | refine SubL.skip ?_)))))⟩
         ·
          refine OpW.alloc rfl I36 rfl Z.N rfl rfl ?_; intro b21
          refine ⟨Z.H, ?_⟩
          refine WD.one 11 rfl (by kernel_rfl) rfl ?_
          refine OpW.call rfl rfl (by repeat (first | exact Evs.nil | apply Evs.cons rfl)) (by kernel_rfl) rfl rfl rfl ?_
          refine says_spec (l := V) (by repeat (first | assumption | exact mS | apply mT)) ?_
          refine ⟨Z.H, ?_⟩
          refine WD.one 17 rfl (by kernel_rfl) rfl ?_
          refine OpW.call rfl rfl (by repeat (first | exact Evs.nil | apply Evs.cons rfl)) (by kernel_rfl) rfl rfl rfl ?_
          refine says_spec (l := W) (by repeat (first | assumption | exact mS | apply mT)) ?_
          refine ⟨Z.H, ?_⟩
          refine WD.one 21 rfl (by kernel_rfl) rfl ?_
          refine OpW.storeS rfl G36 rfl rfl Z.N Z.T rfl rfl Z.N rfl ?_
          refine ⟨Z.H, ?_⟩
          refine WD.one 22 rfl (by kernel_rfl) rfl ?_
          refine OpW.storeS rfl G36 rfl rfl Z.N Z.T rfl rfl Z.N rfl ?_
          refine ⟨Z.H, ?_⟩
          refine WD.one 23 rfl (by kernel_rfl) rfl ?_
          refine OpW.storeS rfl G36 rfl rfl Z.N Z.T rfl rfl Z.N rfl ?_
          refine ⟨Z.H, ?_⟩
          refine WD.done (by kernel_rfl) ?_
          exact ⟨(b20, b21, b22), trivial, (by repeat (first | exact Sub.nil | refine Sub.cons rfl (by first | rfl | (congr 1; omega) | assumption) ?_)), (fun w h => OwnL.sat (by repeat (first | exact OwnL.refl | apply OwnL.take (by repeat (first | exact Take.head _ | apply Take.tail)) | apply OwnL.drop)) w (h.thin (SubL.mem (by repeat (first | exact SubL.refl | refine SubL.cons (by repeat (first | assumption | exact mS | apply mT)) ?_ | refine SubL.skip ?_)))))⟩
        ·
         refine ⟨_, rfl, rfl, ?_⟩
         refine OpW.alloc rfl I36 rfl Z.N rfl rfl ?_; intro b21
         refine ⟨Z.H, ?_⟩
         refine WD.two 11 18 rfl rfl (by kernel_rfl) rfl rfl ?_ ?_
         ·
          refine OpW.call rfl rfl (by repeat (first | exact Evs.nil | apply Evs.cons rfl)) (by kernel_rfl) rfl rfl rfl ?_
          refine says_spec (l := V) (by repeat (first | assumption | exact mS | apply mT)) ?_
          refine ⟨Z.H, ?_⟩
          refine WD.two 17 18 rfl rfl (by kernel_rfl) rfl rfl ?_ ?_
          ·
           refine OpW.call rfl rfl (by repeat (first | exact Evs.nil | apply Evs.cons rfl)) (by kernel_rfl) rfl rfl rfl ?_
           refine says_spec (l := W) (by repeat (first | assumption | exact mS | apply mT)) ?_
           refine ⟨Z.H, ?_⟩
           refine WD.one 18 rfl (by kernel_rfl) rfl ?_
           refine OpW.alloc rfl I36 rfl Z.N rfl rfl ?_; intro b20
           refine ⟨Z.H, ?_⟩
           refine WD.one 21 rfl (by kernel_rfl) rfl ?_
           refine OpW.storeS rfl G36 rfl rfl Z.N Z.T rfl rfl Z.N rfl ?_
           refine ⟨Z.H, ?_⟩
           refine WD.one 22 rfl (by kernel_rfl) rfl ?_
           refine OpW.storeS rfl G36 rfl rfl Z.N Z.T rfl rfl Z.N rfl ?_
           refine ⟨Z.H, ?_⟩
           refine WD.one 23 rfl (by kernel_rfl) rfl ?_
           refine OpW.storeS rfl G36 rfl rfl Z.N Z.T rfl rfl Z.N rfl ?_
           refine ⟨Z.H, ?_⟩
           refine WD.done (by kernel_rfl) ?_
           exact ⟨(b20, b21, b22), trivial, (by repeat (first | exact Sub.nil | refine Sub.cons rfl (by first | rfl | (congr 1; omega) | assumption) ?_)), (fun w h => OwnL.sat (by repeat (first | exact OwnL.refl | apply OwnL.take (by repeat (first | exact Take.head _ | apply Take.tail)) | apply OwnL.drop)) w (h.thin (SubL.mem (by repeat (first | exact SubL.refl | refine SubL.cons (by repeat (first | assumption | exact mS | apply mT)) ?_ | refine SubL.skip ?_)))))⟩
          ·
           refine OpW.alloc rfl I36 rfl Z.N rfl rfl ?_; intro b20
           refine ⟨Z.H, ?_⟩
           refine WD.one 17 rfl (by kernel_rfl) rfl ?_
           refine OpW.call rfl rfl (by repeat (first | exact Evs.nil | apply Evs.cons rfl)) (by kernel_rfl) rfl rfl rfl ?_
           refine says_spec (l := W) (by repeat (first | assumption | exact mS | apply mT)) ?_
           refine ⟨Z.H, ?_⟩
           refine WD.one 21 rfl (by kernel_rfl) rfl ?_
           refine OpW.storeS rfl G36 rfl rfl Z.N Z.T rfl rfl Z.N rfl ?_
           refine ⟨Z.H, ?_⟩
           refine WD.one 22 rfl (by kernel_rfl) rfl ?_
           refine OpW.storeS rfl G36 rfl rfl Z.N Z.T rfl rfl Z.N rfl ?_
           refine ⟨Z.H, ?_⟩
           refine WD.one 23 rfl (by kernel_rfl) rfl ?_
           refine OpW.storeS rfl G36 rfl rfl Z.N Z.T rfl rfl Z.N rfl ?_
           refine ⟨Z.H, ?_⟩
           refine WD.done (by kernel_rfl) ?_
           exact ⟨(b20, b21, b22), trivial, (by repeat (first | exact Sub.nil | refine Sub.cons rfl (by first | rfl | (congr 1; omega) | assumption) ?_)), (fun w h => OwnL.sat (by repeat (first | exact OwnL.refl | apply OwnL.take (by repeat (first | exact Take.head _ | apply Take.tail)) | apply OwnL.drop)) w (h.thin (SubL.mem (by repeat (first | exact SubL.refl | refine SubL.cons (by repeat (first | assumption | exact mS | apply mT)) ?_ | refine SubL.skip ?_)))))⟩
         ·
          refine OpW.alloc rfl I36 rfl Z.N rfl rfl ?_; intro b20
          refine ⟨Z.H, ?_⟩
          refine WD.one 11 rfl (by kernel_rfl) rfl ?_
          refine OpW.call rfl rfl (by repeat (first | exact Evs.nil | apply Evs.cons rfl)) (by kernel_rfl) rfl rfl rfl ?_
          refine says_spec (l := V) (by repeat (first | assumption | exact mS | apply mT)) ?_
          refine ⟨Z.H, ?_⟩
          refine WD.one 17 rfl (by kernel_rfl) rfl ?_
          refine OpW.call rfl rfl (by repeat (first | exact Evs.nil | apply Evs.cons rfl)) (by kernel_rfl) rfl rfl rfl ?_
          refine says_spec (l := W) (by repeat (first | assumption | exact mS | apply mT)) ?_
          refine ⟨Z.H, ?_⟩
          refine WD.one 21 rfl (by kernel_rfl) rfl ?_
          refine OpW.storeS rfl G36 rfl rfl Z.N Z.T rfl rfl Z.N rfl ?_
          refine ⟨Z.H, ?_⟩
          refine WD.one 22 rfl (by kernel_rfl) rfl ?_
          refine OpW.storeS rfl G36 rfl rfl Z.N Z.T rfl rfl Z.N rfl ?_
          refine ⟨Z.H, ?_⟩
          refine WD.one 23 rfl (by kernel_rfl) rfl ?_
          refine OpW.storeS rfl G36 rfl rfl Z.N Z.T rfl rfl Z.N rfl ?_
          refine ⟨Z.H, ?_⟩
          refine WD.done (by kernel_rfl) ?_
          exact ⟨(b20, b21, b22), trivial, (by repeat (first | exact Sub.nil | refine Sub.cons rfl (by first | rfl | (congr 1; omega) | assumption) ?_)), (fun w h => OwnL.sat (by repeat (first | exact OwnL.refl | apply OwnL.take (by repeat (first | exact Take.head _ | apply Take.tail)) | apply OwnL.drop)) w (h.thin (SubL.mem (by repeat (first | exact SubL.refl | refine SubL.cons (by repeat (first | assumption | exact mS | apply mT)) ?_ | refine SubL.skip ?_)))))⟩
       ·
        refine ⟨_, rfl, rfl, ?_⟩
        refine OpW.alloc rfl I36 rfl Z.N rfl rfl ?_; intro b20
        refine ⟨Z.H, ?_⟩
        refine WD.two 5 19 rfl rfl (by kernel_rfl) rfl rfl ?_ ?_
        ·
         refine OpW.call rfl rfl (by repeat (first | exact Evs.nil | apply Evs.cons rfl)) (by kernel_rfl) rfl rfl rfl ?_
         refine says_spec (l := U) (by repeat (first | assumption | exact mS | apply mT)) ?_
         refine ⟨Z.H, ?_⟩
         refine WD.two 11 19 rfl rfl (by kernel_rfl) rfl rfl ?_ ?_
         ·
          refine OpW.call rfl rfl (by repeat (first | exact Evs.nil | apply Evs.cons rfl)) (by kernel_rfl) rfl rfl rfl ?_
          refine says_spec (l := V) (by repeat (first | assumption | exact mS | apply mT)) ?_
          refine ⟨Z.H, ?_⟩
          refine WD.two 17 19 rfl rfl (by kernel_rfl) rfl rfl ?_ ?_
          ·
           refine OpW.call rfl rfl (by repeat (first | exact Evs.nil | apply Evs.cons rfl)) (by kernel_rfl) rfl rfl rfl ?_
           refine says_spec (l := W) (by repeat (first | assumption | exact mS | apply mT)) ?_
           refine ⟨Z.H, ?_⟩
           refine WD.one 19 rfl (by kernel_rfl) rfl ?_
           refine OpW.alloc rfl I36 rfl Z.N rfl rfl ?_; intro b21
           refine ⟨Z.H, ?_⟩
           refine WD.one 21 rfl (by kernel_rfl) rfl ?_
           refine OpW.storeS rfl G36 rfl rfl Z.N Z.T rfl rfl Z.N rfl ?_
           refine ⟨Z.H, ?_⟩
           refine WD.one 22 rfl (by kernel_rfl) rfl ?_
           refine OpW.storeS rfl G36 rfl rfl Z.N Z.T rfl rfl Z.N rfl ?_
           refine ⟨Z.H, ?_⟩
           refine WD.one 23 rfl (by kernel_rfl) rfl ?_
           refine OpW.storeS rfl G36 rfl rfl Z.N Z.T rfl rfl Z.N rfl ?_
           refine ⟨Z.H, ?_⟩
           refine WD.done (by kernel_rfl) ?_
           exact ⟨(b20, b21, b22), trivial, (by repeat (first | exact Sub.nil | refine Sub.cons rfl (by first | rfl | (congr 1; omega) | assumption) ?_)), (fun w h => OwnL.sat (by repeat (first | exact OwnL.refl | apply OwnL.take (by repeat (first | exact Take.head _ | apply Take.tail)) | apply OwnL.drop)) w (h.thin (SubL.mem (by repeat (first | exact SubL.refl | refine SubL.cons (by repeat (first | assumption | exact mS | apply mT)) ?_ | refine SubL.skip ?_)))))⟩
          ·
           refine OpW.alloc rfl I36 rfl Z.N rfl rfl ?_; intro b21
           refine ⟨Z.H, ?_⟩
           refine WD.one 17 rfl (by kernel_rfl) rfl ?_
           refine OpW.call rfl rfl (by repeat (first | exact Evs.nil | apply Evs.cons rfl)) (by kernel_rfl) rfl rfl rfl ?_
           refine says_spec (l := W) (by repeat (first | assumption | exact mS | apply mT)) ?_
           refine ⟨Z.H, ?_⟩
           refine WD.one 21 rfl (by kernel_rfl) rfl ?_
           refine OpW.storeS rfl G36 rfl rfl Z.N Z.T rfl rfl Z.N rfl ?_
           refine ⟨Z.H, ?_⟩
           refine WD.one 22 rfl (by kernel_rfl) rfl ?_
           refine OpW.storeS rfl G36 rfl rfl Z.N Z.T rfl rfl Z.N rfl ?_
           refine ⟨Z.H, ?_⟩
           refine WD.one 23 rfl (by kernel_rfl) rfl ?_
           refine OpW.storeS rfl G36 rfl rfl Z.N Z.T rfl rfl Z.N rfl ?_
           refine ⟨Z.H, ?_⟩
           refine WD.done (by kernel_rfl) ?_
           exact ⟨(b20, b21, b22), trivial, (by repeat (first | exact Sub.nil | refine Sub.cons rfl (by first | rfl | (congr 1; omega) | assumption) ?_)), (fun w h => OwnL.sat (by repeat (first | exact OwnL.refl | apply OwnL.take (by repeat (first | exact Take.head _ | apply Take.tail)) | apply OwnL.drop)) w (h.thin (SubL.mem (by repeat (first | exact SubL.refl | refine SubL.cons (by repeat (first | assumption | exact mS | apply mT)) ?_ | refine SubL.skip ?_)))))⟩
         ·
          refine OpW.alloc rfl I36 rfl Z.N rfl rfl ?_; intro b21
          refine ⟨Z.H, ?_⟩
          refine WD.one 11 rfl (by kernel_rfl) rfl ?_
          refine OpW.call rfl rfl (by repeat (first | exact Evs.nil | apply Evs.cons rfl)) (by kernel_rfl) rfl rfl rfl ?_
          refine says_spec (l := V) (by repeat (first | assumption | exact mS | apply mT)) ?_
          refine ⟨Z.H, ?_⟩
          refine WD.one 17 rfl (by kernel_rfl) rfl ?_
          refine OpW.call rfl rfl (by repeat (first | exact Evs.nil | apply Evs.cons rfl)) (by kernel_rfl) rfl rfl rfl ?_
          refine says_spec (l := W) (by repeat (first | assumption | exact mS | apply mT)) ?_
          refine ⟨Z.H, ?_⟩
          refine WD.one 21 rfl (by kernel_rfl) rfl ?_
          refine OpW.storeS rfl G36 rfl rfl Z.N Z.T rfl rfl Z.N rfl ?_
          refine ⟨Z.H, ?_⟩
          refine WD.one 22 rfl (by kernel_rfl) rfl ?_
          refine OpW.storeS rfl G36 rfl rfl Z.N Z.T rfl rfl Z.N rfl ?_
          refine ⟨Z.H, ?_⟩
          refine WD.one 23 rfl (by kernel_rfl) rfl ?_
          refine OpW.storeS rfl G36 rfl rfl Z.N Z.T rfl rfl Z.N rfl ?_
          refine ⟨Z.H, ?_⟩
          refine WD.done (by kernel_rfl) ?_
          exact ⟨(b20, b21, b22), trivial, (by repeat (first | exact Sub.nil | refine Sub.cons rfl (by first | rfl | (congr 1; omega) | assumption) ?_)), (fun w h => OwnL.sat (by repeat (first | exact OwnL.refl | apply OwnL.take (by repeat (first | exact Take.head _ | apply Take.tail)) | apply OwnL.drop)) w (h.thin (SubL.mem (by repeat (first | exact SubL.refl | refine SubL.cons (by repeat (first | assumption | exact mS | apply mT)) ?_ | refine SubL.skip ?_)))))⟩
        ·
         refine OpW.alloc rfl I36 rfl Z.N rfl rfl ?_; intro b21
         refine ⟨Z.H, ?_⟩
         refine WD.one 5 rfl (by kernel_rfl) rfl ?_
         refine OpW.call rfl rfl (by repeat (first | exact Evs.nil | apply Evs.cons rfl)) (by kernel_rfl) rfl rfl rfl ?_
         refine says_spec (l := U) (by repeat (first | assumption | exact mS | apply mT)) ?_
         refine ⟨Z.H, ?_⟩
         refine WD.one 11 rfl (by kernel_rfl) rfl ?_
         refine OpW.call rfl rfl (by repeat (first | exact Evs.nil | apply Evs.cons rfl)) (by kernel_rfl) rfl rfl rfl ?_
         refine says_spec (l := V) (by repeat (first | assumption | exact mS | apply mT)) ?_
         refine ⟨Z.H, ?_⟩
         refine WD.one 17 rfl (by kernel_rfl) rfl ?_
         refine OpW.call rfl rfl (by repeat (first | exact Evs.nil | apply Evs.cons rfl)) (by kernel_rfl) rfl rfl rfl ?_
         refine says_spec (l := W) (by repeat (first | assumption | exact mS | apply mT)) ?_
         refine ⟨Z.H, ?_⟩
         refine WD.one 21 rfl (by kernel_rfl) rfl ?_
         refine OpW.storeS rfl G36 rfl rfl Z.N Z.T rfl rfl Z.N rfl ?_
         refine ⟨Z.H, ?_⟩
         refine WD.one 22 rfl (by kernel_rfl) rfl ?_
         refine OpW.storeS rfl G36 rfl rfl Z.N Z.T rfl rfl Z.N rfl ?_
         refine ⟨Z.H, ?_⟩
         refine WD.one 23 rfl (by kernel_rfl) rfl ?_
         refine OpW.storeS rfl G36 rfl rfl Z.N Z.T rfl rfl Z.N rfl ?_
         refine ⟨Z.H, ?_⟩
         refine WD.done (by kernel_rfl) ?_
         exact ⟨(b20, b21, b22), trivial, (by repeat (first | exact Sub.nil | refine Sub.cons rfl (by first | rfl | (congr 1; omega) | assumption) ?_)), (fun w h => OwnL.sat (by repeat (first | exact OwnL.refl | apply OwnL.take (by repeat (first | exact Take.head _ | apply Take.tail)) | apply OwnL.drop)) w (h.thin (SubL.mem (by repeat (first | exact SubL.refl | refine SubL.cons (by repeat (first | assumption | exact mS | apply mT)) ?_ | refine SubL.skip ?_)))))⟩
       ·
        refine ⟨_, rfl, rfl, ?_⟩
        refine OpW.alloc rfl I36 rfl Z.N rfl rfl ?_; intro b21
        refine ⟨Z.H, ?_⟩
        refine WD.two 5 18 rfl rfl (by kernel_rfl) rfl rfl ?_ ?_
        ·
         refine OpW.call rfl rfl (by repeat (first | exact Evs.nil | apply Evs.cons rfl)) (by kernel_rfl) rfl rfl rfl ?_
         refine says_spec (l := U) (by repeat (first | assumption | exact mS | apply mT)) ?_
         refine ⟨Z.H, ?_⟩
         refine WD.two 11 18 rfl rfl (by kernel_rfl) rfl rfl ?_ ?_
         ·
          refine OpW.call rfl rfl (by repeat (first | exact Evs.nil | apply Evs.cons rfl)) (by kernel_rfl) rfl rfl rfl ?_
          refine says_spec (l := V) (by repeat (first | assumption | exact mS | apply mT)) ?_
          refine ⟨Z.H, ?_⟩
          refine WD.two 17 18 rfl rfl (by kernel_rfl) rfl rfl ?_ ?_
          ·
           refine OpW.call rfl rfl (by repeat (first | exact Evs.nil | apply Evs.cons rfl)) (by kernel_rfl) rfl rfl rfl ?_
           refine says_spec (l := W) (by repeat (first | assumption | exact mS | apply mT)) ?_
           refine ⟨Z.H, ?_⟩
           refine WD.one 18 rfl (by kernel_rfl) rfl ?_
           refine OpW.alloc rfl I36 rfl Z.N rfl rfl ?_; intro b20
           refine ⟨Z.H, ?_⟩
           refine WD.one 21 rfl (by kernel_rfl) rfl ?_
           refine OpW.storeS rfl G36 rfl rfl Z.N Z.T rfl rfl Z.N rfl ?_
           refine ⟨Z.H, ?_⟩
           refine WD.one 22 rfl (by kernel_rfl) rfl ?_
           refine OpW.storeS rfl G36 rfl rfl Z.N Z.T rfl rfl Z.N rfl ?_
           refine ⟨Z.H, ?_⟩
           refine WD.one 23 rfl (by kernel_rfl) rfl ?_
           refine OpW.storeS rfl G36 rfl rfl Z.N Z.T rfl rfl Z.N rfl ?_
           refine ⟨Z.H, ?_⟩
           refine WD.done (by kernel_rfl) ?_
           exact ⟨(b20, b21, b22), trivial, (by repeat (first | exact Sub.nil | refine Sub.cons rfl (by first | rfl | (congr 1; omega) | assumption) ?_)), (fun w h => OwnL.sat (by repeat (first | exact OwnL.refl | apply OwnL.take (by repeat (first | exact Take.head _ | apply Take.tail)) | apply OwnL.drop)) w (h.thin (SubL.mem (by repeat (first | exact SubL.refl | refine SubL.cons (by repeat (first | assumption | exact mS | apply mT)) ?_ | refine SubL.skip ?_)))))⟩
          ·
           refine OpW.alloc rfl I36 rfl Z.N rfl rfl ?_; intro b20
           refine ⟨Z.H, ?_⟩
           refine WD.one 17 rfl (by kernel_rfl) rfl ?_
           refine OpW.call rfl rfl (by repeat (first | exact Evs.nil | apply Evs.cons rfl)) (by kernel_rfl) rfl rfl rfl ?_
           refine says_spec (l := W) (by repeat (first | assumption | exact mS | apply mT)) ?_
           refine ⟨Z.H, ?_⟩
           refine WD.one 21 rfl (by kernel_rfl) rfl ?_
           refine OpW.storeS rfl G36 rfl rfl Z.N Z.T rfl rfl Z.N rfl ?_
           refine ⟨Z.H, ?_⟩
           refine WD.one 22 rfl (by kernel_rfl) rfl ?_
           refine OpW.storeS rfl G36 rfl rfl Z.N Z.T rfl rfl Z.N rfl ?_
           refine ⟨Z.H, ?_⟩
           refine WD.one 23 rfl (by kernel_rfl) rfl ?_
           refine OpW.storeS rfl G36 rfl rfl Z.N Z.T rfl rfl Z.N rfl ?_
           refine ⟨Z.H, ?_⟩
           refine WD.done (by kernel_rfl) ?_
           exact ⟨(b20, b21, b22), trivial, (by repeat (first | exact Sub.nil | refine Sub.cons rfl (by first | rfl | (congr 1; omega) | assumption) ?_)), (fun w h => OwnL.sat (by repeat (first | exact OwnL.refl | apply OwnL.take (by repeat (first | exact Take.head _ | apply Take.tail)) | apply OwnL.drop)) w (h.thin (SubL.mem (by repeat (first | exact SubL.refl | refine SubL.cons (by repeat (first | assumption | exact mS | apply mT)) ?_ | refine SubL.skip ?_)))))⟩
         ·
          refine OpW.alloc rfl I36 rfl Z.N rfl rfl ?_; intro b20
          refine ⟨Z.H, ?_⟩
          refine WD.one 11 rfl (by kernel_rfl) rfl ?_
          refine OpW.call rfl rfl (by repeat (first | exact Evs.nil | apply Evs.cons rfl)) (by kernel_rfl) rfl rfl rfl ?_
          refine says_spec (l := V) (by repeat (first | assumption | exact mS | apply mT)) ?_
          refine ⟨Z.H, ?_⟩
          refine WD.one 17 rfl (by kernel_rfl) rfl ?_
          refine OpW.call rfl rfl (by repeat (first | exact Evs.nil | apply Evs.cons rfl)) (by kernel_rfl) rfl rfl rfl ?_
          refine says_spec (l := W) (by repeat (first | assumption | exact mS | apply mT)) ?_
          refine ⟨Z.H, ?_⟩
          refine WD.one 21 rfl (by kernel_rfl) rfl ?_
          refine OpW.storeS rfl G36 rfl rfl Z.N Z.T rfl rfl Z.N rfl ?_
          refine ⟨Z.H, ?_⟩
          refine WD.one 22 rfl (by kernel_rfl) rfl ?_
          refine OpW.storeS rfl G36 rfl rfl Z.N Z.T rfl rfl Z.N rfl ?_
          refine ⟨Z.H, ?_⟩
          refine WD.one 23 rfl (by kernel_rfl) rfl ?_
          refine OpW.storeS rfl G36 rfl rfl Z.N Z.T rfl rfl Z.N rfl ?_
          refine ⟨Z.H, ?_⟩
          refine WD.done (by kernel_rfl) ?_
          exact ⟨(b20, b21, b22), trivial, (by repeat (first | exact Sub.nil | refine Sub.cons rfl (by first | rfl | (congr 1; omega) | assumption) ?_)), (fun w h => OwnL.sat (by repeat (first | exact OwnL.refl | apply OwnL.take (by repeat (first | exact Take.head _ | apply Take.tail)) | apply OwnL.drop)) w (h.thin (SubL.mem (by repeat (first | exact SubL.refl | refine SubL.cons (by repeat (first | assumption | exact mS | apply mT)) ?_ | refine SubL.skip ?_)))))⟩
        ·
         refine OpW.alloc rfl I36 rfl Z.N rfl rfl ?_; intro b20
         refine ⟨Z.H, ?_⟩
         refine WD.one 5 rfl (by kernel_rfl) rfl ?_
         refine OpW.call rfl rfl (by repeat (first | exact Evs.nil | apply Evs.cons rfl)) (by kernel_rfl) rfl rfl rfl ?_
         refine says_spec (l := U) (by repeat (first | assumption | exact mS | apply mT)) ?_
         refine ⟨Z.H, ?_⟩
         refine WD.one 11 rfl (by kernel_rfl) rfl ?_
         refine OpW.call rfl rfl (by repeat (first | exact Evs.nil | apply Evs.cons rfl)) (by kernel_rfl) rfl rfl rfl ?_
         refine says_spec (l := V) (by repeat (first | assumption | exact mS | apply mT)) ?_
         refine ⟨Z.H, ?_⟩
         refine WD.one 17 rfl (by kernel_rfl) rfl ?_
         refine OpW.call rfl rfl (by repeat (first | exact Evs.nil | apply Evs.cons rfl)) (by kernel_rfl) rfl rfl rfl ?_
         refine says_spec (l := W) (by repeat (first | assumption | exact mS | apply mT)) ?_
         refine ⟨Z.H, ?_⟩
         refine WD.one 21 rfl (by kernel_rfl) rfl ?_
         refine OpW.storeS rfl G36 rfl rfl Z.N Z.T rfl rfl Z.N rfl ?_
         refine ⟨Z.H, ?_⟩
         refine WD.one 22 rfl (by kernel_rfl) rfl ?_
         refine OpW.storeS rfl G36 rfl rfl Z.N Z.T rfl rfl Z.N rfl ?_
         refine ⟨Z.H, ?_⟩
         refine WD.one 23 rfl (by kernel_rfl) rfl ?_
         refine OpW.storeS rfl G36 rfl rfl Z.N Z.T rfl rfl Z.N rfl ?_
         refine ⟨Z.H, ?_⟩
         refine WD.done (by kernel_rfl) ?_
         exact ⟨(b20, b21, b22), trivial, (by repeat (first | exact Sub.nil | refine Sub.cons rfl (by first | rfl | (congr 1; omega) | assumption) ?_)), (fun w h => OwnL.sat (by repeat (first | exact OwnL.refl | apply OwnL.take (by repeat (first | exact Take.head _ | apply Take.tail)) | apply OwnL.drop)) w (h.thin (SubL.mem (by repeat (first | exact SubL.refl | refine SubL.cons (by repeat (first | assumption | exact mS | apply mT)) ?_ | refine SubL.skip ?_)))))⟩
     ·
      rintro ⟨b20, b21, b22⟩ -
      refine WC.seq ?_
      refine WC.region ?_
      refine WL.rd rfl rfl rfl ((by first | exact Rd.rowS rfl G36 rfl (by repeat (first | assumption | exact mS | apply mT)) Z.N rfl | exact Rd.getS rfl G36 rfl (by repeat (first | assumption | exact mS | apply mT)) (by intro x; first | rfl | (cases x; rfl) | (rcases x with ⟨_, _, _⟩; rfl) | (rcases x with ⟨_, _, _, _⟩; rfl)) (by first | assumption | rfl | exact get!_of_lt (by omega)) Z.N | exact Rd.getSA rfl G36 rfl (by repeat (first | assumption | exact mS | apply mT)) (by intro x; first | rfl | (cases x; rfl) | (rcases x with ⟨_, _, _⟩; rfl) | (rcases x with ⟨_, _, _, _⟩; rfl)) (by first | assumption | rfl | exact get!_of_lt (by omega)) Z.N)) ?_
      refine WL.op rfl ?_
      refine OpW.alloc rfl I36 rfl Z.N rfl rfl ?_; intro b23
      refine WL.op rfl ?_
      refine OpW.storeS rfl G36 rfl rfl Z.N Z.T rfl rfl Z.N rfl ?_
      refine WL.nil ?_
      refine thenQ.normal ?_
      refine WC.seq ?_
      refine WC.seq ?_
      refine WC.region ?_
      refine WL.rd rfl rfl rfl ((by first | exact Rd.rowS rfl G36 rfl (by repeat (first | assumption | exact mS | apply mT)) Z.N rfl | exact Rd.getS rfl G36 rfl (by repeat (first | assumption | exact mS | apply mT)) (by intro x; first | rfl | (cases x; rfl) | (rcases x with ⟨_, _, _⟩; rfl) | (rcases x with ⟨_, _, _, _⟩; rfl)) (by first | assumption | rfl | exact get!_of_lt (by omega)) Z.N | exact Rd.getSA rfl G36 rfl (by repeat (first | assumption | exact mS | apply mT)) (by intro x; first | rfl | (cases x; rfl) | (rcases x with ⟨_, _, _⟩; rfl) | (rcases x with ⟨_, _, _, _⟩; rfl)) (by first | assumption | rfl | exact get!_of_lt (by omega)) Z.N)) ?_
      refine WL.rd rfl rfl rfl ((by first | exact Rd.rowS rfl G36 rfl (by repeat (first | assumption | exact mS | apply mT)) Z.N rfl | exact Rd.getS rfl G36 rfl (by repeat (first | assumption | exact mS | apply mT)) (by intro x; first | rfl | (cases x; rfl) | (rcases x with ⟨_, _, _⟩; rfl) | (rcases x with ⟨_, _, _, _⟩; rfl)) (by first | assumption | rfl | exact get!_of_lt (by omega)) Z.N | exact Rd.getSA rfl G36 rfl (by repeat (first | assumption | exact mS | apply mT)) (by intro x; first | rfl | (cases x; rfl) | (rcases x with ⟨_, _, _⟩; rfl) | (rcases x with ⟨_, _, _, _⟩; rfl)) (by first | assumption | rfl | exact get!_of_lt (by omega)) Z.N)) ?_
      refine WL.rd rfl rfl rfl (Rd.aeql rfl rfl rfl (EqSr (says V ks[i]!) (says U ks[i]!))) ?_
      refine WL.nil ?_
      refine thenQ.normal ?_
      first | refine WC.ite rfl (fun hc4 => ?_) (fun hc4 => ?_) | refine WC.cond rfl (fun hc4 => ?_) (fun hc4 => ?_)
      ·
       have hcl : ¬ Clash U V W ks[i]! := fun h => h.2.2 hc4
       have hms : mval U V W ks[i]! = says W ks[i]! := by
        unfold mval
        by_cases h : says V ks[i]! = says W ks[i]! ∨ says W ks[i]! = says U ks[i]!
        ·
         rw [if_pos h]; rcases h with h | h
         ·
          exact h
         ·
          exact hc4.trans h.symm
        ·
         rw [if_neg h]
       refine WC.region ?_
       refine WL.rd rfl rfl rfl ((by first | exact Rd.rowS rfl G36 rfl (by repeat (first | assumption | exact mS | apply mT)) Z.N rfl | exact Rd.getS rfl G36 rfl (by repeat (first | assumption | exact mS | apply mT)) (by intro x; first | rfl | (cases x; rfl) | (rcases x with ⟨_, _, _⟩; rfl) | (rcases x with ⟨_, _, _, _⟩; rfl)) (by first | assumption | rfl | exact get!_of_lt (by omega)) Z.N | exact Rd.getSA rfl G36 rfl (by repeat (first | assumption | exact mS | apply mT)) (by intro x; first | rfl | (cases x; rfl) | (rcases x with ⟨_, _, _⟩; rfl) | (rcases x with ⟨_, _, _, _⟩; rfl)) (by first | assumption | rfl | exact get!_of_lt (by omega)) Z.N)) ?_
       refine WL.op rfl ?_
       refine OpW.storeS rfl G36 rfl rfl Z.N Z.T rfl rfl Z.N rfl ?_
       refine WL.nil ?_
       refine thenQ.normal ?_
       refine WC.seq ?_
       refine WC.region ?_
       refine WL.rd rfl rfl rfl ((by first | exact Rd.field rfl F36_1 rfl rfl | exact Rd.fieldE rfl F36_1 rfl (by repeat (first | assumption | exact mS | apply mT)) (by omega) | exact Rd.fieldA rfl F36_1 rfl (by repeat (first | assumption | exact mS | apply mT)) (by omega))) ?_
       refine WL.rd rfl rfl rfl (Rd.row1 (b := b23) (off := 1) rfl C4 rfl (by repeat (first | assumption | exact mS | apply mT)) rfl) ?_
       refine WL.say 137 (u := .bool (decide ((mval U V W ks[i]!).2 = true))) rfl (by rw [hms]; simp) ?_
       refine WL.nil ?_
       refine thenQ.normal ?_
       first | refine WC.ite rfl (fun hc7 => ?_) (fun hc7 => ?_) | refine WC.cond rfl (fun hc7 => ?_) (fun hc7 => ?_)
       ·
        rw [← hms]
        refine WC.drawn (rowC b23 36 [vs (mval U V W ks[i]!).1, .bool (mval U V W ks[i]!).2] :: O) 11 rfl mixed ?_
        refine WD.take 0 rfl (by kernel_rfl) Z.H rfl rfl rfl (Rd.move rfl rfl) ?_
        refine WD.take 1 rfl (by kernel_rfl) Z.H rfl rfl rfl (Rd.move rfl rfl) ?_
        refine WD.take 2 rfl (by kernel_rfl) Z.H rfl rfl rfl (Rd.move rfl rfl) ?_
        refine WD.take 3 rfl (by kernel_rfl) Z.H rfl rfl rfl ((by first | exact Rd.idx1 (k := i) rfl S33 rfl rfl (by omega) (by repeat (first | assumption | exact mS | apply mT)) (by first | omega | (simp only [List.length_cons, List.length_nil, List.length_append, List.length_map]; omega)) | exact Rd.idxA1 (k := i) rfl S33 rfl rfl (by omega) (by repeat (first | assumption | exact mS | apply mT)) (by first | omega | (simp only [List.length_cons, List.length_nil, List.length_append, List.length_map]; omega)) | exact Rd.idxR1 (k := i) rfl S33 rfl rfl (by omega) (by omega))) ?_
        refine WD.take 4 rfl (by kernel_rfl) Z.H rfl rfl rfl ((by first | exact Rd.get rfl C9 rfl (by repeat (first | assumption | exact mS | apply mT)) (by first | assumption | rfl | exact get!_of_lt (by omega)) | exact Rd.getA rfl C9 rfl (by repeat (first | assumption | exact mS | apply mT)) (by first | assumption | rfl | exact get!_of_lt (by omega)) | exact Rd.row1 rfl C9 rfl (by repeat (first | assumption | exact mS | apply mT)) (by rfl) | exact Rd.getF rfl C9 rfl (by repeat (first | assumption | exact mS | apply mT)) (by intro x; first | rfl | (cases x; rfl) | (rcases x with ⟨_, _, _⟩; rfl) | (rcases x with ⟨_, _, _, _⟩; rfl)) rfl (by first | assumption | rfl | exact get!_of_lt (by omega)) (by rfl) | exact Rd.getFA rfl C9 rfl (by repeat (first | assumption | exact mS | apply mT)) (by intro x; first | rfl | (cases x; rfl) | (rcases x with ⟨_, _, _⟩; rfl) | (rcases x with ⟨_, _, _, _⟩; rfl)) rfl (by first | assumption | rfl | exact get!_of_lt (by omega)) (by rfl))) ?_
        refine WD.take 5 rfl (by kernel_rfl) Z.H rfl rfl rfl ((by first | exact Rd.field rfl F36_0 rfl rfl | exact Rd.fieldE rfl F36_0 rfl (by repeat (first | assumption | exact mS | apply mT)) (by omega) | exact Rd.fieldA rfl F36_0 rfl (by repeat (first | assumption | exact mS | apply mT)) (by omega))) ?_
        refine WD.take 6 rfl (by kernel_rfl) Z.H rfl rfl rfl (Rd.row1 (b := b23) (off := 0) (u := vs (mval U V W ks[i]!).1) rfl C9 rfl (by repeat (first | assumption | exact mS | apply mT)) rfl) ?_
        refine WD.take 7 rfl (by kernel_rfl) Z.H rfl rfl rfl (Rd.buildN (ps := [(0, _), (1, _)]) rfl Bs42 I42 rfl (by repeat (first | exact Evs.nil | apply Evs.cons rfl)) (by repeat (first | exact CellsOf.nil | apply CellsOf.cons rfl)) (by apply NFo.mk; repeat (first | exact NF.nil | apply NF.cons))) ?_
        refine WD.one 8 rfl (by kernel_rfl) rfl ?_
        refine OpW.buildSl (ps := [(0, _)]) rfl S25 (by repeat (first | exact Evs.nil | apply Evs.cons rfl)) rfl rfl (by repeat (first | exact CellsOf.nil | apply CellsOf.cons rfl)) (by kernel_rfl) rfl rfl rfl ?_; intro b146
        refine ⟨Z.H, ?_⟩
        have hil := wantL_len U V W (ks.take i); rw [List.length_take] at hil
        refine WD.one 9 rfl (by kernel_rfl) rfl ?_
        refine OpW.appendRow (enc := encI) rfl S25 rfl rfl Z.T Z.T [(ks[i]!, (mval U V W ks[i]!).1)] rfl (by rfl) rfl (by intro x; first | rfl | (cases x; rfl) | (rcases x with ⟨_, _, _⟩; rfl) | (rcases x with ⟨_, _, _, _⟩; rfl)) (by intro x; first | rfl | (cases x; rfl) | (rcases x with ⟨_, _, _⟩; rfl) | (rcases x with ⟨_, _, _, _⟩; rfl)) ⟨by simp only [maxLen, List.length_append, List.length_nil, List.length_cons, List.length_drop, List.length_take, List.length_map]; omega, by first | omega | (simp only [List.length_append, List.length_nil, List.length_cons, List.length_drop, List.length_take, List.length_map]; omega)⟩ rfl rfl ?_; intro v147 hv147
        refine ⟨Z.H, ?_⟩
        refine WD.take 10 rfl (by kernel_rfl) Z.H rfl rfl rfl (Rd.assign rfl rfl) ?_
        refine WD.done (by kernel_rfl) ?_
        refine blockQ.normal ?_
        refine thenQ.normal ?_
        refine WC.region ?_
        refine WL.rd rfl rfl rfl (Rd.move rfl rfl) ?_
        refine WL.rd rfl rfl rfl (Rd.add rfl rfl rfl (by omega)) ?_
        refine WL.rd rfl rfl rfl (Rd.assign rfl rfl) ?_
        refine WL.nil ?_
        exact loopQ2.mk (i + 1) v147 (by omega) (by omega) (by rw [mbad_snoc _ _ _ (by omega), if_neg hcl, List.append_nil]; exact (by repeat (first | exact Sub.nil | refine Sub.cons rfl (by first | rfl | (congr 1; omega) | assumption) ?_))) (by rw [wantL_snoc _ _ _ (by omega), if_neg hcl, if_pos hc7]; exact (fun w h => OwnL.sat (by repeat (first | exact OwnL.refl | apply OwnL.take (by repeat (first | exact Take.head _ | apply Take.tail)) | apply OwnL.drop)) w (h.thin (SubL.mem (by repeat (first | exact SubL.refl | refine SubL.cons (by repeat (first | assumption | exact mS | apply mT)) ?_ | refine SubL.skip ?_))))))
       ·
        refine WC.skip ?_
        refine blockQ.normal ?_
        refine thenQ.normal ?_
        refine WC.region ?_
        refine WL.rd rfl rfl rfl (Rd.move rfl rfl) ?_
        refine WL.rd rfl rfl rfl (Rd.add rfl rfl rfl (by omega)) ?_
        refine WL.rd rfl rfl rfl (Rd.assign rfl rfl) ?_
        refine WL.nil ?_
        exact loopQ2.mk (i + 1) x (by omega) (by omega) (by rw [mbad_snoc _ _ _ (by omega), if_neg hcl, List.append_nil]; exact (by repeat (first | exact Sub.nil | refine Sub.cons rfl (by first | rfl | (congr 1; omega) | assumption) ?_))) (by rw [wantL_snoc _ _ _ (by omega), if_neg hcl, if_neg hc7, List.append_nil]; exact (fun w h => OwnL.sat (by repeat (first | exact OwnL.refl | apply OwnL.take (by repeat (first | exact Take.head _ | apply Take.tail)) | apply OwnL.drop)) w (h.thin (SubL.mem (by repeat (first | exact SubL.refl | refine SubL.cons (by repeat (first | assumption | exact mS | apply mT)) ?_ | refine SubL.skip ?_))))))
      ·
       refine WC.pick [8, 10, 12, 13, 14, 15, 16, 17, 18, 19, 20, 21, 22, 23] (by repeat (first | exact Pick.nil | apply Pick.cons rfl)) ?_
       refine WC.val 114 (.bool (decide (says W ks[i]! ≠ says U ks[i]! ∧ says V ks[i]! ≠ says W ks[i]!))) ?_ ?_
       ·
        refine WC.region ?_
        refine WL.rd rfl rfl rfl ((by first | exact Rd.rowS rfl G36 rfl (by repeat (first | assumption | exact mS | apply mT)) Z.N rfl | exact Rd.getS rfl G36 rfl (by repeat (first | assumption | exact mS | apply mT)) (by intro x; first | rfl | (cases x; rfl) | (rcases x with ⟨_, _, _⟩; rfl) | (rcases x with ⟨_, _, _, _⟩; rfl)) (by first | assumption | rfl | exact get!_of_lt (by omega)) Z.N | exact Rd.getSA rfl G36 rfl (by repeat (first | assumption | exact mS | apply mT)) (by intro x; first | rfl | (cases x; rfl) | (rcases x with ⟨_, _, _⟩; rfl) | (rcases x with ⟨_, _, _, _⟩; rfl)) (by first | assumption | rfl | exact get!_of_lt (by omega)) Z.N)) ?_
        refine WL.rd rfl rfl rfl ((by first | exact Rd.rowS rfl G36 rfl (by repeat (first | assumption | exact mS | apply mT)) Z.N rfl | exact Rd.getS rfl G36 rfl (by repeat (first | assumption | exact mS | apply mT)) (by intro x; first | rfl | (cases x; rfl) | (rcases x with ⟨_, _, _⟩; rfl) | (rcases x with ⟨_, _, _, _⟩; rfl)) (by first | assumption | rfl | exact get!_of_lt (by omega)) Z.N | exact Rd.getSA rfl G36 rfl (by repeat (first | assumption | exact mS | apply mT)) (by intro x; first | rfl | (cases x; rfl) | (rcases x with ⟨_, _, _⟩; rfl) | (rcases x with ⟨_, _, _, _⟩; rfl)) (by first | assumption | rfl | exact get!_of_lt (by omega)) Z.N)) ?_
        refine WL.rd rfl rfl rfl (Rd.aneq rfl rfl rfl (EqSr (says W ks[i]!) (says U ks[i]!))) ?_
        refine WL.rd rfl rfl rfl (Rd.move rfl rfl) ?_
        refine WL.case 110 rfl (fun hg110 => ?_) (fun hg110 => ?_)
        ·
         refine WL.rd_yes rfl rfl rfl rfl rfl rfl ((by first | exact Rd.rowS rfl G36 rfl (by repeat (first | assumption | exact mS | apply mT)) Z.N rfl | exact Rd.getS rfl G36 rfl (by repeat (first | assumption | exact mS | apply mT)) (by intro x; first | rfl | (cases x; rfl) | (rcases x with ⟨_, _, _⟩; rfl) | (rcases x with ⟨_, _, _, _⟩; rfl)) (by first | assumption | rfl | exact get!_of_lt (by omega)) Z.N | exact Rd.getSA rfl G36 rfl (by repeat (first | assumption | exact mS | apply mT)) (by intro x; first | rfl | (cases x; rfl) | (rcases x with ⟨_, _, _⟩; rfl) | (rcases x with ⟨_, _, _, _⟩; rfl)) (by first | assumption | rfl | exact get!_of_lt (by omega)) Z.N)) ?_
         refine WL.rd_yes rfl rfl rfl rfl rfl rfl ((by first | exact Rd.rowS rfl G36 rfl (by repeat (first | assumption | exact mS | apply mT)) Z.N rfl | exact Rd.getS rfl G36 rfl (by repeat (first | assumption | exact mS | apply mT)) (by intro x; first | rfl | (cases x; rfl) | (rcases x with ⟨_, _, _⟩; rfl) | (rcases x with ⟨_, _, _, _⟩; rfl)) (by first | assumption | rfl | exact get!_of_lt (by omega)) Z.N | exact Rd.getSA rfl G36 rfl (by repeat (first | assumption | exact mS | apply mT)) (by intro x; first | rfl | (cases x; rfl) | (rcases x with ⟨_, _, _⟩; rfl) | (rcases x with ⟨_, _, _, _⟩; rfl)) (by first | assumption | rfl | exact get!_of_lt (by omega)) Z.N)) ?_
         refine WL.rd_yes rfl rfl rfl rfl rfl rfl (Rd.aneq rfl rfl rfl (EqSr (says V ks[i]!) (says W ks[i]!))) ?_
         refine WL.rd rfl rfl rfl (Rd.pick_t rfl rfl rfl) ?_
         refine WL.nil ?_
         exact ⟨by repeat (first | exact Sub.nil | refine Sub.cons rfl (by first | rfl | (first | exact vb ⟨fun h => ⟨hg110, h⟩, fun h => h.2⟩ | exact vb_f (fun h => hg110 h.1))) ?_), by first | exact (fun _ h => h.thin (SubL.mem (by repeat (first | exact SubL.refl | refine SubL.cons (by repeat (first | assumption | exact mS | apply mT)) ?_ | refine SubL.skip ?_)))) | exact (fun w h => OwnL.sat (by repeat (first | exact OwnL.refl | apply OwnL.take (by repeat (first | exact Take.head _ | apply Take.tail)) | apply OwnL.drop)) w (h.thin (SubL.mem (by repeat (first | exact SubL.refl | refine SubL.cons (by repeat (first | assumption | exact mS | apply mT)) ?_ | refine SubL.skip ?_)))))⟩
        ·
         refine WL.no rfl rfl rfl rfl rfl rfl ?_
         refine WL.no rfl rfl rfl rfl rfl rfl ?_
         refine WL.no rfl rfl rfl rfl rfl rfl ?_
         refine WL.rd rfl rfl rfl (Rd.pick_f rfl rfl rfl) ?_
         refine WL.nil ?_
         exact ⟨by repeat (first | exact Sub.nil | refine Sub.cons rfl (by first | rfl | (first | exact vb ⟨fun h => ⟨hg110, h⟩, fun h => h.2⟩ | exact vb_f (fun h => hg110 h.1))) ?_), by first | exact (fun _ h => h.thin (SubL.mem (by repeat (first | exact SubL.refl | refine SubL.cons (by repeat (first | assumption | exact mS | apply mT)) ?_ | refine SubL.skip ?_)))) | exact (fun w h => OwnL.sat (by repeat (first | exact OwnL.refl | apply OwnL.take (by repeat (first | exact Take.head _ | apply Take.tail)) | apply OwnL.drop)) w (h.thin (SubL.mem (by repeat (first | exact SubL.refl | refine SubL.cons (by repeat (first | assumption | exact mS | apply mT)) ?_ | refine SubL.skip ?_)))))⟩
       ·
        first | refine WC.ite rfl (fun hc5 => ?_) (fun hc5 => ?_) | refine WC.cond rfl (fun hc5 => ?_) (fun hc5 => ?_)
        ·
         have hcl : Clash U V W ks[i]! := ⟨hc5.2, hc5.1, hc4⟩
         have hat := mbad_at (by omega) hcl
         have hml := mbad_len U V W (ks.take i)
         rw [List.length_take] at hml
         rw [← hcc] at hat
         refine WC.seq ?_
         refine WC.seq ?_
         refine WC.still mixed (by kernel_rfl) ?_
         refine WA.rd rfl rfl rfl (Rd.move rfl rfl) ?_
         refine WA.rd rfl rfl rfl (Rd.move rfl rfl) ?_
         refine WA.rd rfl rfl rfl (Rd.lenE (enc := encF) (xs := c) rfl rfl Try.underlying28 (by repeat (first | assumption | exact mS | apply mT))) ?_
         refine WA.rd rfl rfl rfl (Rd.geq rfl rfl rfl) ?_
         refine WA.rd rfl rfl rfl (Rd.move rfl rfl) ?_
         refine WA.case 119 rfl (fun hg119 => ?_) (fun hg119 => ?_)
         ·
          exfalso; omega
         ·
          refine WA.rd_yes rfl rfl rfl rfl rfl rfl (Rd.move rfl rfl) ?_
          refine WA.rd_yes rfl rfl rfl rfl rfl rfl (Rd.move rfl rfl) ?_
          refine WA.rd_yes rfl rfl rfl rfl rfl rfl ((by first | exact Rd.idx (k := (mbad U V W (ks.take i)).length) rfl S28 rfl rfl (by omega) (by repeat (first | assumption | exact mS | apply mT)) (by first | omega | (simp only [List.length_cons, List.length_nil, List.length_append, List.length_map]; omega)) | exact Rd.idxA (k := (mbad U V W (ks.take i)).length) rfl S28 rfl rfl (by omega) (by repeat (first | assumption | exact mS | apply mT)) (by first | omega | (simp only [List.length_cons, List.length_nil, List.length_append, List.length_map]; omega)) | exact Rd.idxR (k := (mbad U V W (ks.take i)).length) rfl S28 rfl rfl (by omega) (by omega))) ?_
          refine WA.rd_yes rfl rfl rfl rfl rfl rfl (Rd.getS (xs := c) (k := (mbad U V W (ks.take i)).length) (a := c[(mbad U V W (ks.take i)).length]!) rfl G40 rfl (by repeat (first | assumption | exact mS | apply mT)) (fun x => rfl) (get!_of_lt hat.1) (NF.refl _)) ?_
          refine WA.rd_yes rfl rfl rfl rfl rfl rfl (Rd.move rfl rfl) ?_
          refine WA.rd_yes rfl rfl rfl rfl rfl rfl (Rd.move rfl rfl) ?_
          refine WA.rd_yes rfl rfl rfl rfl rfl rfl ((by first | exact Rd.idx1 (k := i) rfl S33 rfl rfl (by omega) (by repeat (first | assumption | exact mS | apply mT)) (by first | omega | (simp only [List.length_cons, List.length_nil, List.length_append, List.length_map]; omega)) | exact Rd.idxA1 (k := i) rfl S33 rfl rfl (by omega) (by repeat (first | assumption | exact mS | apply mT)) (by first | omega | (simp only [List.length_cons, List.length_nil, List.length_append, List.length_map]; omega)) | exact Rd.idxR1 (k := i) rfl S33 rfl rfl (by omega) (by omega))) ?_
          refine WA.rd_yes rfl rfl rfl rfl rfl rfl ((by first | exact Rd.get rfl C9 rfl (by repeat (first | assumption | exact mS | apply mT)) (by first | assumption | rfl | exact get!_of_lt (by omega)) | exact Rd.getA rfl C9 rfl (by repeat (first | assumption | exact mS | apply mT)) (by first | assumption | rfl | exact get!_of_lt (by omega)) | exact Rd.row1 rfl C9 rfl (by repeat (first | assumption | exact mS | apply mT)) (by rfl) | exact Rd.getF rfl C9 rfl (by repeat (first | assumption | exact mS | apply mT)) (by intro x; first | rfl | (cases x; rfl) | (rcases x with ⟨_, _, _⟩; rfl) | (rcases x with ⟨_, _, _, _⟩; rfl)) rfl (by first | assumption | rfl | exact get!_of_lt (by omega)) (by rfl) | exact Rd.getFA rfl C9 rfl (by repeat (first | assumption | exact mS | apply mT)) (by intro x; first | rfl | (cases x; rfl) | (rcases x with ⟨_, _, _⟩; rfl) | (rcases x with ⟨_, _, _, _⟩; rfl)) rfl (by first | assumption | rfl | exact get!_of_lt (by omega)) (by rfl))) ?_
          refine WA.rd_yes rfl rfl rfl rfl rfl rfl ((by first | exact Rd.rowS rfl G36 rfl (by repeat (first | assumption | exact mS | apply mT)) Z.N rfl | exact Rd.getS rfl G36 rfl (by repeat (first | assumption | exact mS | apply mT)) (by intro x; first | rfl | (cases x; rfl) | (rcases x with ⟨_, _, _⟩; rfl) | (rcases x with ⟨_, _, _, _⟩; rfl)) (by first | assumption | rfl | exact get!_of_lt (by omega)) Z.N | exact Rd.getSA rfl G36 rfl (by repeat (first | assumption | exact mS | apply mT)) (by intro x; first | rfl | (cases x; rfl) | (rcases x with ⟨_, _, _⟩; rfl) | (rcases x with ⟨_, _, _, _⟩; rfl)) (by first | assumption | rfl | exact get!_of_lt (by omega)) Z.N)) ?_
          refine WA.rd_yes rfl rfl rfl rfl rfl rfl ((by first | exact Rd.rowS rfl G36 rfl (by repeat (first | assumption | exact mS | apply mT)) Z.N rfl | exact Rd.getS rfl G36 rfl (by repeat (first | assumption | exact mS | apply mT)) (by intro x; first | rfl | (cases x; rfl) | (rcases x with ⟨_, _, _⟩; rfl) | (rcases x with ⟨_, _, _, _⟩; rfl)) (by first | assumption | rfl | exact get!_of_lt (by omega)) Z.N | exact Rd.getSA rfl G36 rfl (by repeat (first | assumption | exact mS | apply mT)) (by intro x; first | rfl | (cases x; rfl) | (rcases x with ⟨_, _, _⟩; rfl) | (rcases x with ⟨_, _, _, _⟩; rfl)) (by first | assumption | rfl | exact get!_of_lt (by omega)) Z.N)) ?_
          refine WA.rd_yes rfl rfl rfl rfl rfl rfl ((by first | exact Rd.rowS rfl G36 rfl (by repeat (first | assumption | exact mS | apply mT)) Z.N rfl | exact Rd.getS rfl G36 rfl (by repeat (first | assumption | exact mS | apply mT)) (by intro x; first | rfl | (cases x; rfl) | (rcases x with ⟨_, _, _⟩; rfl) | (rcases x with ⟨_, _, _, _⟩; rfl)) (by first | assumption | rfl | exact get!_of_lt (by omega)) Z.N | exact Rd.getSA rfl G36 rfl (by repeat (first | assumption | exact mS | apply mT)) (by intro x; first | rfl | (cases x; rfl) | (rcases x with ⟨_, _, _⟩; rfl) | (rcases x with ⟨_, _, _, _⟩; rfl)) (by first | assumption | rfl | exact get!_of_lt (by omega)) Z.N)) ?_
          refine WA.rd_yes rfl rfl rfl rfl rfl rfl (Rd.buildN (ps := [(0, _), (1, _), (2, _), (3, _)]) rfl Bs40 I40 rfl (by repeat (first | exact Evs.nil | apply Evs.cons rfl)) (by repeat (first | exact CellsOf.nil | apply CellsOf.cons rfl)) (by apply NFo.mk; repeat (first | exact NF.nil | apply NF.cons))) ?_
          refine WA.rd_yes rfl rfl rfl rfl rfl rfl (Rd.aneq rfl rfl rfl (EqCf c[(mbad U V W (ks.take i)).length]! ⟨ks[i]!, says U ks[i]!, says V ks[i]!, says W ks[i]!⟩)) ?_
          refine WA.rd rfl rfl rfl (Rd.pick_f rfl rfl rfl) ?_
          refine WA.nil ?_
          refine thenQ.normal ?_
          first | refine WC.ite rfl (fun hc6 => ?_) (fun hc6 => ?_) | refine WC.cond rfl (fun hc6 => ?_) (fun hc6 => ?_)
          ·
           exact absurd hat.2 hc6
          ·
           refine WC.skip ?_
           refine thenQ.normal ?_
           refine WC.seq ?_
           refine WC.region ?_
           refine WL.rd rfl rfl rfl (Rd.move rfl rfl) ?_
           refine WL.rd rfl rfl rfl (Rd.add rfl rfl rfl (by omega)) ?_
           refine WL.rd rfl rfl rfl (Rd.assign rfl rfl) ?_
           refine WL.nil ?_
           refine thenQ.normal ?_
           refine WC.exit ?_
           refine thenQ.exit ?_
           refine blockQ.exit ?_
           refine thenQ.normal ?_
           refine WC.region ?_
           refine WL.rd rfl rfl rfl (Rd.move rfl rfl) ?_
           refine WL.rd rfl rfl rfl (Rd.add rfl rfl rfl (by omega)) ?_
           refine WL.rd rfl rfl rfl (Rd.assign rfl rfl) ?_
           refine WL.nil ?_
           exact loopQ2.mk (i + 1) x (by omega) (by omega) (by rw [mbad_snoc _ _ _ (by omega), if_pos hcl, List.length_append, List.length_singleton]; exact (by repeat (first | exact Sub.nil | refine Sub.cons rfl (by first | rfl | (congr 1; omega) | assumption) ?_))) (by rw [wantL_snoc _ _ _ (by omega), if_pos hcl, List.append_nil]; exact (fun w h => OwnL.sat (by repeat (first | exact OwnL.refl | apply OwnL.take (by repeat (first | exact Take.head _ | apply Take.tail)) | apply OwnL.drop)) w (h.thin (SubL.mem (by repeat (first | exact SubL.refl | refine SubL.cons (by repeat (first | assumption | exact mS | apply mT)) ?_ | refine SubL.skip ?_))))))
        ·
         have hcl : ¬ Clash U V W ks[i]! := fun h => hc5 ⟨h.2.1, h.1⟩
         have hms : mval U V W ks[i]! = says V ks[i]! := by
          unfold mval
          rw [if_pos]
          rcases Classical.em (says W ks[i]! = says U ks[i]!) with h | h
          ·
           exact .inr h
          ·
           rcases Classical.em (says V ks[i]! = says W ks[i]!) with h' | h'
           ·
            exact .inl h'
           ·
            exact absurd ⟨h, h'⟩ hc5
         refine WC.skip ?_
         refine thenQ.normal ?_
         refine WC.seq ?_
         refine WC.region ?_
         refine WL.rd rfl rfl rfl ((by first | exact Rd.field rfl F36_1 rfl rfl | exact Rd.fieldE rfl F36_1 rfl (by repeat (first | assumption | exact mS | apply mT)) (by omega) | exact Rd.fieldA rfl F36_1 rfl (by repeat (first | assumption | exact mS | apply mT)) (by omega))) ?_
         refine WL.rd rfl rfl rfl (Rd.row1 (b := b23) (off := 1) rfl C4 rfl (by repeat (first | assumption | exact mS | apply mT)) rfl) ?_
         refine WL.say 137 (u := .bool (decide ((mval U V W ks[i]!).2 = true))) rfl (by rw [hms]; simp) ?_
         refine WL.nil ?_
         refine thenQ.normal ?_
         first | refine WC.ite rfl (fun hc7 => ?_) (fun hc7 => ?_) | refine WC.cond rfl (fun hc7 => ?_) (fun hc7 => ?_)
         ·
          rw [← hms]
          refine WC.drawn (rowC b23 36 [vs (mval U V W ks[i]!).1, .bool (mval U V W ks[i]!).2] :: O) 11 rfl mixed ?_
          refine WD.take 0 rfl (by kernel_rfl) Z.H rfl rfl rfl (Rd.move rfl rfl) ?_
          refine WD.take 1 rfl (by kernel_rfl) Z.H rfl rfl rfl (Rd.move rfl rfl) ?_
          refine WD.take 2 rfl (by kernel_rfl) Z.H rfl rfl rfl (Rd.move rfl rfl) ?_
          refine WD.take 3 rfl (by kernel_rfl) Z.H rfl rfl rfl ((by first | exact Rd.idx1 (k := i) rfl S33 rfl rfl (by omega) (by repeat (first | assumption | exact mS | apply mT)) (by first | omega | (simp only [List.length_cons, List.length_nil, List.length_append, List.length_map]; omega)) | exact Rd.idxA1 (k := i) rfl S33 rfl rfl (by omega) (by repeat (first | assumption | exact mS | apply mT)) (by first | omega | (simp only [List.length_cons, List.length_nil, List.length_append, List.length_map]; omega)) | exact Rd.idxR1 (k := i) rfl S33 rfl rfl (by omega) (by omega))) ?_
          refine WD.take 4 rfl (by kernel_rfl) Z.H rfl rfl rfl ((by first | exact Rd.get rfl C9 rfl (by repeat (first | assumption | exact mS | apply mT)) (by first | assumption | rfl | exact get!_of_lt (by omega)) | exact Rd.getA rfl C9 rfl (by repeat (first | assumption | exact mS | apply mT)) (by first | assumption | rfl | exact get!_of_lt (by omega)) | exact Rd.row1 rfl C9 rfl (by repeat (first | assumption | exact mS | apply mT)) (by rfl) | exact Rd.getF rfl C9 rfl (by repeat (first | assumption | exact mS | apply mT)) (by intro x; first | rfl | (cases x; rfl) | (rcases x with ⟨_, _, _⟩; rfl) | (rcases x with ⟨_, _, _, _⟩; rfl)) rfl (by first | assumption | rfl | exact get!_of_lt (by omega)) (by rfl) | exact Rd.getFA rfl C9 rfl (by repeat (first | assumption | exact mS | apply mT)) (by intro x; first | rfl | (cases x; rfl) | (rcases x with ⟨_, _, _⟩; rfl) | (rcases x with ⟨_, _, _, _⟩; rfl)) rfl (by first | assumption | rfl | exact get!_of_lt (by omega)) (by rfl))) ?_
          refine WD.take 5 rfl (by kernel_rfl) Z.H rfl rfl rfl ((by first | exact Rd.field rfl F36_0 rfl rfl | exact Rd.fieldE rfl F36_0 rfl (by repeat (first | assumption | exact mS | apply mT)) (by omega) | exact Rd.fieldA rfl F36_0 rfl (by repeat (first | assumption | exact mS | apply mT)) (by omega))) ?_
          refine WD.take 6 rfl (by kernel_rfl) Z.H rfl rfl rfl (Rd.row1 (b := b23) (off := 0) (u := vs (mval U V W ks[i]!).1) rfl C9 rfl (by repeat (first | assumption | exact mS | apply mT)) rfl) ?_
          refine WD.take 7 rfl (by kernel_rfl) Z.H rfl rfl rfl (Rd.buildN (ps := [(0, _), (1, _)]) rfl Bs42 I42 rfl (by repeat (first | exact Evs.nil | apply Evs.cons rfl)) (by repeat (first | exact CellsOf.nil | apply CellsOf.cons rfl)) (by apply NFo.mk; repeat (first | exact NF.nil | apply NF.cons))) ?_
          refine WD.one 8 rfl (by kernel_rfl) rfl ?_
          refine OpW.buildSl (ps := [(0, _)]) rfl S25 (by repeat (first | exact Evs.nil | apply Evs.cons rfl)) rfl rfl (by repeat (first | exact CellsOf.nil | apply CellsOf.cons rfl)) (by kernel_rfl) rfl rfl rfl ?_; intro b146
          refine ⟨Z.H, ?_⟩
          have hil := wantL_len U V W (ks.take i); rw [List.length_take] at hil
          refine WD.one 9 rfl (by kernel_rfl) rfl ?_
          refine OpW.appendRow (enc := encI) rfl S25 rfl rfl Z.T Z.T [(ks[i]!, (mval U V W ks[i]!).1)] rfl (by rfl) rfl (by intro x; first | rfl | (cases x; rfl) | (rcases x with ⟨_, _, _⟩; rfl) | (rcases x with ⟨_, _, _, _⟩; rfl)) (by intro x; first | rfl | (cases x; rfl) | (rcases x with ⟨_, _, _⟩; rfl) | (rcases x with ⟨_, _, _, _⟩; rfl)) ⟨by simp only [maxLen, List.length_append, List.length_nil, List.length_cons, List.length_drop, List.length_take, List.length_map]; omega, by first | omega | (simp only [List.length_append, List.length_nil, List.length_cons, List.length_drop, List.length_take, List.length_map]; omega)⟩ rfl rfl ?_; intro v147 hv147
          refine ⟨Z.H, ?_⟩
          refine WD.take 10 rfl (by kernel_rfl) Z.H rfl rfl rfl (Rd.assign rfl rfl) ?_
          refine WD.done (by kernel_rfl) ?_
          refine blockQ.normal ?_
          refine thenQ.normal ?_
          refine WC.region ?_
          refine WL.rd rfl rfl rfl (Rd.move rfl rfl) ?_
          refine WL.rd rfl rfl rfl (Rd.add rfl rfl rfl (by omega)) ?_
          refine WL.rd rfl rfl rfl (Rd.assign rfl rfl) ?_
          refine WL.nil ?_
          exact loopQ2.mk (i + 1) v147 (by omega) (by omega) (by rw [mbad_snoc _ _ _ (by omega), if_neg hcl, List.append_nil]; exact (by repeat (first | exact Sub.nil | refine Sub.cons rfl (by first | rfl | (congr 1; omega) | assumption) ?_))) (by rw [wantL_snoc _ _ _ (by omega), if_neg hcl, if_pos hc7]; exact (fun w h => OwnL.sat (by repeat (first | exact OwnL.refl | apply OwnL.take (by repeat (first | exact Take.head _ | apply Take.tail)) | apply OwnL.drop)) w (h.thin (SubL.mem (by repeat (first | exact SubL.refl | refine SubL.cons (by repeat (first | assumption | exact mS | apply mT)) ?_ | refine SubL.skip ?_))))))
         ·
          refine WC.skip ?_
          refine blockQ.normal ?_
          refine thenQ.normal ?_
          refine WC.region ?_
          refine WL.rd rfl rfl rfl (Rd.move rfl rfl) ?_
          refine WL.rd rfl rfl rfl (Rd.add rfl rfl rfl (by omega)) ?_
          refine WL.rd rfl rfl rfl (Rd.assign rfl rfl) ?_
          refine WL.nil ?_
          exact loopQ2.mk (i + 1) x (by omega) (by omega) (by rw [mbad_snoc _ _ _ (by omega), if_neg hcl, List.append_nil]; exact (by repeat (first | exact Sub.nil | refine Sub.cons rfl (by first | rfl | (congr 1; omega) | assumption) ?_))) (by rw [wantL_snoc _ _ _ (by omega), if_neg hcl, if_neg hc7, List.append_nil]; exact (fun w h => OwnL.sat (by repeat (first | exact OwnL.refl | apply OwnL.take (by repeat (first | exact Take.head _ | apply Take.tail)) | apply OwnL.drop)) w (h.thin (SubL.mem (by repeat (first | exact SubL.refl | refine SubL.cons (by repeat (first | assumption | exact mS | apply mT)) ?_ | refine SubL.skip ?_))))))
    ·
     obtain rfl : i = ks.length := by omega
     rw [List.take_length]
     refine WC.exit ?_
     refine thenQ.exit ?_
     refine loopQ2.exit ?_
     refine blockQ.exit ?_
     refine thenQ.normal ?_
     refine WC.seq ?_
     refine WC.seq ?_
     refine WC.region ?_
     refine WL.rd rfl rfl rfl (Rd.move rfl rfl) ?_
     refine WL.rd rfl rfl rfl (Rd.gtr rfl rfl rfl) ?_
     refine WL.nil ?_
     refine thenQ.normal ?_
     first | refine WC.ite rfl (fun hc8 => ?_) (fun hc8 => ?_) | refine WC.cond rfl (fun hc8 => ?_) (fun hc8 => ?_)
     ·
      have hl : l = [] := hl1 (by intro h; rw [hcc] at h; rw [h] at hc8; simp at hc8)
      refine WC.heap (fun w h => Sat.nilE (enc := encI) h) ?_
      refine WC.region ?_
      refine WL.rd rfl rfl rfl (Rd.assign rfl rfl) ?_
      refine WL.nil ?_
      refine thenQ.normal ?_
      refine WC.seq ?_
      refine WC.region ?_
      refine WL.rd rfl rfl rfl (Rd.move rfl rfl) ?_
      refine WL.rd rfl rfl rfl (Rd.eql rfl rfl rfl) ?_
      refine WL.rd rfl rfl rfl (Rd.move rfl rfl) ?_
      refine WL.case 152 rfl (fun hg152 => ?_) (fun hg152 => ?_)
      ·
       refine WL.rd_yes rfl rfl rfl rfl rfl rfl (Rd.move rfl rfl) ?_
       refine WL.rd_yes rfl rfl rfl rfl rfl rfl (Rd.move rfl rfl) ?_
       refine WL.rd_yes rfl rfl rfl rfl rfl rfl (Rd.lenE (enc := encF) (xs := c) rfl rfl Try.underlying28 (by repeat (first | assumption | exact mS | apply mT))) ?_
       refine WL.rd_yes rfl rfl rfl rfl rfl rfl (Rd.eql rfl rfl rfl) ?_
       refine WL.rd rfl rfl rfl (Rd.pick_t rfl rfl rfl) ?_
       refine WL.rd rfl rfl rfl (Rd.move rfl rfl) ?_
       refine WL.case 158 rfl (fun hg158 => ?_) (fun hg158 => ?_)
       ·
        refine WL.rd_yes rfl rfl rfl rfl rfl rfl (Rd.move rfl rfl) ?_
        refine WL.rd_yes rfl rfl rfl rfl rfl rfl (Rd.move rfl rfl) ?_
        refine WL.op_yes rfl rfl rfl rfl ?_
        refine OpW.call rfl rfl (by repeat (first | exact Evs.nil | apply Evs.cons rfl)) (by kernel_rfl) rfl rfl rfl ?_
        refine same_spec (a := l) (b := []) (by repeat (first | assumption | exact mS | apply mT)) (by repeat (first | assumption | exact mS | apply mT)) ?_
        refine WL.say 161 (u := .bool true) rfl (by rw [hl]; simp) ?_
        refine WL.heap (R' := R) (O' := O) (fun w h => OwnL.sat (by repeat (first | exact OwnL.refl | apply OwnL.take (by repeat (first | exact Take.head _ | apply Take.tail)) | apply OwnL.drop)) w (h.thin (SubL.mem (by repeat (first | exact SubL.refl | refine SubL.cons (by repeat (first | assumption | exact mS | apply mT)) ?_ | refine SubL.skip ?_))))) ?_
        refine WL.rd rfl rfl rfl (Rd.pick_t rfl rfl rfl) ?_
        refine WL.rd rfl rfl rfl (Rd.assign rfl rfl) ?_
        refine WL.nil ?_
        refine thenQ.normal ?_
        refine WC.ret (Ret.one Try.results3 rfl ?_)
        exact hk
       ·
        exact absurd (by rw [hcc]) hg158
      ·
       exact absurd rfl hg152
     ·
      have hl : c = [] := by rw [hcc]; exact List.length_eq_zero_iff.1 (by omega)
      have hli : l = wantL U V W ks := by rw [hl2 hl, wantL_items (mbad_nil (hcc.symm.trans hl))]
      refine WC.heap (fun w h => Sat.shareA (Take.head _) h) ?_
      refine WC.skip ?_
      refine thenQ.normal ?_
      refine WC.seq ?_
      refine WC.region ?_
      refine WL.rd rfl rfl rfl (Rd.move rfl rfl) ?_
      refine WL.rd rfl rfl rfl (Rd.eql rfl rfl rfl) ?_
      refine WL.rd rfl rfl rfl (Rd.move rfl rfl) ?_
      refine WL.case 152 rfl (fun hg152 => ?_) (fun hg152 => ?_)
      ·
       refine WL.rd_yes rfl rfl rfl rfl rfl rfl (Rd.move rfl rfl) ?_
       refine WL.rd_yes rfl rfl rfl rfl rfl rfl (Rd.move rfl rfl) ?_
       refine WL.rd_yes rfl rfl rfl rfl rfl rfl (Rd.lenE (enc := encF) (xs := c) rfl rfl Try.underlying28 (by repeat (first | assumption | exact mS | apply mT))) ?_
       refine WL.rd_yes rfl rfl rfl rfl rfl rfl (Rd.eql rfl rfl rfl) ?_
       refine WL.rd rfl rfl rfl (Rd.pick_t rfl rfl rfl) ?_
       refine WL.rd rfl rfl rfl (Rd.move rfl rfl) ?_
       refine WL.case 158 rfl (fun hg158 => ?_) (fun hg158 => ?_)
       ·
        refine WL.rd_yes rfl rfl rfl rfl rfl rfl (Rd.move rfl rfl) ?_
        refine WL.rd_yes rfl rfl rfl rfl rfl rfl (Rd.move rfl rfl) ?_
        refine WL.op_yes rfl rfl rfl rfl ?_
        refine OpW.call rfl rfl (by repeat (first | exact Evs.nil | apply Evs.cons rfl)) (by kernel_rfl) rfl rfl rfl ?_
        refine same_spec (a := l) (b := wantL U V W ks) (by repeat (first | assumption | exact mS | apply mT)) (by repeat (first | assumption | exact mS | apply mT)) ?_
        refine WL.say 161 (u := .bool true) rfl (by rw [← hli]; simp) ?_
        refine WL.heap (R' := R) (O' := O) (fun w h => OwnL.sat (by repeat (first | exact OwnL.refl | apply OwnL.take (by repeat (first | exact Take.head _ | apply Take.tail)) | apply OwnL.drop)) w (h.thin (SubL.mem (by repeat (first | exact SubL.refl | refine SubL.cons (by repeat (first | assumption | exact mS | apply mT)) ?_ | refine SubL.skip ?_))))) ?_
        refine WL.rd rfl rfl rfl (Rd.pick_t rfl rfl rfl) ?_
        refine WL.rd rfl rfl rfl (Rd.assign rfl rfl) ?_
        refine WL.nil ?_
        refine thenQ.normal ?_
        refine WC.ret (Ret.one Try.results3 rfl ?_)
        exact hk
       ·
        exact absurd (by rw [hcc]) hg158
      ·
       exact absurd rfl hg152
end
end Go.Proofs.Ytbbeifdmgmadiaa
