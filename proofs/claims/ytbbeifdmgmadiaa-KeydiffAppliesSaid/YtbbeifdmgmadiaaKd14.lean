/-
 Layer 20: KeydiffChanges.
-/
import Derived.Test.YtbbeifdmgmadiaaKd13
namespace Go.Proofs.Ytbbeifdmgmadiaa
open Go Go.SL
theorem dchg_at {U V : List It} {ks : List (List UInt8)} {i : Nat} (h : i < ks.length) (hc : says U ks[i]! ≠ says V ks[i]!) : (dchg U V (ks.take i)).length < (dchg U V ks).length ∧ (dchg U V ks)[(dchg U V (ks.take i)).length]! = ⟨ks[i]!, says U ks[i]!, says V ks[i]!⟩ := by
 have e : dchg U V ks = dchg U V (ks.take i) ++ [⟨ks[i]!, says U ks[i]!, says V ks[i]!⟩] ++ dchg U V (ks.drop (i + 1)) := by
  have h1 := dchg_snoc U V h
  rw [if_neg hc] at h1
  rw [← h1]
  conv => lhs; rw [← List.take_append_drop (i + 1) ks]
  rw [dchg, List.filterMap_append]; rfl
 have hlt : (dchg U V (ks.take i)).length < (dchg U V ks).length := by rw [e]; simp
 refine ⟨hlt, ?_⟩
 rw [getElem!_pos (dchg U V ks) _ hlt]
 generalize hL : dchg U V ks = L at hlt e ⊢
 subst e
 simp
theorem KsOf.nil2 {a b : List It} {ks ks' : List (List UInt8)} (h : KsOf ks [a, b]) (h' : KsOf ks' [a, b, []]) : ks = ks' := h.uniq h' fun k => by
 simp only [keysIn, List.flatMap_cons, List.flatMap_nil, List.append_nil, List.mem_append, List.map_nil]
section
variable {R : List RO} {O O' : List Own} {POST : Value → List RO → List Own → Prop}
set_option maxRecDepth 20000 in
set_option maxHeartbeats 4000000 in
theorem changes_spec {p q : List It} {pv qv : Value} (hp : SlE encI pv p ∈ R) (hq : SlE encI qv q ∈ R) (hKp : ∀ x ∈ p, x.1.length ≤ 9223372036854775807) (hKq : ∀ x ∈ q, x.1.length ≤ 9223372036854775807)
  (hk : POST (.bool true) R O) : Fun Try.prog 6 #[pv, qv] R O POST := by
 have kU := KLof hKp; have kV := KLof hKq
 refine Fun.enter (l := [_, _]) Try.func6 rfl Try.ntmps6 rfl (L0 := [(0, _), (1, _)]) rfl ?_
 refine WC.seq ?_
 refine WC.region ?_
 refine WL.rd rfl rfl rfl (Rd.assign rfl rfl) ?_
 refine WL.nil ?_
 refine thenQ.normal ?_
 refine WC.seq ?_
 refine WC.seq ?_
 refine WC.region ?_
 refine WL.op rfl ?_
 refine OpW.call rfl rfl (by repeat (first | exact Evs.nil | apply Evs.cons rfl)) (by kernel_rfl) rfl rfl rfl ?_
 refine speaks_spec ?_
 refine WL.say 18 (u := .bool (decide True)) rfl (by simp) ?_
 refine WL.rd rfl rfl rfl ((by first | exact Rd.notd rfl rfl | exact Rd.not rfl rfl)) ?_
 refine WL.nil ?_
 refine thenQ.normal ?_
 first | refine WC.ite rfl (fun hc1 => ?_) (fun hc1 => ?_) | refine WC.cond rfl (fun hc1 => ?_) (fun hc1 => ?_)
 ·
  exact absurd trivial hc1
 ·
  refine WC.skip ?_
  refine thenQ.normal ?_
  refine WC.seq ?_
  refine WC.region ?_
  refine WL.rd rfl rfl rfl (Rd.move rfl rfl) ?_
  refine WL.op rfl ?_
  refine OpW.call rfl rfl (by repeat (first | exact Evs.nil | apply Evs.cons rfl)) (by kernel_rfl) rfl rfl rfl ?_
  refine litems_spec hp ?_; intro vx vu
  refine WL.heap (fun w h => Sat.shareA (Take.head _) (Sat.shareA (Take.head _) h)) ?_
  refine WL.rd rfl rfl rfl (Rd.move rfl rfl) ?_
  refine WL.rd rfl rfl rfl (Rd.extract rfl rfl rfl) ?_
  refine WL.rd rfl rfl rfl (Rd.extract rfl rfl rfl) ?_
  refine WL.rd rfl rfl rfl (Rd.assign rfl rfl) ?_
  refine WL.rd rfl rfl rfl (Rd.assign rfl rfl) ?_
  refine WL.nil ?_
  refine thenQ.normal ?_
  refine WC.seq ?_
  refine WC.region ?_
  refine WL.rd rfl rfl rfl (Rd.move rfl rfl) ?_
  refine WL.op rfl ?_
  refine OpW.call rfl rfl (by repeat (first | exact Evs.nil | apply Evs.cons rfl)) (by kernel_rfl) rfl rfl rfl ?_
  refine litems_spec (xs := q) (by repeat (first | assumption | exact mS | apply mT)) ?_; intro vy vv
  refine WL.heap (fun w h => Sat.shareA (Take.head _) (Sat.shareA (Take.head _) h)) ?_
  generalize p.take 40 = U at kU ⊢
  generalize q.take 40 = V at kV ⊢
  refine WL.rd rfl rfl rfl (Rd.move rfl rfl) ?_
  refine WL.rd rfl rfl rfl (Rd.extract rfl rfl rfl) ?_
  refine WL.rd rfl rfl rfl (Rd.extract rfl rfl rfl) ?_
  refine WL.rd rfl rfl rfl (Rd.assign rfl rfl) ?_
  refine WL.rd rfl rfl rfl (Rd.assign rfl rfl) ?_
  refine WL.nil ?_
  refine thenQ.normal ?_
  refine WC.seq ?_
  refine WC.region ?_
  refine WL.rd rfl rfl rfl (Rd.move rfl rfl) ?_
  refine WL.rd rfl rfl rfl (Rd.move rfl rfl) ?_
  refine WL.op rfl ?_
  refine OpW.call rfl rfl (by repeat (first | exact Evs.nil | apply Evs.cons rfl)) (by kernel_rfl) rfl rfl rfl ?_
  refine diff2_spec (a := U) (b := V) (by repeat (first | assumption | exact mS | apply mT)) (by repeat (first | assumption | exact mS | apply mT)) kU kV ?_; intro l e lv hD
  refine WL.rd rfl rfl rfl (Rd.move rfl rfl) ?_
  refine WL.rd rfl rfl rfl (Rd.extract rfl rfl rfl) ?_
  refine WL.rd rfl rfl rfl (Rd.extract rfl rfl rfl) ?_
  refine WL.rd rfl rfl rfl (Rd.assign rfl rfl) ?_
  refine WL.rd rfl rfl rfl (Rd.assign rfl rfl) ?_
  refine WL.nil ?_
  refine thenQ.normal ?_
  refine WC.seq ?_
  refine WC.seq ?_
  refine WC.region ?_
  refine WL.rd rfl rfl rfl (Rd.move rfl rfl) ?_
  refine WL.op rfl ?_
  refine OpW.call rfl rfl (by repeat (first | exact Evs.nil | apply Evs.cons rfl)) (by kernel_rfl) rfl rfl rfl ?_
  refine right_spec (l := U) (by repeat (first | assumption | exact mS | apply mT)) ?_
  refine WL.rd rfl rfl rfl (Rd.move rfl rfl) ?_
  refine WL.op rfl ?_
  refine OpW.call rfl rfl (by repeat (first | exact Evs.nil | apply Evs.cons rfl)) (by kernel_rfl) rfl rfl rfl ?_
  refine rright_spec (l := U) (by repeat (first | assumption | exact mS | apply mT)) ?_
  refine WL.rd rfl rfl rfl (Rd.bneq rfl rfl rfl Try.underlying4) ?_
  refine WL.say 40 (u := .bool (decide False)) rfl (by simp) ?_
  refine WL.rd rfl rfl rfl (Rd.move rfl rfl) ?_
  refine WL.case 41 rfl (fun hg41 => ?_) (fun hg41 => ?_)
  ·
   exact hg41.elim
  ·
   refine WL.rd_yes rfl rfl rfl rfl rfl rfl (Rd.move rfl rfl) ?_
   refine WL.op_yes rfl rfl rfl rfl ?_
   refine OpW.call rfl rfl (by repeat (first | exact Evs.nil | apply Evs.cons rfl)) (by kernel_rfl) rfl rfl rfl ?_
   refine right_spec (l := V) (by repeat (first | assumption | exact mS | apply mT)) ?_
   refine WL.rd_yes rfl rfl rfl rfl rfl rfl (Rd.move rfl rfl) ?_
   refine WL.op_yes rfl rfl rfl rfl ?_
   refine OpW.call rfl rfl (by repeat (first | exact Evs.nil | apply Evs.cons rfl)) (by kernel_rfl) rfl rfl rfl ?_
   refine rright_spec (l := V) (by repeat (first | assumption | exact mS | apply mT)) ?_
   refine WL.rd_yes rfl rfl rfl rfl rfl rfl (Rd.bneq rfl rfl rfl Try.underlying4) ?_
   refine WL.say 46 (u := .bool (decide False)) rfl (by simp) ?_
   refine WL.rd rfl rfl rfl (Rd.pick_f rfl rfl rfl) ?_
   refine WL.nil ?_
   refine thenQ.normal ?_
   first | refine WC.ite rfl (fun hc2 => ?_) (fun hc2 => ?_) | refine WC.cond rfl (fun hc2 => ?_) (fun hc2 => ?_)
   ·
    exact hc2.elim
   ·
    refine WC.skip ?_
    refine thenQ.normal ?_
    refine WC.seq ?_
    refine WC.pick [5, 6, 8, 9, 10] (by repeat (first | exact Pick.nil | apply Pick.cons rfl)) ?_
    refine WC.val 55 (.bool (decide (¬ (RightP U ∧ RightP V)))) ?_ ?_
    ·
     refine WC.region ?_
     refine WL.rd rfl rfl rfl (Rd.move rfl rfl) ?_
     refine WL.op rfl ?_
     refine OpW.call rfl rfl (by repeat (first | exact Evs.nil | apply Evs.cons rfl)) (by kernel_rfl) rfl rfl rfl ?_
     refine rright_spec (l := U) (by repeat (first | assumption | exact mS | apply mT)) ?_
     refine WL.rd rfl rfl rfl ((by first | exact Rd.notd rfl rfl | exact Rd.not rfl rfl)) ?_
     refine WL.rd rfl rfl rfl (Rd.move rfl rfl) ?_
     refine WL.case 51 rfl (fun hg51 => ?_) (fun hg51 => ?_)
     ·
      refine WL.no rfl rfl rfl rfl rfl rfl ?_
      refine WL.no rfl rfl rfl rfl rfl rfl ?_
      refine WL.no rfl rfl rfl rfl rfl rfl ?_
      refine WL.rd rfl rfl rfl (Rd.pick_t rfl rfl rfl) ?_
      refine WL.nil ?_
      exact ⟨by repeat (first | exact Sub.nil | refine Sub.cons rfl (by first | rfl | (first | exact vb_t (fun h => hg51 h.1) | exact vb ⟨fun h h2 => h h2.2, fun h h2 => h ⟨Decidable.not_not.1 hg51, h2⟩⟩)) ?_), by first | exact (fun _ h => h.thin (SubL.mem (by repeat (first | exact SubL.refl | refine SubL.cons (by repeat (first | assumption | exact mS | apply mT)) ?_ | refine SubL.skip ?_)))) | exact (fun w h => OwnL.sat (by repeat (first | exact OwnL.refl | apply OwnL.take (by repeat (first | exact Take.head _ | apply Take.tail)) | apply OwnL.drop)) w (h.thin (SubL.mem (by repeat (first | exact SubL.refl | refine SubL.cons (by repeat (first | assumption | exact mS | apply mT)) ?_ | refine SubL.skip ?_)))))⟩
     ·
      refine WL.rd_yes rfl rfl rfl rfl rfl rfl (Rd.move rfl rfl) ?_
      refine WL.op_yes rfl rfl rfl rfl ?_
      refine OpW.call rfl rfl (by repeat (first | exact Evs.nil | apply Evs.cons rfl)) (by kernel_rfl) rfl rfl rfl ?_
      refine rright_spec (l := V) (by repeat (first | assumption | exact mS | apply mT)) ?_
      refine WL.rd_yes rfl rfl rfl rfl rfl rfl ((by first | exact Rd.notd rfl rfl | exact Rd.not rfl rfl)) ?_
      refine WL.rd rfl rfl rfl (Rd.pick_f rfl rfl rfl) ?_
      refine WL.nil ?_
      exact ⟨by repeat (first | exact Sub.nil | refine Sub.cons rfl (by first | rfl | (first | exact vb_t (fun h => hg51 h.1) | exact vb ⟨fun h h2 => h h2.2, fun h h2 => h ⟨Decidable.not_not.1 hg51, h2⟩⟩)) ?_), by first | exact (fun _ h => h.thin (SubL.mem (by repeat (first | exact SubL.refl | refine SubL.cons (by repeat (first | assumption | exact mS | apply mT)) ?_ | refine SubL.skip ?_)))) | exact (fun w h => OwnL.sat (by repeat (first | exact OwnL.refl | apply OwnL.take (by repeat (first | exact Take.head _ | apply Take.tail)) | apply OwnL.drop)) w (h.thin (SubL.mem (by repeat (first | exact SubL.refl | refine SubL.cons (by repeat (first | assumption | exact mS | apply mT)) ?_ | refine SubL.skip ?_)))))⟩
    ·
     first | refine WC.ite rfl (fun hc3 => ?_) (fun hc3 => ?_) | refine WC.cond rfl (fun hc3 => ?_) (fun hc3 => ?_)
     ·
      obtain ⟨he, hl⟩ := hD.1 hc3
      subst he; subst hl
      refine WC.seq ?_
      refine WC.region ?_
      refine WL.rd rfl rfl rfl (Rd.move rfl rfl) ?_
      refine WL.rd rfl rfl rfl (Rd.eql rfl rfl rfl) ?_
      refine WL.rd rfl rfl rfl (Rd.move rfl rfl) ?_
      refine WL.case 58 rfl (fun hg58 => ?_) (fun hg58 => ?_)
      ·
       refine WL.rd_yes rfl rfl rfl rfl rfl rfl (Rd.move rfl rfl) ?_
       refine WL.rd_yes rfl rfl rfl rfl rfl rfl ((by first | exact Rd.lenE rfl rfl Try.underlying47 (by repeat (first | assumption | exact mS | apply mT)) | exact Rd.lenA rfl rfl Try.underlying47 (by repeat (first | assumption | exact mS | apply mT)) | exact Rd.len rfl rfl Try.underlying47)) ?_
       refine WL.rd_yes rfl rfl rfl rfl rfl rfl (Rd.eql rfl rfl rfl) ?_
       refine WL.rd rfl rfl rfl (Rd.pick_t rfl rfl rfl) ?_
       refine WL.say 62 (u := .bool true) rfl rfl ?_
       refine WL.heap (R' := R) (O' := O) (fun w h => OwnL.sat (by repeat (first | exact OwnL.refl | apply OwnL.take (by repeat (first | exact Take.head _ | apply Take.tail)) | apply OwnL.drop)) w (h.thin (SubL.mem (by repeat (first | exact SubL.refl | refine SubL.cons (by repeat (first | assumption | exact mS | apply mT)) ?_ | refine SubL.skip ?_))))) ?_
       refine WL.rd rfl rfl rfl (Rd.assign rfl rfl) ?_
       refine WL.nil ?_
       refine thenQ.normal ?_
       refine WC.ret (Ret.one Try.results6 rfl ?_)
       exact hk
      ·
       exact absurd rfl hg58
     ·
      obtain ⟨hU, hV⟩ := Decidable.not_not.1 hc3
      obtain ⟨he, ks, hks, hl⟩ := hD.2 hU hV
      subst he
      have hG := KG.dchg kU kV hks
      rw [← hl] at hG
      have hkl := keys2_len kU kV hks
      refine WC.heap (fun w h => Sat.nilE (enc := encI) h) ?_
      refine WC.skip ?_
      refine thenQ.normal ?_
      refine WC.seq ?_
      refine WC.region ?_
      refine WL.rd rfl rfl rfl (Rd.move rfl rfl) ?_
      refine WL.rd rfl rfl rfl (Rd.move rfl rfl) ?_
      refine WL.op rfl ?_
      refine OpW.call rfl rfl (by repeat (first | exact Evs.nil | apply Evs.cons rfl)) (by kernel_rfl) rfl rfl rfl ?_
      refine rkeys_spec (a := U) (b := V) (c := []) (by repeat (first | assumption | exact mS | apply mT)) (by repeat (first | assumption | exact mS | apply mT)) (by repeat (first | assumption | exact mS | apply mT)) kU.1 kV.1 (by simp) ?_; intro v65 ks' hks'
      have hkk := hks.nil2 hks'
      subst hkk
      refine WL.heap (fun w h => Sat.shareA (Take.head _) h) ?_
      refine WL.rd rfl rfl rfl (Rd.assign rfl rfl) ?_
      refine WL.nil ?_
      refine thenQ.normal ?_
      refine WC.seq ?_
      refine WC.region ?_
      refine WL.rd rfl rfl rfl (Rd.assign rfl rfl) ?_
      refine WL.nil ?_
      refine thenQ.normal ?_
      refine WC.seq ?_
      refine WC.seq ?_
      refine WC.region ?_
      refine WL.rd rfl rfl rfl (Rd.assign rfl rfl) ?_
      refine WL.nil ?_
      refine thenQ.normal ?_
      refine WC.block ?_
      refine WC.pick [12, 13, 5, 6, 8, 9, 10, 11] (by repeat (first | exact Pick.nil | apply Pick.cons rfl)) ?_
      refine WC.loop1 2 (fun (i : Nat) => [(12, .int .i64 ((dchg U V (ks.take i)).length : Nat)), (13, .int .i64 (i : Int))]) (fun (i : Nat) => O) (fun (i : Nat) => i ≤ ks.length) (fun (i : Nat) => ks.length - i) (0) (by repeat (first | exact Split.zero | apply Split.succ)) ?hinv1 (by repeat (first | exact Sub.nil | refine Sub.cons rfl (by first | rfl | (congr 1; omega) | assumption) ?_)) (fun _ h => h) ?_
      case hinv1 =>
       exact Nat.zero_le _
      intro i
      rintro i1
      refine WC.seq ?_
      refine WC.seq ?_
      refine WC.region ?_
      refine WL.rd rfl rfl rfl (Rd.move rfl rfl) ?_
      refine WL.rd rfl rfl rfl (Rd.move rfl rfl) ?_
      refine WL.rd rfl rfl rfl ((by first | exact Rd.lenE rfl rfl Try.underlying33 (by repeat (first | assumption | exact mS | apply mT)) | exact Rd.lenA rfl rfl Try.underlying33 (by repeat (first | assumption | exact mS | apply mT)) | exact Rd.len rfl rfl Try.underlying33)) ?_
      refine WL.rd rfl rfl rfl (Rd.lss rfl rfl rfl) ?_
      refine WL.nil ?_
      refine thenQ.normal ?_
      first | refine WC.ite rfl (fun hc4 => ?_) (fun hc4 => ?_) | refine WC.cond rfl (fun hc4 => ?_) (fun hc4 => ?_)
      ·
       refine WC.skip ?_
       refine thenQ.normal ?_
       refine WC.seq ?_
       refine WC.block ?_
       refine WC.cut (α := Nat × Nat) (fun q => [(5, vx), (6, vu), (8, vv), (9, lv), (10, .int .i64 0), (11, v65), (12, .int .i64 ((dchg U V (ks.take i)).length : Nat)), (13, .int .i64 (i : Int)), (14, .pointer (some ⟨q.1, 0, none⟩)), (15, .pointer (some ⟨q.2, 0, none⟩))]) (fun _ => SlE (one vs) v65 ks :: SlE encI (.slice none 0 0) ([] : List It) :: SlE encG lv l :: SlE encI vv V :: SlE encI vy V :: SlE encI vu U :: SlE encI vx U :: R) (fun q => rowC q.1 36 [vs (says U ks[i]!).1, .bool (says U ks[i]!).2] :: rowC q.2 36 [vs (says V ks[i]!).1, .bool (says V ks[i]!).2] :: O) (fun _ => True) ?_ ?_
       ·
        refine WC.drawn (O) 16 rfl mixed ?_
        refine WD.take 0 rfl (by kernel_rfl) Z.H rfl rfl rfl (Rd.move rfl rfl) ?_
        refine WD.take 1 rfl (by kernel_rfl) Z.H rfl rfl rfl (Rd.move rfl rfl) ?_
        refine WD.take 2 rfl (by kernel_rfl) Z.H rfl rfl rfl (Rd.move rfl rfl) ?_
        refine WD.take 3 rfl (by kernel_rfl) Z.H rfl rfl rfl ((by first | exact Rd.idx1 (k := i) rfl S33 rfl rfl (by omega) (by repeat (first | assumption | exact mS | apply mT)) (by first | omega | (simp only [List.length_cons, List.length_nil, List.length_append, List.length_map]; omega)) | exact Rd.idxA1 (k := i) rfl S33 rfl rfl (by omega) (by repeat (first | assumption | exact mS | apply mT)) (by first | omega | (simp only [List.length_cons, List.length_nil, List.length_append, List.length_map]; omega)) | exact Rd.idxR1 (k := i) rfl S33 rfl rfl (by omega) (by omega))) ?_
        refine WD.take 4 rfl (by kernel_rfl) Z.H rfl rfl rfl ((by first | exact Rd.get rfl C9 rfl (by repeat (first | assumption | exact mS | apply mT)) (by first | assumption | rfl | exact get!_of_lt (by omega)) | exact Rd.getA rfl C9 rfl (by repeat (first | assumption | exact mS | apply mT)) (by first | assumption | rfl | exact get!_of_lt (by omega)) | exact Rd.row1 rfl C9 rfl (by repeat (first | assumption | exact mS | apply mT)) (by rfl) | exact Rd.getF rfl C9 rfl (by repeat (first | assumption | exact mS | apply mT)) (by intro x; first | rfl | (cases x; rfl) | (rcases x with ⟨_, _, _⟩; rfl) | (rcases x with ⟨_, _, _, _⟩; rfl)) rfl (by first | assumption | rfl | exact get!_of_lt (by omega)) (by rfl) | exact Rd.getFA rfl C9 rfl (by repeat (first | assumption | exact mS | apply mT)) (by intro x; first | rfl | (cases x; rfl) | (rcases x with ⟨_, _, _⟩; rfl) | (rcases x with ⟨_, _, _, _⟩; rfl)) rfl (by first | assumption | rfl | exact get!_of_lt (by omega)) (by rfl))) ?_
        refine WD.take 6 rfl (by kernel_rfl) Z.H rfl rfl rfl (Rd.move rfl rfl) ?_
        refine WD.take 7 rfl (by kernel_rfl) Z.H rfl rfl rfl (Rd.move rfl rfl) ?_
        refine WD.take 8 rfl (by kernel_rfl) Z.H rfl rfl rfl (Rd.move rfl rfl) ?_
        refine WD.take 9 rfl (by kernel_rfl) Z.H rfl rfl rfl ((by first | exact Rd.idx1 (k := i) rfl S33 rfl rfl (by omega) (by repeat (first | assumption | exact mS | apply mT)) (by first | omega | (simp only [List.length_cons, List.length_nil, List.length_append, List.length_map]; omega)) | exact Rd.idxA1 (k := i) rfl S33 rfl rfl (by omega) (by repeat (first | assumption | exact mS | apply mT)) (by first | omega | (simp only [List.length_cons, List.length_nil, List.length_append, List.length_map]; omega)) | exact Rd.idxR1 (k := i) rfl S33 rfl rfl (by omega) (by omega))) ?_
        refine WD.take 10 rfl (by kernel_rfl) Z.H rfl rfl rfl ((by first | exact Rd.get rfl C9 rfl (by repeat (first | assumption | exact mS | apply mT)) (by first | assumption | rfl | exact get!_of_lt (by omega)) | exact Rd.getA rfl C9 rfl (by repeat (first | assumption | exact mS | apply mT)) (by first | assumption | rfl | exact get!_of_lt (by omega)) | exact Rd.row1 rfl C9 rfl (by repeat (first | assumption | exact mS | apply mT)) (by rfl) | exact Rd.getF rfl C9 rfl (by repeat (first | assumption | exact mS | apply mT)) (by intro x; first | rfl | (cases x; rfl) | (rcases x with ⟨_, _, _⟩; rfl) | (rcases x with ⟨_, _, _, _⟩; rfl)) rfl (by first | assumption | rfl | exact get!_of_lt (by omega)) (by rfl) | exact Rd.getFA rfl C9 rfl (by repeat (first | assumption | exact mS | apply mT)) (by intro x; first | rfl | (cases x; rfl) | (rcases x with ⟨_, _, _⟩; rfl) | (rcases x with ⟨_, _, _, _⟩; rfl)) rfl (by first | assumption | rfl | exact get!_of_lt (by omega)) (by rfl))) ?_
        refine WD.some [5, 12, 13] (by kernel_rfl) (by simp) ?_
        intro i hi; simp only [List.mem_cons, List.not_mem_nil, or_false] at hi; rcases hi with rfl | rfl | rfl
        ·
         refine ⟨_, rfl, rfl, ?_⟩
         refine OpW.call rfl rfl (by repeat (first | exact Evs.nil | apply Evs.cons rfl)) (by kernel_rfl) rfl rfl rfl ?_
         refine says_spec (l := U) (by repeat (first | assumption | exact mS | apply mT)) ?_
         refine ⟨Z.H, ?_⟩
         refine WD.some [11, 12, 13] (by kernel_rfl) (by simp) ?_
         intro i hi; simp only [List.mem_cons, List.not_mem_nil, or_false] at hi; rcases hi with rfl | rfl | rfl
         ·
          refine ⟨_, rfl, rfl, ?_⟩
          refine OpW.call rfl rfl (by repeat (first | exact Evs.nil | apply Evs.cons rfl)) (by kernel_rfl) rfl rfl rfl ?_
          refine says_spec (l := V) (by repeat (first | assumption | exact mS | apply mT)) ?_
          refine ⟨Z.H, ?_⟩
          refine WD.two 12 13 rfl rfl (by kernel_rfl) rfl rfl ?_ ?_
          ·
           refine OpW.alloc rfl I36 rfl Z.N rfl rfl ?_; intro b14
           refine ⟨Z.H, ?_⟩
           refine WD.one 13 rfl (by kernel_rfl) rfl ?_
           refine OpW.alloc rfl I36 rfl Z.N rfl rfl ?_; intro b15
           refine ⟨Z.H, ?_⟩
           refine WD.one 14 rfl (by kernel_rfl) rfl ?_
           refine OpW.storeS rfl G36 rfl rfl Z.N Z.T rfl rfl Z.N rfl ?_
           refine ⟨Z.H, ?_⟩
           refine WD.one 15 rfl (by kernel_rfl) rfl ?_
           refine OpW.storeS rfl G36 rfl rfl Z.N Z.T rfl rfl Z.N rfl ?_
           refine ⟨Z.H, ?_⟩
           refine WD.done (by kernel_rfl) ?_
           exact ⟨(b14, b15), trivial, (by repeat (first | exact Sub.nil | refine Sub.cons rfl (by first | rfl | (congr 1; omega) | assumption) ?_)), (fun w h => OwnL.sat (by repeat (first | exact OwnL.refl | apply OwnL.take (by repeat (first | exact Take.head _ | apply Take.tail)) | apply OwnL.drop)) w (h.thin (SubL.mem (by repeat (first | exact SubL.refl | refine SubL.cons (by repeat (first | assumption | exact mS | apply mT)) ?_ | refine SubL.skip ?_)))))⟩
          ·
           refine OpW.alloc rfl I36 rfl Z.N rfl rfl ?_; intro b15
           refine ⟨Z.H, ?_⟩
           refine WD.one 12 rfl (by kernel_rfl) rfl ?_
           refine OpW.alloc rfl I36 rfl Z.N rfl rfl ?_; intro b14
           refine ⟨Z.H, ?_⟩
           refine WD.one 14 rfl (by kernel_rfl) rfl ?_
           refine OpW.storeS rfl G36 rfl rfl Z.N Z.T rfl rfl Z.N rfl ?_
           refine ⟨Z.H, ?_⟩
           refine WD.one 15 rfl (by kernel_rfl) rfl ?_
           refine OpW.storeS rfl G36 rfl rfl Z.N Z.T rfl rfl Z.N rfl ?_
           refine ⟨Z.H, ?_⟩
           refine WD.done (by kernel_rfl) ?_
           exact ⟨(b14, b15), trivial, (by repeat (first | exact Sub.nil | refine Sub.cons rfl (by first | rfl | (congr 1; omega) | assumption) ?_)), (fun w h => OwnL.sat (by repeat (first | exact OwnL.refl | apply OwnL.take (by repeat (first | exact Take.head _ | apply Take.tail)) | apply OwnL.drop)) w (h.thin (SubL.mem (by repeat (first | exact SubL.refl | refine SubL.cons (by repeat (first | assumption | exact mS | apply mT)) ?_ | refine SubL.skip ?_)))))⟩
         ·
          refine ⟨_, rfl, rfl, ?_⟩
          refine OpW.alloc rfl I36 rfl Z.N rfl rfl ?_; intro b14
          refine ⟨Z.H, ?_⟩
          refine WD.two 11 13 rfl rfl (by kernel_rfl) rfl rfl ?_ ?_
          ·
           refine OpW.call rfl rfl (by repeat (first | exact Evs.nil | apply Evs.cons rfl)) (by kernel_rfl) rfl rfl rfl ?_
           refine says_spec (l := V) (by repeat (first | assumption | exact mS | apply mT)) ?_
           refine ⟨Z.H, ?_⟩
           refine WD.one 13 rfl (by kernel_rfl) rfl ?_
           refine OpW.alloc rfl I36 rfl Z.N rfl rfl ?_; intro b15
           refine ⟨Z.H, ?_⟩
           refine WD.one 14 rfl (by kernel_rfl) rfl ?_
           refine OpW.storeS rfl G36 rfl rfl Z.N Z.T rfl rfl Z.N rfl ?_
           refine ⟨Z.H, ?_⟩
           refine WD.one 15 rfl (by kernel_rfl) rfl ?_
           refine OpW.storeS rfl G36 rfl rfl Z.N Z.T rfl rfl Z.N rfl ?_
           refine ⟨Z.H, ?_⟩
           refine WD.done (by kernel_rfl) ?_
           exact ⟨(b14, b15), trivial, (by repeat (first | exact Sub.nil | refine Sub.cons rfl (by first | rfl | (congr 1; omega) | assumption) ?_)), (fun w h => OwnL.sat (by repeat (first | exact OwnL.refl | apply OwnL.take (by repeat (first | exact Take.head _ | apply Take.tail)) | apply OwnL.drop)) w (h.thin (SubL.mem (by repeat (first | exact SubL.refl | refine SubL.cons (by repeat (first | assumption | exact mS | apply mT)) ?_ | refine SubL.skip ?_)))))⟩
          ·
           refine OpW.alloc rfl I36 rfl Z.N rfl rfl ?_; intro b15
           refine ⟨Z.H, ?_⟩
           refine WD.one 11 rfl (by kernel_rfl) rfl ?_
           refine OpW.call rfl rfl (by repeat (first | exact Evs.nil | apply Evs.cons rfl)) (by kernel_rfl) rfl rfl rfl ?_
           refine says_spec (l := V) (by repeat (first | assumption | exact mS | apply mT)) ?_
           refine ⟨Z.H, ?_⟩
           refine WD.one 14 rfl (by kernel_rfl) rfl ?_
           refine OpW.storeS rfl G36 rfl rfl Z.N Z.T rfl rfl Z.N rfl ?_
           refine ⟨Z.H, ?_⟩
           refine WD.one 15 rfl (by kernel_rfl) rfl ?_
           refine OpW.storeS rfl G36 rfl rfl Z.N Z.T rfl rfl Z.N rfl ?_
           refine ⟨Z.H, ?_⟩
           refine WD.done (by kernel_rfl) ?_
           exact ⟨(b14, b15), trivial, (by repeat (first | exact Sub.nil | refine Sub.cons rfl (by first | rfl | (congr 1; omega) | assumption) ?_)), (fun w h => OwnL.sat (by repeat (first | exact OwnL.refl | apply OwnL.take (by repeat (first | exact Take.head _ | apply Take.tail)) | apply OwnL.drop)) w (h.thin (SubL.mem (by repeat (first | exact SubL.refl | refine SubL.cons (by repeat (first | assumption | exact mS | apply mT)) ?_ | refine SubL.skip ?_)))))⟩
         ·
          refine ⟨_, rfl, rfl, ?_⟩
          refine OpW.alloc rfl I36 rfl Z.N rfl rfl ?_; intro b15
          refine ⟨Z.H, ?_⟩
          refine WD.two 11 12 rfl rfl (by kernel_rfl) rfl rfl ?_ ?_
          ·
           refine OpW.call rfl rfl (by repeat (first | exact Evs.nil | apply Evs.cons rfl)) (by kernel_rfl) rfl rfl rfl ?_
           refine says_spec (l := V) (by repeat (first | assumption | exact mS | apply mT)) ?_
           refine ⟨Z.H, ?_⟩
           refine WD.one 12 rfl (by kernel_rfl) rfl ?_
           refine OpW.alloc rfl I36 rfl Z.N rfl rfl ?_; intro b14
           refine ⟨Z.H, ?_⟩
           refine WD.one 14 rfl (by kernel_rfl) rfl ?_
           refine OpW.storeS rfl G36 rfl rfl Z.N Z.T rfl rfl Z.N rfl ?_
           refine ⟨Z.H, ?_⟩
           refine WD.one 15 rfl (by kernel_rfl) rfl ?_
           refine OpW.storeS rfl G36 rfl rfl Z.N Z.T rfl rfl Z.N rfl ?_
           refine ⟨Z.H, ?_⟩
           refine WD.done (by kernel_rfl) ?_
           exact ⟨(b14, b15), trivial, (by repeat (first | exact Sub.nil | refine Sub.cons rfl (by first | rfl | (congr 1; omega) | assumption) ?_)), (fun w h => OwnL.sat (by repeat (first | exact OwnL.refl | apply OwnL.take (by repeat (first | exact Take.head _ | apply Take.tail)) | apply OwnL.drop)) w (h.thin (SubL.mem (by repeat (first | exact SubL.refl | refine SubL.cons (by repeat (first | assumption | exact mS | apply mT)) ?_ | refine SubL.skip ?_)))))⟩
          ·
           refine OpW.alloc rfl I36 rfl Z.N rfl rfl ?_; intro b14
           refine ⟨Z.H, ?_⟩
           refine WD.one 11 rfl (by kernel_rfl) rfl ?_
           refine OpW.call rfl rfl (by repeat (first | exact Evs.nil | apply Evs.cons rfl)) (by kernel_rfl) rfl rfl rfl ?_
           refine says_spec (l := V) (by repeat (first | assumption | exact mS | apply mT)) ?_
           refine ⟨Z.H, ?_⟩
           refine WD.one 14 rfl (by kernel_rfl) rfl ?_
           refine OpW.storeS rfl G36 rfl rfl Z.N Z.T rfl rfl Z.N rfl ?_
           refine ⟨Z.H, ?_⟩
           refine WD.one 15 rfl (by kernel_rfl) rfl ?_
           refine OpW.storeS rfl G36 rfl rfl Z.N Z.T rfl rfl Z.N rfl ?_
           refine ⟨Z.H, ?_⟩
           refine WD.done (by kernel_rfl) ?_
           exact ⟨(b14, b15), trivial, (by repeat (first | exact Sub.nil | refine Sub.cons rfl (by first | rfl | (congr 1; omega) | assumption) ?_)), (fun w h => OwnL.sat (by repeat (first | exact OwnL.refl | apply OwnL.take (by repeat (first | exact Take.head _ | apply Take.tail)) | apply OwnL.drop)) w (h.thin (SubL.mem (by repeat (first | exact SubL.refl | refine SubL.cons (by repeat (first | assumption | exact mS | apply mT)) ?_ | refine SubL.skip ?_)))))⟩
        ·
         refine ⟨_, rfl, rfl, ?_⟩
         refine OpW.alloc rfl I36 rfl Z.N rfl rfl ?_; intro b14
         refine ⟨Z.H, ?_⟩
         refine WD.two 5 13 rfl rfl (by kernel_rfl) rfl rfl ?_ ?_
         ·
          refine OpW.call rfl rfl (by repeat (first | exact Evs.nil | apply Evs.cons rfl)) (by kernel_rfl) rfl rfl rfl ?_
          refine says_spec (l := U) (by repeat (first | assumption | exact mS | apply mT)) ?_
          refine ⟨Z.H, ?_⟩
          refine WD.two 11 13 rfl rfl (by kernel_rfl) rfl rfl ?_ ?_
          ·
           refine OpW.call rfl rfl (by repeat (first | exact Evs.nil | apply Evs.cons rfl)) (by kernel_rfl) rfl rfl rfl ?_
           refine says_spec (l := V) (by repeat (first | assumption | exact mS | apply mT)) ?_
           refine ⟨Z.H, ?_⟩
           refine WD.one 13 rfl (by kernel_rfl) rfl ?_
           refine OpW.alloc rfl I36 rfl Z.N rfl rfl ?_; intro b15
           refine ⟨Z.H, ?_⟩
           refine WD.one 14 rfl (by kernel_rfl) rfl ?_
           refine OpW.storeS rfl G36 rfl rfl Z.N Z.T rfl rfl Z.N rfl ?_
           refine ⟨Z.H, ?_⟩
           refine WD.one 15 rfl (by kernel_rfl) rfl ?_
           refine OpW.storeS rfl G36 rfl rfl Z.N Z.T rfl rfl Z.N rfl ?_
           refine ⟨Z.H, ?_⟩
           refine WD.done (by kernel_rfl) ?_
           exact ⟨(b14, b15), trivial, (by repeat (first | exact Sub.nil | refine Sub.cons rfl (by first | rfl | (congr 1; omega) | assumption) ?_)), (fun w h => OwnL.sat (by repeat (first | exact OwnL.refl | apply OwnL.take (by repeat (first | exact Take.head _ | apply Take.tail)) | apply OwnL.drop)) w (h.thin (SubL.mem (by repeat (first | exact SubL.refl | refine SubL.cons (by repeat (first | assumption | exact mS | apply mT)) ?_ | refine SubL.skip ?_)))))⟩
          ·
           refine OpW.alloc rfl I36 rfl Z.N rfl rfl ?_; intro b15
           refine ⟨Z.H, ?_⟩
           refine WD.one 11 rfl (by kernel_rfl) rfl ?_
           refine OpW.call rfl rfl (by repeat (first | exact Evs.nil | apply Evs.cons rfl)) (by kernel_rfl) rfl rfl rfl ?_
           refine says_spec (l := V) (by repeat (first | assumption | exact mS | apply mT)) ?_
           refine ⟨Z.H, ?_⟩
           refine WD.one 14 rfl (by kernel_rfl) rfl ?_
           refine OpW.storeS rfl G36 rfl rfl Z.N Z.T rfl rfl Z.N rfl ?_
           refine ⟨Z.H, ?_⟩
           refine WD.one 15 rfl (by kernel_rfl) rfl ?_
           refine OpW.storeS rfl G36 rfl rfl Z.N Z.T rfl rfl Z.N rfl ?_
           refine ⟨Z.H, ?_⟩
           refine WD.done (by kernel_rfl) ?_
           exact ⟨(b14, b15), trivial, (by repeat (first | exact Sub.nil | refine Sub.cons rfl (by first | rfl | (congr 1; omega) | assumption) ?_)), (fun w h => OwnL.sat (by repeat (first | exact OwnL.refl | apply OwnL.take (by repeat (first | exact Take.head _ | apply Take.tail)) | apply OwnL.drop)) w (h.thin (SubL.mem (by repeat (first | exact SubL.refl | refine SubL.cons (by repeat (first | assumption | exact mS | apply mT)) ?_ | refine SubL.skip ?_)))))⟩
         ·
          refine OpW.alloc rfl I36 rfl Z.N rfl rfl ?_; intro b15
          refine ⟨Z.H, ?_⟩
          refine WD.one 5 rfl (by kernel_rfl) rfl ?_
          refine OpW.call rfl rfl (by repeat (first | exact Evs.nil | apply Evs.cons rfl)) (by kernel_rfl) rfl rfl rfl ?_
          refine says_spec (l := U) (by repeat (first | assumption | exact mS | apply mT)) ?_
          refine ⟨Z.H, ?_⟩
          refine WD.one 11 rfl (by kernel_rfl) rfl ?_
          refine OpW.call rfl rfl (by repeat (first | exact Evs.nil | apply Evs.cons rfl)) (by kernel_rfl) rfl rfl rfl ?_
          refine says_spec (l := V) (by repeat (first | assumption | exact mS | apply mT)) ?_
          refine ⟨Z.H, ?_⟩
          refine WD.one 14 rfl (by kernel_rfl) rfl ?_
          refine OpW.storeS rfl G36 rfl rfl Z.N Z.T rfl rfl Z.N rfl ?_
          refine ⟨Z.H, ?_⟩
          refine WD.one 15 rfl (by kernel_rfl) rfl ?_
          refine OpW.storeS rfl G36 rfl rfl Z.N Z.T rfl rfl Z.N rfl ?_
          refine ⟨Z.H, ?_⟩
          refine WD.done (by kernel_rfl) ?_
          exact ⟨(b14, b15), trivial, (by repeat (first | exact Sub.nil | refine Sub.cons rfl (by first | rfl | (congr 1; omega) | assumption) ?_)), (fun w h => OwnL.sat (by repeat (first | exact OwnL.refl | apply OwnL.take (by repeat (first | exact Take.head _ | apply Take.tail)) | apply OwnL.drop)) w (h.thin (SubL.mem (by repeat (first | exact SubL.refl | refine SubL.cons (by repeat (first | assumption | exact mS | apply mT)) ?_ | refine SubL.skip ?_)))))⟩
        ·
         refine ⟨_, rfl, rfl, ?_⟩
         refine OpW.alloc rfl I36 rfl Z.N rfl rfl ?_; intro b15
         refine ⟨Z.H, ?_⟩
         refine WD.two 5 12 rfl rfl (by kernel_rfl) rfl rfl ?_ ?_
         ·
          refine OpW.call rfl rfl (by repeat (first | exact Evs.nil | apply Evs.cons rfl)) (by kernel_rfl) rfl rfl rfl ?_
          refine says_spec (l := U) (by repeat (first | assumption | exact mS | apply mT)) ?_
          refine ⟨Z.H, ?_⟩
          refine WD.two 11 12 rfl rfl (by kernel_rfl) rfl rfl ?_ ?_
          ·
           refine OpW.call rfl rfl (by repeat (first | exact Evs.nil | apply Evs.cons rfl)) (by kernel_rfl) rfl rfl rfl ?_
           refine says_spec (l := V) (by repeat (first | assumption | exact mS | apply mT)) ?_
           refine ⟨Z.H, ?_⟩
           refine WD.one 12 rfl (by kernel_rfl) rfl ?_
           refine OpW.alloc rfl I36 rfl Z.N rfl rfl ?_; intro b14
           refine ⟨Z.H, ?_⟩
           refine WD.one 14 rfl (by kernel_rfl) rfl ?_
           refine OpW.storeS rfl G36 rfl rfl Z.N Z.T rfl rfl Z.N rfl ?_
           refine ⟨Z.H, ?_⟩
           refine WD.one 15 rfl (by kernel_rfl) rfl ?_
           refine OpW.storeS rfl G36 rfl rfl Z.N Z.T rfl rfl Z.N rfl ?_
           refine ⟨Z.H, ?_⟩
           refine WD.done (by kernel_rfl) ?_
           exact ⟨(b14, b15), trivial, (by repeat (first | exact Sub.nil | refine Sub.cons rfl (by first | rfl | (congr 1; omega) | assumption) ?_)), (fun w h => OwnL.sat (by repeat (first | exact OwnL.refl | apply OwnL.take (by repeat (first | exact Take.head _ | apply Take.tail)) | apply OwnL.drop)) w (h.thin (SubL.mem (by repeat (first | exact SubL.refl | refine SubL.cons (by repeat (first | assumption | exact mS | apply mT)) ?_ | refine SubL.skip ?_)))))⟩
          ·
           refine OpW.alloc rfl I36 rfl Z.N rfl rfl ?_; intro b14
           refine ⟨Z.H, ?_⟩
           refine WD.one 11 rfl (by kernel_rfl) rfl ?_
           refine OpW.call rfl rfl (by repeat (first | exact Evs.nil | apply Evs.cons rfl)) (by kernel_rfl) rfl rfl rfl ?_
           refine says_spec (l := V) (by repeat (first | assumption | exact mS | apply mT)) ?_
           refine ⟨Z.H, ?_⟩
           refine WD.one 14 rfl (by kernel_rfl) rfl ?_
           refine OpW.storeS rfl G36 rfl rfl Z.N Z.T rfl rfl Z.N rfl ?_
           refine ⟨Z.H, ?_⟩
           refine WD.one 15 rfl (by kernel_rfl) rfl ?_
           refine OpW.storeS rfl G36 rfl rfl Z.N Z.T rfl rfl Z.N rfl ?_
           refine ⟨Z.H, ?_⟩
           refine WD.done (by kernel_rfl) ?_
           exact ⟨(b14, b15), trivial, (by repeat (first | exact Sub.nil | refine Sub.cons rfl (by first | rfl | (congr 1; omega) | assumption) ?_)), (fun w h => OwnL.sat (by repeat (first | exact OwnL.refl | apply OwnL.take (by repeat (first | exact Take.head _ | apply Take.tail)) | apply OwnL.drop)) w (h.thin (SubL.mem (by repeat (first | exact SubL.refl | refine SubL.cons (by repeat (first | assumption | exact mS | apply mT)) ?_ | refine SubL.skip ?_)))))⟩
         ·
          refine OpW.alloc rfl I36 rfl Z.N rfl rfl ?_; intro b14
          refine ⟨Z.H, ?_⟩
          refine WD.one 5 rfl (by kernel_rfl) rfl ?_
          refine OpW.call rfl rfl (by repeat (first | exact Evs.nil | apply Evs.cons rfl)) (by kernel_rfl) rfl rfl rfl ?_
          refine says_spec (l := U) (by repeat (first | assumption | exact mS | apply mT)) ?_
          refine ⟨Z.H, ?_⟩
          refine WD.one 11 rfl (by kernel_rfl) rfl ?_
          refine OpW.call rfl rfl (by repeat (first | exact Evs.nil | apply Evs.cons rfl)) (by kernel_rfl) rfl rfl rfl ?_
          refine says_spec (l := V) (by repeat (first | assumption | exact mS | apply mT)) ?_
          refine ⟨Z.H, ?_⟩
          refine WD.one 14 rfl (by kernel_rfl) rfl ?_
          refine OpW.storeS rfl G36 rfl rfl Z.N Z.T rfl rfl Z.N rfl ?_
          refine ⟨Z.H, ?_⟩
          refine WD.one 15 rfl (by kernel_rfl) rfl ?_
          refine OpW.storeS rfl G36 rfl rfl Z.N Z.T rfl rfl Z.N rfl ?_
          refine ⟨Z.H, ?_⟩
          refine WD.done (by kernel_rfl) ?_
          exact ⟨(b14, b15), trivial, (by repeat (first | exact Sub.nil | refine Sub.cons rfl (by first | rfl | (congr 1; omega) | assumption) ?_)), (fun w h => OwnL.sat (by repeat (first | exact OwnL.refl | apply OwnL.take (by repeat (first | exact Take.head _ | apply Take.tail)) | apply OwnL.drop)) w (h.thin (SubL.mem (by repeat (first | exact SubL.refl | refine SubL.cons (by repeat (first | assumption | exact mS | apply mT)) ?_ | refine SubL.skip ?_)))))⟩
       ·
        rintro ⟨b14, b15⟩ -
        refine WC.seq ?_
        refine WC.seq ?_
        refine WC.region ?_
        refine WL.rd rfl rfl rfl ((by first | exact Rd.rowS rfl G36 rfl (by repeat (first | assumption | exact mS | apply mT)) Z.N rfl | exact Rd.getS rfl G36 rfl (by repeat (first | assumption | exact mS | apply mT)) (by intro x; first | rfl | (cases x; rfl) | (rcases x with ⟨_, _, _⟩; rfl) | (rcases x with ⟨_, _, _, _⟩; rfl)) (by first | assumption | rfl | exact get!_of_lt (by omega)) Z.N | exact Rd.getSA rfl G36 rfl (by repeat (first | assumption | exact mS | apply mT)) (by intro x; first | rfl | (cases x; rfl) | (rcases x with ⟨_, _, _⟩; rfl) | (rcases x with ⟨_, _, _, _⟩; rfl)) (by first | assumption | rfl | exact get!_of_lt (by omega)) Z.N)) ?_
        refine WL.rd rfl rfl rfl ((by first | exact Rd.rowS rfl G36 rfl (by repeat (first | assumption | exact mS | apply mT)) Z.N rfl | exact Rd.getS rfl G36 rfl (by repeat (first | assumption | exact mS | apply mT)) (by intro x; first | rfl | (cases x; rfl) | (rcases x with ⟨_, _, _⟩; rfl) | (rcases x with ⟨_, _, _, _⟩; rfl)) (by first | assumption | rfl | exact get!_of_lt (by omega)) Z.N | exact Rd.getSA rfl G36 rfl (by repeat (first | assumption | exact mS | apply mT)) (by intro x; first | rfl | (cases x; rfl) | (rcases x with ⟨_, _, _⟩; rfl) | (rcases x with ⟨_, _, _, _⟩; rfl)) (by first | assumption | rfl | exact get!_of_lt (by omega)) Z.N)) ?_
        refine WL.rd rfl rfl rfl (Rd.aeql rfl rfl rfl (EqSr (says U ks[i]!) (says V ks[i]!))) ?_
        refine WL.nil ?_
        refine thenQ.normal ?_
        first | refine WC.ite rfl (fun hc5 => ?_) (fun hc5 => ?_) | refine WC.cond rfl (fun hc5 => ?_) (fun hc5 => ?_)
        ·
         refine WC.exit ?_
         refine thenQ.exit ?_
         refine blockQ.exit ?_
         refine thenQ.normal ?_
         refine WC.region ?_
         refine WL.rd rfl rfl rfl (Rd.move rfl rfl) ?_
         refine WL.rd rfl rfl rfl (Rd.add rfl rfl rfl (by omega)) ?_
         refine WL.rd rfl rfl rfl (Rd.assign rfl rfl) ?_
         refine WL.nil ?_
         exact loopQ1.mk (i + 1) (by omega) (by omega) (by rw [dchg_snoc _ _ (by omega), if_pos hc5, List.append_nil]; exact (by repeat (first | exact Sub.nil | refine Sub.cons rfl (by first | rfl | (congr 1; omega) | assumption) ?_))) (fun w h => OwnL.sat (by repeat (first | exact OwnL.refl | apply OwnL.take (by repeat (first | exact Take.head _ | apply Take.tail)) | apply OwnL.drop)) w (h.thin (SubL.mem (by repeat (first | exact SubL.refl | refine SubL.cons (by repeat (first | assumption | exact mS | apply mT)) ?_ | refine SubL.skip ?_)))))
        ·
         have hat := dchg_at (by omega) hc5
         have hdl := dchg_len U V (ks.take i)
         rw [List.length_take] at hdl
         rw [← hl] at hat
         refine WC.skip ?_
         refine thenQ.normal ?_
         refine WC.seq ?_
         refine WC.seq ?_
         refine WC.still mixed (by kernel_rfl) ?_
         refine WA.rd rfl rfl rfl (Rd.move rfl rfl) ?_
         refine WA.rd rfl rfl rfl (Rd.move rfl rfl) ?_
         refine WA.rd rfl rfl rfl ((by first | exact Rd.lenE rfl rfl Try.underlying47 (by repeat (first | assumption | exact mS | apply mT)) | exact Rd.lenA rfl rfl Try.underlying47 (by repeat (first | assumption | exact mS | apply mT)) | exact Rd.len rfl rfl Try.underlying47)) ?_
         refine WA.rd rfl rfl rfl (Rd.geq rfl rfl rfl) ?_
         refine WA.rd rfl rfl rfl (Rd.move rfl rfl) ?_
         refine WA.case 91 rfl (fun hg91 => ?_) (fun hg91 => ?_)
         ·
          exfalso; omega
         ·
          refine WA.rd_yes rfl rfl rfl rfl rfl rfl (Rd.move rfl rfl) ?_
          refine WA.rd_yes rfl rfl rfl rfl rfl rfl (Rd.move rfl rfl) ?_
          refine WA.rd_yes rfl rfl rfl rfl rfl rfl ((by first | exact Rd.idx rfl S47 rfl rfl rfl (by repeat (first | assumption | exact mS | apply mT)) (by first | omega | (simp only [List.length_cons, List.length_nil, List.length_append, List.length_map]; omega)) | exact Rd.idxA rfl S47 rfl rfl rfl (by repeat (first | assumption | exact mS | apply mT)) (by first | omega | (simp only [List.length_cons, List.length_nil, List.length_append, List.length_map]; omega)) | exact Rd.idxR rfl S47 rfl rfl rfl (by omega))) ?_
          refine WA.rd_yes rfl rfl rfl rfl rfl rfl (Rd.getS (enc := encG) (size := 5) (xs := l) (k := (dchg U V (ks.take i)).length) (a := l[(dchg U V (ks.take i)).length]!) (cs := encG l[(dchg U V (ks.take i)).length]!) rfl G51 rfl (by repeat (first | assumption | exact mS | apply mT)) (fun x => rfl) (get!_of_lt hat.1) (NF.refl _)) ?_
          refine WA.rd_yes rfl rfl rfl rfl rfl rfl (Rd.move rfl rfl) ?_
          refine WA.rd_yes rfl rfl rfl rfl rfl rfl (Rd.move rfl rfl) ?_
          refine WA.rd_yes rfl rfl rfl rfl rfl rfl ((by first | exact Rd.idx1 (k := i) rfl S33 rfl rfl (by omega) (by repeat (first | assumption | exact mS | apply mT)) (by first | omega | (simp only [List.length_cons, List.length_nil, List.length_append, List.length_map]; omega)) | exact Rd.idxA1 (k := i) rfl S33 rfl rfl (by omega) (by repeat (first | assumption | exact mS | apply mT)) (by first | omega | (simp only [List.length_cons, List.length_nil, List.length_append, List.length_map]; omega)) | exact Rd.idxR1 (k := i) rfl S33 rfl rfl (by omega) (by omega))) ?_
          refine WA.rd_yes rfl rfl rfl rfl rfl rfl ((by first | exact Rd.get rfl C9 rfl (by repeat (first | assumption | exact mS | apply mT)) (by first | assumption | rfl | exact get!_of_lt (by omega)) | exact Rd.getA rfl C9 rfl (by repeat (first | assumption | exact mS | apply mT)) (by first | assumption | rfl | exact get!_of_lt (by omega)) | exact Rd.row1 rfl C9 rfl (by repeat (first | assumption | exact mS | apply mT)) (by rfl) | exact Rd.getF rfl C9 rfl (by repeat (first | assumption | exact mS | apply mT)) (by intro x; first | rfl | (cases x; rfl) | (rcases x with ⟨_, _, _⟩; rfl) | (rcases x with ⟨_, _, _, _⟩; rfl)) rfl (by first | assumption | rfl | exact get!_of_lt (by omega)) (by rfl) | exact Rd.getFA rfl C9 rfl (by repeat (first | assumption | exact mS | apply mT)) (by intro x; first | rfl | (cases x; rfl) | (rcases x with ⟨_, _, _⟩; rfl) | (rcases x with ⟨_, _, _, _⟩; rfl)) rfl (by first | assumption | rfl | exact get!_of_lt (by omega)) (by rfl))) ?_
          refine WA.rd_yes rfl rfl rfl rfl rfl rfl ((by first | exact Rd.rowS rfl G36 rfl (by repeat (first | assumption | exact mS | apply mT)) Z.N rfl | exact Rd.getS rfl G36 rfl (by repeat (first | assumption | exact mS | apply mT)) (by intro x; first | rfl | (cases x; rfl) | (rcases x with ⟨_, _, _⟩; rfl) | (rcases x with ⟨_, _, _, _⟩; rfl)) (by first | assumption | rfl | exact get!_of_lt (by omega)) Z.N | exact Rd.getSA rfl G36 rfl (by repeat (first | assumption | exact mS | apply mT)) (by intro x; first | rfl | (cases x; rfl) | (rcases x with ⟨_, _, _⟩; rfl) | (rcases x with ⟨_, _, _, _⟩; rfl)) (by first | assumption | rfl | exact get!_of_lt (by omega)) Z.N)) ?_
          refine WA.rd_yes rfl rfl rfl rfl rfl rfl ((by first | exact Rd.rowS rfl G36 rfl (by repeat (first | assumption | exact mS | apply mT)) Z.N rfl | exact Rd.getS rfl G36 rfl (by repeat (first | assumption | exact mS | apply mT)) (by intro x; first | rfl | (cases x; rfl) | (rcases x with ⟨_, _, _⟩; rfl) | (rcases x with ⟨_, _, _, _⟩; rfl)) (by first | assumption | rfl | exact get!_of_lt (by omega)) Z.N | exact Rd.getSA rfl G36 rfl (by repeat (first | assumption | exact mS | apply mT)) (by intro x; first | rfl | (cases x; rfl) | (rcases x with ⟨_, _, _⟩; rfl) | (rcases x with ⟨_, _, _, _⟩; rfl)) (by first | assumption | rfl | exact get!_of_lt (by omega)) Z.N)) ?_
          refine WA.rd_yes rfl rfl rfl rfl rfl rfl (Rd.buildN (ps := [(0, _), (1, _), (2, _)]) rfl Bs51 I51 rfl (by repeat (first | exact Evs.nil | apply Evs.cons rfl)) (by repeat (first | exact CellsOf.nil | apply CellsOf.cons rfl)) (by apply NFo.mk; repeat (first | exact NF.nil | apply NF.cons))) ?_
          refine WA.rd_yes rfl rfl rfl rfl rfl rfl (Rd.aneq rfl rfl rfl (EqCh l[(dchg U V (ks.take i)).length]! ⟨ks[i]!, says U ks[i]!, says V ks[i]!⟩)) ?_
          refine WA.rd rfl rfl rfl (Rd.pick_f rfl rfl rfl) ?_
          refine WA.nil ?_
          refine thenQ.normal ?_
          first | refine WC.ite rfl (fun hc6 => ?_) (fun hc6 => ?_) | refine WC.cond rfl (fun hc6 => ?_) (fun hc6 => ?_)
          ·
           exact absurd hat.2 hc6
          ·
           refine WC.skip ?_
           refine thenQ.normal ?_
           refine WC.region ?_
           refine WL.rd rfl rfl rfl (Rd.move rfl rfl) ?_
           refine WL.rd rfl rfl rfl (Rd.add rfl rfl rfl (by omega)) ?_
           refine WL.rd rfl rfl rfl (Rd.assign rfl rfl) ?_
           refine WL.nil ?_
           refine blockQ.normal ?_
           refine thenQ.normal ?_
           refine WC.region ?_
           refine WL.rd rfl rfl rfl (Rd.move rfl rfl) ?_
           refine WL.rd rfl rfl rfl (Rd.add rfl rfl rfl (by omega)) ?_
           refine WL.rd rfl rfl rfl (Rd.assign rfl rfl) ?_
           refine WL.nil ?_
           exact loopQ1.mk (i + 1) (by omega) (by omega) (by rw [dchg_snoc _ _ (by omega), if_neg hc5, List.length_append, List.length_singleton]; exact (by repeat (first | exact Sub.nil | refine Sub.cons rfl (by first | rfl | (congr 1; omega) | assumption) ?_))) (fun w h => OwnL.sat (by repeat (first | exact OwnL.refl | apply OwnL.take (by repeat (first | exact Take.head _ | apply Take.tail)) | apply OwnL.drop)) w (h.thin (SubL.mem (by repeat (first | exact SubL.refl | refine SubL.cons (by repeat (first | assumption | exact mS | apply mT)) ?_ | refine SubL.skip ?_)))))
      ·
       obtain rfl : i = ks.length := by omega
       rw [List.take_length]
       refine WC.exit ?_
       refine thenQ.exit ?_
       refine loopQ1.exit ?_
       refine blockQ.exit ?_
       refine thenQ.normal ?_
       refine WC.seq ?_
       refine WC.region ?_
       refine WL.rd rfl rfl rfl (Rd.move rfl rfl) ?_
       refine WL.rd rfl rfl rfl (Rd.move rfl rfl) ?_
       refine WL.op rfl ?_
       refine OpW.call rfl rfl (by repeat (first | exact Evs.nil | apply Evs.cons rfl)) (by kernel_rfl) rfl rfl rfl ?_
       refine apply2_spec (a := U) (l := l) (by repeat (first | assumption | exact mS | apply mT)) (by repeat (first | assumption | exact mS | apply mT)) kU hG ?_; intro r1 e3 r1v h3
       rw [hl] at h3
       obtain ⟨he3, hr1⟩ := apply_dchg hU hV hks h3
       subst he3
       refine WL.rd rfl rfl rfl (Rd.move rfl rfl) ?_
       refine WL.rd rfl rfl rfl (Rd.extract rfl rfl rfl) ?_
       refine WL.rd rfl rfl rfl (Rd.extract rfl rfl rfl) ?_
       refine WL.rd rfl rfl rfl (Rd.assign rfl rfl) ?_
       refine WL.rd rfl rfl rfl (Rd.assign rfl rfl) ?_
       refine WL.nil ?_
       refine thenQ.normal ?_
       refine WC.seq ?_
       refine WC.region ?_
       refine WL.rd rfl rfl rfl (Rd.move rfl rfl) ?_
       refine WL.rd rfl rfl rfl (Rd.eql rfl rfl rfl) ?_
       refine WL.rd rfl rfl rfl (Rd.move rfl rfl) ?_
       refine WL.case 115 rfl (fun hg115 => ?_) (fun hg115 => ?_)
       ·
        refine WL.rd_yes rfl rfl rfl rfl rfl rfl (Rd.move rfl rfl) ?_
        refine WL.rd_yes rfl rfl rfl rfl rfl rfl (Rd.move rfl rfl) ?_
        refine WL.rd_yes rfl rfl rfl rfl rfl rfl ((by first | exact Rd.lenE rfl rfl Try.underlying47 (by repeat (first | assumption | exact mS | apply mT)) | exact Rd.lenA rfl rfl Try.underlying47 (by repeat (first | assumption | exact mS | apply mT)) | exact Rd.len rfl rfl Try.underlying47)) ?_
        refine WL.rd_yes rfl rfl rfl rfl rfl rfl (Rd.eql rfl rfl rfl) ?_
        refine WL.rd rfl rfl rfl (Rd.pick_t rfl rfl rfl) ?_
        refine WL.rd rfl rfl rfl (Rd.move rfl rfl) ?_
        refine WL.case 121 rfl (fun hg121 => ?_) (fun hg121 => ?_)
        ·
         refine WL.rd_yes rfl rfl rfl rfl rfl rfl (Rd.move rfl rfl) ?_
         refine WL.rd_yes rfl rfl rfl rfl rfl rfl (Rd.eql rfl rfl rfl) ?_
         refine WL.rd rfl rfl rfl (Rd.pick_t rfl rfl rfl) ?_
         refine WL.rd rfl rfl rfl (Rd.move rfl rfl) ?_
         refine WL.case 125 rfl (fun hg125 => ?_) (fun hg125 => ?_)
         ·
          refine WL.rd_yes rfl rfl rfl rfl rfl rfl (Rd.move rfl rfl) ?_
          refine WL.rd_yes rfl rfl rfl rfl rfl rfl (Rd.move rfl rfl) ?_
          refine WL.op_yes rfl rfl rfl rfl ?_
          refine OpW.call rfl rfl (by repeat (first | exact Evs.nil | apply Evs.cons rfl)) (by kernel_rfl) rfl rfl rfl ?_
          refine same_spec (a := r1) (b := V) (by repeat (first | assumption | exact mS | apply mT)) (by repeat (first | assumption | exact mS | apply mT)) ?_
          refine WL.say 128 (u := .bool true) rfl (by rw [hr1]; simp) ?_
          refine WL.rd rfl rfl rfl (Rd.pick_t rfl rfl rfl) ?_
          refine WL.heap (R' := R) (O' := O) (fun w h => OwnL.sat (by repeat (first | exact OwnL.refl | apply OwnL.take (by repeat (first | exact Take.head _ | apply Take.tail)) | apply OwnL.drop)) w (h.thin (SubL.mem (by repeat (first | exact SubL.refl | refine SubL.cons (by repeat (first | assumption | exact mS | apply mT)) ?_ | refine SubL.skip ?_))))) ?_
          refine WL.rd rfl rfl rfl (Rd.assign rfl rfl) ?_
          refine WL.nil ?_
          refine thenQ.normal ?_
          refine WC.ret (Ret.one Try.results6 rfl ?_)
          exact hk
         ·
          exact absurd rfl hg125
        ·
         exact absurd (by rw [hl]) hg121
       ·
        exact absurd rfl hg115
theorem changes2_spec {p q : List It} {pv qv : Value} (hp : SlE encI pv p ∈ R) (hq : SlE encI qv q ∈ R) (qp : AllQ QI p ∈ R) (qq : AllQ QI q ∈ R) (hk : POST (.bool true) R O) : Fun Try.prog 6 #[pv, qv] R O POST :=
 Fun.know qp (fun _ h => h) fun h1 => Fun.know qq (fun _ h => h) fun h2 => changes_spec hp hq h1 h2 hk
end
end Go.Proofs.Ytbbeifdmgmadiaa
