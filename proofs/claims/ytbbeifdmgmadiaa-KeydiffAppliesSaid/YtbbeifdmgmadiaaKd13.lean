/-
 Layer 20: KeydiffChain.
-/
import Derived.Test.YtbbeifdmgmadiaaKd12
namespace Go.Proofs.Ytbbeifdmgmadiaa
open Go Go.SL
def turnG (x : Ch) : Ch := ⟨x.key, x.new, x.old⟩
theorem keys2_len {a b : List It} {ks : List (List UInt8)} (ha : KL a) (hb : KL b) (hks : KsOf ks [a, b]) : ks.length ≤ 2000 := by
 have h1 := nodup_len hks.1.nodup (fun x hx => (hks.2 x).1 hx)
 have h2 : (keysIn [a, b]).length ≤ 2000 := by
  simp only [keysIn, List.flatMap_cons, List.flatMap_nil, List.length_append, List.length_map, List.length_nil]
  have := ha.1; have := hb.1; omega
 omega
theorem KG.dchg {a b : List It} {ks : List (List UInt8)} (ha : KL a) (hb : KL b) (hks : KsOf ks [a, b]) : KG (dchg a b ks) := by
 refine ⟨Nat.le_trans (dchg_len a b ks) (Nat.le_trans (keys2_len ha hb hks) (by omega)), fun x hx => ?_⟩
 have h3 := (hks.2 x.key).1 (dchg_mem hx).2.2.1
 simp only [keysIn, List.flatMap_cons, List.flatMap_nil, List.append_nil, List.mem_append] at h3
 rcases h3 with h | h
 ·
  obtain ⟨y, hy, e⟩ := List.mem_map.1 h; rw [← e]; exact ha.2 y hy
 ·
  obtain ⟨y, hy, e⟩ := List.mem_map.1 h; rw [← e]; exact hb.2 y hy
theorem KsOf.swap {a b : List It} {ks ks' : List (List UInt8)} (h : KsOf ks [a, b]) (h' : KsOf ks' [b, a]) : ks = ks' := h.uniq h' fun k => by
 simp only [keysIn, List.flatMap_cons, List.flatMap_nil, List.append_nil, List.mem_append]
 exact ⟨Or.symm, Or.symm⟩
section
variable {R : List RO} {O O' : List Own} {POST : Value → List RO → List Own → Prop}
set_option maxRecDepth 20000 in
set_option maxHeartbeats 4000000 in
theorem chain_spec {p q r : List It} {pv qv rv : Value} (hp : SlE encI pv p ∈ R) (hq : SlE encI qv q ∈ R) (hr : SlE encI rv r ∈ R) (hKp : ∀ x ∈ p, x.1.length ≤ 9223372036854775807) (hKq : ∀ x ∈ q, x.1.length ≤ 9223372036854775807) (hKr : ∀ x ∈ r, x.1.length ≤ 9223372036854775807)
  (hk : POST (.bool true) R O) : Fun Try.prog 7 #[pv, qv, rv] R O POST := by
 have kU := KLof hKp; have kV := KLof hKq; have kW := KLof hKr
 refine Fun.enter (l := [_, _, _]) Try.func7 rfl Try.ntmps7 rfl (L0 := [(0, _), (1, _), (2, _)]) rfl ?_
 refine WC.seq ?_
 refine WC.region ?_
 refine WL.rd rfl rfl rfl (Rd.assign rfl rfl) ?_
 refine WL.nil ?_
 refine thenQ.normal ?_
 refine WC.seq ?_
 refine WC.seq ?_
 refine WC.region ?_
 refine WL.op rfl ?_
 refine OpW.call rfl rfl (by repeat (first | exact Evs.nil | apply Evs.cons rfl)) (by kernel_rfl) rfl rfl rfl ?_
 refine speaks_spec ?_
 refine WL.say 26 (u := .bool (decide True)) rfl (by simp) ?_
 refine WL.rd rfl rfl rfl ((by first | exact Rd.notd rfl rfl | exact Rd.not rfl rfl)) ?_
 refine WL.nil ?_
 refine thenQ.normal ?_
 first | refine WC.ite rfl (fun hc1 => ?_) (fun hc1 => ?_) | refine WC.cond rfl (fun hc1 => ?_) (fun hc1 => ?_)
 ·
  exact absurd trivial hc1
 ·
  refine WC.skip ?_
  refine thenQ.normal ?_
  refine WC.seq ?_
  refine WC.region ?_
  refine WL.rd rfl rfl rfl (Rd.move rfl rfl) ?_
  refine WL.op rfl ?_
  refine OpW.call rfl rfl (by repeat (first | exact Evs.nil | apply Evs.cons rfl)) (by kernel_rfl) rfl rfl rfl ?_
  refine litems_spec hp ?_; intro vx vu
  refine WL.heap (fun w h => Sat.shareA (Take.head _) (Sat.shareA (Take.head _) h)) ?_
  refine WL.rd rfl rfl rfl (Rd.move rfl rfl) ?_
  refine WL.rd rfl rfl rfl (Rd.extract rfl rfl rfl) ?_
  refine WL.rd rfl rfl rfl (Rd.extract rfl rfl rfl) ?_
  refine WL.rd rfl rfl rfl (Rd.assign rfl rfl) ?_
  refine WL.rd rfl rfl rfl (Rd.assign rfl rfl) ?_
  refine WL.nil ?_
  refine thenQ.normal ?_
  refine WC.seq ?_
  refine WC.region ?_
  refine WL.rd rfl rfl rfl (Rd.move rfl rfl) ?_
  refine WL.op rfl ?_
  refine OpW.call rfl rfl (by repeat (first | exact Evs.nil | apply Evs.cons rfl)) (by kernel_rfl) rfl rfl rfl ?_
  refine litems_spec (xs := q) (by repeat (first | assumption | exact mS | apply mT)) ?_; intro vy vv
  refine WL.heap (fun w h => Sat.shareA (Take.head _) (Sat.shareA (Take.head _) h)) ?_
  refine WL.rd rfl rfl rfl (Rd.move rfl rfl) ?_
  refine WL.rd rfl rfl rfl (Rd.extract rfl rfl rfl) ?_
  refine WL.rd rfl rfl rfl (Rd.extract rfl rfl rfl) ?_
  refine WL.rd rfl rfl rfl (Rd.assign rfl rfl) ?_
  refine WL.rd rfl rfl rfl (Rd.assign rfl rfl) ?_
  refine WL.nil ?_
  refine thenQ.normal ?_
  refine WC.seq ?_
  refine WC.region ?_
  refine WL.rd rfl rfl rfl (Rd.move rfl rfl) ?_
  refine WL.op rfl ?_
  refine OpW.call rfl rfl (by repeat (first | exact Evs.nil | apply Evs.cons rfl)) (by kernel_rfl) rfl rfl rfl ?_
  refine litems_spec (xs := r) (by repeat (first | assumption | exact mS | apply mT)) ?_; intro vz vw
  refine WL.heap (fun w h => Sat.shareA (Take.head _) (Sat.shareA (Take.head _) h)) ?_
  generalize p.take 40 = U at kU ⊢
  generalize q.take 40 = V at kV ⊢
  generalize r.take 40 = W at kW ⊢
  refine WL.rd rfl rfl rfl (Rd.move rfl rfl) ?_
  refine WL.rd rfl rfl rfl (Rd.extract rfl rfl rfl) ?_
  refine WL.rd rfl rfl rfl (Rd.extract rfl rfl rfl) ?_
  refine WL.rd rfl rfl rfl (Rd.assign rfl rfl) ?_
  refine WL.rd rfl rfl rfl (Rd.assign rfl rfl) ?_
  refine WL.nil ?_
  refine thenQ.normal ?_
  refine WC.seq ?_
  refine WC.pick [7, 8, 9, 10, 11, 12] (by repeat (first | exact Pick.nil | apply Pick.cons rfl)) ?_
  refine WC.val 55 (.bool (decide (¬ (RightP U ∧ RightP V ∧ RightP W)))) ?_ ?_
  ·
   refine WC.region ?_
   refine WL.rd rfl rfl rfl (Rd.move rfl rfl) ?_
   refine WL.op rfl ?_
   refine OpW.call rfl rfl (by repeat (first | exact Evs.nil | apply Evs.cons rfl)) (by kernel_rfl) rfl rfl rfl ?_
   refine rright_spec (l := U) (by repeat (first | assumption | exact mS | apply mT)) ?_
   refine WL.rd rfl rfl rfl ((by first | exact Rd.notd rfl rfl | exact Rd.not rfl rfl)) ?_
   refine WL.rd rfl rfl rfl (Rd.move rfl rfl) ?_
   refine WL.case 46 rfl (fun hg46 => ?_) (fun hg46 => ?_)
   ·
    refine WL.no rfl rfl rfl rfl rfl rfl ?_
    refine WL.no rfl rfl rfl rfl rfl rfl ?_
    refine WL.no rfl rfl rfl rfl rfl rfl ?_
    refine WL.rd rfl rfl rfl (Rd.pick_t rfl rfl rfl) ?_
    refine WL.rd rfl rfl rfl (Rd.move rfl rfl) ?_
    refine WL.no rfl rfl rfl rfl rfl rfl ?_
    refine WL.no rfl rfl rfl rfl rfl rfl ?_
    refine WL.no rfl rfl rfl rfl rfl rfl ?_
    refine WL.rd rfl rfl rfl (Rd.pick_t rfl rfl rfl) ?_
    refine WL.nil ?_
    exact ⟨by repeat (first | exact Sub.nil | refine Sub.cons rfl (by first | rfl | (first | exact vb_t (fun h => hg46 h.1) | exact vb_t (fun h => hg51 h.2.1) | exact vb ⟨fun h h2 => h h2.2.2, fun h h2 => h ⟨Decidable.not_not.1 hg46, Decidable.not_not.1 hg51, h2⟩⟩)) ?_), by first | exact (fun _ h => h.thin (SubL.mem (by repeat (first | exact SubL.refl | refine SubL.cons (by repeat (first | assumption | exact mS | apply mT)) ?_ | refine SubL.skip ?_)))) | exact (fun w h => OwnL.sat (by repeat (first | exact OwnL.refl | apply OwnL.take (by repeat (first | exact Take.head _ | apply Take.tail)) | apply OwnL.drop)) w (h.thin (SubL.mem (by repeat (first | exact SubL.refl | refine SubL.cons (by repeat (first | assumption | exact mS | apply mT)) ?_ | refine SubL.skip ?_)))))⟩
   ·
    refine WL.rd_yes rfl rfl rfl rfl rfl rfl (Rd.move rfl rfl) ?_
    refine WL.op_yes rfl rfl rfl rfl ?_
    refine OpW.call rfl rfl (by repeat (first | exact Evs.nil | apply Evs.cons rfl)) (by kernel_rfl) rfl rfl rfl ?_
    refine rright_spec (l := V) (by repeat (first | assumption | exact mS | apply mT)) ?_
    refine WL.rd_yes rfl rfl rfl rfl rfl rfl ((by first | exact Rd.notd rfl rfl | exact Rd.not rfl rfl)) ?_
    refine WL.rd rfl rfl rfl (Rd.pick_f rfl rfl rfl) ?_
    refine WL.rd rfl rfl rfl (Rd.move rfl rfl) ?_
    refine WL.case 51 rfl (fun hg51 => ?_) (fun hg51 => ?_)
    ·
     refine WL.no rfl rfl rfl rfl rfl rfl ?_
     refine WL.no rfl rfl rfl rfl rfl rfl ?_
     refine WL.no rfl rfl rfl rfl rfl rfl ?_
     refine WL.rd rfl rfl rfl (Rd.pick_t rfl rfl rfl) ?_
     refine WL.nil ?_
     exact ⟨by repeat (first | exact Sub.nil | refine Sub.cons rfl (by first | rfl | (first | exact vb_t (fun h => hg46 h.1) | exact vb_t (fun h => hg51 h.2.1) | exact vb ⟨fun h h2 => h h2.2.2, fun h h2 => h ⟨Decidable.not_not.1 hg46, Decidable.not_not.1 hg51, h2⟩⟩)) ?_), by first | exact (fun _ h => h.thin (SubL.mem (by repeat (first | exact SubL.refl | refine SubL.cons (by repeat (first | assumption | exact mS | apply mT)) ?_ | refine SubL.skip ?_)))) | exact (fun w h => OwnL.sat (by repeat (first | exact OwnL.refl | apply OwnL.take (by repeat (first | exact Take.head _ | apply Take.tail)) | apply OwnL.drop)) w (h.thin (SubL.mem (by repeat (first | exact SubL.refl | refine SubL.cons (by repeat (first | assumption | exact mS | apply mT)) ?_ | refine SubL.skip ?_)))))⟩
    ·
     refine WL.rd_yes rfl rfl rfl rfl rfl rfl (Rd.move rfl rfl) ?_
     refine WL.op_yes rfl rfl rfl rfl ?_
     refine OpW.call rfl rfl (by repeat (first | exact Evs.nil | apply Evs.cons rfl)) (by kernel_rfl) rfl rfl rfl ?_
     refine rright_spec (l := W) (by repeat (first | assumption | exact mS | apply mT)) ?_
     refine WL.rd_yes rfl rfl rfl rfl rfl rfl ((by first | exact Rd.notd rfl rfl | exact Rd.not rfl rfl)) ?_
     refine WL.rd rfl rfl rfl (Rd.pick_f rfl rfl rfl) ?_
     refine WL.nil ?_
     exact ⟨by repeat (first | exact Sub.nil | refine Sub.cons rfl (by first | rfl | (first | exact vb_t (fun h => hg46 h.1) | exact vb_t (fun h => hg51 h.2.1) | exact vb ⟨fun h h2 => h h2.2.2, fun h h2 => h ⟨Decidable.not_not.1 hg46, Decidable.not_not.1 hg51, h2⟩⟩)) ?_), by first | exact (fun _ h => h.thin (SubL.mem (by repeat (first | exact SubL.refl | refine SubL.cons (by repeat (first | assumption | exact mS | apply mT)) ?_ | refine SubL.skip ?_)))) | exact (fun w h => OwnL.sat (by repeat (first | exact OwnL.refl | apply OwnL.take (by repeat (first | exact Take.head _ | apply Take.tail)) | apply OwnL.drop)) w (h.thin (SubL.mem (by repeat (first | exact SubL.refl | refine SubL.cons (by repeat (first | assumption | exact mS | apply mT)) ?_ | refine SubL.skip ?_)))))⟩
  ·
   first | refine WC.ite rfl (fun hc2 => ?_) (fun hc2 => ?_) | refine WC.cond rfl (fun hc2 => ?_) (fun hc2 => ?_)
   ·
    refine WC.heap (R' := R) (O' := O) (fun w h => OwnL.sat (by repeat (first | exact OwnL.refl | apply OwnL.take (by repeat (first | exact Take.head _ | apply Take.tail)) | apply OwnL.drop)) w (h.thin (SubL.mem (by repeat (first | exact SubL.refl | refine SubL.cons (by repeat (first | assumption | exact mS | apply mT)) ?_ | refine SubL.skip ?_))))) ?_
    refine WC.seq ?_
    refine WC.region ?_
    refine WL.rd rfl rfl rfl (Rd.assign rfl rfl) ?_
    refine WL.nil ?_
    refine thenQ.normal ?_
    refine WC.ret (Ret.one Try.results7 rfl ?_)
    exact hk
   ·
    obtain ⟨hU, hV, hW⟩ := Decidable.not_not.1 hc2
    refine WC.skip ?_
    refine thenQ.normal ?_
    refine WC.seq ?_
    refine WC.region ?_
    refine WL.rd rfl rfl rfl (Rd.move rfl rfl) ?_
    refine WL.rd rfl rfl rfl (Rd.move rfl rfl) ?_
    refine WL.op rfl ?_
    refine OpW.call rfl rfl (by repeat (first | exact Evs.nil | apply Evs.cons rfl)) (by kernel_rfl) rfl rfl rfl ?_
    refine diff2_spec (a := U) (b := V) (by repeat (first | assumption | exact mS | apply mT)) (by repeat (first | assumption | exact mS | apply mT)) kU kV ?_; intro l1 e1 l1v h1
    obtain ⟨he1, ks, hks, hl1⟩ := h1.2 hU hV
    have hG1 := KG.dchg kU kV hks
    rw [← hl1] at hG1
    refine WL.rd rfl rfl rfl (Rd.move rfl rfl) ?_
    refine WL.rd rfl rfl rfl (Rd.extract rfl rfl rfl) ?_
    refine WL.rd rfl rfl rfl (Rd.extract rfl rfl rfl) ?_
    refine WL.rd rfl rfl rfl (Rd.assign rfl rfl) ?_
    refine WL.rd rfl rfl rfl (Rd.assign rfl rfl) ?_
    refine WL.nil ?_
    refine thenQ.normal ?_
    refine WC.seq ?_
    refine WC.region ?_
    refine WL.rd rfl rfl rfl (Rd.move rfl rfl) ?_
    refine WL.rd rfl rfl rfl (Rd.move rfl rfl) ?_
    refine WL.op rfl ?_
    refine OpW.call rfl rfl (by repeat (first | exact Evs.nil | apply Evs.cons rfl)) (by kernel_rfl) rfl rfl rfl ?_
    refine diff2_spec (a := V) (b := W) (by repeat (first | assumption | exact mS | apply mT)) (by repeat (first | assumption | exact mS | apply mT)) kV kW ?_; intro l2 e2 l2v h2
    obtain ⟨he2, ks2, hks2, hl2⟩ := h2.2 hV hW
    have hG2 := KG.dchg kV kW hks2
    rw [← hl2] at hG2
    refine WL.rd rfl rfl rfl (Rd.move rfl rfl) ?_
    refine WL.rd rfl rfl rfl (Rd.extract rfl rfl rfl) ?_
    refine WL.rd rfl rfl rfl (Rd.extract rfl rfl rfl) ?_
    refine WL.rd rfl rfl rfl (Rd.assign rfl rfl) ?_
    refine WL.rd rfl rfl rfl (Rd.assign rfl rfl) ?_
    refine WL.nil ?_
    refine thenQ.normal ?_
    refine WC.seq ?_
    refine WC.region ?_
    refine WL.rd rfl rfl rfl (Rd.move rfl rfl) ?_
    refine WL.rd rfl rfl rfl (Rd.move rfl rfl) ?_
    refine WL.op rfl ?_
    refine OpW.call rfl rfl (by repeat (first | exact Evs.nil | apply Evs.cons rfl)) (by kernel_rfl) rfl rfl rfl ?_
    refine apply2_spec (a := U) (l := l1) (by repeat (first | assumption | exact mS | apply mT)) (by repeat (first | assumption | exact mS | apply mT)) kU hG1 ?_; intro r1 e3 r1v h3
    rw [hl1] at h3
    obtain ⟨he3, hr1⟩ := apply_dchg hU hV hks h3
    subst he3
    have kr : KL r1 := by rw [hr1]; exact kV
    refine WL.rd rfl rfl rfl (Rd.move rfl rfl) ?_
    refine WL.rd rfl rfl rfl (Rd.extract rfl rfl rfl) ?_
    refine WL.rd rfl rfl rfl (Rd.extract rfl rfl rfl) ?_
    refine WL.rd rfl rfl rfl (Rd.assign rfl rfl) ?_
    refine WL.rd rfl rfl rfl (Rd.assign rfl rfl) ?_
    refine WL.nil ?_
    refine thenQ.normal ?_
    refine WC.seq ?_
    refine WC.region ?_
    refine WL.rd rfl rfl rfl (Rd.move rfl rfl) ?_
    refine WL.rd rfl rfl rfl (Rd.move rfl rfl) ?_
    refine WL.op rfl ?_
    refine OpW.call rfl rfl (by repeat (first | exact Evs.nil | apply Evs.cons rfl)) (by kernel_rfl) rfl rfl rfl ?_
    refine apply2_spec (a := r1) (l := l2) (by repeat (first | assumption | exact mS | apply mT)) (by repeat (first | assumption | exact mS | apply mT)) kr hG2 ?_; intro r2 e4 r2v h4
    rw [hl2, hr1] at h4
    obtain ⟨he4, hr2⟩ := apply_dchg hV hW hks2 h4
    subst he4
    refine WL.rd rfl rfl rfl (Rd.move rfl rfl) ?_
    refine WL.rd rfl rfl rfl (Rd.extract rfl rfl rfl) ?_
    refine WL.rd rfl rfl rfl (Rd.extract rfl rfl rfl) ?_
    refine WL.rd rfl rfl rfl (Rd.assign rfl rfl) ?_
    refine WL.rd rfl rfl rfl (Rd.assign rfl rfl) ?_
    refine WL.nil ?_
    refine thenQ.normal ?_
    refine WC.seq ?_
    refine WC.region ?_
    refine WL.rd rfl rfl rfl (Rd.move rfl rfl) ?_
    refine WL.rd rfl rfl rfl (Rd.move rfl rfl) ?_
    refine WL.op rfl ?_
    refine OpW.call rfl rfl (by repeat (first | exact Evs.nil | apply Evs.cons rfl)) (by kernel_rfl) rfl rfl rfl ?_
    refine diff2_spec (a := V) (b := U) (by repeat (first | assumption | exact mS | apply mT)) (by repeat (first | assumption | exact mS | apply mT)) kV kU ?_; intro l5 e5 l5v h5
    obtain ⟨he5, ks5, hks5, hl5⟩ := h5.2 hV hU
    have hl51 : l5 = l1.map turnG := by rw [hl5, hl1, ← hks.swap hks5]; exact dchg_turn U V ks
    subst hl51
    have hcn := len_map turnG l1
    refine WL.rd rfl rfl rfl (Rd.move rfl rfl) ?_
    refine WL.rd rfl rfl rfl (Rd.extract rfl rfl rfl) ?_
    refine WL.rd rfl rfl rfl (Rd.extract rfl rfl rfl) ?_
    refine WL.rd rfl rfl rfl (Rd.assign rfl rfl) ?_
    refine WL.rd rfl rfl rfl (Rd.assign rfl rfl) ?_
    refine WL.nil ?_
    refine thenQ.normal ?_
    refine WC.seq ?_
    refine WC.seq ?_
    refine WC.region ?_
    refine WL.rd rfl rfl rfl (Rd.move rfl rfl) ?_
    refine WL.rd rfl rfl rfl ((by first | exact Rd.lenE rfl rfl Try.underlying47 (by repeat (first | assumption | exact mS | apply mT)) | exact Rd.lenA rfl rfl Try.underlying47 (by repeat (first | assumption | exact mS | apply mT)) | exact Rd.len rfl rfl Try.underlying47)) ?_
    refine WL.rd rfl rfl rfl (Rd.move rfl rfl) ?_
    refine WL.rd rfl rfl rfl ((by first | exact Rd.lenE rfl rfl Try.underlying47 (by repeat (first | assumption | exact mS | apply mT)) | exact Rd.lenA rfl rfl Try.underlying47 (by repeat (first | assumption | exact mS | apply mT)) | exact Rd.len rfl rfl Try.underlying47)) ?_
    refine WL.rd rfl rfl rfl (Rd.neq rfl rfl rfl) ?_
    refine WL.nil ?_
    refine thenQ.normal ?_
    first | refine WC.ite rfl (fun hc3 => ?_) (fun hc3 => ?_) | refine WC.cond rfl (fun hc3 => ?_) (fun hc3 => ?_)
    ·
     exact absurd (by rw [hcn]) hc3
    ·
     have hl1n := hG1.1
     refine WC.skip ?_
     refine thenQ.normal ?_
     refine WC.seq ?_
     refine WC.seq ?_
     refine WC.region ?_
     refine WL.rd rfl rfl rfl (Rd.assign rfl rfl) ?_
     refine WL.nil ?_
     refine thenQ.normal ?_
     refine WC.block ?_
     refine WC.pick [23, 7, 12, 13, 18, 19, 20, 21] (by repeat (first | exact Pick.nil | apply Pick.cons rfl)) ?_
     refine WC.loop1o 1 (fun (i : Nat) => [(23, .int .i64 (i : Int))]) (fun (i : Nat) => i ≤ l1.length) (fun (i : Nat) => l1.length - i) (0) (by repeat (first | exact Split.zero | apply Split.succ)) ?hinv1 (by repeat (first | exact Sub.nil | refine Sub.cons rfl (by first | rfl | (congr 1; omega) | assumption) ?_)) (fun _ h => h) ?_
     case hinv1 =>
      exact Nat.zero_le _
     intro i
     rintro i1
     refine WC.seq ?_
     refine WC.seq ?_
     refine WC.region ?_
     refine WL.rd rfl rfl rfl (Rd.move rfl rfl) ?_
     refine WL.rd rfl rfl rfl (Rd.move rfl rfl) ?_
     refine WL.rd rfl rfl rfl ((by first | exact Rd.lenE rfl rfl Try.underlying47 (by repeat (first | assumption | exact mS | apply mT)) | exact Rd.lenA rfl rfl Try.underlying47 (by repeat (first | assumption | exact mS | apply mT)) | exact Rd.len rfl rfl Try.underlying47)) ?_
     refine WL.rd rfl rfl rfl (Rd.lss rfl rfl rfl) ?_
     refine WL.nil ?_
     refine thenQ.normal ?_
     first | refine WC.ite rfl (fun hc4 => ?_) (fun hc4 => ?_) | refine WC.cond rfl (fun hc4 => ?_) (fun hc4 => ?_)
     ·
      have hti : ∀ (_ : i < l1.length), (l1.map turnG)[i]? = some (turnG l1[i]!) := fun h => by rw [List.getElem?_map, get!_of_lt h]; rfl
      refine WC.skip ?_
      refine thenQ.normal ?_
      refine WC.seq ?_
      refine WC.block ?_
      refine WC.seq ?_
      refine WC.still mixed (by kernel_rfl) ?_
      refine WA.rd rfl rfl rfl (Rd.move rfl rfl) ?_
      refine WA.rd rfl rfl rfl (Rd.move rfl rfl) ?_
      refine WA.rd rfl rfl rfl ((by first | exact Rd.idx (k := i) rfl S47 rfl rfl (by omega) (by repeat (first | assumption | exact mS | apply mT)) (by first | omega | (simp only [List.length_cons, List.length_nil, List.length_append, List.length_map]; omega)) | exact Rd.idxA (k := i) rfl S47 rfl rfl (by omega) (by repeat (first | assumption | exact mS | apply mT)) (by first | omega | (simp only [List.length_cons, List.length_nil, List.length_append, List.length_map]; omega)) | exact Rd.idxR (k := i) rfl S47 rfl rfl (by omega) (by omega))) ?_
      refine WA.rd rfl rfl rfl (Rd.getS (enc := encG) (size := 5) (xs := l1.map turnG) (k := i) (a := turnG l1[i]!) (cs := [vs (turnG l1[i]!).key, vs (turnG l1[i]!).old.1, .bool (turnG l1[i]!).old.2, vs (turnG l1[i]!).new.1, .bool (turnG l1[i]!).new.2]) rfl G51 rfl (by repeat (first | assumption | exact mS | apply mT)) (fun x => rfl) (hti (by omega)) (NF.refl _)) ?_
      refine WA.rd rfl rfl rfl (Rd.move rfl rfl) ?_
      refine WA.rd rfl rfl rfl (Rd.move rfl rfl) ?_
      refine WA.rd rfl rfl rfl ((by first | exact Rd.idx (k := i) rfl S47 rfl rfl (by omega) (by repeat (first | assumption | exact mS | apply mT)) (by first | omega | (simp only [List.length_cons, List.length_nil, List.length_append, List.length_map]; omega)) | exact Rd.idxA (k := i) rfl S47 rfl rfl (by omega) (by repeat (first | assumption | exact mS | apply mT)) (by first | omega | (simp only [List.length_cons, List.length_nil, List.length_append, List.length_map]; omega)) | exact Rd.idxR (k := i) rfl S47 rfl rfl (by omega) (by omega))) ?_
      refine WA.rd rfl rfl rfl ((by first | exact Rd.field rfl F51_0 rfl rfl | exact Rd.fieldE rfl F51_0 rfl (by repeat (first | assumption | exact mS | apply mT)) (by omega) | exact Rd.fieldA rfl F51_0 rfl (by repeat (first | assumption | exact mS | apply mT)) (by omega))) ?_
      refine WA.rd rfl rfl rfl (Rd.getF (enc := encG) (size := 5) (xs := l1) (k := i) (f := 0) (a := l1[i]!) (u := vs l1[i]!.key) rfl C9 rfl (by repeat (first | assumption | exact mS | apply mT)) (fun x => rfl) (by omega) (get!_of_lt (by omega)) rfl) ?_
      refine WA.rd rfl rfl rfl (Rd.move rfl rfl) ?_
      refine WA.rd rfl rfl rfl (Rd.move rfl rfl) ?_
      refine WA.rd rfl rfl rfl ((by first | exact Rd.idx (k := i) rfl S47 rfl rfl (by omega) (by repeat (first | assumption | exact mS | apply mT)) (by first | omega | (simp only [List.length_cons, List.length_nil, List.length_append, List.length_map]; omega)) | exact Rd.idxA (k := i) rfl S47 rfl rfl (by omega) (by repeat (first | assumption | exact mS | apply mT)) (by first | omega | (simp only [List.length_cons, List.length_nil, List.length_append, List.length_map]; omega)) | exact Rd.idxR (k := i) rfl S47 rfl rfl (by omega) (by omega))) ?_
      refine WA.rd rfl rfl rfl ((by first | exact Rd.field rfl F51_2 rfl rfl | exact Rd.fieldE rfl F51_2 rfl (by repeat (first | assumption | exact mS | apply mT)) (by omega) | exact Rd.fieldA rfl F51_2 rfl (by repeat (first | assumption | exact mS | apply mT)) (by omega))) ?_
      refine WA.rd rfl rfl rfl (Rd.getSF (enc := encG) (size := 5) (sz := 2) (xs := l1) (k := i) (f := 3) (a := l1[i]!) (cs := [vs l1[i]!.new.1, .bool l1[i]!.new.2]) rfl G38 rfl (by repeat (first | assumption | exact mS | apply mT)) (fun x => rfl) (by omega) (get!_of_lt (by omega)) rfl rfl) ?_
      refine WA.rd rfl rfl rfl (Rd.move rfl rfl) ?_
      refine WA.rd rfl rfl rfl (Rd.move rfl rfl) ?_
      refine WA.rd rfl rfl rfl ((by first | exact Rd.idx (k := i) rfl S47 rfl rfl (by omega) (by repeat (first | assumption | exact mS | apply mT)) (by first | omega | (simp only [List.length_cons, List.length_nil, List.length_append, List.length_map]; omega)) | exact Rd.idxA (k := i) rfl S47 rfl rfl (by omega) (by repeat (first | assumption | exact mS | apply mT)) (by first | omega | (simp only [List.length_cons, List.length_nil, List.length_append, List.length_map]; omega)) | exact Rd.idxR (k := i) rfl S47 rfl rfl (by omega) (by omega))) ?_
      refine WA.rd rfl rfl rfl ((by first | exact Rd.field rfl F51_1 rfl rfl | exact Rd.fieldE rfl F51_1 rfl (by repeat (first | assumption | exact mS | apply mT)) (by omega) | exact Rd.fieldA rfl F51_1 rfl (by repeat (first | assumption | exact mS | apply mT)) (by omega))) ?_
      refine WA.rd rfl rfl rfl (Rd.getSF (enc := encG) (size := 5) (sz := 2) (xs := l1) (k := i) (f := 1) (a := l1[i]!) (cs := [vs l1[i]!.old.1, .bool l1[i]!.old.2]) rfl G38 rfl (by repeat (first | assumption | exact mS | apply mT)) (fun x => rfl) (by omega) (get!_of_lt (by omega)) rfl rfl) ?_
      refine WA.rd rfl rfl rfl (Rd.buildN (ps := [(0, _), (1, _), (2, _)]) rfl Bs51 I51 rfl (by repeat (first | exact Evs.nil | apply Evs.cons rfl)) (by repeat (first | exact CellsOf.nil | apply CellsOf.cons rfl)) (by apply NFo.mk; repeat (first | exact NF.nil | apply NF.cons))) ?_
      refine WA.rd rfl rfl rfl (Rd.aneq rfl rfl rfl (EqCh (turnG l1[i]!) (turnG l1[i]!))) ?_
      refine WA.nil ?_
      refine thenQ.normal ?_
      first | refine WC.ite rfl (fun hc5 => ?_) (fun hc5 => ?_) | refine WC.cond rfl (fun hc5 => ?_) (fun hc5 => ?_)
      ·
       exact absurd rfl hc5
      ·
       refine WC.skip ?_
       refine blockQ.normal ?_
       refine thenQ.normal ?_
       refine WC.region ?_
       refine WL.rd rfl rfl rfl (Rd.move rfl rfl) ?_
       refine WL.rd rfl rfl rfl (Rd.add rfl rfl rfl (by omega)) ?_
       refine WL.rd rfl rfl rfl (Rd.assign rfl rfl) ?_
       refine WL.nil ?_
       exact loopQ1.mk (i + 1) (by omega) (by omega) (by repeat (first | exact Sub.nil | refine Sub.cons rfl (by first | rfl | (congr 1; omega) | assumption) ?_)) (fun w h => OwnL.sat (by repeat (first | exact OwnL.refl | apply OwnL.take (by repeat (first | exact Take.head _ | apply Take.tail)) | apply OwnL.drop)) w (h.thin (SubL.mem (by repeat (first | exact SubL.refl | refine SubL.cons (by repeat (first | assumption | exact mS | apply mT)) ?_ | refine SubL.skip ?_)))))
     ·
      refine WC.exit ?_
      refine thenQ.exit ?_
      refine loopQ1.exit ?_
      refine blockQ.exit ?_
      refine thenQ.normal ?_
      refine WC.seq ?_
      refine WC.region ?_
      refine WL.rd rfl rfl rfl (Rd.move rfl rfl) ?_
      refine WL.rd rfl rfl rfl (Rd.move rfl rfl) ?_
      refine WL.op rfl ?_
      refine OpW.call rfl rfl (by repeat (first | exact Evs.nil | apply Evs.cons rfl)) (by kernel_rfl) rfl rfl rfl ?_
      refine diff2_spec (a := U) (b := U) (by repeat (first | assumption | exact mS | apply mT)) (by repeat (first | assumption | exact mS | apply mT)) kU kU ?_; intro l6 e6 l6v h6
      obtain ⟨he6, ks6, hks6, hl6⟩ := h6.2 hU hU
      rw [dchg_self] at hl6
      subst hl6
      refine WL.rd rfl rfl rfl (Rd.move rfl rfl) ?_
      refine WL.rd rfl rfl rfl (Rd.extract rfl rfl rfl) ?_
      refine WL.rd rfl rfl rfl (Rd.extract rfl rfl rfl) ?_
      refine WL.rd rfl rfl rfl (Rd.assign rfl rfl) ?_
      refine WL.rd rfl rfl rfl (Rd.assign rfl rfl) ?_
      refine WL.nil ?_
      refine thenQ.normal ?_
      refine WC.seq ?_
      refine WC.region ?_
      refine WL.rd rfl rfl rfl (Rd.move rfl rfl) ?_
      refine WL.rd rfl rfl rfl (Rd.eql rfl rfl rfl) ?_
      refine WL.rd rfl rfl rfl (Rd.move rfl rfl) ?_
      refine WL.case 126 rfl (fun hg126 => ?_) (fun hg126 => ?_)
      ·
       refine WL.rd_yes rfl rfl rfl rfl rfl rfl (Rd.move rfl rfl) ?_
       refine WL.rd_yes rfl rfl rfl rfl rfl rfl (Rd.eql rfl rfl rfl) ?_
       refine WL.rd rfl rfl rfl (Rd.pick_t rfl rfl rfl) ?_
       refine WL.rd rfl rfl rfl (Rd.move rfl rfl) ?_
       refine WL.case 130 rfl (fun hg130 => ?_) (fun hg130 => ?_)
       ·
        refine WL.rd_yes rfl rfl rfl rfl rfl rfl (Rd.move rfl rfl) ?_
        refine WL.rd_yes rfl rfl rfl rfl rfl rfl (Rd.move rfl rfl) ?_
        refine WL.op_yes rfl rfl rfl rfl ?_
        refine OpW.call rfl rfl (by repeat (first | exact Evs.nil | apply Evs.cons rfl)) (by kernel_rfl) rfl rfl rfl ?_
        refine same_spec (a := r2) (b := W) (by repeat (first | assumption | exact mS | apply mT)) (by repeat (first | assumption | exact mS | apply mT)) ?_
        refine WL.rd rfl rfl rfl (Rd.pick_t rfl rfl rfl) ?_
        refine WL.rd rfl rfl rfl (Rd.move rfl rfl) ?_
        refine WL.case 135 rfl (fun hg135 => ?_) (fun hg135 => ?_)
        ·
         refine WL.rd_yes rfl rfl rfl rfl rfl rfl (Rd.move rfl rfl) ?_
         refine WL.rd_yes rfl rfl rfl rfl rfl rfl ((by first | exact Rd.lenE rfl rfl Try.underlying47 (by repeat (first | assumption | exact mS | apply mT)) | exact Rd.lenA rfl rfl Try.underlying47 (by repeat (first | assumption | exact mS | apply mT)) | exact Rd.len rfl rfl Try.underlying47)) ?_
         refine WL.rd_yes rfl rfl rfl rfl rfl rfl (Rd.eql rfl rfl rfl) ?_
         refine WL.rd rfl rfl rfl (Rd.pick_t rfl rfl rfl) ?_
         refine WL.say 139 (u := .bool true) rfl rfl ?_
         refine WL.heap (R' := R) (O' := O) (fun w h => OwnL.sat (by repeat (first | exact OwnL.refl | apply OwnL.take (by repeat (first | exact Take.head _ | apply Take.tail)) | apply OwnL.drop)) w (h.thin (SubL.mem (by repeat (first | exact SubL.refl | refine SubL.cons (by repeat (first | assumption | exact mS | apply mT)) ?_ | refine SubL.skip ?_))))) ?_
         refine WL.rd rfl rfl rfl (Rd.assign rfl rfl) ?_
         refine WL.nil ?_
         refine thenQ.normal ?_
         refine WC.ret (Ret.one Try.results7 rfl ?_)
         exact hk
        ·
         exact absurd hr2 hg135
       ·
        exact absurd rfl hg130
      ·
       exact absurd rfl hg126
theorem sides2_spec {p q r : List It} {pv qv rv : Value} (hp : SlE encI pv p ∈ R) (hq : SlE encI qv q ∈ R) (hr : SlE encI rv r ∈ R) (qp : AllQ QI p ∈ R) (qq : AllQ QI q ∈ R) (qr : AllQ QI r ∈ R)
  (hk : POST (.bool true) R O) : Fun Try.prog 4 #[pv, qv, rv] R O POST :=
 Fun.know qp (fun _ h => h) fun h1 => Fun.know qq (fun _ h => h) fun h2 => Fun.know qr (fun _ h => h) fun h3 => sides_spec hp hq hr h1 h2 h3 hk
theorem chain2_spec {p q r : List It} {pv qv rv : Value} (hp : SlE encI pv p ∈ R) (hq : SlE encI qv q ∈ R) (hr : SlE encI rv r ∈ R) (qp : AllQ QI p ∈ R) (qq : AllQ QI q ∈ R) (qr : AllQ QI r ∈ R)
  (hk : POST (.bool true) R O) : Fun Try.prog 7 #[pv, qv, rv] R O POST :=
 Fun.know qp (fun _ h => h) fun h1 => Fun.know qq (fun _ h => h) fun h2 => Fun.know qr (fun _ h => h) fun h3 => chain_spec hp hq hr h1 h2 h3 hk
end
end Go.Proofs.Ytbbeifdmgmadiaa
