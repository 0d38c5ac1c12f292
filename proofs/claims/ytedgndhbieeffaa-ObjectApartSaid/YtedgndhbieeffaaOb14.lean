/-
  Layer 11: speaks; ObjectEncodes, ObjectDecodes, ObjectApart.
-/
import Derived.Test.YtedgndhbieeffaaOb13
import Derived.Test.YtedgndhbieeffaaOpa
namespace Go.Proofs.Ytedgndhbieeffaa
open Go Go.SL Go.RowKit

section
variable {R : List RO} {O : List Own} {POST : Value → List RO → List Own → Prop} {b : Nat}
theorem sp_enc : encE { zOb with kind := 1 } = ([1, 0], 0) := by decide +kernel
theorem sp_enc2 : encE { zOb with kind := 1, body := [120] } = ([1, 1, 120], 0) := by decide +kernel
theorem sp_dec {o : Ob} {e : Int} (h : DecP [1, 1, 120] o e) : o = { zOb with kind := 1, body := [120] } ∧ e = 0 := by
  have h2 := enc_dec (o := { zOb with kind := 1, body := [120] }) (by rw [sp_enc2])
  rw [sp_enc2] at h2
  exact dec_uniq h h2
theorem sp_good : GoodP [97, 46, 98] := by decide +kernel
set_option maxRecDepth 20000 in
theorem speaks_spec11 (hk : POST (.bool true) R O) : Fun Try.prog 6 #[] R O POST := by
  refine Fun.enter (l := []) Try.func6 rfl Try.ntmps6 rfl (L0 := []) rfl ?_
  refine WC.seq ?_
  refine WC.region ?_
  refine WL.rd rfl rfl rfl (Rd.assign rfl rfl) ?_
  refine WL.nil ?_
  refine thenQ.normal ?_
  refine WC.seq ?_
  refine WC.region ?_
  refine WL.rd rfl rfl rfl (Rd.buildN (ps := [(0, _)]) rfl Bs30 I30 rfl (by repeat (first | exact Evs.nil | apply Evs.cons rfl)) (by repeat (first | exact CellsOf.nil | apply CellsOf.cons rfl)) (by apply NFo.mk; repeat (first | exact NF.nil | apply NF.cons))) ?_
  refine WL.heap (fun w h => Sat.nilE (α := List UInt8) (enc := one vs) h) ?_
  refine WL.heap (fun w h => Sat.nilE (α := ET) (enc := encT) h) ?_
  refine WL.op rfl ?_
  refine OpW.call rfl rfl (by repeat (first | exact Evs.nil | apply Evs.cons rfl)) (by kernel_rfl) rfl rfl rfl ?_
  refine encode_spec (o := { zOb with kind := 1 }) (ev := .slice none 0 0) (pv := .slice none 0 0) (by repeat (first | assumption | exact mS | apply mT)) (by repeat (first | assumption | exact mS | apply mT)) ⟨fun x hx => absurd hx List.not_mem_nil, Nat.zero_le _⟩ ?_
  rw [sp_enc]
  refine WL.rd rfl rfl rfl (Rd.move rfl rfl) ?_
  refine WL.rd rfl rfl rfl (Rd.extract rfl rfl rfl) ?_
  refine WL.rd rfl rfl rfl (Rd.extract rfl rfl rfl) ?_
  refine WL.rd rfl rfl rfl (Rd.assign rfl rfl) ?_
  refine WL.rd rfl rfl rfl (Rd.assign rfl rfl) ?_
  refine WL.nil ?_
  refine thenQ.normal ?_
  refine WC.seq ?_
  refine WC.region ?_
  refine WL.op rfl ?_
  refine OpW.call rfl rfl (by repeat (first | exact Evs.nil | apply Evs.cons rfl)) (by kernel_rfl) rfl rfl rfl ?_
  refine decode_spec (s := [1, 1, 120]) (by decide) ?_; intro o e ev pv b11 c11 hd
  obtain ⟨ho, rfl⟩ := sp_dec hd
  refine WL.rd rfl rfl rfl (Rd.move rfl rfl) ?_
  refine WL.rd rfl rfl rfl (Rd.extract rfl rfl rfl) ?_
  refine WL.know2 (p := SlE encT ev o.ents) (by repeat (first | assumption | exact mS | apply mT)) (fun w h => h.oneV) fun hev => ?_
  refine WL.know2 (p := SlE (one vs) pv o.pars) (by repeat (first | assumption | exact mS | apply mT)) (fun w h => h.oneV) fun hpv => ?_
  refine WL.rd rfl rfl rfl (Rd.extract rfl rfl rfl) ?_
  refine WL.op rfl ?_
  refine OpW.alloc rfl I30 rfl (by repeat (first | exact NF.nil | apply NF.cons)) rfl rfl ?_; intro b3
  refine WL.op rfl ?_
  refine OpW.storeS rfl G30 rfl rfl (by repeat (first | exact NF.nil | apply NF.cons)) (by repeat (first | assumption | exact Take.head _ | apply Take.tail)) rfl rfl (by repeat (first | exact NF.nil | apply NF.cons)) rfl (h1 := by have h1 := hev.one; have h2 := hpv.one; simp only [List.all_cons, List.all_nil, h1, h2]; rfl) ?_
  refine WL.rd rfl rfl rfl (Rd.assign rfl rfl) ?_
  refine WL.nil ?_
  refine thenQ.normal ?_
  refine WC.seq ?_
  refine WC.region ?_
  refine WL.rd rfl rfl rfl (Rd.move rfl rfl) ?_
  refine WL.rd rfl rfl rfl (Rd.eql rfl rfl rfl) ?_
  refine WL.rd rfl rfl rfl (Rd.move rfl rfl) ?_
  refine WL.case 16 rfl (fun hg16 => ?_) (fun hg16 => ?_)
  · skip
    refine WL.rd_yes rfl rfl rfl rfl rfl rfl (Rd.move rfl rfl) ?_
    refine WL.rd_yes rfl rfl rfl rfl rfl rfl (Rd.seql rfl rfl rfl) ?_
    refine WL.rd rfl rfl rfl (Rd.pick_t rfl rfl rfl) ?_
    refine WL.rd rfl rfl rfl (Rd.move rfl rfl) ?_
    refine WL.case 20 rfl (fun hg20 => ?_) (fun hg20 => ?_)
    · skip
      refine WL.rd_yes rfl rfl rfl rfl rfl rfl (Rd.move rfl rfl) ?_
      refine WL.rd_yes rfl rfl rfl rfl rfl rfl (Rd.eql rfl rfl rfl) ?_
      refine WL.rd rfl rfl rfl (Rd.pick_t rfl rfl rfl) ?_
      refine WL.rd rfl rfl rfl (Rd.move rfl rfl) ?_
      refine WL.case 24 rfl (fun hg24 => ?_) (fun hg24 => ?_)
      · skip
        refine WL.rd_yes rfl rfl rfl rfl rfl rfl ((by first | exact Rd.field rfl F30_1 rfl rfl | exact Rd.fieldE rfl F30_1 rfl (by repeat (first | assumption | exact mS | apply mT)) (by omega) | exact Rd.fieldA rfl F30_1 rfl (by repeat (first | assumption | exact mS | apply mT)) (by omega))) ?_
        refine WL.rd_yes rfl rfl rfl rfl rfl rfl (Rd.row1 (b := b3) (off := 1) (u := vs o.body) rfl C9 rfl (by repeat (first | assumption | exact mS | apply mT)) rfl) ?_
        refine WL.rd_yes rfl rfl rfl rfl rfl rfl (Rd.seql rfl rfl rfl) ?_
        refine WL.say 27 (u := .bool (decide True)) rfl (by rw [ho]; rfl) ?_
        refine WL.rd rfl rfl rfl (Rd.pick_t rfl rfl rfl) ?_
        refine WL.rd rfl rfl rfl (Rd.move rfl rfl) ?_
        refine WL.case 29 rfl (fun hg29 => ?_) (fun hg29 => ?_)
        · skip
          refine WL.op_yes rfl rfl rfl rfl ?_
          refine OpW.call rfl rfl (by repeat (first | exact Evs.nil | apply Evs.cons rfl)) (by kernel_rfl) rfl rfl rfl ?_
          refine good_spec (by decide) ?_
          refine WL.rd rfl rfl rfl (Rd.pick_t rfl rfl rfl) ?_
          refine WL.say 31 (u := .bool true) rfl (by rw [decide_eq_true sp_good]) ?_
          refine WL.rd rfl rfl rfl (Rd.assign rfl rfl) ?_
          refine WL.nil ?_
          refine thenQ.normal ?_
          refine WC.heap (R' := R) (O' := O) (fun w h => OwnL.sat (by repeat (first | exact OwnL.refl | apply OwnL.take (by repeat (first | exact Take.head _ | apply Take.tail)) | apply OwnL.drop)) w (h.thin (SubL.mem (by repeat (first | exact SubL.refl | refine SubL.cons (by repeat (first | assumption | exact mS | apply mT)) ?_ | refine SubL.skip ?_))))) ?_
          refine WC.ret (Ret.one Try.results6 rfl ?_)
          exact hk
        · skip
          exact absurd trivial hg29
      · skip
        exact absurd rfl hg24
    · skip
      exact absurd rfl hg20
  · skip
    exact absurd rfl hg16
set_option maxRecDepth 20000 in
set_option maxHeartbeats 4000000 in
theorem encodes_spec {x : OX} (he : SlE encT x.ents.1 x.ents.2 ∈ R) (hp : SlE (one vs) x.pars.1 x.pars.2 ∈ R) (hf : Fits x) (hk : POST (.bool true) R O) : Fun Try.prog 3 #[.agg (oxC x).toArray] R O POST := by
  refine Fun.oneV he fun hev => ?_
  refine Fun.oneV hp fun hpv => ?_
  have hnm := obX_names hf
  refine Fun.enter (l := [_]) Try.func3 rfl Try.ntmps3 rfl (L0 := [(0, _)]) rfl ?_
  refine WC.seq ?_
  refine WC.region ?_
  refine WL.op rfl ?_
  refine OpW.box rfl rfl (by repeat (first | exact NF.nil | apply NF.cons)) rfl rfl ?_; intro b1
  refine WL.rd rfl rfl rfl (Rd.assign rfl rfl) ?_
  refine WL.nil ?_
  refine thenQ.normal ?_
  refine WC.seq ?_
  refine WC.seq ?_
  refine WC.region ?_
  refine WL.op rfl ?_
  refine OpW.call rfl rfl (by repeat (first | exact Evs.nil | apply Evs.cons rfl)) (by kernel_rfl) rfl rfl rfl ?_
  refine speaks_spec11 ?_
  refine WL.say 11 (u := .bool (decide True)) rfl (by simp) ?_
  refine WL.rd rfl rfl rfl ((by first | exact Rd.notd rfl rfl | exact Rd.not rfl rfl)) ?_
  refine WL.nil ?_
  refine thenQ.normal ?_
  first | refine WC.ite rfl (fun hc1 => ?_) (fun hc1 => ?_) | refine WC.cond rfl (fun hc1 => ?_) (fun hc1 => ?_)
  · skip
    exact absurd trivial hc1
  · skip
    refine WC.skip ?_
    refine thenQ.normal ?_
    refine WC.seq ?_
    refine WC.seq ?_
    refine WC.region ?_
    refine WL.rd rfl rfl rfl (Rd.rowS (b := b1) rfl G25 rfl (by repeat (first | assumption | exact mS | apply mT)) (by repeat (first | exact NF.nil | apply NF.cons)) rfl) ?_
    refine WL.op rfl ?_
    refine OpW.call rfl rfl (by repeat (first | exact Evs.nil | apply Evs.cons rfl)) (by kernel_rfl) rfl rfl rfl ?_
    refine big_spec (x := x) hev hpv ?_
    refine WL.nil ?_
    refine thenQ.normal ?_
    first | refine WC.ite rfl (fun hc2 => ?_) (fun hc2 => ?_) | refine WC.cond rfl (fun hc2 => ?_) (fun hc2 => ?_)
    · skip
      refine WC.seq ?_
      refine WC.region ?_
      refine WL.rd rfl rfl rfl (Rd.assign rfl rfl) ?_
      refine WL.nil ?_
      refine thenQ.normal ?_
      refine WC.heap (R' := R) (O' := O) (fun w h => OwnL.sat (by repeat (first | exact OwnL.refl | apply OwnL.take (by repeat (first | exact Take.head _ | apply Take.tail)) | apply OwnL.drop)) w (h.thin (SubL.mem (by repeat (first | exact SubL.refl | refine SubL.cons (by repeat (first | assumption | exact mS | apply mT)) ?_ | refine SubL.skip ?_))))) ?_
      refine WC.ret (Ret.one Try.results3 rfl ?_)
      exact hk
    · skip
      refine WC.skip ?_
      refine thenQ.normal ?_
      refine WC.seq ?_
      refine WC.region ?_
      refine WL.rd rfl rfl rfl (Rd.rowS (b := b1) rfl G25 rfl (by repeat (first | assumption | exact mS | apply mT)) (by repeat (first | exact NF.nil | apply NF.cons)) rfl) ?_
      refine WL.op rfl ?_
      refine OpW.call rfl rfl (by repeat (first | exact Evs.nil | apply Evs.cons rfl)) (by kernel_rfl) rfl rfl rfl ?_
      refine objects_spec (x := x) he hp hf ?_; intro ea pa eb pb b17 c17 b18 c18
      refine WL.rd rfl rfl rfl (Rd.move rfl rfl) ?_
      obtain ⟨D, hD⟩ : ∃ D, D = obX x := ⟨_, rfl⟩
      have hDn : D.name = x.name := by rw [hD]; rfl
      rw [← hD] at hnm ⊢
      refine WL.know2 (p := SlE encT ea D.ents) (by repeat (first | assumption | exact mS | apply mT)) (fun w h => h.oneV) fun h1 => ?_
      refine WL.know2 (p := SlE (one vs) pa D.pars) (by repeat (first | assumption | exact mS | apply mT)) (fun w h => h.oneV) fun h2 => ?_
      refine WL.know2 (p := SlE encT eb D.ents) (by repeat (first | assumption | exact mS | apply mT)) (fun w h => h.oneV) fun h3 => ?_
      refine WL.know2 (p := SlE (one vs) pb D.pars) (by repeat (first | assumption | exact mS | apply mT)) (fun w h => h.oneV) fun h4 => ?_
      refine WL.rd rfl rfl rfl (Rd.extract rfl rfl rfl) ?_
      refine WL.rd rfl rfl rfl (Rd.extract rfl rfl rfl) ?_
      refine WL.op rfl ?_
      refine OpW.alloc rfl I30 rfl (by repeat (first | exact NF.nil | apply NF.cons)) rfl rfl ?_; intro b3
      refine WL.op rfl ?_
      refine OpW.alloc rfl I33 rfl (by repeat (first | exact NF.nil | apply NF.cons)) rfl rfl ?_; intro b4
      refine WL.op rfl ?_
      refine OpW.storeS rfl G30 rfl rfl (by repeat (first | exact NF.nil | apply NF.cons)) (by repeat (first | assumption | exact Take.head _ | apply Take.tail)) rfl rfl (by repeat (first | exact NF.nil | apply NF.cons)) rfl (h1 := by simp only [List.all_cons, List.all_nil, h1.one, h2.one]; rfl) ?_
      refine WL.op rfl ?_
      refine OpW.storeS rfl G33 rfl rfl (by repeat (first | exact NF.nil | apply NF.cons)) (by repeat (first | assumption | exact Take.head _ | apply Take.tail)) rfl rfl (by repeat (first | exact NF.nil | apply NF.cons)) rfl (h1 := by simp only [List.all_cons, List.all_nil, h3.one, h4.one]; rfl) ?_
      refine WL.nil ?_
      refine thenQ.normal ?_
      refine WC.seq ?_
      refine WC.region ?_
      refine WL.rd rfl rfl rfl (Rd.rowS (b := b3) rfl G30 rfl (by repeat (first | assumption | exact mS | apply mT)) (by repeat (first | exact NF.nil | apply NF.cons)) rfl) ?_
      refine WL.op rfl ?_
      refine OpW.call rfl rfl (by repeat (first | exact Evs.nil | apply Evs.cons rfl)) (by kernel_rfl) rfl rfl rfl ?_
      refine encode_spec (o := D) (ev := ea) (pv := pa) (by repeat (first | assumption | exact mS | apply mT)) (by repeat (first | assumption | exact mS | apply mT)) hnm ?_
      refine WL.rd rfl rfl rfl (Rd.move rfl rfl) ?_
      refine WL.rd rfl rfl rfl (Rd.extract rfl rfl rfl) ?_
      refine WL.rd rfl rfl rfl (Rd.extract rfl rfl rfl) ?_
      refine WL.rd rfl rfl rfl (Rd.assign rfl rfl) ?_
      refine WL.rd rfl rfl rfl (Rd.assign rfl rfl) ?_
      refine WL.nil ?_
      refine thenQ.normal ?_
      refine WC.seq ?_
      refine WC.region ?_
      refine WL.rd rfl rfl rfl (Rd.rowS (b := b4) rfl G33 rfl (by repeat (first | assumption | exact mS | apply mT)) (by repeat (first | exact NF.nil | apply NF.cons)) rfl) ?_
      refine WL.op rfl ?_
      refine OpW.call rfl rfl (by repeat (first | exact Evs.nil | apply Evs.cons rfl)) (by kernel_rfl) rfl rfl rfl ?_
      refine refEncode_spec (o := D) (ev := eb) (pv := pb) (by repeat (first | assumption | exact mS | apply mT)) (by repeat (first | assumption | exact mS | apply mT)) hnm ?_
      refine WL.rd rfl rfl rfl (Rd.move rfl rfl) ?_
      refine WL.rd rfl rfl rfl (Rd.extract rfl rfl rfl) ?_
      refine WL.rd rfl rfl rfl (Rd.extract rfl rfl rfl) ?_
      refine WL.rd rfl rfl rfl (Rd.assign rfl rfl) ?_
      refine WL.rd rfl rfl rfl (Rd.assign rfl rfl) ?_
      refine WL.nil ?_
      refine thenQ.normal ?_
      refine WC.seq ?_
      refine WC.seq ?_
      refine WC.drawnA 17 rfl mixed ?_
      refine WD.take 0 rfl (by kernel_rfl) Held.all rfl rfl rfl (Rd.move rfl rfl) ?_
      refine WD.take 1 rfl (by kernel_rfl) Held.all rfl rfl rfl (Rd.move rfl rfl) ?_
      refine WD.take 2 rfl (by kernel_rfl) Held.all rfl rfl rfl (Rd.sneq rfl rfl rfl) ?_
      refine WD.take 3 rfl (by kernel_rfl) Held.all rfl rfl rfl (Rd.move rfl rfl) ?_
      refine WD.case 33 rfl (fun hg33 => ?_) (fun hg33 => ?_)
      · skip
        exact absurd rfl hg33
      · skip
        refine WD.take_yes 4 rfl (by kernel_rfl) Held.all rfl rfl rfl rfl rfl rfl (Rd.move rfl rfl) ?_
        refine WD.take_yes 5 rfl (by kernel_rfl) Held.all rfl rfl rfl rfl rfl rfl (Rd.move rfl rfl) ?_
        refine WD.take_yes 6 rfl (by kernel_rfl) Held.all rfl rfl rfl rfl rfl rfl (Rd.neq rfl rfl rfl) ?_
        refine WD.take 7 rfl (by kernel_rfl) Held.all rfl rfl rfl (Rd.pick_f rfl rfl rfl) ?_
        refine WD.take 8 rfl (by kernel_rfl) Held.all rfl rfl rfl (Rd.move rfl rfl) ?_
        refine WD.case 38 rfl (fun hg38 => ?_) (fun hg38 => ?_)
        · skip
          exact absurd rfl hg38
        · skip
          refine WD.take_yes 9 rfl (by kernel_rfl) Held.all rfl rfl rfl rfl rfl rfl ((by first | exact Rd.field rfl F25_9 rfl rfl | exact Rd.fieldE rfl F25_9 rfl (by repeat (first | assumption | exact mS | apply mT)) (by omega) | exact Rd.fieldA rfl F25_9 rfl (by repeat (first | assumption | exact mS | apply mT)) (by omega))) ?_
          refine WD.take_yes 10 rfl (by kernel_rfl) Held.all rfl rfl rfl rfl rfl rfl (Rd.row1 (b := b1) (off := 9) (u := vs x.name) rfl C9 rfl (by repeat (first | assumption | exact mS | apply mT)) rfl) ?_
          refine WD.take_yes 12 rfl (by kernel_rfl) Held.all rfl rfl rfl rfl rfl rfl ((by first | exact Rd.field rfl F25_9 rfl rfl | exact Rd.fieldE rfl F25_9 rfl (by repeat (first | assumption | exact mS | apply mT)) (by omega) | exact Rd.fieldA rfl F25_9 rfl (by repeat (first | assumption | exact mS | apply mT)) (by omega))) ?_
          refine WD.take_yes 13 rfl (by kernel_rfl) Held.all rfl rfl rfl rfl rfl rfl (Rd.row1 (b := b1) (off := 9) (u := vs x.name) rfl C9 rfl (by repeat (first | assumption | exact mS | apply mT)) rfl) ?_
          refine WD.one_yes 11 rfl (by kernel_rfl) rfl rfl rfl rfl ?_
          refine OpW.call rfl rfl (by repeat (first | exact Evs.nil | apply Evs.cons rfl)) (by kernel_rfl) rfl rfl rfl ?_
          refine good_spec (by have := hf.2.2.2.2.2.1; omega) ?_
          refine ⟨(Held.mk' (by repeat (first | exact SubL.refl | refine SubL.cons (by repeat (first | assumption | exact mS | apply mT)) ?_ | refine SubL.skip ?_)) (by repeat (first | exact OwnL.refl | apply OwnL.take (by repeat (first | exact Take.head _ | apply Take.tail)) | apply OwnL.drop))), ?_⟩
          refine WD.one_yes 14 rfl (by kernel_rfl) rfl rfl rfl rfl ?_
          refine OpW.call rfl rfl (by repeat (first | exact Evs.nil | apply Evs.cons rfl)) (by kernel_rfl) rfl rfl rfl ?_
          refine refGood_spec (by have := hf.2.2.2.2.2.1; omega) ?_
          refine ⟨(Held.mk' (by repeat (first | exact SubL.refl | refine SubL.cons (by repeat (first | assumption | exact mS | apply mT)) ?_ | refine SubL.skip ?_)) (by repeat (first | exact OwnL.refl | apply OwnL.take (by repeat (first | exact Take.head _ | apply Take.tail)) | apply OwnL.drop))), ?_⟩
          refine WD.take_yes 15 rfl (by kernel_rfl) (Held.mk' (by repeat (first | exact SubL.refl | refine SubL.cons (by repeat (first | assumption | exact mS | apply mT)) ?_ | refine SubL.skip ?_)) (by repeat (first | exact OwnL.refl | apply OwnL.take (by repeat (first | exact Take.head _ | apply Take.tail)) | apply OwnL.drop))) rfl rfl rfl rfl rfl rfl (Rd.bneq rfl rfl rfl Try.underlying4) ?_
          refine WD.say 45 (u := .bool (decide False)) rfl (by simp) ?_
          refine WD.take 16 rfl (by kernel_rfl) (Held.mk' (by repeat (first | exact SubL.refl | refine SubL.cons (by repeat (first | assumption | exact mS | apply mT)) ?_ | refine SubL.skip ?_)) (by repeat (first | exact OwnL.refl | apply OwnL.take (by repeat (first | exact Take.head _ | apply Take.tail)) | apply OwnL.drop))) rfl rfl rfl (Rd.pick_f rfl rfl rfl) ?_
          refine WD.done (by kernel_rfl) ?_
          refine thenQ.normal ?_
          first | refine WC.ite rfl (fun hc3 => ?_) (fun hc3 => ?_) | refine WC.cond rfl (fun hc3 => ?_) (fun hc3 => ?_)
          · skip
            exact hc3.elim
          · skip
            refine WC.skip ?_
            refine thenQ.normal ?_
            refine WC.seq ?_
            refine WC.seq ?_
            refine WC.region ?_
            refine WL.rd rfl rfl rfl (Rd.move rfl rfl) ?_
            refine WL.rd rfl rfl rfl (Rd.neq rfl rfl rfl) ?_
            refine WL.nil ?_
            refine thenQ.normal ?_
            first | refine WC.ite rfl (fun hc4 => ?_) (fun hc4 => ?_) | refine WC.cond rfl (fun hc4 => ?_) (fun hc4 => ?_)
            · skip
              refine WC.seq ?_
              refine WC.region ?_
              refine WL.rd rfl rfl rfl (Rd.assign rfl rfl) ?_
              refine WL.nil ?_
              refine thenQ.normal ?_
              refine WC.heap (R' := R) (O' := O) (fun w h => OwnL.sat (by repeat (first | exact OwnL.refl | apply OwnL.take (by repeat (first | exact Take.head _ | apply Take.tail)) | apply OwnL.drop)) w (h.thin (SubL.mem (by repeat (first | exact SubL.refl | refine SubL.cons (by repeat (first | assumption | exact mS | apply mT)) ?_ | refine SubL.skip ?_))))) ?_
              refine WC.ret (Ret.one Try.results3 rfl ?_)
              exact hk
            · skip
              have h0 : (encE D).2 = 0 := by omega
              have hde := enc_dec h0
              have hlen := (enc_ok h0).2.2
              refine WC.skip ?_
              refine thenQ.normal ?_
              refine WC.seq ?_
              refine WC.region ?_
              refine WL.rd rfl rfl rfl (Rd.move rfl rfl) ?_
              refine WL.op rfl ?_
              refine OpW.call rfl rfl (by repeat (first | exact Evs.nil | apply Evs.cons rfl)) (by kernel_rfl) rfl rfl rfl ?_
              refine decode_spec (s := (encE D).1) (by rw [hlen.1]; omega) ?_; intro o e ev pv b51 c51 hd
              obtain ⟨ho, he0⟩ := dec_uniq hd hde
              subst ho
              subst he0
              refine WL.rd rfl rfl rfl (Rd.move rfl rfl) ?_
              refine WL.rd rfl rfl rfl (Rd.extract rfl rfl rfl) ?_
              refine WL.know2 (p := SlE encT ev o.ents) (by repeat (first | assumption | exact mS | apply mT)) (fun w h => h.oneV) fun h5 => ?_
              refine WL.know2 (p := SlE (one vs) pv o.pars) (by repeat (first | assumption | exact mS | apply mT)) (fun w h => h.oneV) fun h6 => ?_
              refine WL.rd rfl rfl rfl (Rd.extract rfl rfl rfl) ?_
              refine WL.op rfl ?_
              refine OpW.alloc rfl I30 rfl (by repeat (first | exact NF.nil | apply NF.cons)) rfl rfl ?_; intro b9
              refine WL.op rfl ?_
              refine OpW.storeS rfl G30 rfl rfl (by repeat (first | exact NF.nil | apply NF.cons)) (by repeat (first | assumption | exact Take.head _ | apply Take.tail)) rfl rfl (by repeat (first | exact NF.nil | apply NF.cons)) rfl (h1 := by simp only [List.all_cons, List.all_nil, h5.one, h6.one]; rfl) ?_
              refine WL.rd rfl rfl rfl (Rd.assign rfl rfl) ?_
              refine WL.nil ?_
              refine thenQ.normal ?_
              refine WC.seq ?_
              refine WC.region ?_
              refine WL.rd rfl rfl rfl (Rd.move rfl rfl) ?_
              refine WL.rd rfl rfl rfl (Rd.eql rfl rfl rfl) ?_
              refine WL.rd rfl rfl rfl (Rd.move rfl rfl) ?_
              refine WL.case 56 rfl (fun hg56 => ?_) (fun hg56 => ?_)
              · skip
                refine WL.rd_yes rfl rfl rfl rfl rfl rfl (Rd.rowS (b := b9) rfl G30 rfl (by repeat (first | assumption | exact mS | apply mT)) (by repeat (first | exact NF.nil | apply NF.cons)) rfl) ?_
                refine WL.rd_yes rfl rfl rfl rfl rfl rfl (Rd.rowS (b := b4) rfl G33 rfl (by repeat (first | assumption | exact mS | apply mT)) (by repeat (first | exact NF.nil | apply NF.cons)) rfl) ?_
                refine WL.op_yes rfl rfl rfl rfl ?_
                refine OpW.call rfl rfl (by repeat (first | exact Evs.nil | apply Evs.cons rfl)) (by kernel_rfl) rfl rfl rfl ?_
                refine same_spec (o := o) (u := o) (e1 := ev) (p1 := pv) (e2 := eb) (p2 := pb) (by repeat (first | assumption | exact mS | apply mT)) (by repeat (first | assumption | exact mS | apply mT)) (by repeat (first | assumption | exact mS | apply mT)) (by repeat (first | assumption | exact mS | apply mT)) ?_
                refine WL.rd rfl rfl rfl (Rd.pick_t rfl rfl rfl) ?_
                refine WL.say 60 (u := .bool true) rfl (by simp) ?_
                refine WL.rd rfl rfl rfl (Rd.assign rfl rfl) ?_
                refine WL.nil ?_
                refine thenQ.normal ?_
                refine WC.heap (R' := R) (O' := O) (fun w h => OwnL.sat (by repeat (first | exact OwnL.refl | apply OwnL.take (by repeat (first | exact Take.head _ | apply Take.tail)) | apply OwnL.drop)) w (h.thin (SubL.mem (by repeat (first | exact SubL.refl | refine SubL.cons (by repeat (first | assumption | exact mS | apply mT)) ?_ | refine SubL.skip ?_))))) ?_
                refine WC.ret (Ret.one Try.results3 rfl ?_)
                exact hk
              · skip
                exact absurd rfl hg56
set_option maxRecDepth 20000 in
set_option maxHeartbeats 4000000 in
theorem decodes_spec {s : List UInt8} (hk : POST (.bool true) R O) : Fun Try.prog 4 #[vs s] R O POST := by
  refine Fun.enter (l := [_]) Try.func4 rfl Try.ntmps4 rfl (L0 := [(0, _)]) rfl ?_
  refine WC.seq ?_
  refine WC.region ?_
  refine WL.rd rfl rfl rfl (Rd.assign rfl rfl) ?_
  refine WL.nil ?_
  refine thenQ.normal ?_
  refine WC.seq ?_
  refine WC.seq ?_
  refine WC.region ?_
  refine WL.op rfl ?_
  refine OpW.call rfl rfl (by repeat (first | exact Evs.nil | apply Evs.cons rfl)) (by kernel_rfl) rfl rfl rfl ?_
  refine speaks_spec11 ?_
  refine WL.say 9 (u := .bool (decide True)) rfl (by simp) ?_
  refine WL.rd rfl rfl rfl ((by first | exact Rd.notd rfl rfl | exact Rd.not rfl rfl)) ?_
  refine WL.nil ?_
  refine thenQ.normal ?_
  first | refine WC.ite rfl (fun hc1 => ?_) (fun hc1 => ?_) | refine WC.cond rfl (fun hc1 => ?_) (fun hc1 => ?_)
  · skip
    exact absurd trivial hc1
  · skip
    refine WC.skip ?_
    refine thenQ.normal ?_
    refine WC.seq ?_
    refine WC.seq ?_
    refine WC.region ?_
    refine WL.rd rfl rfl rfl (Rd.move rfl rfl) ?_
    refine WL.rd rfl rfl rfl (Rd.slen (ts := #[]) (ty := 0) rfl rfl Try.underlying9) ?_
    refine WL.rd rfl rfl rfl (Rd.gtr rfl rfl rfl) ?_
    refine WL.nil ?_
    refine thenQ.normal ?_
    first | refine WC.ite rfl (fun hc2 => ?_) (fun hc2 => ?_) | refine WC.cond rfl (fun hc2 => ?_) (fun hc2 => ?_)
    · skip
      refine WC.seq ?_
      refine WC.region ?_
      refine WL.rd rfl rfl rfl (Rd.assign rfl rfl) ?_
      refine WL.nil ?_
      refine thenQ.normal ?_
      refine WC.heap (R' := R) (O' := O) (fun w h => OwnL.sat (by repeat (first | exact OwnL.refl | apply OwnL.take (by repeat (first | exact Take.head _ | apply Take.tail)) | apply OwnL.drop)) w (h.thin (SubL.mem (by repeat (first | exact SubL.refl | refine SubL.cons (by repeat (first | assumption | exact mS | apply mT)) ?_ | refine SubL.skip ?_))))) ?_
      refine WC.ret (Ret.one Try.results4 rfl ?_)
      exact hk
    · skip
      refine WC.skip ?_
      refine thenQ.normal ?_
      refine WC.seq ?_
      refine WC.region ?_
      refine WL.rd rfl rfl rfl (Rd.move rfl rfl) ?_
      refine WL.op rfl ?_
      refine OpW.call rfl rfl (by repeat (first | exact Evs.nil | apply Evs.cons rfl)) (by kernel_rfl) rfl rfl rfl ?_
      refine decode_spec (s := s) (by omega) ?_; intro o e ev pv b16 c16 hd
      refine WL.rd rfl rfl rfl (Rd.move rfl rfl) ?_
      refine WL.rd rfl rfl rfl (Rd.extract rfl rfl rfl) ?_
      refine WL.know2 (p := SlE encT ev o.ents) (by repeat (first | assumption | exact mS | apply mT)) (fun w h => h.oneV) fun h1 => ?_
      refine WL.know2 (p := SlE (one vs) pv o.pars) (by repeat (first | assumption | exact mS | apply mT)) (fun w h => h.oneV) fun h2 => ?_
      refine WL.rd rfl rfl rfl (Rd.extract rfl rfl rfl) ?_
      refine WL.op rfl ?_
      refine OpW.alloc rfl I30 rfl (by repeat (first | exact NF.nil | apply NF.cons)) rfl rfl ?_; intro b3
      refine WL.op rfl ?_
      refine OpW.storeS rfl G30 rfl rfl (by repeat (first | exact NF.nil | apply NF.cons)) (by repeat (first | assumption | exact Take.head _ | apply Take.tail)) rfl rfl (by repeat (first | exact NF.nil | apply NF.cons)) rfl (h1 := by simp only [List.all_cons, List.all_nil, h1.one, h2.one]; rfl) ?_
      refine WL.rd rfl rfl rfl (Rd.assign rfl rfl) ?_
      refine WL.nil ?_
      refine thenQ.normal ?_
      refine WC.seq ?_
      refine WC.region ?_
      refine WL.rd rfl rfl rfl (Rd.move rfl rfl) ?_
      refine WL.op rfl ?_
      refine OpW.call rfl rfl (by repeat (first | exact Evs.nil | apply Evs.cons rfl)) (by kernel_rfl) rfl rfl rfl ?_
      refine refDecode_spec (s := s) (by omega) ?_; intro o' e' ew pw b21 c21 hd2
      obtain ⟨ho, hee⟩ := dec_uniq hd2 hd
      subst ho
      subst hee
      refine WL.rd rfl rfl rfl (Rd.move rfl rfl) ?_
      refine WL.rd rfl rfl rfl (Rd.extract rfl rfl rfl) ?_
      refine WL.know2 (p := SlE encT ew o'.ents) (by repeat (first | assumption | exact mS | apply mT)) (fun w h => h.oneV) fun h3 => ?_
      refine WL.know2 (p := SlE (one vs) pw o'.pars) (by repeat (first | assumption | exact mS | apply mT)) (fun w h => h.oneV) fun h4 => ?_
      refine WL.rd rfl rfl rfl (Rd.extract rfl rfl rfl) ?_
      refine WL.op rfl ?_
      refine OpW.alloc rfl I33 rfl (by repeat (first | exact NF.nil | apply NF.cons)) rfl rfl ?_; intro b5
      refine WL.op rfl ?_
      refine OpW.storeS rfl G33 rfl rfl (by repeat (first | exact NF.nil | apply NF.cons)) (by repeat (first | assumption | exact Take.head _ | apply Take.tail)) rfl rfl (by repeat (first | exact NF.nil | apply NF.cons)) rfl (h1 := by simp only [List.all_cons, List.all_nil, h3.one, h4.one]; rfl) ?_
      refine WL.rd rfl rfl rfl (Rd.assign rfl rfl) ?_
      refine WL.nil ?_
      refine thenQ.normal ?_
      refine WC.seq ?_
      refine WC.seq ?_
      refine WC.region ?_
      refine WL.rd rfl rfl rfl (Rd.move rfl rfl) ?_
      refine WL.rd rfl rfl rfl (Rd.move rfl rfl) ?_
      refine WL.rd rfl rfl rfl (Rd.neq rfl rfl rfl) ?_
      refine WL.rd rfl rfl rfl (Rd.move rfl rfl) ?_
      refine WL.case 27 rfl (fun hg27 => ?_) (fun hg27 => ?_)
      · skip
        exact absurd rfl hg27
      · skip
        refine WL.rd_yes rfl rfl rfl rfl rfl rfl (Rd.rowS (b := b3) rfl G30 rfl (by repeat (first | assumption | exact mS | apply mT)) (by repeat (first | exact NF.nil | apply NF.cons)) rfl) ?_
        refine WL.rd_yes rfl rfl rfl rfl rfl rfl (Rd.rowS (b := b5) rfl G33 rfl (by repeat (first | assumption | exact mS | apply mT)) (by repeat (first | exact NF.nil | apply NF.cons)) rfl) ?_
        refine WL.op_yes rfl rfl rfl rfl ?_
        refine OpW.call rfl rfl (by repeat (first | exact Evs.nil | apply Evs.cons rfl)) (by kernel_rfl) rfl rfl rfl ?_
        refine same_spec (o := o') (u := o') (e1 := ev) (p1 := pv) (e2 := ew) (p2 := pw) (by repeat (first | assumption | exact mS | apply mT)) (by repeat (first | assumption | exact mS | apply mT)) (by repeat (first | assumption | exact mS | apply mT)) (by repeat (first | assumption | exact mS | apply mT)) ?_
        refine WL.say 30 (u := .bool (decide True)) rfl (by simp) ?_
        refine WL.rd_yes rfl rfl rfl rfl rfl rfl ((by first | exact Rd.notd rfl rfl | exact Rd.not rfl rfl)) ?_
        refine WL.rd rfl rfl rfl (Rd.pick_f rfl rfl rfl) ?_
        refine WL.say 32 (u := .bool (decide False)) rfl (by simp) ?_
        refine WL.nil ?_
        refine thenQ.normal ?_
        first | refine WC.ite rfl (fun hc3 => ?_) (fun hc3 => ?_) | refine WC.cond rfl (fun hc3 => ?_) (fun hc3 => ?_)
        · skip
          exact hc3.elim
        · skip
          refine WC.skip ?_
          refine thenQ.normal ?_
          refine WC.seq ?_
          refine WC.seq ?_
          refine WC.region ?_
          refine WL.rd rfl rfl rfl (Rd.move rfl rfl) ?_
          refine WL.rd rfl rfl rfl (Rd.neq rfl rfl rfl) ?_
          refine WL.nil ?_
          refine thenQ.normal ?_
          first | refine WC.ite rfl (fun hc4 => ?_) (fun hc4 => ?_) | refine WC.cond rfl (fun hc4 => ?_) (fun hc4 => ?_)
          · skip
            refine WC.seq ?_
            refine WC.region ?_
            refine WL.rd rfl rfl rfl (Rd.assign rfl rfl) ?_
            refine WL.nil ?_
            refine thenQ.normal ?_
            refine WC.heap (R' := R) (O' := O) (fun w h => OwnL.sat (by repeat (first | exact OwnL.refl | apply OwnL.take (by repeat (first | exact Take.head _ | apply Take.tail)) | apply OwnL.drop)) w (h.thin (SubL.mem (by repeat (first | exact SubL.refl | refine SubL.cons (by repeat (first | assumption | exact mS | apply mT)) ?_ | refine SubL.skip ?_))))) ?_
            refine WC.ret (Ret.one Try.results4 rfl ?_)
            exact hk
          · skip
            have h0 : e' = 0 := Decidable.not_not.1 hc4
            subst h0
            have henc := dec_enc hd
            have hks : 1 ≤ o'.kind ∧ o'.kind ≤ 4 ∧ Names o' := by
              obtain ⟨g1, g2, g3, g4⟩ := enc_ok (o := o') (by rw [henc])
              rw [henc] at g3
              refine ⟨g1.1, g1.2, ?_⟩
              have g5 := g2.1
              obtain ⟨_, r1, r2, r3, r4⟩ := g2
              refine ⟨fun y hy => ?_, ?_⟩
              · by_cases hk2 : o'.kind = 2
                · obtain ⟨i, hi, rfl⟩ := List.getElem_of_mem hy
                  have := (r2 hk2).1 i hi
                  rw [EntP, getElem!_pos o'.ents i hi] at this
                  have := this.1.2.2
                  omega
                · have := g5.2.1 hk2
                  rw [this] at hy; exact absurd hy List.not_mem_nil
              · by_cases hk4 : o'.kind = 4
                · have := (r4 hk4).2.1.2.2; omega
                · have := (g5.2.2.2.1 hk4).2
                  rw [this]; exact Nat.zero_le _
            refine WC.skip ?_
            refine thenQ.normal ?_
            refine WC.seq ?_
            refine WC.region ?_
            refine WL.rd rfl rfl rfl (Rd.rowS (b := b3) rfl G30 rfl (by repeat (first | assumption | exact mS | apply mT)) (by repeat (first | exact NF.nil | apply NF.cons)) rfl) ?_
            refine WL.op rfl ?_
            refine OpW.call rfl rfl (by repeat (first | exact Evs.nil | apply Evs.cons rfl)) (by kernel_rfl) rfl rfl rfl ?_
            refine encode_spec (o := o') (ev := ev) (pv := pv) (by repeat (first | assumption | exact mS | apply mT)) (by repeat (first | assumption | exact mS | apply mT)) hks.2.2 ?_
            rw [henc]
            refine WL.rd rfl rfl rfl (Rd.move rfl rfl) ?_
            refine WL.rd rfl rfl rfl (Rd.extract rfl rfl rfl) ?_
            refine WL.rd rfl rfl rfl (Rd.extract rfl rfl rfl) ?_
            refine WL.rd rfl rfl rfl (Rd.assign rfl rfl) ?_
            refine WL.rd rfl rfl rfl (Rd.assign rfl rfl) ?_
            refine WL.nil ?_
            refine thenQ.normal ?_
            refine WC.seq ?_
            refine WC.region ?_
            refine WL.rd rfl rfl rfl (Rd.move rfl rfl) ?_
            refine WL.rd rfl rfl rfl (Rd.eql rfl rfl rfl) ?_
            refine WL.rd rfl rfl rfl (Rd.move rfl rfl) ?_
            refine WL.case 42 rfl (fun hg42 => ?_) (fun hg42 => ?_)
            · skip
              refine WL.rd_yes rfl rfl rfl rfl rfl rfl (Rd.move rfl rfl) ?_
              refine WL.rd_yes rfl rfl rfl rfl rfl rfl (Rd.move rfl rfl) ?_
              refine WL.rd_yes rfl rfl rfl rfl rfl rfl (Rd.seql rfl rfl rfl) ?_
              refine WL.rd rfl rfl rfl (Rd.pick_t rfl rfl rfl) ?_
              refine WL.say 46 (u := .bool true) rfl (by simp) ?_
              refine WL.rd rfl rfl rfl (Rd.assign rfl rfl) ?_
              refine WL.nil ?_
              refine thenQ.normal ?_
              refine WC.heap (R' := R) (O' := O) (fun w h => OwnL.sat (by repeat (first | exact OwnL.refl | apply OwnL.take (by repeat (first | exact Take.head _ | apply Take.tail)) | apply OwnL.drop)) w (h.thin (SubL.mem (by repeat (first | exact SubL.refl | refine SubL.cons (by repeat (first | assumption | exact mS | apply mT)) ?_ | refine SubL.skip ?_))))) ?_
              refine WC.ret (Ret.one Try.results4 rfl ?_)
              exact hk
            · skip
              exact absurd rfl hg42
set_option maxRecDepth 20000 in
set_option maxHeartbeats 8000000 in
theorem apart_spec {x y : OX} (he : SlE encT x.ents.1 x.ents.2 ∈ R) (hp : SlE (one vs) x.pars.1 x.pars.2 ∈ R) (hf : Fits x) (he' : SlE encT y.ents.1 y.ents.2 ∈ R) (hp' : SlE (one vs) y.pars.1 y.pars.2 ∈ R) (hf' : Fits y) (hk : POST (.bool true) R O) : Fun Try.prog 5 #[.agg (oxC x).toArray, .agg (oxC y).toArray] R O POST := by
  refine Fun.oneV he fun hev => ?_
  refine Fun.oneV hp fun hpv => ?_
  refine Fun.oneV he' fun hev' => ?_
  refine Fun.oneV hp' fun hpv' => ?_
  have hnm := obX_names hf
  have hnm' := obX_names hf'
  refine Fun.enter (l := [_, _]) Try.func5 rfl Try.ntmps5 rfl (L0 := [(0, _), (1, _)]) rfl ?_
  refine WC.seq ?_
  refine WC.region ?_
  refine WL.op rfl ?_
  refine OpW.box rfl rfl (by repeat (first | exact NF.nil | apply NF.cons)) rfl rfl ?_; intro b2
  refine WL.op rfl ?_
  refine OpW.box rfl rfl (by repeat (first | exact NF.nil | apply NF.cons)) rfl rfl ?_; intro b3
  refine WL.rd rfl rfl rfl (Rd.assign rfl rfl) ?_
  refine WL.nil ?_
  refine thenQ.normal ?_
  refine WC.seq ?_
  refine WC.seq ?_
  refine WC.region ?_
  refine WL.op rfl ?_
  refine OpW.call rfl rfl (by repeat (first | exact Evs.nil | apply Evs.cons rfl)) (by kernel_rfl) rfl rfl rfl ?_
  refine speaks_spec11 ?_
  refine WL.say 13 (u := .bool (decide True)) rfl (by simp) ?_
  refine WL.rd rfl rfl rfl ((by first | exact Rd.notd rfl rfl | exact Rd.not rfl rfl)) ?_
  refine WL.nil ?_
  refine thenQ.normal ?_
  first | refine WC.ite rfl (fun hc1 => ?_) (fun hc1 => ?_) | refine WC.cond rfl (fun hc1 => ?_) (fun hc1 => ?_)
  · skip
    exact absurd trivial hc1
  · skip
    refine WC.skip ?_
    refine thenQ.normal ?_
    refine WC.seq ?_
    refine WC.pick [2, 3] (by repeat (first | exact Pick.nil | apply Pick.cons rfl)) ?_
    refine WC.val 20 (.bool (decide (bigP x ∨ bigP y))) ?_ ?_
    · skip
      refine WC.region ?_
      refine WL.rd rfl rfl rfl (Rd.rowS (b := b2) rfl G25 rfl (by repeat (first | assumption | exact mS | apply mT)) (by repeat (first | exact NF.nil | apply NF.cons)) rfl) ?_
      refine WL.op rfl ?_
      refine OpW.call rfl rfl (by repeat (first | exact Evs.nil | apply Evs.cons rfl)) (by kernel_rfl) rfl rfl rfl ?_
      refine big_spec (x := x) hev hpv ?_
      refine WL.rd rfl rfl rfl (Rd.move rfl rfl) ?_
      refine WL.case 17 rfl (fun hg17 => ?_) (fun hg17 => ?_)
      · skip
        refine WL.no rfl rfl rfl rfl rfl rfl ?_
        refine WL.no rfl rfl rfl rfl rfl rfl ?_
        refine WL.rd rfl rfl rfl (Rd.pick_t rfl rfl rfl) ?_
        refine WL.nil ?_
        exact ⟨by repeat (first | exact Sub.nil | refine Sub.cons rfl (by first | rfl | (first | exact vb_t (.inl hg17) | exact vb ⟨fun h => .inr h, fun h => h.resolve_left hg17⟩)) ?_), by first | exact (fun _ h => h.thin (SubL.mem (by repeat (first | exact SubL.refl | refine SubL.cons (by repeat (first | assumption | exact mS | apply mT)) ?_ | refine SubL.skip ?_)))) | exact (fun w h => OwnL.sat (by repeat (first | exact OwnL.refl | apply OwnL.take (by repeat (first | exact Take.head _ | apply Take.tail)) | apply OwnL.drop)) w (h.thin (SubL.mem (by repeat (first | exact SubL.refl | refine SubL.cons (by repeat (first | assumption | exact mS | apply mT)) ?_ | refine SubL.skip ?_)))))⟩
      · skip
        refine WL.rd_yes rfl rfl rfl rfl rfl rfl (Rd.rowS (b := b3) rfl G25 rfl (by repeat (first | assumption | exact mS | apply mT)) (by repeat (first | exact NF.nil | apply NF.cons)) rfl) ?_
        refine WL.op_yes rfl rfl rfl rfl ?_
        refine OpW.call rfl rfl (by repeat (first | exact Evs.nil | apply Evs.cons rfl)) (by kernel_rfl) rfl rfl rfl ?_
        refine big_spec (x := y) hev' hpv' ?_
        refine WL.rd rfl rfl rfl (Rd.pick_f rfl rfl rfl) ?_
        refine WL.nil ?_
        exact ⟨by repeat (first | exact Sub.nil | refine Sub.cons rfl (by first | rfl | (first | exact vb_t (.inl hg17) | exact vb ⟨fun h => .inr h, fun h => h.resolve_left hg17⟩)) ?_), by first | exact (fun _ h => h.thin (SubL.mem (by repeat (first | exact SubL.refl | refine SubL.cons (by repeat (first | assumption | exact mS | apply mT)) ?_ | refine SubL.skip ?_)))) | exact (fun w h => OwnL.sat (by repeat (first | exact OwnL.refl | apply OwnL.take (by repeat (first | exact Take.head _ | apply Take.tail)) | apply OwnL.drop)) w (h.thin (SubL.mem (by repeat (first | exact SubL.refl | refine SubL.cons (by repeat (first | assumption | exact mS | apply mT)) ?_ | refine SubL.skip ?_)))))⟩
    · skip
      first | refine WC.ite rfl (fun hc2 => ?_) (fun hc2 => ?_) | refine WC.cond rfl (fun hc2 => ?_) (fun hc2 => ?_)
      · skip
        refine WC.seq ?_
        refine WC.region ?_
        refine WL.rd rfl rfl rfl (Rd.assign rfl rfl) ?_
        refine WL.nil ?_
        refine thenQ.normal ?_
        refine WC.heap (R' := R) (O' := O) (fun w h => OwnL.sat (by repeat (first | exact OwnL.refl | apply OwnL.take (by repeat (first | exact Take.head _ | apply Take.tail)) | apply OwnL.drop)) w (h.thin (SubL.mem (by repeat (first | exact SubL.refl | refine SubL.cons (by repeat (first | assumption | exact mS | apply mT)) ?_ | refine SubL.skip ?_))))) ?_
        refine WC.ret (Ret.one Try.results5 rfl ?_)
        exact hk
      · skip
        refine WC.skip ?_
        refine thenQ.normal ?_
        refine WC.seq ?_
        refine WC.region ?_
        refine WL.rd rfl rfl rfl (Rd.rowS (b := b2) rfl G25 rfl (by repeat (first | assumption | exact mS | apply mT)) (by repeat (first | exact NF.nil | apply NF.cons)) rfl) ?_
        refine WL.op rfl ?_
        refine OpW.call rfl rfl (by repeat (first | exact Evs.nil | apply Evs.cons rfl)) (by kernel_rfl) rfl rfl rfl ?_
        refine objects_spec (x := x) he hp hf ?_; intro ea pa eb pb b23 c23 b24 c24
        refine WL.rd rfl rfl rfl (Rd.move rfl rfl) ?_
        obtain ⟨D, hD⟩ : ∃ D, D = obX x := ⟨_, rfl⟩
        rw [← hD] at hnm ⊢
        refine WL.know2 (p := SlE encT ea D.ents) (by repeat (first | assumption | exact mS | apply mT)) (fun w h => h.oneV) fun h1 => ?_
        refine WL.know2 (p := SlE (one vs) pa D.pars) (by repeat (first | assumption | exact mS | apply mT)) (fun w h => h.oneV) fun h2 => ?_
        refine WL.know2 (p := SlE encT eb D.ents) (by repeat (first | assumption | exact mS | apply mT)) (fun w h => h.oneV) fun h3 => ?_
        refine WL.know2 (p := SlE (one vs) pb D.pars) (by repeat (first | assumption | exact mS | apply mT)) (fun w h => h.oneV) fun h4 => ?_
        refine WL.rd rfl rfl rfl (Rd.extract rfl rfl rfl) ?_
        refine WL.rd rfl rfl rfl (Rd.extract rfl rfl rfl) ?_
        refine WL.op rfl ?_
        refine OpW.alloc rfl I30 rfl (by repeat (first | exact NF.nil | apply NF.cons)) rfl rfl ?_; intro b5
        refine WL.op rfl ?_
        refine OpW.alloc rfl I33 rfl (by repeat (first | exact NF.nil | apply NF.cons)) rfl rfl ?_; intro b6
        refine WL.op rfl ?_
        refine OpW.storeS rfl G30 rfl rfl (by repeat (first | exact NF.nil | apply NF.cons)) (by repeat (first | assumption | exact Take.head _ | apply Take.tail)) rfl rfl (by repeat (first | exact NF.nil | apply NF.cons)) rfl (h1 := by simp only [List.all_cons, List.all_nil, h1.one, h2.one]; rfl) ?_
        refine WL.op rfl ?_
        refine OpW.storeS rfl G33 rfl rfl (by repeat (first | exact NF.nil | apply NF.cons)) (by repeat (first | assumption | exact Take.head _ | apply Take.tail)) rfl rfl (by repeat (first | exact NF.nil | apply NF.cons)) rfl (h1 := by simp only [List.all_cons, List.all_nil, h3.one, h4.one]; rfl) ?_
        refine WL.nil ?_
        refine thenQ.normal ?_
        refine WC.seq ?_
        refine WC.region ?_
        refine WL.rd rfl rfl rfl (Rd.rowS (b := b3) rfl G25 rfl (by repeat (first | assumption | exact mS | apply mT)) (by repeat (first | exact NF.nil | apply NF.cons)) rfl) ?_
        refine WL.op rfl ?_
        refine OpW.call rfl rfl (by repeat (first | exact Evs.nil | apply Evs.cons rfl)) (by kernel_rfl) rfl rfl rfl ?_
        refine objects_spec (x := y) (by repeat (first | assumption | exact mS | apply mT)) (by repeat (first | assumption | exact mS | apply mT)) hf' ?_; intro ea' pa' eb' pb' b28 c28 b29 c29
        refine WL.rd rfl rfl rfl (Rd.move rfl rfl) ?_
        obtain ⟨E, hE⟩ : ∃ E, E = obX y := ⟨_, rfl⟩
        rw [← hE] at hnm' ⊢
        refine WL.know2 (p := SlE encT ea' E.ents) (by repeat (first | assumption | exact mS | apply mT)) (fun w h => h.oneV) fun h5 => ?_
        refine WL.know2 (p := SlE (one vs) pa' E.pars) (by repeat (first | assumption | exact mS | apply mT)) (fun w h => h.oneV) fun h6 => ?_
        refine WL.know2 (p := SlE encT eb' E.ents) (by repeat (first | assumption | exact mS | apply mT)) (fun w h => h.oneV) fun h7 => ?_
        refine WL.know2 (p := SlE (one vs) pb' E.pars) (by repeat (first | assumption | exact mS | apply mT)) (fun w h => h.oneV) fun h8 => ?_
        refine WL.rd rfl rfl rfl (Rd.extract rfl rfl rfl) ?_
        refine WL.rd rfl rfl rfl (Rd.extract rfl rfl rfl) ?_
        refine WL.op rfl ?_
        refine OpW.alloc rfl I30 rfl (by repeat (first | exact NF.nil | apply NF.cons)) rfl rfl ?_; intro b7
        refine WL.op rfl ?_
        refine OpW.alloc rfl I33 rfl (by repeat (first | exact NF.nil | apply NF.cons)) rfl rfl ?_; intro b8
        refine WL.op rfl ?_
        refine OpW.storeS rfl G30 rfl rfl (by repeat (first | exact NF.nil | apply NF.cons)) (by repeat (first | assumption | exact Take.head _ | apply Take.tail)) rfl rfl (by repeat (first | exact NF.nil | apply NF.cons)) rfl (h1 := by simp only [List.all_cons, List.all_nil, h5.one, h6.one]; rfl) ?_
        refine WL.op rfl ?_
        refine OpW.storeS rfl G33 rfl rfl (by repeat (first | exact NF.nil | apply NF.cons)) (by repeat (first | assumption | exact Take.head _ | apply Take.tail)) rfl rfl (by repeat (first | exact NF.nil | apply NF.cons)) rfl (h1 := by simp only [List.all_cons, List.all_nil, h7.one, h8.one]; rfl) ?_
        refine WL.nil ?_
        refine thenQ.normal ?_
        refine WC.seq ?_
        refine WC.region ?_
        refine WL.rd rfl rfl rfl (Rd.rowS (b := b5) rfl G30 rfl (by repeat (first | assumption | exact mS | apply mT)) (by repeat (first | exact NF.nil | apply NF.cons)) rfl) ?_
        refine WL.op rfl ?_
        refine OpW.call rfl rfl (by repeat (first | exact Evs.nil | apply Evs.cons rfl)) (by kernel_rfl) rfl rfl rfl ?_
        refine encode_spec (o := D) (ev := ea) (pv := pa) (by repeat (first | assumption | exact mS | apply mT)) (by repeat (first | assumption | exact mS | apply mT)) hnm ?_
        refine WL.rd rfl rfl rfl (Rd.move rfl rfl) ?_
        refine WL.rd rfl rfl rfl (Rd.extract rfl rfl rfl) ?_
        refine WL.rd rfl rfl rfl (Rd.extract rfl rfl rfl) ?_
        refine WL.rd rfl rfl rfl (Rd.assign rfl rfl) ?_
        refine WL.rd rfl rfl rfl (Rd.assign rfl rfl) ?_
        refine WL.nil ?_
        refine thenQ.normal ?_
        refine WC.seq ?_
        refine WC.region ?_
        refine WL.rd rfl rfl rfl (Rd.rowS (b := b7) rfl G30 rfl (by repeat (first | assumption | exact mS | apply mT)) (by repeat (first | exact NF.nil | apply NF.cons)) rfl) ?_
        refine WL.op rfl ?_
        refine OpW.call rfl rfl (by repeat (first | exact Evs.nil | apply Evs.cons rfl)) (by kernel_rfl) rfl rfl rfl ?_
        refine encode_spec (o := E) (ev := ea') (pv := pa') (by repeat (first | assumption | exact mS | apply mT)) (by repeat (first | assumption | exact mS | apply mT)) hnm' ?_
        refine WL.rd rfl rfl rfl (Rd.move rfl rfl) ?_
        refine WL.rd rfl rfl rfl (Rd.extract rfl rfl rfl) ?_
        refine WL.rd rfl rfl rfl (Rd.extract rfl rfl rfl) ?_
        refine WL.rd rfl rfl rfl (Rd.assign rfl rfl) ?_
        refine WL.rd rfl rfl rfl (Rd.assign rfl rfl) ?_
        refine WL.nil ?_
        refine thenQ.normal ?_
        refine WC.seq ?_
        refine WC.pick [6, 7, 9, 10, 11, 12] (by repeat (first | exact Pick.nil | apply Pick.cons rfl)) ?_
        refine WC.val 46 (.bool (decide ((encE D).2 ≠ 0 ∨ (encE E).2 ≠ 0))) ?_ ?_
        · skip
          refine WC.region ?_
          refine WL.rd rfl rfl rfl (Rd.move rfl rfl) ?_
          refine WL.rd rfl rfl rfl (Rd.neq rfl rfl rfl) ?_
          refine WL.rd rfl rfl rfl (Rd.move rfl rfl) ?_
          refine WL.case 43 rfl (fun hg43 => ?_) (fun hg43 => ?_)
          · skip
            refine WL.no rfl rfl rfl rfl rfl rfl ?_
            refine WL.no rfl rfl rfl rfl rfl rfl ?_
            refine WL.rd rfl rfl rfl (Rd.pick_t rfl rfl rfl) ?_
            refine WL.nil ?_
            exact ⟨by repeat (first | exact Sub.nil | refine Sub.cons rfl (by first | rfl | (first | exact vb_t (.inl (by omega)) | exact vb ⟨fun h => .inr (by omega), fun h => by omega⟩)) ?_), by first | exact (fun _ h => h.thin (SubL.mem (by repeat (first | exact SubL.refl | refine SubL.cons (by repeat (first | assumption | exact mS | apply mT)) ?_ | refine SubL.skip ?_)))) | exact (fun w h => OwnL.sat (by repeat (first | exact OwnL.refl | apply OwnL.take (by repeat (first | exact Take.head _ | apply Take.tail)) | apply OwnL.drop)) w (h.thin (SubL.mem (by repeat (first | exact SubL.refl | refine SubL.cons (by repeat (first | assumption | exact mS | apply mT)) ?_ | refine SubL.skip ?_)))))⟩
          · skip
            refine WL.rd_yes rfl rfl rfl rfl rfl rfl (Rd.move rfl rfl) ?_
            refine WL.rd_yes rfl rfl rfl rfl rfl rfl (Rd.neq rfl rfl rfl) ?_
            refine WL.rd rfl rfl rfl (Rd.pick_f rfl rfl rfl) ?_
            refine WL.nil ?_
            exact ⟨by repeat (first | exact Sub.nil | refine Sub.cons rfl (by first | rfl | (first | exact vb_t (.inl (by omega)) | exact vb ⟨fun h => .inr (by omega), fun h => by omega⟩)) ?_), by first | exact (fun _ h => h.thin (SubL.mem (by repeat (first | exact SubL.refl | refine SubL.cons (by repeat (first | assumption | exact mS | apply mT)) ?_ | refine SubL.skip ?_)))) | exact (fun w h => OwnL.sat (by repeat (first | exact OwnL.refl | apply OwnL.take (by repeat (first | exact Take.head _ | apply Take.tail)) | apply OwnL.drop)) w (h.thin (SubL.mem (by repeat (first | exact SubL.refl | refine SubL.cons (by repeat (first | assumption | exact mS | apply mT)) ?_ | refine SubL.skip ?_)))))⟩
        · skip
          first | refine WC.ite rfl (fun hc3 => ?_) (fun hc3 => ?_) | refine WC.cond rfl (fun hc3 => ?_) (fun hc3 => ?_)
          · skip
            refine WC.seq ?_
            refine WC.region ?_
            refine WL.rd rfl rfl rfl (Rd.assign rfl rfl) ?_
            refine WL.nil ?_
            refine thenQ.normal ?_
            refine WC.heap (R' := R) (O' := O) (fun w h => OwnL.sat (by repeat (first | exact OwnL.refl | apply OwnL.take (by repeat (first | exact Take.head _ | apply Take.tail)) | apply OwnL.drop)) w (h.thin (SubL.mem (by repeat (first | exact SubL.refl | refine SubL.cons (by repeat (first | assumption | exact mS | apply mT)) ?_ | refine SubL.skip ?_))))) ?_
            refine WC.ret (Ret.one Try.results5 rfl ?_)
            exact hk
          · skip
            have hd1 := enc_dec (o := D) (by omega)
            have hd2 := enc_dec (o := E) (by omega)
            have hst : (encE D).1 = (encE E).1 ↔ E = D := ⟨fun h => by rw [h] at hd1; exact (dec_uniq hd2 hd1).1, fun h => by rw [h]⟩
            refine WC.skip ?_
            refine thenQ.normal ?_
            refine WC.seq ?_
            refine WC.region ?_
            refine WL.rd rfl rfl rfl (Rd.move rfl rfl) ?_
            refine WL.rd rfl rfl rfl (Rd.move rfl rfl) ?_
            refine WL.rd rfl rfl rfl (Rd.seql rfl rfl rfl) ?_
            refine WL.rd rfl rfl rfl (Rd.rowS (b := b7) rfl G30 rfl (by repeat (first | assumption | exact mS | apply mT)) (by repeat (first | exact NF.nil | apply NF.cons)) rfl) ?_
            refine WL.rd rfl rfl rfl (Rd.rowS (b := b6) rfl G33 rfl (by repeat (first | assumption | exact mS | apply mT)) (by repeat (first | exact NF.nil | apply NF.cons)) rfl) ?_
            refine WL.op rfl ?_
            refine OpW.call rfl rfl (by repeat (first | exact Evs.nil | apply Evs.cons rfl)) (by kernel_rfl) rfl rfl rfl ?_
            refine same_spec (o := E) (u := D) (e1 := ea') (p1 := pa') (e2 := eb) (p2 := pb) (by repeat (first | assumption | exact mS | apply mT)) (by repeat (first | assumption | exact mS | apply mT)) (by repeat (first | assumption | exact mS | apply mT)) (by repeat (first | assumption | exact mS | apply mT)) ?_
            refine WL.rd rfl rfl rfl (Rd.beql rfl rfl rfl Try.underlying4) ?_
            refine WL.say 53 (u := .bool true) rfl (by rw [show decide ((encE D).1 = (encE E).1) = decide (E = D) from decide_eq_decide.2 hst]; simp) ?_
            refine WL.rd rfl rfl rfl (Rd.assign rfl rfl) ?_
            refine WL.nil ?_
            refine thenQ.normal ?_
            refine WC.heap (R' := R) (O' := O) (fun w h => OwnL.sat (by repeat (first | exact OwnL.refl | apply OwnL.take (by repeat (first | exact Take.head _ | apply Take.tail)) | apply OwnL.drop)) w (h.thin (SubL.mem (by repeat (first | exact SubL.refl | refine SubL.cons (by repeat (first | assumption | exact mS | apply mT)) ?_ | refine SubL.skip ?_))))) ?_
            refine WC.ret (Ret.one Try.results5 rfl ?_)
            exact hk
def QX (w : World) (x : OX) : Prop := SlE encT x.ents.1 x.ents.2 w ∧ SlE (one vs) x.pars.1 x.pars.2 w ∧ Fits x
theorem elsX : ElsW Try.prog 25 oxC QX := by
  have hs := elsW_string Try.underlying9
  have hi := elsW_int Try.underlying3
  have hb := elsW_bool Try.underlying4
  have ha := elsW_arr2 (size := 1) Try.underlying49 (by kernel_rfl) (by kernel_rfl) hs
  have he := elsW_slice Try.underlying22 (size := 2) (by kernel_rfl) (by decide) ha (fun _ => rfl)
  have hp := elsW_slice Try.underlying23 (size := 1) (by kernel_rfl) (by decide) hs (fun _ => rfl)
  have h := elsW_struct (m := 11) Try.underlying25 (by kernel_rfl) (elsSeq_cons hi rfl (by kernel_rfl) (elsSeq_cons hs rfl (by kernel_rfl) (elsSeq_cons he rfl (by kernel_rfl) (elsSeq_cons hs rfl (by kernel_rfl) (elsSeq_cons hp rfl (by kernel_rfl) (elsSeq_cons hs rfl (by kernel_rfl) (elsSeq_cons hs rfl (by kernel_rfl) (elsSeq_cons hi rfl (by kernel_rfl) (elsSeq_cons hs rfl (by kernel_rfl) (elsSeq_cons hs rfl (by kernel_rfl) (elsSeq_cons hb rfl (by kernel_rfl) elsSeq_nil)))))))))))
  refine elsW_map (fun z => (⟨z.1, z.2.1, z.2.2.1, z.2.2.2.1, z.2.2.2.2.1, z.2.2.2.2.2.1, z.2.2.2.2.2.2.1, z.2.2.2.2.2.2.2.1, z.2.2.2.2.2.2.2.2.1, z.2.2.2.2.2.2.2.2.2.1, z.2.2.2.2.2.2.2.2.2.2.1⟩ : OX)) h (fun _ => rfl) ?_
  rintro w a ⟨_, q1, ⟨q2, _, q2'⟩, q3, ⟨q4, _, q4'⟩, q5, q6, _, q7, q8, _, _⟩
  exact ⟨q2, q4, q1, q3, q5, q6, q7, q8, q2', q4'⟩
theorem QX.stable {W : World} {a : OX} (w' : World) (h : QX W a) (ha : Agree (· ∈ owned []) W w') : QX w' a := ⟨h.1.stable w' ha, h.2.1.stable w' ha, h.2.2⟩
theorem Fun.thin11 {P : Program} {f : FuncId} {args : Array Value} {R1 : List RO} {u : Value} (hs : ∀ w, Sat R O w → Sat R1 O w) (ht : ∀ w, Sat R1 O w → Sat R O w) (h : Fun P f args R1 O (fun v R2 O2 => v = u ∧ R2 = R1 ∧ O2 = O)) (hk : POST u R O) : Fun P f args R O POST := fun w hw =>
  (h w (hs w hw)).mono (fun _ w' ⟨v, _, _, he, ⟨hv, hR, hO⟩, hs'⟩ => by
    subst hR; subst hO
    exact ⟨v, R, _, he, by rw [hv]; exact hk, ht w' hs'⟩)
theorem encodes2_spec {x : OX} (hq : AllQ QX [x] ∈ R) (hk : POST (.bool true) R O) : Fun Try.prog 3 #[.agg (oxC x).toArray] R O POST := by
  refine Fun.know hq (fun w h => (h x (by simp)).2.2) fun hf => ?_
  refine Fun.thin11 (R1 := SlE encT x.ents.1 x.ents.2 :: SlE (one vs) x.pars.1 x.pars.2 :: R) (fun w h => by
    have g1 := h.derive (q := SlE (one vs) x.pars.1 x.pars.2) (fun w hR => (hR _ hq x (by simp)).2.1)
    exact g1.derive (q := SlE encT x.ents.1 x.ents.2) (fun w hR => (hR _ (List.mem_cons_of_mem _ hq) x (by simp)).1)) (fun w h => by exact (fun w h => OwnL.sat (by repeat (first | exact OwnL.refl | apply OwnL.take (by repeat (first | exact Take.head _ | apply Take.tail)) | apply OwnL.drop)) w (h.thin (SubL.mem (by repeat (first | exact SubL.refl | refine SubL.cons (by repeat (first | assumption | exact mS | apply mT)) ?_ | refine SubL.skip ?_))))) w h) ?_ hk
  exact encodes_spec (by repeat (first | assumption | exact mS | apply mT)) (by repeat (first | assumption | exact mS | apply mT)) hf ⟨rfl, rfl, rfl⟩
theorem apart2_spec {x y : OX} (hq : AllQ QX [x] ∈ R) (hq' : AllQ QX [y] ∈ R) (hk : POST (.bool true) R O) : Fun Try.prog 5 #[.agg (oxC x).toArray, .agg (oxC y).toArray] R O POST := by
  refine Fun.know hq (fun w h => (h x (by simp)).2.2) fun hf => ?_
  refine Fun.know hq' (fun w h => (h y (by simp)).2.2) fun hf' => ?_
  refine Fun.thin11 (R1 := SlE encT x.ents.1 x.ents.2 :: SlE (one vs) x.pars.1 x.pars.2 :: SlE encT y.ents.1 y.ents.2 :: SlE (one vs) y.pars.1 y.pars.2 :: R) (fun w h => by
    have g1 := h.derive (q := SlE (one vs) y.pars.1 y.pars.2) (fun w hR => (hR _ hq' y (by simp)).2.1)
    have g2 := g1.derive (q := SlE encT y.ents.1 y.ents.2) (fun w hR => (hR _ (List.mem_cons_of_mem _ hq') y (by simp)).1)
    have g3 := g2.derive (q := SlE (one vs) x.pars.1 x.pars.2) (fun w hR => (hR _ (List.mem_cons_of_mem _ (List.mem_cons_of_mem _ hq)) x (by simp)).2.1)
    exact g3.derive (q := SlE encT x.ents.1 x.ents.2) (fun w hR => (hR _ (List.mem_cons_of_mem _ (List.mem_cons_of_mem _ (List.mem_cons_of_mem _ hq))) x (by simp)).1)) (fun w h => by exact (fun w h => OwnL.sat (by repeat (first | exact OwnL.refl | apply OwnL.take (by repeat (first | exact Take.head _ | apply Take.tail)) | apply OwnL.drop)) w (h.thin (SubL.mem (by repeat (first | exact SubL.refl | refine SubL.cons (by repeat (first | assumption | exact mS | apply mT)) ?_ | refine SubL.skip ?_))))) w h) ?_ hk
  exact apart_spec (by repeat (first | assumption | exact mS | apply mT)) (by repeat (first | assumption | exact mS | apply mT)) hf (by repeat (first | assumption | exact mS | apply mT)) (by repeat (first | assumption | exact mS | apply mT)) hf' ⟨rfl, rfl, rfl⟩
end
end Go.Proofs.Ytedgndhbieeffaa
