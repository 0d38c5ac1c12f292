/-
  Layer 11: speaks; ObjectEncodes, ObjectDecodes, ObjectApart.
-/
import Derived.Test.YtedgndhbieeffaaDoorOb13
import Derived.Test.YtedgndhbieeffaaDoorOpa
namespace Go.Proofs.YtedgndhbieeffaaDoor
open Go Go.SL Go.RowKit

section
variable {R : List RO} {O : List Own} {POST : Value → List RO → List Own → Prop} {b : Nat}
theorem sp_enc : encE { zOb with kind := 1 } = ([1, 0], 0) := by decide +kernel
theorem sp_enc2 : encE { zOb with kind := 1, body := [120] } = ([1, 1, 120], 0) := by decide +kernel
theorem sp_dec {o : Ob} {e : Int} (h : DecP [1, 1, 120] o e) : o = { zOb with kind := 1, body := [120] } ∧ e = 0 := by
  have h2 := enc_dec (o := { zOb with kind := 1, body := [120] }) (by rw [sp_enc2])
  rw [sp_enc2] at h2
  exact dec_uniq h h2
theorem sp_good : GoodP [97, 46, 98] := by decide +kernel
set_option maxRecDepth 20000 in
theorem speaks_spec11 (hk : POST (.bool true) R O) : Fun Tryd.prog 4 #[] R O POST := by
  refine Fun.enter (l := []) Tryd.func4 rfl Tryd.ntmps4 rfl (L0 := []) rfl ?_
  refine WC.seq ?_
  refine WC.region ?_
  refine WL.rd rfl rfl rfl (Rd.assign rfl rfl) ?_
  refine WL.nil ?_
  refine thenQ.normal ?_
  refine WC.seq ?_
  refine WC.region ?_
  refine WL.rd rfl rfl rfl (Rd.buildN (ps := [(0, _)]) rfl Bs26 I26 rfl (by repeat (first | exact Evs.nil | apply Evs.cons rfl)) (by repeat (first | exact CellsOf.nil | apply CellsOf.cons rfl)) (by apply NFo.mk; repeat (first | exact NF.nil | apply NF.cons))) ?_
  refine WL.heap (fun w h => Sat.nilE (α := List UInt8) (enc := one vs) h) ?_
  refine WL.heap (fun w h => Sat.nilE (α := ET) (enc := encT) h) ?_
  refine WL.op rfl ?_
  refine OpW.call rfl rfl (by repeat (first | exact Evs.nil | apply Evs.cons rfl)) (by kernel_rfl) rfl rfl rfl ?_
  refine encode_spec (o := { zOb with kind := 1 }) (ev := .slice none 0 0) (pv := .slice none 0 0) (by repeat (first | assumption | exact mS | apply mT)) (by repeat (first | assumption | exact mS | apply mT)) ⟨fun x hx => absurd hx List.not_mem_nil, Nat.zero_le _⟩ ?_
  rw [sp_enc]
  refine WL.rd rfl rfl rfl (Rd.move rfl rfl) ?_
  refine WL.rd rfl rfl rfl (Rd.extract rfl rfl rfl) ?_
  refine WL.rd rfl rfl rfl (Rd.extract rfl rfl rfl) ?_
  refine WL.rd rfl rfl rfl (Rd.assign rfl rfl) ?_
  refine WL.rd rfl rfl rfl (Rd.assign rfl rfl) ?_
  refine WL.nil ?_
  refine thenQ.normal ?_
  refine WC.seq ?_
  refine WC.region ?_
  refine WL.op rfl ?_
  refine OpW.call rfl rfl (by repeat (first | exact Evs.nil | apply Evs.cons rfl)) (by kernel_rfl) rfl rfl rfl ?_
  refine decode_spec (s := [1, 1, 120]) (by decide) ?_; intro o e ev pv b11 c11 hd
  obtain ⟨ho, rfl⟩ := sp_dec hd
  refine WL.rd rfl rfl rfl (Rd.move rfl rfl) ?_
  refine WL.rd rfl rfl rfl (Rd.extract rfl rfl rfl) ?_
  refine WL.know2 (p := SlE encT ev o.ents) (by repeat (first | assumption | exact mS | apply mT)) (fun w h => h.oneV) fun hev => ?_
  refine WL.know2 (p := SlE (one vs) pv o.pars) (by repeat (first | assumption | exact mS | apply mT)) (fun w h => h.oneV) fun hpv => ?_
  refine WL.rd rfl rfl rfl (Rd.extract rfl rfl rfl) ?_
  refine WL.op rfl ?_
  refine OpW.alloc rfl I26 rfl (by repeat (first | exact NF.nil | apply NF.cons)) rfl rfl ?_; intro b3
  refine WL.op rfl ?_
  refine OpW.storeS rfl G26 rfl rfl (by repeat (first | exact NF.nil | apply NF.cons)) (by repeat (first | assumption | exact Take.head _ | apply Take.tail)) rfl rfl (by repeat (first | exact NF.nil | apply NF.cons)) rfl (h1 := by have h1 := hev.one; have h2 := hpv.one; simp only [List.all_cons, List.all_nil, h1, h2]; rfl) ?_
  refine WL.rd rfl rfl rfl (Rd.assign rfl rfl) ?_
  refine WL.nil ?_
  refine thenQ.normal ?_
  refine WC.seq ?_
  refine WC.region ?_
  refine WL.rd rfl rfl rfl (Rd.move rfl rfl) ?_
  refine WL.rd rfl rfl rfl (Rd.eql rfl rfl rfl) ?_
  refine WL.rd rfl rfl rfl (Rd.move rfl rfl) ?_
  refine WL.case 16 rfl (fun hg16 => ?_) (fun hg16 => ?_)
  · skip
    refine WL.rd_yes rfl rfl rfl rfl rfl rfl (Rd.move rfl rfl) ?_
    refine WL.rd_yes rfl rfl rfl rfl rfl rfl (Rd.seql rfl rfl rfl) ?_
    refine WL.rd rfl rfl rfl (Rd.pick_t rfl rfl rfl) ?_
    refine WL.rd rfl rfl rfl (Rd.move rfl rfl) ?_
    refine WL.case 20 rfl (fun hg20 => ?_) (fun hg20 => ?_)
    · skip
      refine WL.rd_yes rfl rfl rfl rfl rfl rfl (Rd.move rfl rfl) ?_
      refine WL.rd_yes rfl rfl rfl rfl rfl rfl (Rd.eql rfl rfl rfl) ?_
      refine WL.rd rfl rfl rfl (Rd.pick_t rfl rfl rfl) ?_
      refine WL.rd rfl rfl rfl (Rd.move rfl rfl) ?_
      refine WL.case 24 rfl (fun hg24 => ?_) (fun hg24 => ?_)
      · skip
        refine WL.rd_yes rfl rfl rfl rfl rfl rfl ((by first | exact Rd.field rfl F26_1 rfl rfl | exact Rd.fieldE rfl F26_1 rfl (by repeat (first | assumption | exact mS | apply mT)) (by omega) | exact Rd.fieldA rfl F26_1 rfl (by repeat (first | assumption | exact mS | apply mT)) (by omega))) ?_
        refine WL.rd_yes rfl rfl rfl rfl rfl rfl (Rd.row1 (b := b3) (off := 1) (u := vs o.body) rfl C9 rfl (by repeat (first | assumption | exact mS | apply mT)) rfl) ?_
        refine WL.rd_yes rfl rfl rfl rfl rfl rfl (Rd.seql rfl rfl rfl) ?_
        refine WL.say 27 (u := .bool (decide True)) rfl (by rw [ho]; rfl) ?_
        refine WL.rd rfl rfl rfl (Rd.pick_t rfl rfl rfl) ?_
        refine WL.rd rfl rfl rfl (Rd.move rfl rfl) ?_
        refine WL.case 29 rfl (fun hg29 => ?_) (fun hg29 => ?_)
        · skip
          refine WL.op_yes rfl rfl rfl rfl ?_
          refine OpW.call rfl rfl (by repeat (first | exact Evs.nil | apply Evs.cons rfl)) (by kernel_rfl) rfl rfl rfl ?_
          refine good_spec (by decide) ?_
          refine WL.rd rfl rfl rfl (Rd.pick_t rfl rfl rfl) ?_
          refine WL.say 31 (u := .bool true) rfl (by rw [decide_eq_true sp_good]) ?_
          refine WL.rd rfl rfl rfl (Rd.assign rfl rfl) ?_
          refine WL.nil ?_
          refine thenQ.normal ?_
          refine WC.heap (R' := R) (O' := O) (fun w h => OwnL.sat (by repeat (first | exact OwnL.refl | apply OwnL.take (by repeat (first | exact Take.head _ | apply Take.tail)) | apply OwnL.drop)) w (h.thin (SubL.mem (by repeat (first | exact SubL.refl | refine SubL.cons (by repeat (first | assumption | exact mS | apply mT)) ?_ | refine SubL.skip ?_))))) ?_
          refine WC.ret (Ret.one Tryd.results4 rfl ?_)
          exact hk
        · skip
          exact absurd trivial hg29
      · skip
        exact absurd rfl hg24
    · skip
      exact absurd rfl hg20
  · skip
    exact absurd rfl hg16
end
end Go.Proofs.YtedgndhbieeffaaDoor
