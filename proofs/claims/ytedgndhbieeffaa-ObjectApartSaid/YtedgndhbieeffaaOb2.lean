/-
  Layer 11: which objects are right, by the program.
-/
import Derived.Test.YtedgndhbieeffaaOb1
namespace Go.Proofs.Ytedgndhbieeffaa
open Go Go.SL

def EntP (l : List ET) (i : Nat) : Prop := GoodP l[i]!.1 ∧ l[i]!.2.length = 32 ∧ (0 < i → Op.bytesLess l[i - 1]!.1 l[i]!.1 = true)
def ParP (l : List (List UInt8)) (i : Nat) : Prop := l[i]!.length = 32 ∧ l[i]! ∉ l.take i
instance (l : List ET) (i : Nat) : Decidable (EntP l i) := by unfold EntP; infer_instance
instance (l : List (List UInt8)) (i : Nat) : Decidable (ParP l i) := by unfold ParP; infer_instance
def RightP (o : Ob) : Prop :=
  ((o.kind ≠ 1 → o.body = []) ∧ (o.kind ≠ 2 → o.ents = []) ∧ (o.kind ≠ 3 → o.tree = [] ∧ o.pars = [] ∧ o.author = [] ∧ o.time = 0) ∧ (o.kind ≠ 4 → o.target = [] ∧ o.name = []) ∧ (o.kind < 3 → o.text = [])) ∧
  (o.kind = 1 → o.body.length ≤ 262144) ∧ (o.kind = 2 → (∀ i, i < o.ents.length → EntP o.ents i) ∧ o.ents.length ≤ 4096) ∧
  (o.kind = 3 → (∀ i, i < o.pars.length → ParP o.pars i) ∧ o.tree.length = 32 ∧ o.pars.length ≤ 8 ∧ o.author.length ≤ 256 ∧ o.text.length ≤ 4096 ∧ 0 ≤ o.time ∧ o.time ≤ 1099511627776) ∧
  (o.kind = 4 → o.target.length = 32 ∧ GoodP o.name ∧ o.text.length ≤ 4096)
instance (o : Ob) : Decidable (RightP o) := by unfold RightP; infer_instance
def bareP (o x : Ob) : Prop := o.body = x.body ∧ o.ents.length = x.ents.length ∧ o.tree = x.tree ∧ o.pars.length = x.pars.length ∧ o.author = x.author ∧ o.text = x.text ∧ o.time = x.time ∧ o.target = x.target ∧ o.name = x.name
instance (o x : Ob) : Decidable (bareP o x) := by unfold bareP; infer_instance
theorem len0 {α : Type} {l : List α} : l.length = 0 ↔ l = [] := List.length_eq_zero_iff
section
variable {R : List RO} {O : List Own} {POST : Value → List RO → List Own → Prop} {b : Nat} {o : Ob} {ev pv : Value}
abbrev oRow (b : Nat) (o : Ob) (ev pv : Value) : Own := rowC b 30 (obC o ev pv)
set_option maxRecDepth 20000 in
set_option maxHeartbeats 1000000 in
theorem bare_spec {x : Ob} {xe xp : Value} (hb : oRow b o ev pv ∈ O) (he : SlE encT ev o.ents ∈ R) (hp : SlE (one vs) pv o.pars ∈ R) (hxe : SlE encT xe x.ents ∈ R) (hxp : SlE (one vs) xp x.pars ∈ R) (hk : POST (.bool (decide (bareP o x))) R O) :
    Fun Try.prog 43 #[.pointer (some ⟨b, 0, none⟩), obV x xe xp] R O POST := by
  refine Fun.oneV hxe fun ho1 => ?_
  refine Fun.oneV hxp fun ho2 => ?_
  refine Fun.enter (l := [_, _]) Try.func43 rfl Try.ntmps43 rfl (L0 := [(0, _), (1, _)]) rfl ?_
  refine WC.seq ?_
  refine WC.region ?_
  refine WL.op rfl ?_
  refine OpW.box rfl rfl (by repeat (first | exact NF.nil | apply NF.cons)) rfl rfl ?_; intro b3
  refine WL.rd rfl rfl rfl (Rd.assign rfl rfl) ?_
  refine WL.nil ?_
  refine thenQ.normal ?_
  refine WC.pick [0, 3] (by repeat (first | exact Pick.nil | apply Pick.cons rfl)) ?_
  refine WC.val 4 (.bool (decide (bareP o x))) ?_ ?_
  · skip
    refine WC.still mixed (by kernel_rfl) ?_
    refine WA.rd rfl rfl rfl (Rd.move rfl rfl) ?_
    refine WA.rd rfl rfl rfl (Rd.nilc rfl rfl) ?_
    refine WA.rd rfl rfl rfl ((by first | exact Rd.field rfl F30_1 rfl rfl | exact Rd.fieldE rfl F30_1 rfl (by repeat (first | assumption | exact mS | apply mT)) (by omega) | exact Rd.fieldA rfl F30_1 rfl (by repeat (first | assumption | exact mS | apply mT)) (by omega))) ?_
    refine WA.rd rfl rfl rfl (Rd.row1 (b := b) (off := 1) rfl C9 rfl (by repeat (first | assumption | exact mS | apply mT)) rfl) ?_
    refine WA.rd rfl rfl rfl ((by first | exact Rd.field rfl F30_1 rfl rfl | exact Rd.fieldE rfl F30_1 rfl (by repeat (first | assumption | exact mS | apply mT)) (by omega) | exact Rd.fieldA rfl F30_1 rfl (by repeat (first | assumption | exact mS | apply mT)) (by omega))) ?_
    refine WA.rd rfl rfl rfl (Rd.row1 (b := b3) (off := 1) rfl C9 rfl (by repeat (first | assumption | exact mS | apply mT)) rfl) ?_
    refine WA.rd rfl rfl rfl (Rd.seql rfl rfl rfl) ?_
    refine WA.rd rfl rfl rfl (Rd.move rfl rfl) ?_
    refine WA.case 12 rfl (fun hg12 => ?_) (fun hg12 => ?_)
    · skip
      refine WA.rd_yes rfl rfl rfl rfl rfl rfl (Rd.move rfl rfl) ?_
      refine WA.rd_yes rfl rfl rfl rfl rfl rfl (Rd.nilc rfl rfl) ?_
      refine WA.rd_yes rfl rfl rfl rfl rfl rfl ((by first | exact Rd.field rfl F30_2 rfl rfl | exact Rd.fieldE rfl F30_2 rfl (by repeat (first | assumption | exact mS | apply mT)) (by omega) | exact Rd.fieldA rfl F30_2 rfl (by repeat (first | assumption | exact mS | apply mT)) (by omega))) ?_
      refine WA.rd_yes rfl rfl rfl rfl rfl rfl (Rd.row1 (b := b) (off := 2) (u := ev) rfl C28 rfl (by repeat (first | assumption | exact mS | apply mT)) rfl) ?_
      refine WA.rd_yes rfl rfl rfl rfl rfl rfl (Rd.lenE (enc := encT) (xs := o.ents) rfl rfl Try.underlying28 (by repeat (first | assumption | exact mS | apply mT))) ?_
      refine WA.rd_yes rfl rfl rfl rfl rfl rfl ((by first | exact Rd.field rfl F30_2 rfl rfl | exact Rd.fieldE rfl F30_2 rfl (by repeat (first | assumption | exact mS | apply mT)) (by omega) | exact Rd.fieldA rfl F30_2 rfl (by repeat (first | assumption | exact mS | apply mT)) (by omega))) ?_
      refine WA.rd_yes rfl rfl rfl rfl rfl rfl (Rd.row1 (b := b3) (off := 2) (u := xe) rfl C28 rfl (by repeat (first | assumption | exact mS | apply mT)) rfl) ?_
      refine WA.rd_yes rfl rfl rfl rfl rfl rfl (Rd.lenE (enc := encT) (xs := x.ents) rfl rfl Try.underlying28 (by repeat (first | assumption | exact mS | apply mT))) ?_
      refine WA.rd_yes rfl rfl rfl rfl rfl rfl (Rd.eql rfl rfl rfl) ?_
      refine WA.rd rfl rfl rfl (Rd.pick_t rfl rfl rfl) ?_
      refine WA.rd rfl rfl rfl (Rd.move rfl rfl) ?_
      refine WA.case 23 rfl (fun hg23 => ?_) (fun hg23 => ?_)
      · skip
        refine WA.rd_yes rfl rfl rfl rfl rfl rfl (Rd.move rfl rfl) ?_
        refine WA.rd_yes rfl rfl rfl rfl rfl rfl (Rd.nilc rfl rfl) ?_
        refine WA.rd_yes rfl rfl rfl rfl rfl rfl ((by first | exact Rd.field rfl F30_3 rfl rfl | exact Rd.fieldE rfl F30_3 rfl (by repeat (first | assumption | exact mS | apply mT)) (by omega) | exact Rd.fieldA rfl F30_3 rfl (by repeat (first | assumption | exact mS | apply mT)) (by omega))) ?_
        refine WA.rd_yes rfl rfl rfl rfl rfl rfl (Rd.row1 (b := b) (off := 3) rfl C9 rfl (by repeat (first | assumption | exact mS | apply mT)) rfl) ?_
        refine WA.rd_yes rfl rfl rfl rfl rfl rfl ((by first | exact Rd.field rfl F30_3 rfl rfl | exact Rd.fieldE rfl F30_3 rfl (by repeat (first | assumption | exact mS | apply mT)) (by omega) | exact Rd.fieldA rfl F30_3 rfl (by repeat (first | assumption | exact mS | apply mT)) (by omega))) ?_
        refine WA.rd_yes rfl rfl rfl rfl rfl rfl (Rd.row1 (b := b3) (off := 3) rfl C9 rfl (by repeat (first | assumption | exact mS | apply mT)) rfl) ?_
        refine WA.rd_yes rfl rfl rfl rfl rfl rfl (Rd.seql rfl rfl rfl) ?_
        refine WA.rd rfl rfl rfl (Rd.pick_t rfl rfl rfl) ?_
        refine WA.rd rfl rfl rfl (Rd.move rfl rfl) ?_
        refine WA.case 32 rfl (fun hg32 => ?_) (fun hg32 => ?_)
        · skip
          refine WA.rd_yes rfl rfl rfl rfl rfl rfl (Rd.move rfl rfl) ?_
          refine WA.rd_yes rfl rfl rfl rfl rfl rfl (Rd.nilc rfl rfl) ?_
          refine WA.rd_yes rfl rfl rfl rfl rfl rfl ((by first | exact Rd.field rfl F30_4 rfl rfl | exact Rd.fieldE rfl F30_4 rfl (by repeat (first | assumption | exact mS | apply mT)) (by omega) | exact Rd.fieldA rfl F30_4 rfl (by repeat (first | assumption | exact mS | apply mT)) (by omega))) ?_
          refine WA.rd_yes rfl rfl rfl rfl rfl rfl (Rd.row1 (b := b) (off := 4) (u := pv) rfl C23 rfl (by repeat (first | assumption | exact mS | apply mT)) rfl) ?_
          refine WA.rd_yes rfl rfl rfl rfl rfl rfl (Rd.lenE (enc := one vs) (xs := o.pars) rfl rfl Try.underlying23 (by repeat (first | assumption | exact mS | apply mT))) ?_
          refine WA.rd_yes rfl rfl rfl rfl rfl rfl ((by first | exact Rd.field rfl F30_4 rfl rfl | exact Rd.fieldE rfl F30_4 rfl (by repeat (first | assumption | exact mS | apply mT)) (by omega) | exact Rd.fieldA rfl F30_4 rfl (by repeat (first | assumption | exact mS | apply mT)) (by omega))) ?_
          refine WA.rd_yes rfl rfl rfl rfl rfl rfl (Rd.row1 (b := b3) (off := 4) (u := xp) rfl C23 rfl (by repeat (first | assumption | exact mS | apply mT)) rfl) ?_
          refine WA.rd_yes rfl rfl rfl rfl rfl rfl (Rd.lenE (enc := one vs) (xs := x.pars) rfl rfl Try.underlying23 (by repeat (first | assumption | exact mS | apply mT))) ?_
          refine WA.rd_yes rfl rfl rfl rfl rfl rfl (Rd.eql rfl rfl rfl) ?_
          refine WA.rd rfl rfl rfl (Rd.pick_t rfl rfl rfl) ?_
          refine WA.rd rfl rfl rfl (Rd.move rfl rfl) ?_
          refine WA.case 43 rfl (fun hg43 => ?_) (fun hg43 => ?_)
          · skip
            refine WA.rd_yes rfl rfl rfl rfl rfl rfl (Rd.move rfl rfl) ?_
            refine WA.rd_yes rfl rfl rfl rfl rfl rfl (Rd.nilc rfl rfl) ?_
            refine WA.rd_yes rfl rfl rfl rfl rfl rfl ((by first | exact Rd.field rfl F30_5 rfl rfl | exact Rd.fieldE rfl F30_5 rfl (by repeat (first | assumption | exact mS | apply mT)) (by omega) | exact Rd.fieldA rfl F30_5 rfl (by repeat (first | assumption | exact mS | apply mT)) (by omega))) ?_
            refine WA.rd_yes rfl rfl rfl rfl rfl rfl (Rd.row1 (b := b) (off := 5) rfl C9 rfl (by repeat (first | assumption | exact mS | apply mT)) rfl) ?_
            refine WA.rd_yes rfl rfl rfl rfl rfl rfl ((by first | exact Rd.field rfl F30_5 rfl rfl | exact Rd.fieldE rfl F30_5 rfl (by repeat (first | assumption | exact mS | apply mT)) (by omega) | exact Rd.fieldA rfl F30_5 rfl (by repeat (first | assumption | exact mS | apply mT)) (by omega))) ?_
            refine WA.rd_yes rfl rfl rfl rfl rfl rfl (Rd.row1 (b := b3) (off := 5) rfl C9 rfl (by repeat (first | assumption | exact mS | apply mT)) rfl) ?_
            refine WA.rd_yes rfl rfl rfl rfl rfl rfl (Rd.seql rfl rfl rfl) ?_
            refine WA.rd rfl rfl rfl (Rd.pick_t rfl rfl rfl) ?_
            refine WA.rd rfl rfl rfl (Rd.move rfl rfl) ?_
            refine WA.case 52 rfl (fun hg52 => ?_) (fun hg52 => ?_)
            · skip
              refine WA.rd_yes rfl rfl rfl rfl rfl rfl (Rd.move rfl rfl) ?_
              refine WA.rd_yes rfl rfl rfl rfl rfl rfl (Rd.nilc rfl rfl) ?_
              refine WA.rd_yes rfl rfl rfl rfl rfl rfl ((by first | exact Rd.field rfl F30_6 rfl rfl | exact Rd.fieldE rfl F30_6 rfl (by repeat (first | assumption | exact mS | apply mT)) (by omega) | exact Rd.fieldA rfl F30_6 rfl (by repeat (first | assumption | exact mS | apply mT)) (by omega))) ?_
              refine WA.rd_yes rfl rfl rfl rfl rfl rfl (Rd.row1 (b := b) (off := 6) rfl C9 rfl (by repeat (first | assumption | exact mS | apply mT)) rfl) ?_
              refine WA.rd_yes rfl rfl rfl rfl rfl rfl ((by first | exact Rd.field rfl F30_6 rfl rfl | exact Rd.fieldE rfl F30_6 rfl (by repeat (first | assumption | exact mS | apply mT)) (by omega) | exact Rd.fieldA rfl F30_6 rfl (by repeat (first | assumption | exact mS | apply mT)) (by omega))) ?_
              refine WA.rd_yes rfl rfl rfl rfl rfl rfl (Rd.row1 (b := b3) (off := 6) rfl C9 rfl (by repeat (first | assumption | exact mS | apply mT)) rfl) ?_
              refine WA.rd_yes rfl rfl rfl rfl rfl rfl (Rd.seql rfl rfl rfl) ?_
              refine WA.rd rfl rfl rfl (Rd.pick_t rfl rfl rfl) ?_
              refine WA.rd rfl rfl rfl (Rd.move rfl rfl) ?_
              refine WA.case 61 rfl (fun hg61 => ?_) (fun hg61 => ?_)
              · skip
                refine WA.rd_yes rfl rfl rfl rfl rfl rfl (Rd.move rfl rfl) ?_
                refine WA.rd_yes rfl rfl rfl rfl rfl rfl (Rd.nilc rfl rfl) ?_
                refine WA.rd_yes rfl rfl rfl rfl rfl rfl ((by first | exact Rd.field rfl F30_7 rfl rfl | exact Rd.fieldE rfl F30_7 rfl (by repeat (first | assumption | exact mS | apply mT)) (by omega) | exact Rd.fieldA rfl F30_7 rfl (by repeat (first | assumption | exact mS | apply mT)) (by omega))) ?_
                refine WA.rd_yes rfl rfl rfl rfl rfl rfl (Rd.row1 (b := b) (off := 7) rfl C3 rfl (by repeat (first | assumption | exact mS | apply mT)) rfl) ?_
                refine WA.rd_yes rfl rfl rfl rfl rfl rfl ((by first | exact Rd.field rfl F30_7 rfl rfl | exact Rd.fieldE rfl F30_7 rfl (by repeat (first | assumption | exact mS | apply mT)) (by omega) | exact Rd.fieldA rfl F30_7 rfl (by repeat (first | assumption | exact mS | apply mT)) (by omega))) ?_
                refine WA.rd_yes rfl rfl rfl rfl rfl rfl (Rd.row1 (b := b3) (off := 7) rfl C3 rfl (by repeat (first | assumption | exact mS | apply mT)) rfl) ?_
                refine WA.rd_yes rfl rfl rfl rfl rfl rfl (Rd.eql rfl rfl rfl) ?_
                refine WA.rd rfl rfl rfl (Rd.pick_t rfl rfl rfl) ?_
                refine WA.rd rfl rfl rfl (Rd.move rfl rfl) ?_
                refine WA.case 70 rfl (fun hg70 => ?_) (fun hg70 => ?_)
                · skip
                  refine WA.rd_yes rfl rfl rfl rfl rfl rfl (Rd.move rfl rfl) ?_
                  refine WA.rd_yes rfl rfl rfl rfl rfl rfl (Rd.nilc rfl rfl) ?_
                  refine WA.rd_yes rfl rfl rfl rfl rfl rfl ((by first | exact Rd.field rfl F30_8 rfl rfl | exact Rd.fieldE rfl F30_8 rfl (by repeat (first | assumption | exact mS | apply mT)) (by omega) | exact Rd.fieldA rfl F30_8 rfl (by repeat (first | assumption | exact mS | apply mT)) (by omega))) ?_
                  refine WA.rd_yes rfl rfl rfl rfl rfl rfl (Rd.row1 (b := b) (off := 8) rfl C9 rfl (by repeat (first | assumption | exact mS | apply mT)) rfl) ?_
                  refine WA.rd_yes rfl rfl rfl rfl rfl rfl ((by first | exact Rd.field rfl F30_8 rfl rfl | exact Rd.fieldE rfl F30_8 rfl (by repeat (first | assumption | exact mS | apply mT)) (by omega) | exact Rd.fieldA rfl F30_8 rfl (by repeat (first | assumption | exact mS | apply mT)) (by omega))) ?_
                  refine WA.rd_yes rfl rfl rfl rfl rfl rfl (Rd.row1 (b := b3) (off := 8) rfl C9 rfl (by repeat (first | assumption | exact mS | apply mT)) rfl) ?_
                  refine WA.rd_yes rfl rfl rfl rfl rfl rfl (Rd.seql rfl rfl rfl) ?_
                  refine WA.rd rfl rfl rfl (Rd.pick_t rfl rfl rfl) ?_
                  refine WA.rd rfl rfl rfl (Rd.move rfl rfl) ?_
                  refine WA.case 79 rfl (fun hg79 => ?_) (fun hg79 => ?_)
                  · skip
                    refine WA.rd_yes rfl rfl rfl rfl rfl rfl (Rd.move rfl rfl) ?_
                    refine WA.rd_yes rfl rfl rfl rfl rfl rfl (Rd.nilc rfl rfl) ?_
                    refine WA.rd_yes rfl rfl rfl rfl rfl rfl ((by first | exact Rd.field rfl F30_9 rfl rfl | exact Rd.fieldE rfl F30_9 rfl (by repeat (first | assumption | exact mS | apply mT)) (by omega) | exact Rd.fieldA rfl F30_9 rfl (by repeat (first | assumption | exact mS | apply mT)) (by omega))) ?_
                    refine WA.rd_yes rfl rfl rfl rfl rfl rfl (Rd.row1 (b := b) (off := 9) rfl C9 rfl (by repeat (first | assumption | exact mS | apply mT)) rfl) ?_
                    refine WA.rd_yes rfl rfl rfl rfl rfl rfl ((by first | exact Rd.field rfl F30_9 rfl rfl | exact Rd.fieldE rfl F30_9 rfl (by repeat (first | assumption | exact mS | apply mT)) (by omega) | exact Rd.fieldA rfl F30_9 rfl (by repeat (first | assumption | exact mS | apply mT)) (by omega))) ?_
                    refine WA.rd_yes rfl rfl rfl rfl rfl rfl (Rd.row1 (b := b3) (off := 9) rfl C9 rfl (by repeat (first | assumption | exact mS | apply mT)) rfl) ?_
                    refine WA.rd_yes rfl rfl rfl rfl rfl rfl (Rd.seql rfl rfl rfl) ?_
                    refine WA.rd rfl rfl rfl (Rd.pick_t rfl rfl rfl) ?_
                    refine WA.rd rfl rfl rfl (Rd.assign rfl rfl) ?_
                    refine WA.nil ?_
                    exact ⟨by repeat (first | exact Sub.nil | refine Sub.cons rfl (by first | rfl | (first | exact vb ⟨fun h => ⟨hg12, by omega, hg32, by omega, hg52, hg61, hg70, hg79, h⟩, fun h => h.2.2.2.2.2.2.2.2⟩ | (refine vb_f ?_; rintro ⟨a1, a2, a3, a4, a5, a6, a7, a8, a9⟩; first | contradiction | omega))) ?_), by first | exact (fun _ h => h.thin (SubL.mem (by repeat (first | exact SubL.refl | refine SubL.cons (by repeat (first | assumption | exact mS | apply mT)) ?_ | refine SubL.skip ?_)))) | exact (fun w h => OwnL.sat (by repeat (first | exact OwnL.refl | apply OwnL.take (by repeat (first | exact Take.head _ | apply Take.tail)) | apply OwnL.drop)) w (h.thin (SubL.mem (by repeat (first | exact SubL.refl | refine SubL.cons (by repeat (first | assumption | exact mS | apply mT)) ?_ | refine SubL.skip ?_)))))⟩
                  · skip
                    refine WA.no rfl rfl rfl rfl rfl rfl ?_
                    refine WA.no rfl rfl rfl rfl rfl rfl ?_
                    refine WA.no rfl rfl rfl rfl rfl rfl ?_
                    refine WA.no rfl rfl rfl rfl rfl rfl ?_
                    refine WA.no rfl rfl rfl rfl rfl rfl ?_
                    refine WA.no rfl rfl rfl rfl rfl rfl ?_
                    refine WA.no rfl rfl rfl rfl rfl rfl ?_
                    refine WA.rd rfl rfl rfl (Rd.pick_f rfl rfl rfl) ?_
                    refine WA.rd rfl rfl rfl (Rd.assign rfl rfl) ?_
                    refine WA.nil ?_
                    exact ⟨by repeat (first | exact Sub.nil | refine Sub.cons rfl (by first | rfl | (first | exact vb ⟨fun h => ⟨hg12, by omega, hg32, by omega, hg52, hg61, hg70, hg79, h⟩, fun h => h.2.2.2.2.2.2.2.2⟩ | (refine vb_f ?_; rintro ⟨a1, a2, a3, a4, a5, a6, a7, a8, a9⟩; first | contradiction | omega))) ?_), by first | exact (fun _ h => h.thin (SubL.mem (by repeat (first | exact SubL.refl | refine SubL.cons (by repeat (first | assumption | exact mS | apply mT)) ?_ | refine SubL.skip ?_)))) | exact (fun w h => OwnL.sat (by repeat (first | exact OwnL.refl | apply OwnL.take (by repeat (first | exact Take.head _ | apply Take.tail)) | apply OwnL.drop)) w (h.thin (SubL.mem (by repeat (first | exact SubL.refl | refine SubL.cons (by repeat (first | assumption | exact mS | apply mT)) ?_ | refine SubL.skip ?_)))))⟩
                · skip
                  refine WA.no rfl rfl rfl rfl rfl rfl ?_
                  refine WA.no rfl rfl rfl rfl rfl rfl ?_
                  refine WA.no rfl rfl rfl rfl rfl rfl ?_
                  refine WA.no rfl rfl rfl rfl rfl rfl ?_
                  refine WA.no rfl rfl rfl rfl rfl rfl ?_
                  refine WA.no rfl rfl rfl rfl rfl rfl ?_
                  refine WA.no rfl rfl rfl rfl rfl rfl ?_
                  refine WA.rd rfl rfl rfl (Rd.pick_f rfl rfl rfl) ?_
                  refine WA.rd rfl rfl rfl (Rd.move rfl rfl) ?_
                  refine WA.no rfl rfl rfl rfl rfl rfl ?_
                  refine WA.no rfl rfl rfl rfl rfl rfl ?_
                  refine WA.no rfl rfl rfl rfl rfl rfl ?_
                  refine WA.no rfl rfl rfl rfl rfl rfl ?_
                  refine WA.no rfl rfl rfl rfl rfl rfl ?_
                  refine WA.no rfl rfl rfl rfl rfl rfl ?_
                  refine WA.no rfl rfl rfl rfl rfl rfl ?_
                  refine WA.rd rfl rfl rfl (Rd.pick_f rfl rfl rfl) ?_
                  refine WA.rd rfl rfl rfl (Rd.assign rfl rfl) ?_
                  refine WA.nil ?_
                  exact ⟨by repeat (first | exact Sub.nil | refine Sub.cons rfl (by first | rfl | (first | exact vb ⟨fun h => ⟨hg12, by omega, hg32, by omega, hg52, hg61, hg70, hg79, h⟩, fun h => h.2.2.2.2.2.2.2.2⟩ | (refine vb_f ?_; rintro ⟨a1, a2, a3, a4, a5, a6, a7, a8, a9⟩; first | contradiction | omega))) ?_), by first | exact (fun _ h => h.thin (SubL.mem (by repeat (first | exact SubL.refl | refine SubL.cons (by repeat (first | assumption | exact mS | apply mT)) ?_ | refine SubL.skip ?_)))) | exact (fun w h => OwnL.sat (by repeat (first | exact OwnL.refl | apply OwnL.take (by repeat (first | exact Take.head _ | apply Take.tail)) | apply OwnL.drop)) w (h.thin (SubL.mem (by repeat (first | exact SubL.refl | refine SubL.cons (by repeat (first | assumption | exact mS | apply mT)) ?_ | refine SubL.skip ?_)))))⟩
              · skip
                refine WA.no rfl rfl rfl rfl rfl rfl ?_
                refine WA.no rfl rfl rfl rfl rfl rfl ?_
                refine WA.no rfl rfl rfl rfl rfl rfl ?_
                refine WA.no rfl rfl rfl rfl rfl rfl ?_
                refine WA.no rfl rfl rfl rfl rfl rfl ?_
                refine WA.no rfl rfl rfl rfl rfl rfl ?_
                refine WA.no rfl rfl rfl rfl rfl rfl ?_
                refine WA.rd rfl rfl rfl (Rd.pick_f rfl rfl rfl) ?_
                refine WA.rd rfl rfl rfl (Rd.move rfl rfl) ?_
                refine WA.no rfl rfl rfl rfl rfl rfl ?_
                refine WA.no rfl rfl rfl rfl rfl rfl ?_
                refine WA.no rfl rfl rfl rfl rfl rfl ?_
                refine WA.no rfl rfl rfl rfl rfl rfl ?_
                refine WA.no rfl rfl rfl rfl rfl rfl ?_
                refine WA.no rfl rfl rfl rfl rfl rfl ?_
                refine WA.no rfl rfl rfl rfl rfl rfl ?_
                refine WA.rd rfl rfl rfl (Rd.pick_f rfl rfl rfl) ?_
                refine WA.rd rfl rfl rfl (Rd.move rfl rfl) ?_
                refine WA.no rfl rfl rfl rfl rfl rfl ?_
                refine WA.no rfl rfl rfl rfl rfl rfl ?_
                refine WA.no rfl rfl rfl rfl rfl rfl ?_
                refine WA.no rfl rfl rfl rfl rfl rfl ?_
                refine WA.no rfl rfl rfl rfl rfl rfl ?_
                refine WA.no rfl rfl rfl rfl rfl rfl ?_
                refine WA.no rfl rfl rfl rfl rfl rfl ?_
                refine WA.rd rfl rfl rfl (Rd.pick_f rfl rfl rfl) ?_
                refine WA.rd rfl rfl rfl (Rd.assign rfl rfl) ?_
                refine WA.nil ?_
                exact ⟨by repeat (first | exact Sub.nil | refine Sub.cons rfl (by first | rfl | (first | exact vb ⟨fun h => ⟨hg12, by omega, hg32, by omega, hg52, hg61, hg70, hg79, h⟩, fun h => h.2.2.2.2.2.2.2.2⟩ | (refine vb_f ?_; rintro ⟨a1, a2, a3, a4, a5, a6, a7, a8, a9⟩; first | contradiction | omega))) ?_), by first | exact (fun _ h => h.thin (SubL.mem (by repeat (first | exact SubL.refl | refine SubL.cons (by repeat (first | assumption | exact mS | apply mT)) ?_ | refine SubL.skip ?_)))) | exact (fun w h => OwnL.sat (by repeat (first | exact OwnL.refl | apply OwnL.take (by repeat (first | exact Take.head _ | apply Take.tail)) | apply OwnL.drop)) w (h.thin (SubL.mem (by repeat (first | exact SubL.refl | refine SubL.cons (by repeat (first | assumption | exact mS | apply mT)) ?_ | refine SubL.skip ?_)))))⟩
            · skip
              refine WA.no rfl rfl rfl rfl rfl rfl ?_
              refine WA.no rfl rfl rfl rfl rfl rfl ?_
              refine WA.no rfl rfl rfl rfl rfl rfl ?_
              refine WA.no rfl rfl rfl rfl rfl rfl ?_
              refine WA.no rfl rfl rfl rfl rfl rfl ?_
              refine WA.no rfl rfl rfl rfl rfl rfl ?_
              refine WA.no rfl rfl rfl rfl rfl rfl ?_
              refine WA.rd rfl rfl rfl (Rd.pick_f rfl rfl rfl) ?_
              refine WA.rd rfl rfl rfl (Rd.move rfl rfl) ?_
              refine WA.no rfl rfl rfl rfl rfl rfl ?_
              refine WA.no rfl rfl rfl rfl rfl rfl ?_
              refine WA.no rfl rfl rfl rfl rfl rfl ?_
              refine WA.no rfl rfl rfl rfl rfl rfl ?_
              refine WA.no rfl rfl rfl rfl rfl rfl ?_
              refine WA.no rfl rfl rfl rfl rfl rfl ?_
              refine WA.no rfl rfl rfl rfl rfl rfl ?_
              refine WA.rd rfl rfl rfl (Rd.pick_f rfl rfl rfl) ?_
              refine WA.rd rfl rfl rfl (Rd.move rfl rfl) ?_
              refine WA.no rfl rfl rfl rfl rfl rfl ?_
              refine WA.no rfl rfl rfl rfl rfl rfl ?_
              refine WA.no rfl rfl rfl rfl rfl rfl ?_
              refine WA.no rfl rfl rfl rfl rfl rfl ?_
              refine WA.no rfl rfl rfl rfl rfl rfl ?_
              refine WA.no rfl rfl rfl rfl rfl rfl ?_
              refine WA.no rfl rfl rfl rfl rfl rfl ?_
              refine WA.rd rfl rfl rfl (Rd.pick_f rfl rfl rfl) ?_
              refine WA.rd rfl rfl rfl (Rd.move rfl rfl) ?_
              refine WA.no rfl rfl rfl rfl rfl rfl ?_
              refine WA.no rfl rfl rfl rfl rfl rfl ?_
              refine WA.no rfl rfl rfl rfl rfl rfl ?_
              refine WA.no rfl rfl rfl rfl rfl rfl ?_
              refine WA.no rfl rfl rfl rfl rfl rfl ?_
              refine WA.no rfl rfl rfl rfl rfl rfl ?_
              refine WA.no rfl rfl rfl rfl rfl rfl ?_
              refine WA.rd rfl rfl rfl (Rd.pick_f rfl rfl rfl) ?_
              refine WA.rd rfl rfl rfl (Rd.assign rfl rfl) ?_
              refine WA.nil ?_
              exact ⟨by repeat (first | exact Sub.nil | refine Sub.cons rfl (by first | rfl | (first | exact vb ⟨fun h => ⟨hg12, by omega, hg32, by omega, hg52, hg61, hg70, hg79, h⟩, fun h => h.2.2.2.2.2.2.2.2⟩ | (refine vb_f ?_; rintro ⟨a1, a2, a3, a4, a5, a6, a7, a8, a9⟩; first | contradiction | omega))) ?_), by first | exact (fun _ h => h.thin (SubL.mem (by repeat (first | exact SubL.refl | refine SubL.cons (by repeat (first | assumption | exact mS | apply mT)) ?_ | refine SubL.skip ?_)))) | exact (fun w h => OwnL.sat (by repeat (first | exact OwnL.refl | apply OwnL.take (by repeat (first | exact Take.head _ | apply Take.tail)) | apply OwnL.drop)) w (h.thin (SubL.mem (by repeat (first | exact SubL.refl | refine SubL.cons (by repeat (first | assumption | exact mS | apply mT)) ?_ | refine SubL.skip ?_)))))⟩
          · skip
            refine WA.no rfl rfl rfl rfl rfl rfl ?_
            refine WA.no rfl rfl rfl rfl rfl rfl ?_
            refine WA.no rfl rfl rfl rfl rfl rfl ?_
            refine WA.no rfl rfl rfl rfl rfl rfl ?_
            refine WA.no rfl rfl rfl rfl rfl rfl ?_
            refine WA.no rfl rfl rfl rfl rfl rfl ?_
            refine WA.no rfl rfl rfl rfl rfl rfl ?_
            refine WA.rd rfl rfl rfl (Rd.pick_f rfl rfl rfl) ?_
            refine WA.rd rfl rfl rfl (Rd.move rfl rfl) ?_
            refine WA.no rfl rfl rfl rfl rfl rfl ?_
            refine WA.no rfl rfl rfl rfl rfl rfl ?_
            refine WA.no rfl rfl rfl rfl rfl rfl ?_
            refine WA.no rfl rfl rfl rfl rfl rfl ?_
            refine WA.no rfl rfl rfl rfl rfl rfl ?_
            refine WA.no rfl rfl rfl rfl rfl rfl ?_
            refine WA.no rfl rfl rfl rfl rfl rfl ?_
            refine WA.rd rfl rfl rfl (Rd.pick_f rfl rfl rfl) ?_
            refine WA.rd rfl rfl rfl (Rd.move rfl rfl) ?_
            refine WA.no rfl rfl rfl rfl rfl rfl ?_
            refine WA.no rfl rfl rfl rfl rfl rfl ?_
            refine WA.no rfl rfl rfl rfl rfl rfl ?_
            refine WA.no rfl rfl rfl rfl rfl rfl ?_
            refine WA.no rfl rfl rfl rfl rfl rfl ?_
            refine WA.no rfl rfl rfl rfl rfl rfl ?_
            refine WA.no rfl rfl rfl rfl rfl rfl ?_
            refine WA.rd rfl rfl rfl (Rd.pick_f rfl rfl rfl) ?_
            refine WA.rd rfl rfl rfl (Rd.move rfl rfl) ?_
            refine WA.no rfl rfl rfl rfl rfl rfl ?_
            refine WA.no rfl rfl rfl rfl rfl rfl ?_
            refine WA.no rfl rfl rfl rfl rfl rfl ?_
            refine WA.no rfl rfl rfl rfl rfl rfl ?_
            refine WA.no rfl rfl rfl rfl rfl rfl ?_
            refine WA.no rfl rfl rfl rfl rfl rfl ?_
            refine WA.no rfl rfl rfl rfl rfl rfl ?_
            refine WA.rd rfl rfl rfl (Rd.pick_f rfl rfl rfl) ?_
            refine WA.rd rfl rfl rfl (Rd.move rfl rfl) ?_
            refine WA.no rfl rfl rfl rfl rfl rfl ?_
            refine WA.no rfl rfl rfl rfl rfl rfl ?_
            refine WA.no rfl rfl rfl rfl rfl rfl ?_
            refine WA.no rfl rfl rfl rfl rfl rfl ?_
            refine WA.no rfl rfl rfl rfl rfl rfl ?_
            refine WA.no rfl rfl rfl rfl rfl rfl ?_
            refine WA.no rfl rfl rfl rfl rfl rfl ?_
            refine WA.rd rfl rfl rfl (Rd.pick_f rfl rfl rfl) ?_
            refine WA.rd rfl rfl rfl (Rd.assign rfl rfl) ?_
            refine WA.nil ?_
            exact ⟨by repeat (first | exact Sub.nil | refine Sub.cons rfl (by first | rfl | (first | exact vb ⟨fun h => ⟨hg12, by omega, hg32, by omega, hg52, hg61, hg70, hg79, h⟩, fun h => h.2.2.2.2.2.2.2.2⟩ | (refine vb_f ?_; rintro ⟨a1, a2, a3, a4, a5, a6, a7, a8, a9⟩; first | contradiction | omega))) ?_), by first | exact (fun _ h => h.thin (SubL.mem (by repeat (first | exact SubL.refl | refine SubL.cons (by repeat (first | assumption | exact mS | apply mT)) ?_ | refine SubL.skip ?_)))) | exact (fun w h => OwnL.sat (by repeat (first | exact OwnL.refl | apply OwnL.take (by repeat (first | exact Take.head _ | apply Take.tail)) | apply OwnL.drop)) w (h.thin (SubL.mem (by repeat (first | exact SubL.refl | refine SubL.cons (by repeat (first | assumption | exact mS | apply mT)) ?_ | refine SubL.skip ?_)))))⟩
        · skip
          refine WA.no rfl rfl rfl rfl rfl rfl ?_
          refine WA.no rfl rfl rfl rfl rfl rfl ?_
          refine WA.no rfl rfl rfl rfl rfl rfl ?_
          refine WA.no rfl rfl rfl rfl rfl rfl ?_
          refine WA.no rfl rfl rfl rfl rfl rfl ?_
          refine WA.no rfl rfl rfl rfl rfl rfl ?_
          refine WA.no rfl rfl rfl rfl rfl rfl ?_
          refine WA.no rfl rfl rfl rfl rfl rfl ?_
          refine WA.no rfl rfl rfl rfl rfl rfl ?_
          refine WA.rd rfl rfl rfl (Rd.pick_f rfl rfl rfl) ?_
          refine WA.rd rfl rfl rfl (Rd.move rfl rfl) ?_
          refine WA.no rfl rfl rfl rfl rfl rfl ?_
          refine WA.no rfl rfl rfl rfl rfl rfl ?_
          refine WA.no rfl rfl rfl rfl rfl rfl ?_
          refine WA.no rfl rfl rfl rfl rfl rfl ?_
          refine WA.no rfl rfl rfl rfl rfl rfl ?_
          refine WA.no rfl rfl rfl rfl rfl rfl ?_
          refine WA.no rfl rfl rfl rfl rfl rfl ?_
          refine WA.rd rfl rfl rfl (Rd.pick_f rfl rfl rfl) ?_
          refine WA.rd rfl rfl rfl (Rd.move rfl rfl) ?_
          refine WA.no rfl rfl rfl rfl rfl rfl ?_
          refine WA.no rfl rfl rfl rfl rfl rfl ?_
          refine WA.no rfl rfl rfl rfl rfl rfl ?_
          refine WA.no rfl rfl rfl rfl rfl rfl ?_
          refine WA.no rfl rfl rfl rfl rfl rfl ?_
          refine WA.no rfl rfl rfl rfl rfl rfl ?_
          refine WA.no rfl rfl rfl rfl rfl rfl ?_
          refine WA.rd rfl rfl rfl (Rd.pick_f rfl rfl rfl) ?_
          refine WA.rd rfl rfl rfl (Rd.move rfl rfl) ?_
          refine WA.no rfl rfl rfl rfl rfl rfl ?_
          refine WA.no rfl rfl rfl rfl rfl rfl ?_
          refine WA.no rfl rfl rfl rfl rfl rfl ?_
          refine WA.no rfl rfl rfl rfl rfl rfl ?_
          refine WA.no rfl rfl rfl rfl rfl rfl ?_
          refine WA.no rfl rfl rfl rfl rfl rfl ?_
          refine WA.no rfl rfl rfl rfl rfl rfl ?_
          refine WA.rd rfl rfl rfl (Rd.pick_f rfl rfl rfl) ?_
          refine WA.rd rfl rfl rfl (Rd.move rfl rfl) ?_
          refine WA.no rfl rfl rfl rfl rfl rfl ?_
          refine WA.no rfl rfl rfl rfl rfl rfl ?_
          refine WA.no rfl rfl rfl rfl rfl rfl ?_
          refine WA.no rfl rfl rfl rfl rfl rfl ?_
          refine WA.no rfl rfl rfl rfl rfl rfl ?_
          refine WA.no rfl rfl rfl rfl rfl rfl ?_
          refine WA.no rfl rfl rfl rfl rfl rfl ?_
          refine WA.rd rfl rfl rfl (Rd.pick_f rfl rfl rfl) ?_
          refine WA.rd rfl rfl rfl (Rd.move rfl rfl) ?_
          refine WA.no rfl rfl rfl rfl rfl rfl ?_
          refine WA.no rfl rfl rfl rfl rfl rfl ?_
          refine WA.no rfl rfl rfl rfl rfl rfl ?_
          refine WA.no rfl rfl rfl rfl rfl rfl ?_
          refine WA.no rfl rfl rfl rfl rfl rfl ?_
          refine WA.no rfl rfl rfl rfl rfl rfl ?_
          refine WA.no rfl rfl rfl rfl rfl rfl ?_
          refine WA.rd rfl rfl rfl (Rd.pick_f rfl rfl rfl) ?_
          refine WA.rd rfl rfl rfl (Rd.assign rfl rfl) ?_
          refine WA.nil ?_
          exact ⟨by repeat (first | exact Sub.nil | refine Sub.cons rfl (by first | rfl | (first | exact vb ⟨fun h => ⟨hg12, by omega, hg32, by omega, hg52, hg61, hg70, hg79, h⟩, fun h => h.2.2.2.2.2.2.2.2⟩ | (refine vb_f ?_; rintro ⟨a1, a2, a3, a4, a5, a6, a7, a8, a9⟩; first | contradiction | omega))) ?_), by first | exact (fun _ h => h.thin (SubL.mem (by repeat (first | exact SubL.refl | refine SubL.cons (by repeat (first | assumption | exact mS | apply mT)) ?_ | refine SubL.skip ?_)))) | exact (fun w h => OwnL.sat (by repeat (first | exact OwnL.refl | apply OwnL.take (by repeat (first | exact Take.head _ | apply Take.tail)) | apply OwnL.drop)) w (h.thin (SubL.mem (by repeat (first | exact SubL.refl | refine SubL.cons (by repeat (first | assumption | exact mS | apply mT)) ?_ | refine SubL.skip ?_)))))⟩
      · skip
        refine WA.no rfl rfl rfl rfl rfl rfl ?_
        refine WA.no rfl rfl rfl rfl rfl rfl ?_
        refine WA.no rfl rfl rfl rfl rfl rfl ?_
        refine WA.no rfl rfl rfl rfl rfl rfl ?_
        refine WA.no rfl rfl rfl rfl rfl rfl ?_
        refine WA.no rfl rfl rfl rfl rfl rfl ?_
        refine WA.no rfl rfl rfl rfl rfl rfl ?_
        refine WA.rd rfl rfl rfl (Rd.pick_f rfl rfl rfl) ?_
        refine WA.rd rfl rfl rfl (Rd.move rfl rfl) ?_
        refine WA.no rfl rfl rfl rfl rfl rfl ?_
        refine WA.no rfl rfl rfl rfl rfl rfl ?_
        refine WA.no rfl rfl rfl rfl rfl rfl ?_
        refine WA.no rfl rfl rfl rfl rfl rfl ?_
        refine WA.no rfl rfl rfl rfl rfl rfl ?_
        refine WA.no rfl rfl rfl rfl rfl rfl ?_
        refine WA.no rfl rfl rfl rfl rfl rfl ?_
        refine WA.no rfl rfl rfl rfl rfl rfl ?_
        refine WA.no rfl rfl rfl rfl rfl rfl ?_
        refine WA.rd rfl rfl rfl (Rd.pick_f rfl rfl rfl) ?_
        refine WA.rd rfl rfl rfl (Rd.move rfl rfl) ?_
        refine WA.no rfl rfl rfl rfl rfl rfl ?_
        refine WA.no rfl rfl rfl rfl rfl rfl ?_
        refine WA.no rfl rfl rfl rfl rfl rfl ?_
        refine WA.no rfl rfl rfl rfl rfl rfl ?_
        refine WA.no rfl rfl rfl rfl rfl rfl ?_
        refine WA.no rfl rfl rfl rfl rfl rfl ?_
        refine WA.no rfl rfl rfl rfl rfl rfl ?_
        refine WA.rd rfl rfl rfl (Rd.pick_f rfl rfl rfl) ?_
        refine WA.rd rfl rfl rfl (Rd.move rfl rfl) ?_
        refine WA.no rfl rfl rfl rfl rfl rfl ?_
        refine WA.no rfl rfl rfl rfl rfl rfl ?_
        refine WA.no rfl rfl rfl rfl rfl rfl ?_
        refine WA.no rfl rfl rfl rfl rfl rfl ?_
        refine WA.no rfl rfl rfl rfl rfl rfl ?_
        refine WA.no rfl rfl rfl rfl rfl rfl ?_
        refine WA.no rfl rfl rfl rfl rfl rfl ?_
        refine WA.rd rfl rfl rfl (Rd.pick_f rfl rfl rfl) ?_
        refine WA.rd rfl rfl rfl (Rd.move rfl rfl) ?_
        refine WA.no rfl rfl rfl rfl rfl rfl ?_
        refine WA.no rfl rfl rfl rfl rfl rfl ?_
        refine WA.no rfl rfl rfl rfl rfl rfl ?_
        refine WA.no rfl rfl rfl rfl rfl rfl ?_
        refine WA.no rfl rfl rfl rfl rfl rfl ?_
        refine WA.no rfl rfl rfl rfl rfl rfl ?_
        refine WA.no rfl rfl rfl rfl rfl rfl ?_
        refine WA.rd rfl rfl rfl (Rd.pick_f rfl rfl rfl) ?_
        refine WA.rd rfl rfl rfl (Rd.move rfl rfl) ?_
        refine WA.no rfl rfl rfl rfl rfl rfl ?_
        refine WA.no rfl rfl rfl rfl rfl rfl ?_
        refine WA.no rfl rfl rfl rfl rfl rfl ?_
        refine WA.no rfl rfl rfl rfl rfl rfl ?_
        refine WA.no rfl rfl rfl rfl rfl rfl ?_
        refine WA.no rfl rfl rfl rfl rfl rfl ?_
        refine WA.no rfl rfl rfl rfl rfl rfl ?_
        refine WA.rd rfl rfl rfl (Rd.pick_f rfl rfl rfl) ?_
        refine WA.rd rfl rfl rfl (Rd.move rfl rfl) ?_
        refine WA.no rfl rfl rfl rfl rfl rfl ?_
        refine WA.no rfl rfl rfl rfl rfl rfl ?_
        refine WA.no rfl rfl rfl rfl rfl rfl ?_
        refine WA.no rfl rfl rfl rfl rfl rfl ?_
        refine WA.no rfl rfl rfl rfl rfl rfl ?_
        refine WA.no rfl rfl rfl rfl rfl rfl ?_
        refine WA.no rfl rfl rfl rfl rfl rfl ?_
        refine WA.rd rfl rfl rfl (Rd.pick_f rfl rfl rfl) ?_
        refine WA.rd rfl rfl rfl (Rd.assign rfl rfl) ?_
        refine WA.nil ?_
        exact ⟨by repeat (first | exact Sub.nil | refine Sub.cons rfl (by first | rfl | (first | exact vb ⟨fun h => ⟨hg12, by omega, hg32, by omega, hg52, hg61, hg70, hg79, h⟩, fun h => h.2.2.2.2.2.2.2.2⟩ | (refine vb_f ?_; rintro ⟨a1, a2, a3, a4, a5, a6, a7, a8, a9⟩; first | contradiction | omega))) ?_), by first | exact (fun _ h => h.thin (SubL.mem (by repeat (first | exact SubL.refl | refine SubL.cons (by repeat (first | assumption | exact mS | apply mT)) ?_ | refine SubL.skip ?_)))) | exact (fun w h => OwnL.sat (by repeat (first | exact OwnL.refl | apply OwnL.take (by repeat (first | exact Take.head _ | apply Take.tail)) | apply OwnL.drop)) w (h.thin (SubL.mem (by repeat (first | exact SubL.refl | refine SubL.cons (by repeat (first | assumption | exact mS | apply mT)) ?_ | refine SubL.skip ?_)))))⟩
    · skip
      refine WA.no rfl rfl rfl rfl rfl rfl ?_
      refine WA.no rfl rfl rfl rfl rfl rfl ?_
      refine WA.no rfl rfl rfl rfl rfl rfl ?_
      refine WA.no rfl rfl rfl rfl rfl rfl ?_
      refine WA.no rfl rfl rfl rfl rfl rfl ?_
      refine WA.no rfl rfl rfl rfl rfl rfl ?_
      refine WA.no rfl rfl rfl rfl rfl rfl ?_
      refine WA.no rfl rfl rfl rfl rfl rfl ?_
      refine WA.no rfl rfl rfl rfl rfl rfl ?_
      refine WA.rd rfl rfl rfl (Rd.pick_f rfl rfl rfl) ?_
      refine WA.rd rfl rfl rfl (Rd.move rfl rfl) ?_
      refine WA.no rfl rfl rfl rfl rfl rfl ?_
      refine WA.no rfl rfl rfl rfl rfl rfl ?_
      refine WA.no rfl rfl rfl rfl rfl rfl ?_
      refine WA.no rfl rfl rfl rfl rfl rfl ?_
      refine WA.no rfl rfl rfl rfl rfl rfl ?_
      refine WA.no rfl rfl rfl rfl rfl rfl ?_
      refine WA.no rfl rfl rfl rfl rfl rfl ?_
      refine WA.rd rfl rfl rfl (Rd.pick_f rfl rfl rfl) ?_
      refine WA.rd rfl rfl rfl (Rd.move rfl rfl) ?_
      refine WA.no rfl rfl rfl rfl rfl rfl ?_
      refine WA.no rfl rfl rfl rfl rfl rfl ?_
      refine WA.no rfl rfl rfl rfl rfl rfl ?_
      refine WA.no rfl rfl rfl rfl rfl rfl ?_
      refine WA.no rfl rfl rfl rfl rfl rfl ?_
      refine WA.no rfl rfl rfl rfl rfl rfl ?_
      refine WA.no rfl rfl rfl rfl rfl rfl ?_
      refine WA.no rfl rfl rfl rfl rfl rfl ?_
      refine WA.no rfl rfl rfl rfl rfl rfl ?_
      refine WA.rd rfl rfl rfl (Rd.pick_f rfl rfl rfl) ?_
      refine WA.rd rfl rfl rfl (Rd.move rfl rfl) ?_
      refine WA.no rfl rfl rfl rfl rfl rfl ?_
      refine WA.no rfl rfl rfl rfl rfl rfl ?_
      refine WA.no rfl rfl rfl rfl rfl rfl ?_
      refine WA.no rfl rfl rfl rfl rfl rfl ?_
      refine WA.no rfl rfl rfl rfl rfl rfl ?_
      refine WA.no rfl rfl rfl rfl rfl rfl ?_
      refine WA.no rfl rfl rfl rfl rfl rfl ?_
      refine WA.rd rfl rfl rfl (Rd.pick_f rfl rfl rfl) ?_
      refine WA.rd rfl rfl rfl (Rd.move rfl rfl) ?_
      refine WA.no rfl rfl rfl rfl rfl rfl ?_
      refine WA.no rfl rfl rfl rfl rfl rfl ?_
      refine WA.no rfl rfl rfl rfl rfl rfl ?_
      refine WA.no rfl rfl rfl rfl rfl rfl ?_
      refine WA.no rfl rfl rfl rfl rfl rfl ?_
      refine WA.no rfl rfl rfl rfl rfl rfl ?_
      refine WA.no rfl rfl rfl rfl rfl rfl ?_
      refine WA.rd rfl rfl rfl (Rd.pick_f rfl rfl rfl) ?_
      refine WA.rd rfl rfl rfl (Rd.move rfl rfl) ?_
      refine WA.no rfl rfl rfl rfl rfl rfl ?_
      refine WA.no rfl rfl rfl rfl rfl rfl ?_
      refine WA.no rfl rfl rfl rfl rfl rfl ?_
      refine WA.no rfl rfl rfl rfl rfl rfl ?_
      refine WA.no rfl rfl rfl rfl rfl rfl ?_
      refine WA.no rfl rfl rfl rfl rfl rfl ?_
      refine WA.no rfl rfl rfl rfl rfl rfl ?_
      refine WA.rd rfl rfl rfl (Rd.pick_f rfl rfl rfl) ?_
      refine WA.rd rfl rfl rfl (Rd.move rfl rfl) ?_
      refine WA.no rfl rfl rfl rfl rfl rfl ?_
      refine WA.no rfl rfl rfl rfl rfl rfl ?_
      refine WA.no rfl rfl rfl rfl rfl rfl ?_
      refine WA.no rfl rfl rfl rfl rfl rfl ?_
      refine WA.no rfl rfl rfl rfl rfl rfl ?_
      refine WA.no rfl rfl rfl rfl rfl rfl ?_
      refine WA.no rfl rfl rfl rfl rfl rfl ?_
      refine WA.rd rfl rfl rfl (Rd.pick_f rfl rfl rfl) ?_
      refine WA.rd rfl rfl rfl (Rd.move rfl rfl) ?_
      refine WA.no rfl rfl rfl rfl rfl rfl ?_
      refine WA.no rfl rfl rfl rfl rfl rfl ?_
      refine WA.no rfl rfl rfl rfl rfl rfl ?_
      refine WA.no rfl rfl rfl rfl rfl rfl ?_
      refine WA.no rfl rfl rfl rfl rfl rfl ?_
      refine WA.no rfl rfl rfl rfl rfl rfl ?_
      refine WA.no rfl rfl rfl rfl rfl rfl ?_
      refine WA.rd rfl rfl rfl (Rd.pick_f rfl rfl rfl) ?_
      refine WA.rd rfl rfl rfl (Rd.assign rfl rfl) ?_
      refine WA.nil ?_
      exact ⟨by repeat (first | exact Sub.nil | refine Sub.cons rfl (by first | rfl | (first | exact vb ⟨fun h => ⟨hg12, by omega, hg32, by omega, hg52, hg61, hg70, hg79, h⟩, fun h => h.2.2.2.2.2.2.2.2⟩ | (refine vb_f ?_; rintro ⟨a1, a2, a3, a4, a5, a6, a7, a8, a9⟩; first | contradiction | omega))) ?_), by first | exact (fun _ h => h.thin (SubL.mem (by repeat (first | exact SubL.refl | refine SubL.cons (by repeat (first | assumption | exact mS | apply mT)) ?_ | refine SubL.skip ?_)))) | exact (fun w h => OwnL.sat (by repeat (first | exact OwnL.refl | apply OwnL.take (by repeat (first | exact Take.head _ | apply Take.tail)) | apply OwnL.drop)) w (h.thin (SubL.mem (by repeat (first | exact SubL.refl | refine SubL.cons (by repeat (first | assumption | exact mS | apply mT)) ?_ | refine SubL.skip ?_)))))⟩
  · skip
    refine WC.heap (R' := R) (O' := O) (fun w h => OwnL.sat (by repeat (first | exact OwnL.refl | apply OwnL.take (by repeat (first | exact Take.head _ | apply Take.tail)) | apply OwnL.drop)) w (h.thin (SubL.mem (by repeat (first | exact SubL.refl | refine SubL.cons (by repeat (first | assumption | exact mS | apply mT)) ?_ | refine SubL.skip ?_))))) ?_
    refine WC.ret (Ret.one Try.results43 rfl ?_)
    exact hk
end
end Go.Proofs.Ytedgndhbieeffaa
