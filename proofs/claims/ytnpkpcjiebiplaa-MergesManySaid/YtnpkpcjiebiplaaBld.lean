/-
  A strings.Builder anywhere in a row of a call's own.
-/
import Derived.Test.YtnpkpcjiebiplaaTy
import Derived.Test.YtnpkpcjiebiplaaByt
namespace Go.Proofs.Ytnpkpcjiebiplaa
open Go Go.SL

section
variable {R : List RO} {O : List Own} {POST : Value → List RO → List Own → Prop} {b off : Nat} {e : TypeId} {cs : List Value} {p v : Value} {bs : List UInt8}
abbrev pself (b off : Nat) : Value := .pointer (some ⟨b, off, none⟩)
set_option maxRecDepth 20000 in
theorem bcc_new (h0 : cs[off]? = some (.pointer none)) (hl : liesAt Try.prog Try.prog.depth e (cs.length / Try.prog.cellsOf e) off 72 1 = true) (hk : POST (.tuple #[]) R (rowC b e (cs.set off (pself b off)) :: O)) :
    Fun Try.prog 39 #[pself b off] R (rowC b e cs :: O) POST := by
  have hlt := (List.getElem?_eq_some_iff.1 h0).1
  refine Fun.enter (l := [_]) Try.func39 rfl Try.ntmps39 rfl (L0 := [(0, _)]) rfl ?_
  refine WC.seq ?_
  refine WC.region ?_
  refine WL.rd rfl rfl rfl (Rd.move rfl rfl) ?_
  refine WL.rd rfl rfl rfl (Rd.nilc rfl rfl) ?_
  refine WL.rd rfl rfl rfl (Rd.field (off := off) (r := off) rfl F72_0 rfl rfl) ?_
  refine WL.rd rfl rfl rfl (Rd.row1 (off := off) rfl C70 rfl List.mem_cons_self h0) ?_
  refine WL.rd rfl rfl rfl (Rd.peq_nn rfl Try.underlying70 rfl rfl) ?_
  refine WL.nil ?_
  refine thenQ.normal ?_
  first | refine WC.ite rfl (fun hc1 => ?_) (fun hc1 => ?_) | refine WC.cond rfl (fun hc1 => ?_) (fun hc1 => ?_)
  · skip
    refine WC.region ?_
    refine WL.rd rfl rfl rfl (Rd.move rfl rfl) ?_
    refine WL.rd rfl rfl rfl (Rd.move rfl rfl) ?_
    refine WL.rd rfl rfl rfl (Rd.toUnsafe (off := off) rfl Try.underlying70 Try.underlying96 I72 (by decide) rfl List.mem_cons_self hlt) ?_
    refine WL.op rfl ?_
    refine OpW.rd rfl rfl (Rd.extern (ef := Extern.AbiNoEscape.same) rfl rfl (by repeat (first | exact Evs.nil | apply Evs.cons rfl)) Try.func43 rfl rfl (by kernel_rfl) (by kernel_rfl) (fun w => Lib.run_noEscape w _)) ?_
    refine WL.rd rfl rfl rfl (Rd.ofUnsafe (off := off) rfl Try.underlying96 Try.underlying70 I72 rfl List.mem_cons_self hl) ?_
    refine WL.rd rfl rfl rfl (Rd.nilc rfl rfl) ?_
    refine WL.rd rfl rfl rfl (Rd.field (off := off) (r := off) rfl F72_0 rfl rfl) ?_
    refine WL.op rfl ?_
    refine OpW.store1 (off := off) rfl Z70 rfl rfl (by first | exact ⟨rfl, rfl⟩ | assumption) (Take.head _) hlt rfl ?_
    refine WL.nil ?_
    refine Ret.normal (Ret.zero Try.results39 ?_)
    exact hk
  · skip
    simp at hc1
set_option maxRecDepth 20000 in
theorem bcc_used (h0 : cs[off]? = some (pself b off)) (hk : POST (.tuple #[]) R (rowC b e (cs.set off (pself b off)) :: O)) :
    Fun Try.prog 39 #[pself b off] R (rowC b e cs :: O) POST := by
  have hlt := (List.getElem?_eq_some_iff.1 h0).1
  have hs : cs.set off (pself b off) = cs := by
    apply List.ext_getElem? ; intro i
    rw [List.getElem?_set]
    split
    · rename_i h; subst h; rw [h0]
    · rfl
  rw [hs] at hk
  refine Fun.enter (l := [_]) Try.func39 rfl Try.ntmps39 rfl (L0 := [(0, _)]) rfl ?_
  refine WC.seq ?_
  refine WC.region ?_
  refine WL.rd rfl rfl rfl (Rd.move rfl rfl) ?_
  refine WL.rd rfl rfl rfl (Rd.nilc rfl rfl) ?_
  refine WL.rd rfl rfl rfl (Rd.field (off := off) (r := off) rfl F72_0 rfl rfl) ?_
  refine WL.rd rfl rfl rfl (Rd.row1 (off := off) rfl C70 rfl List.mem_cons_self h0) ?_
  refine WL.rd rfl rfl rfl (Rd.peq_sn rfl Try.underlying70 rfl rfl) ?_
  refine WL.nil ?_
  refine thenQ.normal ?_
  first | refine WC.ite rfl (fun hc1 => ?_) (fun hc1 => ?_) | refine WC.cond rfl (fun hc1 => ?_) (fun hc1 => ?_)
  · skip
    simp at hc1
  · skip
    refine WC.seq ?_
    refine WC.region ?_
    refine WL.rd rfl rfl rfl (Rd.move rfl rfl) ?_
    refine WL.rd rfl rfl rfl (Rd.nilc rfl rfl) ?_
    refine WL.rd rfl rfl rfl (Rd.field (off := off) (r := off) rfl F72_0 rfl rfl) ?_
    refine WL.rd rfl rfl rfl (Rd.row1 (off := off) rfl C70 rfl List.mem_cons_self h0) ?_
    refine WL.rd rfl rfl rfl (Rd.move rfl rfl) ?_
    refine WL.rd rfl rfl rfl (Rd.pneq_self rfl Try.underlying70 I72 rfl rfl) ?_
    refine WL.nil ?_
    refine thenQ.normal ?_
    first | refine WC.ite rfl (fun hc2 => ?_) (fun hc2 => ?_) | refine WC.cond rfl (fun hc2 => ?_) (fun hc2 => ?_)
    · skip
      simp at hc2
    · skip
      refine WC.skip ?_
      refine Ret.normal (Ret.zero Try.results39 ?_)
      exact hk
theorem bcc_spec (hp : p = .pointer none ∨ p = pself b off) (h0 : cs[off]? = some p) (hl : liesAt Try.prog Try.prog.depth e (cs.length / Try.prog.cellsOf e) off 72 1 = true) (hk : POST (.tuple #[]) R (rowC b e (cs.set off (pself b off)) :: O)) :
    Fun Try.prog 39 #[pself b off] R (rowC b e cs :: O) POST := by
  rcases hp with rfl | rfl
  · exact bcc_new h0 hl hk
  · exact bcc_used h0 hk
set_option maxRecDepth 20000 in
theorem bws_spec {s : List UInt8} (hp : p = .pointer none ∨ p = pself b off) (h0 : cs[off]? = some p) (h1 : cs[off + 1]? = some v) (hl : liesAt Try.prog Try.prog.depth e (cs.length / Try.prog.cellsOf e) off 72 1 = true) (hsz : bs.length + s.length ≤ 140737488355328)
    (hk : ∀ v', OneV v' → POST (.tuple #[.int .i64 s.length, .nilIface]) R (rowC b e ((cs.set off (pself b off)).set (off + 1) v') :: accC 5 1 (one vy) v' (bs ++ s) :: O)) :
    Fun Try.prog 31 #[pself b off, vs s] R (rowC b e cs :: accC 5 1 (one vy) v bs :: O) POST := by
  have hlt := (List.getElem?_eq_some_iff.1 h1).1
  have h1' : (cs.set off (pself b off))[off + 1]? = some v := by rw [List.getElem?_set_ne (by omega)]; exact h1
  refine Fun.enter (l := [_, _]) Try.func31 rfl Try.ntmps31 rfl (L0 := [(0, _), (1, _)]) rfl ?_
  refine WC.seq ?_
  refine WC.region ?_
  refine WL.rd rfl rfl rfl (Rd.assign rfl rfl) ?_
  refine WL.rd rfl rfl rfl (Rd.assign rfl rfl) ?_
  refine WL.nil ?_
  refine thenQ.normal ?_
  refine WC.seq ?_
  refine WC.region ?_
  refine WL.rd rfl rfl rfl (Rd.move rfl rfl) ?_
  refine WL.op rfl ?_
  refine OpW.call rfl rfl (by repeat (first | exact Evs.nil | apply Evs.cons rfl)) (by kernel_rfl) rfl rfl rfl ?_
  refine bcc_spec hp h0 hl ?_
  refine WL.nil ?_
  refine thenQ.normal ?_
  refine WC.seq ?_
  refine WC.region ?_
  refine WL.rd rfl rfl rfl (Rd.move rfl rfl) ?_
  refine WL.rd rfl rfl rfl (Rd.move rfl rfl) ?_
  refine WL.rd rfl rfl rfl (Rd.nilc rfl rfl) ?_
  refine WL.rd rfl rfl rfl (Rd.field (off := off) (r := off + 1) rfl F72_1 rfl rfl) ?_
  refine WL.rd rfl rfl rfl (Rd.row1 (off := off + 1) rfl C23 rfl List.mem_cons_self h1') ?_
  refine WL.rd rfl rfl rfl (Rd.move rfl rfl) ?_
  refine WL.op rfl ?_
  refine OpW.appendStr rfl S23 Try.underlying9 rfl rfl (by repeat (first | assumption | exact Take.head _ | apply Take.tail)) ⟨by simp only [maxLen, List.length_append, List.length_nil, List.length_cons, List.length_drop, List.length_take, List.length_map]; omega, by first | omega | (simp only [List.length_append, List.length_nil, List.length_cons, List.length_drop, List.length_take, List.length_map]; omega)⟩ rfl rfl ?_; intro v14 hv14
  refine WL.rd rfl rfl rfl (Rd.nilc rfl rfl) ?_
  refine WL.rd rfl rfl rfl (Rd.field (off := off) (r := off + 1) rfl F72_1 rfl rfl) ?_
  refine WL.op rfl ?_
  refine OpW.store1 (off := off + 1) rfl Z23 rfl rfl hv14 (by repeat (first | assumption | exact Take.head _ | apply Take.tail)) (by rw [List.length_set]; exact hlt) rfl ?_
  refine WL.nil ?_
  refine thenQ.normal ?_
  refine WC.seq ?_
  refine WC.region ?_
  refine WL.rd rfl rfl rfl (Rd.move rfl rfl) ?_
  refine WL.rd rfl rfl rfl (Rd.slen (ts := #[]) (ty := 0) rfl rfl Try.underlying9) ?_
  refine WL.rd rfl rfl rfl (Rd.assign rfl rfl) ?_
  refine WL.rd rfl rfl rfl (Rd.assign rfl rfl) ?_
  refine WL.nil ?_
  refine thenQ.normal ?_
  refine WC.ret (Ret.two Try.results31 rfl rfl ?_)
  exact hk _ hv14
set_option maxRecDepth 20000 in
theorem blen_spec (h1 : cs[off + 1]? = some v) (hk : POST (.int .i64 (bs.length : Nat)) R (rowC b e cs :: accC 5 1 (one vy) v bs :: O)) :
    Fun Try.prog 69 #[pself b off] R (rowC b e cs :: accC 5 1 (one vy) v bs :: O) POST := by
  refine Fun.enter (l := [_]) Try.func69 rfl Try.ntmps69 rfl (L0 := [(0, _)]) rfl ?_
  refine WC.seq ?_
  refine WC.region ?_
  refine WL.rd rfl rfl rfl (Rd.assign rfl rfl) ?_
  refine WL.nil ?_
  refine thenQ.normal ?_
  refine WC.seq ?_
  refine WC.region ?_
  refine WL.rd rfl rfl rfl (Rd.move rfl rfl) ?_
  refine WL.rd rfl rfl rfl (Rd.nilc rfl rfl) ?_
  refine WL.rd rfl rfl rfl (Rd.field (off := off) (r := off + 1) rfl F72_1 rfl rfl) ?_
  refine WL.rd rfl rfl rfl (Rd.row1 (off := off + 1) rfl C23 rfl List.mem_cons_self h1) ?_
  refine WL.rd rfl rfl rfl ((by first | exact Rd.lenE rfl rfl Try.underlying23 (by repeat (first | assumption | exact mS | apply mT)) | exact Rd.lenA rfl rfl Try.underlying23 (by repeat (first | assumption | exact mS | apply mT)) | exact Rd.len rfl rfl Try.underlying23)) ?_
  refine WL.rd rfl rfl rfl (Rd.assign rfl rfl) ?_
  refine WL.nil ?_
  refine thenQ.normal ?_
  refine WC.ret (Ret.one Try.results69 rfl ?_)
  exact hk
set_option maxRecDepth 20000 in
theorem bstr_spec (h1 : cs[off + 1]? = some v) (hk : POST (vs bs) R (rowC b e cs :: O)) :
    Fun Try.prog 32 #[pself b off] R (rowC b e cs :: accC 5 1 (one vy) v bs :: O) POST := by
  refine Fun.enter (l := [_]) Try.func32 rfl Try.ntmps32 rfl (L0 := [(0, _)]) rfl ?_
  refine WC.seq ?_
  refine WC.region ?_
  refine WL.rd rfl rfl rfl (Rd.assign rfl rfl) ?_
  refine WL.nil ?_
  refine thenQ.normal ?_
  refine WC.seq ?_
  refine WC.drawn (rowC b e cs :: O) 12 rfl mixed ?_
  refine WD.take 0 rfl (by kernel_rfl) (Held.mk' (by repeat (first | exact SubL.refl | refine SubL.cons (by repeat (first | assumption | exact mS | apply mT)) ?_ | refine SubL.skip ?_)) (by repeat (first | exact OwnL.refl | apply OwnL.take (by repeat (first | exact Take.head _ | apply Take.tail)) | apply OwnL.drop))) rfl rfl rfl (Rd.move rfl rfl) ?_
  refine WD.take 1 rfl (by kernel_rfl) (Held.mk' (by repeat (first | exact SubL.refl | refine SubL.cons (by repeat (first | assumption | exact mS | apply mT)) ?_ | refine SubL.skip ?_)) (by repeat (first | exact OwnL.refl | apply OwnL.take (by repeat (first | exact Take.head _ | apply Take.tail)) | apply OwnL.drop))) rfl rfl rfl (Rd.nilc rfl rfl) ?_
  refine WD.take 2 rfl (by kernel_rfl) (Held.mk' (by repeat (first | exact SubL.refl | refine SubL.cons (by repeat (first | assumption | exact mS | apply mT)) ?_ | refine SubL.skip ?_)) (by repeat (first | exact OwnL.refl | apply OwnL.take (by repeat (first | exact Take.head _ | apply Take.tail)) | apply OwnL.drop))) rfl rfl rfl (Rd.field (off := off) (r := off + 1) rfl F72_1 rfl rfl) ?_
  refine WD.take 3 rfl (by kernel_rfl) (Held.mk' (by repeat (first | exact SubL.refl | refine SubL.cons (by repeat (first | assumption | exact mS | apply mT)) ?_ | refine SubL.skip ?_)) (by repeat (first | exact OwnL.refl | apply OwnL.take (by repeat (first | exact Take.head _ | apply Take.tail)) | apply OwnL.drop))) rfl rfl rfl (Rd.row1 (off := off + 1) rfl C23 rfl List.mem_cons_self h1) ?_
  refine WD.take 5 rfl (by kernel_rfl) (Held.mk' (by repeat (first | exact SubL.refl | refine SubL.cons (by repeat (first | assumption | exact mS | apply mT)) ?_ | refine SubL.skip ?_)) (by repeat (first | exact OwnL.refl | apply OwnL.take (by repeat (first | exact Take.head _ | apply Take.tail)) | apply OwnL.drop))) rfl rfl rfl (Rd.move rfl rfl) ?_
  refine WD.take 6 rfl (by kernel_rfl) (Held.mk' (by repeat (first | exact SubL.refl | refine SubL.cons (by repeat (first | assumption | exact mS | apply mT)) ?_ | refine SubL.skip ?_)) (by repeat (first | exact OwnL.refl | apply OwnL.take (by repeat (first | exact Take.head _ | apply Take.tail)) | apply OwnL.drop))) rfl rfl rfl (Rd.nilc rfl rfl) ?_
  refine WD.take 7 rfl (by kernel_rfl) (Held.mk' (by repeat (first | exact SubL.refl | refine SubL.cons (by repeat (first | assumption | exact mS | apply mT)) ?_ | refine SubL.skip ?_)) (by repeat (first | exact OwnL.refl | apply OwnL.take (by repeat (first | exact Take.head _ | apply Take.tail)) | apply OwnL.drop))) rfl rfl rfl (Rd.field (off := off) (r := off + 1) rfl F72_1 rfl rfl) ?_
  refine WD.take 8 rfl (by kernel_rfl) (Held.mk' (by repeat (first | exact SubL.refl | refine SubL.cons (by repeat (first | assumption | exact mS | apply mT)) ?_ | refine SubL.skip ?_)) (by repeat (first | exact OwnL.refl | apply OwnL.take (by repeat (first | exact Take.head _ | apply Take.tail)) | apply OwnL.drop))) rfl rfl rfl (Rd.row1 (off := off + 1) rfl C23 rfl List.mem_cons_self h1) ?_
  refine WD.two 4 9 rfl rfl (by kernel_rfl) rfl rfl ?_ ?_
  · skip
    refine OpW.sliceData rfl Try.underlying86 rfl (by repeat (first | assumption | exact mS | apply mT)) rfl rfl ?_; intro q7 hq7
    refine ⟨(Held.mk' (by repeat (first | exact SubL.refl | refine SubL.cons (by repeat (first | assumption | exact mS | apply mT)) ?_ | refine SubL.skip ?_)) (by repeat (first | exact OwnL.refl | apply OwnL.take (by repeat (first | exact Take.head _ | apply Take.tail)) | apply OwnL.drop))), ?_⟩
    refine WD.one 9 rfl (by kernel_rfl) rfl ?_
    refine OpW.rd rfl rfl ((by first | exact Rd.lenE rfl rfl Try.underlying23 (by repeat (first | assumption | exact mS | apply mT)) | exact Rd.lenA rfl rfl Try.underlying23 (by repeat (first | assumption | exact mS | apply mT)) | exact Rd.len rfl rfl Try.underlying23)) ?_
    refine ⟨(Held.mk' (by repeat (first | exact SubL.refl | refine SubL.cons (by repeat (first | assumption | exact mS | apply mT)) ?_ | refine SubL.skip ?_)) (by repeat (first | exact OwnL.refl | apply OwnL.take (by repeat (first | exact Take.head _ | apply Take.tail)) | apply OwnL.drop))), ?_⟩
    refine WD.one 10 rfl (by kernel_rfl) rfl ?_
    refine OpW.unsafeStr rfl Try.underlying86 (by kernel_rfl) rfl rfl rfl rfl (by repeat (first | assumption | exact Take.head _ | apply Take.tail)) hq7 rfl rfl ?_
    refine ⟨(Held.mk' (by repeat (first | exact SubL.refl | refine SubL.cons (by repeat (first | assumption | exact mS | apply mT)) ?_ | refine SubL.skip ?_)) (by repeat (first | exact OwnL.refl | apply OwnL.take (by repeat (first | exact Take.head _ | apply Take.tail)) | apply OwnL.drop))), ?_⟩
    refine WD.take 11 rfl (by kernel_rfl) (Held.mk' (by repeat (first | exact SubL.refl | refine SubL.cons (by repeat (first | assumption | exact mS | apply mT)) ?_ | refine SubL.skip ?_)) (by repeat (first | exact OwnL.refl | apply OwnL.take (by repeat (first | exact Take.head _ | apply Take.tail)) | apply OwnL.drop))) rfl rfl rfl (Rd.assign rfl rfl) ?_
    refine WD.done (by kernel_rfl) ?_
    refine thenQ.normal ?_
    refine WC.ret (Ret.one Try.results32 rfl ?_)
    exact hk
  · skip
    refine OpW.rd rfl rfl ((by first | exact Rd.lenE rfl rfl Try.underlying23 (by repeat (first | assumption | exact mS | apply mT)) | exact Rd.lenA rfl rfl Try.underlying23 (by repeat (first | assumption | exact mS | apply mT)) | exact Rd.len rfl rfl Try.underlying23)) ?_
    refine ⟨(Held.mk' (by repeat (first | exact SubL.refl | refine SubL.cons (by repeat (first | assumption | exact mS | apply mT)) ?_ | refine SubL.skip ?_)) (by repeat (first | exact OwnL.refl | apply OwnL.take (by repeat (first | exact Take.head _ | apply Take.tail)) | apply OwnL.drop))), ?_⟩
    refine WD.one 4 rfl (by kernel_rfl) rfl ?_
    refine OpW.sliceData rfl Try.underlying86 rfl (by repeat (first | assumption | exact mS | apply mT)) rfl rfl ?_; intro q7 hq7
    refine ⟨(Held.mk' (by repeat (first | exact SubL.refl | refine SubL.cons (by repeat (first | assumption | exact mS | apply mT)) ?_ | refine SubL.skip ?_)) (by repeat (first | exact OwnL.refl | apply OwnL.take (by repeat (first | exact Take.head _ | apply Take.tail)) | apply OwnL.drop))), ?_⟩
    refine WD.one 10 rfl (by kernel_rfl) rfl ?_
    refine OpW.unsafeStr rfl Try.underlying86 (by kernel_rfl) rfl rfl rfl rfl (by repeat (first | assumption | exact Take.head _ | apply Take.tail)) hq7 rfl rfl ?_
    refine ⟨(Held.mk' (by repeat (first | exact SubL.refl | refine SubL.cons (by repeat (first | assumption | exact mS | apply mT)) ?_ | refine SubL.skip ?_)) (by repeat (first | exact OwnL.refl | apply OwnL.take (by repeat (first | exact Take.head _ | apply Take.tail)) | apply OwnL.drop))), ?_⟩
    refine WD.take 11 rfl (by kernel_rfl) (Held.mk' (by repeat (first | exact SubL.refl | refine SubL.cons (by repeat (first | assumption | exact mS | apply mT)) ?_ | refine SubL.skip ?_)) (by repeat (first | exact OwnL.refl | apply OwnL.take (by repeat (first | exact Take.head _ | apply Take.tail)) | apply OwnL.drop))) rfl rfl rfl (Rd.assign rfl rfl) ?_
    refine WD.done (by kernel_rfl) ?_
    refine thenQ.normal ?_
    refine WC.ret (Ret.one Try.results32 rfl ?_)
    exact hk
end
end Go.Proofs.Ytnpkpcjiebiplaa
