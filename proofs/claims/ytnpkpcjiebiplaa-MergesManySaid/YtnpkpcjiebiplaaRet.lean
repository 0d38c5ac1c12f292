/-
  Results of which some stand in rows of the call's own. No program is in sight.
-/
import Derived.Test.YtnpkpcjiebiplaaLib
namespace Go.SL
open Go Go.RowKit
section ret
variable {P : Program} {fn : Func} {n : Sz} {L : Env} {R : List RO} {O : List Own} {post : Value → List RO → List Own → Prop}
theorem Ret.cellTmp {p t : Tmp} {ty : TypeId} {size b : Nat} {e : TypeId} {cs : List Value} {v : Value} (hr : fn.results = #[.cell p ty, .tmp t]) (ht : Env.find L p = some (.pointer (some ⟨b, 0, none⟩))) (h2 : Env.find L t = some v) (hp : rowC b e cs ∈ O) (hG : Agg P ty size) (hl : cs.length = size) (h : post (.tuple #[.agg cs.toArray, v]) R O) : retQ P fn n post .ret L R O :=
  ⟨_, fun a w _ hf ⟨_, hs⟩ => by
    have e1 := getD_of hf ht
    have e3 := getD_of hf h2
    have e2 := run_loadVar_agg hG hl (hs.see (List.mem_append_right _ hp))
    simp only [Array.getD_eq_getD_getElem?] at e1 e3
    simp [results, hr, e1, e3, asAddr, e2], h⟩
theorem Ret.cellCell {p q : Tmp} {ty ty' : TypeId} {size size' b b' : Nat} {e e' : TypeId} {cs cs' : List Value} (hr : fn.results = #[.cell p ty, .cell q ty']) (ht : Env.find L p = some (.pointer (some ⟨b, 0, none⟩))) (hq : Env.find L q = some (.pointer (some ⟨b', 0, none⟩))) (hp : rowC b e cs ∈ O) (hp' : rowC b' e' cs' ∈ O) (hG : Agg P ty size) (hl : cs.length = size) (hG' : Agg P ty' size') (hl' : cs'.length = size') (h : post (.tuple #[.agg cs.toArray, .agg cs'.toArray]) R O) : retQ P fn n post .ret L R O :=
  ⟨_, fun a w _ hf ⟨_, hs⟩ => by
    have e1 := getD_of hf ht
    have e3 := getD_of hf hq
    have e2 := run_loadVar_agg hG hl (hs.see (List.mem_append_right _ hp))
    have e4 := run_loadVar_agg hG' hl' (hs.see (List.mem_append_right _ hp'))
    simp only [Array.getD_eq_getD_getElem?] at e1 e3
    simp [results, hr, e1, e3, asAddr, e2, e4], h⟩
end ret
section
variable {P : Program} {o : Oper} {L : Env} {R : List RO} {O : List Own} {t t' : TypeId} {x y : Operand} {s r : List UInt8}
theorem Rd.sgeq (ho : o.op = .binOp .geq t x y t') (hx : ev L x = some (vs s)) (hy : ev L y = some (vs r)) : Rd P o L R O (.bool (!Op.bytesLess s r)) :=
  run_sbin ho hx hy fun w => by simp [binOp, Op.stringOp]
/-- A contract that reads what is there. -/
theorem Fun.belowR {f : FuncId} {args : Array Value} {post : Value → List RO → List Own → Prop} {v : Value} {p : RO} (hp : p ∈ R) (h : ∀ w, p w → Calls P f args w fun e w' => e = .returned v ∧ Below w.heap.size w w') (hk : post v R O) : Fun P f args R O post :=
  fun w hs => (h w (hs.read hp)).mono fun _ _ ⟨he, hb⟩ => ⟨v, R, O, he, hk, hs.below hb⟩
end
end Go.SL
