/-
  Values behind interfaces: a method called through one; what is put behind one, and taken out again. No program is in sight.
-/
import Derived.Test.YtfenbhaehkkkeaaMem
import Derived.Test.YtfenbhaehkkkeaaAcc
namespace Go.SL
open Go Go.RowKit
section
variable {P : Program} {n : Sz} {o : Oper} {L : Env} {R : List RO} {O O' : List Own} {K : Env → List RO → List Own → Prop} {t t' e te : TypeId} {x y u : Operand} {v z : Value}
/-- What a method's name means for a value's type and the heap that is known. -/
def Meth (P : Program) (R : List RO) (O : List Own) (ty : TypeId) (rv : Value) (name : String) (f : FuncId) (recv : Value) : Prop :=
  ∀ w, (∀ p ∈ R, p w) → (∀ c ∈ O, c.pred w) → (method (P.types.size + Made.depth) ty rv name).run P w = .ok (f, recv) w
theorem OpW.invoke {f : FuncId} {ty : TypeId} {rv recv : Value} {name : String} {xs : List Operand} {as : List Value} {ts : Array TypeId} {d : Nat} (ho : o.op = .call { callee := .invoke x name, args := xs.toArray, argTypes := ts })
    (hx : ev L x = some (.iface ty rv)) (has : Evs L xs as) (hm : Meth P R O ty rv name f recv) (hb : hasBody P f = true) (hd : o.dst = some d) (hn : Nat.blt d n.n = true)
    (h : Fun P f (recv :: as).toArray R O (fun v R' O' => K ((d, v) :: L) R' O')) : OpW P n o L R O K := by
  intro a w hf hs Q
  have e1 : a.eval x = _ := hf.ev hx
  have e2 := has.eval (ρ := a.eval) (fun x u hx => hf.ev hx)
  have e3 := hm w (fun p hp => hs.read hp) (fun c hc => hs.see hc)
  unfold Oper.wp
  have hr : (execOp a.eval o).run P w = .ok (.enter f (recv :: as).toArray) w := by
    have e4 : (#[Value.iface ty rv] ++ as.toArray).extract 1 (#[Value.iface ty rv] ++ as.toArray).size = as.toArray := by
      apply Array.ext'; simp
    have e5 : (#[Value.iface ty rv] ++ as.toArray)[0]? = some (Value.iface ty rv) := by simp
    have e6 : #[recv] ++ as.toArray = (recv :: as).toArray := by simp
    have ep : ∀ w, (program : Sem Program).run P w = .ok P w := fun w => by simp
    simp only [execOp, ho, resolve, e1, List.map_toArray, e2, Sem.run_bind, Sem.run_pure, Result.andThen_ok, Go.invoke, e5, callMethod, e4, ep, e3, e6, run_callFunc hb]
  rw [hr, Oper.upon_enter]
  exact (h w hs).mono fun e w' ⟨v, R', O', he, hk, hs'⟩ => by
    subst he
    rw [hd]
    exact ⟨_, _, _, hk, hf.put hn v, hs'⟩
end
section
variable {P : Program} {o : Oper} {L : Env} {R : List RO} {O : List Own} {t t' e te : TypeId} {x y : Operand} {v z : Value}
/-- A pointer's own method. -/
theorem Meth.ptr {ty : TypeId} {ad : Addr} {name : String} {f : FuncId} {d : TypeId} (hm' : ((P.info? ty).bind (fun i => i.methods.find? (·.name == name))).map (fun m => (m.path, m.func)) = some (#[], some (f, true))) (hU : P.underlying ty = some (.pointer d)) :
    Meth P R O ty (.pointer (some ad)) name f (.pointer (some ad)) := fun w _ _ => by
  obtain ⟨m, hm, hpf⟩ := Option.map_eq_some_iff.1 hm'
  simp only [Prod.mk.injEq] at hpf
  obtain ⟨hp, hf⟩ := hpf
  obtain ⟨i, hi, hfi⟩ := Option.bind_eq_some_iff.1 hm
  rw [show P.types.size + Made.depth = (P.types.size + (Made.depth - 1)) + 1 from rfl, method]
  simp [typeInfo, hi, hfi, hp, hf, follow, receiverAt, run_underlying hU, Place.get]
theorem run_wrapnil {P : Program} {ts : Array TypeId} {ty : TypeId} {ad : Addr} {s m : ByteArray} (w : World) : (Builtin.ssaWrapNilChk_ ts ty #[.pointer (some ad), .string s, .string m]).run P w = .ok (.pointer (some ad)) w := rfl
/-- A value's method through a pointer to it. -/
theorem Meth.val {ty : TypeId} {ad : Addr} {name : String} {f : FuncId} {d : TypeId} (hm' : ((P.info? ty).bind (fun i => i.methods.find? (·.name == name))).map (fun m => (m.path, m.func)) = some (#[], some (f, false))) (hU : P.underlying ty = some (.pointer d))
    (hv : ∀ w, (∀ p ∈ R, p w) → (∀ c ∈ O, c.pred w) → (loadVar d ad).run P w = .ok v w) : Meth P R O ty (.pointer (some ad)) name f v := fun w hR hO => by
  obtain ⟨m, hm, hpf⟩ := Option.map_eq_some_iff.1 hm'
  simp only [Prod.mk.injEq] at hpf
  obtain ⟨hp, hf⟩ := hpf
  obtain ⟨i, hi, hfi⟩ := Option.bind_eq_some_iff.1 hm
  rw [show P.types.size + Made.depth = (P.types.size + (Made.depth - 1)) + 1 from rfl, method]
  simp [typeInfo, hi, hfi, hp, hf, follow, receiverAt, run_underlying hU, Place.get, strVal, run_wrapnil, asAddr, hv w hR hO]
theorem Meth.row {ty : TypeId} {name : String} {f : FuncId} {d : TypeId} {b off : Nat} {cs : List Value} (hm' : ((P.info? ty).bind (fun i => i.methods.find? (·.name == name))).map (fun m => (m.path, m.func)) = some (#[], some (f, false))) (hU : P.underlying ty = some (.pointer d))
    (hc : Cell1 P d) (hO : rowC b e cs ∈ O) (hk : cs[off]? = some v) : Meth P R O ty (.pointer (some ⟨b, off, none⟩)) name f v :=
  Meth.val hm' hU (fun w _ h => by
    have := run_load1 (P := P) hc (row_cell (h _ hO) hk)
    simpa [Instr.loadAt, Instr.sureAddr] using this)
theorem Rd.iface {d : TypeDesc} (ho : o.op = .makeInterface t x) (hU : P.underlying t = some d) (hd : (match d with | .interface _ => true | _ => false) = false) (hx : ev L x = some v) : Rd P o L R O (.iface t v) := fun ρ w hρ _ _ => by
  simp only [execOp, ho, hρ _ _ hx, Instr.makeInterface, Sem.run_bind, run_underlying hU, Result.andThen_ok]
  cases d <;> simp_all
theorem Rd.assertT {d : TypeDesc} (ho : o.op = .typeAssert x t' t false) (hU : P.underlying t = some d) (hd : (match d with | .interface _ => true | _ => false) = false) (hx : ev L x = some (.iface t v)) : Rd P o L R O v := fun ρ w hρ _ _ => by
  simp only [execOp, ho, hρ _ _ hx, Instr.typeAssert, Sem.run_bind, run_underlying hU, Result.andThen_ok]
  cases d <;> simp_all
end
end Go.SL
