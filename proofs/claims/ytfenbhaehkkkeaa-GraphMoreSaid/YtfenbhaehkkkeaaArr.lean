/-
  Arrays, package-level tables that are only read, and some rules of operations on 32 bits. No program is in sight.
-/
import Derived.Test.YtfenbhaehkkkeaaMem
import Derived.Lib.LaidTab
namespace Go.SL
open Go

structure ArT (P : Program) (t : TypeId) (n : Nat) (e : TypeId) (size : Nat) : Prop where
  und : P.underlying t = some (.array n e)
  sz : ∀ w, (Go.sizeOf e).run P w = .ok size w
/-- Block g holds these cells from its beginning on. -/
def garr (g : Nat) (cells : List Value) : RO := fun w => ∀ (j : Nat) (u : Value), cells[j]? = some u → w.cell? ⟨g, j, none⟩ = some u
theorem garr_stable {W : World} {g : Nat} {cells : List Value} (h : garr g cells W) (w' : World) (ha : Agree (· ∈ owned []) W w') : garr g cells w' := fun j u hj => by
  have := h j u hj
  rw [← this]
  exact World.cell?_of_block (ha.2.2.2.2 _ (World.block_lt_of_cell? W _ this) (by simp [owned]))
theorem garr_tab {P : Program} {W : World} {name : String} {k : IntKind} {zs : List Int} {g : Nat} (h : Lib.TabIs P W name k zs) (hg : P.globalNamed name = some g) : garr g (zs.map fun z => .int k z) W := fun j u hj => by
  have hl := (List.getElem?_eq_some_iff.1 hj).1
  rw [List.length_map] at hl
  rw [h.cell hg j hl]
  rw [List.getElem?_map, List.getElem?_eq_getElem hl] at hj
  rw [List.getD_eq_getElem?_getD, List.getElem?_eq_getElem hl]
  exact hj

section rules
variable {P : Program} {o : Oper} {L : Env} {R : List RO} {O : List Own} {t e : TypeId} {n size : Nat} {x y : Operand} {v u : Value} {b off : Nat}
theorem Rd.idxArr {kd : IntKind} {k r : Nat} {p : Int} (ho : o.op = .indexAddr t x y) (hT : ArT P t n e size) (hx : ev L x = some (.pointer (some ⟨b, off, none⟩))) (hy : ev L y = some (.int kd p)) (hk : p = (k : Int)) (hlt : k < n) (hr : off + k * size = r) : Rd P o L R O (.pointer (some ⟨b, r, none⟩)) := fun ρ w hρ _ _ => by
  subst hk; subst hr
  have h1 : (0 : Int) ≤ (k : Int) ∧ (k : Int) < (n : Int) := ⟨by omega, by omega⟩
  simp [execOp, ho, hρ _ _ hx, hρ _ _ hy, Instr.indexAt, asIntOf, run_underlying hT.und, Instr.sureAddr, h1, hlt, hT.sz, add_spot, Result.andThen]
theorem Rd.idxArr1 {kd : IntKind} {k : Nat} {p : Int} (ho : o.op = .indexAddr t x y) (hT : ArT P t n e 1) (hx : ev L x = some (.pointer (some ⟨b, 0, none⟩))) (hy : ev L y = some (.int kd p)) (hk : p = (k : Int)) (hlt : k < n) : Rd P o L R O (.pointer (some ⟨b, k, none⟩)) :=
  Rd.idxArr ho hT hx hy hk hlt (by rw [Nat.mul_one, Nat.zero_add])
theorem Rd.getGl {cells : List Value} (ho : o.op = .load t x) (hc : Cell1 P t) (hx : ev L x = some (.pointer (some ⟨b, off, none⟩))) (hp : garr b cells ∈ R) (hk : cells[off]? = some u) : Rd P o L R O u := fun ρ w hρ hR _ => by
  have h := run_load1 (P := P) hc (hR _ hp off u hk)
  simp only [execOp, ho, hρ _ _ hx, Sem.run_bind, h, Result.andThen_ok, Sem.run_pure]
/-- All bits of a number turned over. -/
theorem Rd.bnotU {k : IntKind} {p : Int} {a : Nat} (ho : o.op = .unOp .xor t x) (hx : ev L x = some (.int k p)) (hs : k.signed = false) (hp : p = (a : Int)) (ha : a < 2 ^ k.bits) (hm : k.max = ((2 ^ k.bits - 1 : Nat) : Int)) : Rd P o L R O (.int k ((2 ^ k.bits - 1 - a : Nat) : Int)) := fun ρ w hρ _ _ => by
  have hpos : 0 < 2 ^ k.bits := Nat.pow_pos (by decide)
  have h1 := ofInt_toNat (n := k.bits) (a := 2 ^ k.bits - 1) (by omega)
  have h2 := ofInt_toNat (n := k.bits) (a := a) ha
  have h3 := wrap_natU (k := k) (a := 2 ^ k.bits - 1 - a) hs (by omega)
  have h4 : (2 ^ k.bits - 1) ^^^ a = 2 ^ k.bits - 1 - a := by
    have := congrArg BitVec.toNat (BitVec.allOnes_xor (x := BitVec.ofNat k.bits a))
    rw [BitVec.toNat_xor, BitVec.toNat_allOnes, BitVec.toNat_not, BitVec.toNat_ofNat, Nat.mod_eq_of_lt ha] at this
    exact this
  have e1 : (BitVec.ofInt k.bits (((2 ^ k.bits - 1 : Nat) : Int)) ^^^ BitVec.ofInt k.bits (a : Int)).toNat = 2 ^ k.bits - 1 - a := by
    rw [BitVec.toNat_xor, h1, h2, h4]
  have e : (Op.unary .xor (.int k p)).run P w = .ok (.int k ((2 ^ k.bits - 1 - a : Nat) : Int)) w := by
    subst hp
    simp only [Op.unary, hs, Bool.false_eq_true, if_false, hm]
    show Result.ok (Value.int k (k.wrap ((BitVec.ofInt k.bits (((2 ^ k.bits - 1 : Nat) : Int)) ^^^ BitVec.ofInt k.bits (a : Int)).toNat : Nat))) w = _
    rw [e1, h3]
  simp only [execOp, ho, hρ _ _ hx, Sem.run_bind, e, Result.andThen_ok, Sem.run_pure]
end rules
end Go.SL
