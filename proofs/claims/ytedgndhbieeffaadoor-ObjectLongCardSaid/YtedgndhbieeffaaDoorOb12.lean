/-
  Layer 11: the law's helpers: id, objects, big, same.
-/
import Derived.Test.YtedgndhbieeffaaDoorOb11
import Derived.Test.YtedgndhbieeffaaDoorOpw
namespace Go.SL
open Go Go.RowKit
section
variable {P : Program} {o : Oper} {L : Env} {R : List RO} {O : List Own} {t e : TypeId} {n size1 : Nat} {x y : Operand} {v : Value} {α : Type} {enc : α → List Value} {xs : List α}
/-- A part of an array that is a slice's element. -/
theorem Rd.idxArrE {kd : IntKind} {k j fo : Nat} {p : Int} (ho : o.op = .indexAddr t x y) (hT : ArT P t n e size1) (hx : ev L x = some (.pointer (some (elemAddr v j)))) (hy : ev L y = some (.int kd p)) (hk : p = (k : Int)) (hlt : k < n) (hfo : k * size1 = fo) (hp : SlE enc v xs ∈ R) (hne : 0 < xs.length) : Rd P o L R O (.pointer (some (elemAddr v (j + fo)))) := fun ρ w hρ hR hO => by
  obtain ⟨o', c, rfl, _, _, hn, _⟩ := hR _ hp
  obtain ⟨ad, rfl⟩ : ∃ ad, o' = some ad := by
    cases o' with
    | none => have h0 := hn rfl; omega
    | some ad => exact ⟨ad, rfl⟩
  have h := Rd.idxArr (P := P) (o := o) (L := L) (R := R) (O := O) (b := ad.block) (off := ad.off + j) (r := ad.off + (j + fo)) ho hT hx hy hk hlt (by omega) ρ w hρ hR hO
  exact h
end
end Go.SL
namespace Go.Proofs.YtedgndhbieeffaaDoor
open Go Go.SL Go.RowKit

structure OX where
  kind : Int
  body : List UInt8
  ents : Value × List ET
  tree : List UInt8
  pars : Value × List (List UInt8)
  author : List UInt8
  text : List UInt8
  time : Int
  target : List UInt8
  name : List UInt8
  raw : Bool
abbrev oxC (x : OX) : List Value := [.int .i64 x.kind, vs x.body, x.ents.1, vs x.tree, x.pars.1, vs x.author, vs x.text, .int .i64 x.time, vs x.target, vs x.name, .bool x.raw]
def idE (raw : Bool) (s : List UInt8) : List UInt8 := if raw = true ∨ s = [] then s.take 100 else (s ++ List.replicate 32 0).take 32
def entsX (x : OX) (n : Nat) : List ET := (x.ents.2.take n).map fun e => (e.1, idE x.raw e.2)
def parsX (x : OX) (n : Nat) : List (List UInt8) := (x.pars.2.take n).map (idE x.raw)
def obX (x : OX) : Ob := ⟨x.kind, x.body, entsX x 20, idE x.raw x.tree, parsX x 20, x.author, x.text, x.time, idE x.raw x.target, x.name⟩
def Fits (x : OX) : Prop := x.body.length ≤ 140737488351232 ∧ x.tree.length ≤ 140737488351232 ∧ x.author.length ≤ 140737488351232 ∧ x.text.length ≤ 140737488351232 ∧ x.target.length ≤ 140737488351232 ∧ x.name.length ≤ 140737488351232 ∧ (∀ e ∈ x.ents.2, e.1.length ≤ 140737488351232 ∧ e.2.length ≤ 140737488351232) ∧ ∀ e ∈ x.pars.2, e.length ≤ 140737488351232
theorem obX_names {x : OX} (h : Fits x) : Names (obX x) := by
  obtain ⟨_, _, _, _, _, h6, h7, _⟩ := h
  refine ⟨fun e he => ?_, by show x.name.length ≤ _; omega⟩
  obtain ⟨d, hd, rfl⟩ := List.mem_map.1 he
  have := (h7 d (List.mem_of_mem_take hd)).1
  show d.1.length ≤ _
  omega
instance (a b : Ob) : Decidable (a = b) :=
  decidable_of_iff (a.kind = b.kind ∧ a.body = b.body ∧ a.tree = b.tree ∧ a.author = b.author ∧ a.text = b.text ∧ a.time = b.time ∧ a.target = b.target ∧ a.name = b.name ∧ a.ents = b.ents ∧ a.pars = b.pars)
    ⟨fun h => ob_ext h.1 h.2.1 h.2.2.2.2.2.2.2.2.1 h.2.2.1 h.2.2.2.2.2.2.2.2.2 h.2.2.2.1 h.2.2.2.2.1 h.2.2.2.2.2.1 h.2.2.2.2.2.2.1 h.2.2.2.2.2.2.2.1, fun h => by rw [h]; exact ⟨rfl, rfl, rfl, rfl, rfl, rfl, rfl, rfl, rfl, rfl⟩⟩
theorem eq_take {α : Type} [Inhabited α] {a b : List α} (hl : a.length = b.length) (h : ∀ j, j < b.length → a[j]! = b[j]!) : a = b := by
  refine List.ext_getElem hl (fun j h1 h2 => ?_)
  have := h j h2
  rwa [getElem!_pos a j h1, getElem!_pos b j h2] at this
section
variable {R : List RO} {O : List Own} {POST : Value → List RO → List Own → Prop} {b : Nat}
end
end Go.Proofs.YtedgndhbieeffaaDoor
