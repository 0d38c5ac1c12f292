/-
  Keys of maps that are structs of two texts.
-/
import Derived.Test.YtnpkpcjiebiplaaMap
namespace Go.SL
open Go Go.RowKit
abbrev vp (a : List UInt8 × List UInt8) : Value := .agg #[vs a.1, vs a.2]
theorem sameBits_vs (n : Nat) (a : List UInt8) : Instr.sameBits n (vs a) (vs a) = true := by cases n <;> simp only [Instr.sameBits, vs, bytes_beq_list, decide_true]
theorem run_part1 {P : Program} {t : TypeId} (hc : Cell1 P t) {cs : Array Value} {i : Nat} {u : Value} (h : cs[i]? = some u) (w : World) : (part t cs i).run P w = .ok u w := by
  simp [Go.part, hc w, h]
theorem KeyT.two {P : Program} {t : TypeId} {f0 f1 : Field} (hU : P.underlying t = some (.struct #[f0, f1])) (h0 : P.underlying f0.type = some .string) (h1 : P.underlying f1.type = some .string)
    (c0 : Cell1 P f0.type) (c1 : Cell1 P f1.type) (o0 : f0.offset = 0) (o1 : f1.offset = 1)
    (hE : ∀ a b : List UInt8 × List UInt8, EqS P t #[vs a.1, vs a.2] #[vs b.1, vs b.2] (a = b)) : KeyT P t vp := by
  refine ⟨fun w e k => ?_, fun w k => ?_, fun w venc l k => ?_⟩
  · have e0 : ∀ n w, (Instr.checkKey e (n + 1) f0.type (vs k.1)).run P w = .ok () w := fun n w => by rw [Instr.checkKey]; simp [run_underlying h0]
    have e1 : ∀ n w, (Instr.checkKey e (n + 1) f1.type (vs k.2)).run P w = .ok () w := fun n w => by rw [Instr.checkKey]; simp [run_underlying h1]
    have p0 := fun w => run_part1 (P := P) c0 (cs := #[vs k.1, vs k.2]) (i := 0) rfl w
    have p1 := fun w => run_part1 (P := P) c1 (cs := #[vs k.1, vs k.2]) (i := 1) rfl w
    rw [show (10000 : Nat) = 9998 + 1 + 1 from rfl, Instr.checkKey]
    simp only [Sem.run_bind, run_underlying hU, Result.andThen_ok]
    simp [o0, o1]
    by_cases n0 : f0.name = "_" <;> by_cases n1 : f1.name = "_" <;> simp [n0, n1, p0, p1, e0, e1, Sem.run_bind, Result.andThen]
  · have : Instr.sameBits 10000 (vp k) (vp k) = true := by
      rw [show (10000 : Nat) = 9999 + 1 from rfl, Instr.sameBits]
      simp [sameBits_vs]
    simp [Instr.keyThatStays, this]
  · have key : ∀ (l : List ((List UInt8 × List UInt8) × _ × Nat)) (i : Nat) (w : World), (Instr.findAsking t (vp k) (l.map (ent vp venc)) i).run P w = .ok ((GoMap.gfind l k i).map fun q => (q.1, venc q.2)) w := by
      intro l
      induction l with
      | nil => intro i w; simp [Instr.findAsking, GoMap.gfind]
      | cons x r ih =>
        intro i w
        rw [List.map_cons, Instr.findAsking, GoMap.gfind]
        have h : (Op.equal t (vp k) (vp x.1)).run P w = .ok (decide (k = x.1)) w := (hE k x.1).1 w
        by_cases e : x.1 = k
        · rw [decide_eq_true e.symm] at h
          rw [e] at h; simp [ent, h, e]
        · rw [decide_eq_false (fun g => e g.symm)] at h
          have := ih (i + 1) w
          rw [show (ent vp venc x).key = vp x.1 from rfl]
          simp only [Sem.run_bind, h, Result.andThen_ok, this, Bool.false_eq_true, if_false, if_neg e]
    cases l with
    | nil => simp [Instr.findKey, run_underlying hU, Instr.findNow, GoMap.gfind]
    | cons x r =>
      have := key (x :: r) 0 w
      simp only [List.map_cons] at this
      simp [Instr.findKey, run_underlying hU, Instr.findNow, Instr.sameNow, this]
end Go.SL
