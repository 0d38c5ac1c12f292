/-
  copy into a row of the call's own; pieces of slices that are known. No program is in sight.
-/
import Derived.Test.YtedgndhbieeffaaMem
import Derived.Test.YtedgndhbieeffaaAcc
import Derived.Laws.CopyRow
namespace Go.SL
open Go
section
variable {P : Program} {n : Nat} {o : Oper} {L : Env} {R : List RO} {O O' : List Own} {K : Env → List RO → List Own → Prop} {t t' e : TypeId} {x y : Operand} {z : Value} {bytes : Nat}
theorem OpW.copyRow {b off dLen dCap sLen sCap d : Nat} {a : Addr} {cur cs : List Value} (ho : o.op = .call { callee := .builtin .copy, args := #[x, y], argTypes := #[t, t'] }) (hT : SlT P t e 1 bytes z)
    (hx : ev L x = some (.slice (some ⟨b, off, none⟩) dLen dCap)) (hy : ev L y = some (.slice (some a) sLen sCap)) (hO : Take (rowC b e cur) O O') (hcs : cs.length = Nat.min sLen dLen)
    (hsrc : ∀ w, (∀ p ∈ R, p w) → (∀ c ∈ O, c.pred w) → ∀ j v, cs[j]? = some v → w.cell? (a.add j) = some v) (hfit : off + cs.length ≤ cur.length) (h1 : ∀ v ∈ cs, v.oneCell' = true) (hd : o.dst = some d) (hn : Nat.blt d n = true)
    (k : K ((d, .int .i64 cs.length) :: L) R (rowC b e (cur.take off ++ cs ++ cur.drop (off + cs.length)) :: O')) : OpW P n o L R O K := by
  intro ac w hf hs Q
  have hs' := hs.perm hO.perm
  have hp : w.heap[b]? = some (.cells cur.toArray e (0, 0)) := hs'.see List.mem_cons_self
  obtain ⟨i, hi, _, hsize, _⟩ := hT.info
  have hrun := run_copy_row (P := P) w t t' o.type e b off dLen dCap a sLen sCap cur.toArray e cs hT.under (by rw [hi]; simp [hsize]) hp hcs (hsrc w (fun p hp => hs.read hp) (fun c hc => hs.see hc)) (by simpa using hfit) h1
  have hr : (execOp ac.eval o).run P w = .ok (.value (goInt cs.length)) (w.setRow b (cur.take off ++ cs ++ cur.drop (off + cs.length)).toArray) := by
    simp only [execOp, ho, resolve, invoke, builtin, hf.ev hx, hf.ev hy, Sem.run_bind, Sem.run_pure, Result.andThen_ok, List.map_toArray, List.map_cons, List.map_nil, hrun]
  unfold Oper.wp
  rw [hr, Oper.upon_value, hd]
  have hb : b < w.heap.size := (Array.getElem?_eq_some_iff.1 hp).1
  refine ⟨_, _, _, k, hf.put hn _, hs'.update _ ⟨rfl, rfl, rfl, by simp, fun j hj hne => setRow_other w b j _ (fun e' => hne (by simp [rowC, e']))⟩ (fun j hj => .inl hj) (fun j hj => by simp only [rowC, List.mem_singleton] at hj; subst hj; simpa using hb) (by simp [rowC]) (fun w'' ha _ => ?_)⟩
  show w''.heap[b]? = _
  rw [ha.2.2.2.2 b (by simpa using hb) (by simp [rowC])]
  exact setRow_heap w b _ _ e _ hp
variable {ad : Option Addr} {m cp lo hi : Nat} {kl kh : IntKind} {p q : Int} {size : Nat}
theorem Rd.cutR_l {a : Operand} (ho : o.op = .slice t x (some a) none none) (hT : SlT P t e size bytes z) (hx : ev L x = some (.slice ad m cp)) (ha : ev L a = some (.int kl p)) (hp : p = (lo : Int)) (hn : ad = none → cp = 0) (h1 : lo ≤ m) : Rd P o L R O (subSl (.slice ad m cp) size lo m) := fun ρ w hρ _ _ => by
  have h := run_cut (P := P) (m := m) (cp := cp) (ad := ad) (lo := lo) (hi := m) hT (some (.int kl p)) none (bound_ok hp h1) (fun _ => rfl) w
  simp only [execOp, ho, hρ _ _ hx, hρ _ _ ha, Option.map_some, Option.map_none, Sem.run_bind, h, Result.andThen_ok, Sem.run_pure]
theorem Rd.cutR_h {b : Operand} (ho : o.op = .slice t x none (some b) none) (hT : SlT P t e size bytes z) (hx : ev L x = some (.slice ad m cp)) (hb : ev L b = some (.int kh q)) (hq : q = (hi : Int)) (hn : ad = none → cp = 0) (h2 : hi ≤ cp) : Rd P o L R O (subSl (.slice ad m cp) size 0 hi) := fun ρ w hρ _ _ => by
  have h := run_cut (P := P) (m := m) (cp := cp) (ad := ad) (lo := 0) (hi := hi) hT none (some (.int kh q)) (fun _ => rfl) (bound_ok hq h2) w
  simp only [execOp, ho, hρ _ _ hx, hρ _ _ hb, Option.map_some, Option.map_none, Sem.run_bind, h, Result.andThen_ok, Sem.run_pure]
end
end Go.SL
