/-
  Layer 18: nodes that are ready: the methods by which a heap of them is asked; the library's heap over them.
-/
import Derived.Test.YtfenbhaehkkkeaaGr2
import Derived.Test.YtfenbhaehkkkeaaAto
import Derived.Test.YtfenbhaehkkkeaaInv
import Derived.Test.YtfenbhaehkkkeaaHp1
import Derived.Test.YtfenbhaehkkkeaaWde
namespace Go.SL
open Go Go.RowKit
/-- (j - 1) / 2 of int, of none below 0 too. -/
theorem Rd.half {P : Program} {L : Env} {R : List RO} {O : List Own} {o : Oper} {x y : Operand} {t t' : TypeId} {p : Int} {j : Nat} (ho : o.op = .binOp .quo t x y t') (hx : ev L x = some (.int .i64 p)) (hy : ev L y = some (.int .i64 2)) (hp : p = (j : Int) - 1) (hj : j ≤ 9223372036854775807) : Rd P o L R O (.int .i64 (((j - 1) / 2 : Nat) : Int)) := by
  cases j with
  | zero =>
    subst hp
    exact run_bin ho hx hy fun w => by simp [binOp, Op.intDiv]; rfl
  | succ j => exact Rd.quoI (a := j) (b := 2) ho hx hy (by rw [hp]; omega) rfl (by omega) (by omega)
end Go.SL
namespace Go.SL
open Go Go.RowKit
theorem Rd.sgtr {P : Program} {o : Oper} {L : Env} {R : List RO} {O : List Own} {t t' : TypeId} {x y : Operand} {s r : List UInt8} (ho : o.op = .binOp .gtr t x y t') (hx : ev L x = some (vs s)) (hy : ev L y = some (vs r)) : Rd P o L R O (.bool (decide (r < s))) :=
  run_sbin ho hx hy fun w => by
    have e : (!Op.bytesLess s r && !(s == r)) = decide (r < s) := by
      rw [bless_eq]
      by_cases h1 : s < r
      · have h2 : ¬ r < s := fun h => List.lt_irrefl _ (List.lt_trans h1 h)
        simp [h1, h2]
      · by_cases h3 : s = r
        · subst h3; simp [List.lt_irrefl]
        · have h2 : r < s := Classical.byContradiction fun h => h3 (List.le_antisymm (List.not_lt.1 h) (List.not_lt.1 h1))
          simp [h1, h3, h2]
    rw [← e]; simp [binOp, Op.stringOp]
theorem Rd.sltD {P : Program} {o : Oper} {L : Env} {R : List RO} {O : List Own} {t t' : TypeId} {x y : Operand} {s r : List UInt8} (ho : o.op = .binOp .lss t x y t') (hx : ev L x = some (vs s)) (hy : ev L y = some (vs r)) : Rd P o L R O (.bool (decide (s < r))) :=
  run_sbin ho hx hy fun w => by rw [← bless_eq]; simp [binOp, Op.stringOp]
end Go.SL
namespace Go.Proofs.Ytfenbhaehkkkeaa
open Go Go.SL
abbrev NL := List Nv
def ndLt (x y : Nv) : Prop := y.2.2 < x.2.2 ∨ x.2.2 = y.2.2 ∧ x.1 < y.1
instance (x y : Nv) : Decidable (ndLt x y) := by unfold ndLt; infer_instance
theorem tlt_tri (a b : T) : a < b ∨ a = b ∨ b < a := by
  rcases Classical.em (a < b) with h | h
  · exact .inl h
  · rcases Classical.em (b < a) with g | g
    · exact .inr (.inr g)
    · exact .inr (.inl (List.le_antisymm (List.not_lt.1 g) (List.not_lt.1 h)))
theorem ndOrd : Ord ndLt := by
  refine ⟨fun a => ?_, fun a b => ?_, fun a b c => ?_, fun a b c => ?_⟩
  · rintro (h | ⟨_, h⟩)
    · omega
    · exact List.lt_irrefl _ h
  · rintro (h | ⟨h1, h2⟩) (g | ⟨g1, g2⟩)
    · omega
    · omega
    · omega
    · exact List.lt_irrefl _ (List.lt_trans h2 g2)
  · intro h g hh
    unfold ndLt at *
    rcases tlt_tri a.1 b.1 with e | e | e <;> rcases tlt_tri b.1 c.1 with f | f | f <;> rcases hh with hh | ⟨k1, k2⟩
    all_goals first
      | (exfalso; refine h (.inr ⟨?_, e⟩); refine Int.le_antisymm ?_ ?_ <;> refine Int.not_lt.1 fun q => ?_ <;> omega)
      | skip
    all_goals (
      have h1 : ¬ a.2.2 < b.2.2 := fun q => h (.inl q)
      have g1 : ¬ b.2.2 < c.2.2 := fun q => g (.inl q)
      first
        | omega
        | (have e1 : a.2.2 = b.2.2 := by omega
           have e2 : b.2.2 = c.2.2 := by omega
           have h2 : ¬ b.1 < a.1 := fun q => h (.inr ⟨e1.symm, q⟩)
           have g2 : ¬ c.1 < b.1 := fun q => g (.inr ⟨e2.symm, q⟩)
           exact absurd k2 (List.not_lt.2 (List.le_trans (List.not_lt.1 h2) (List.not_lt.1 g2)))))
  · intro h g hh
    unfold ndLt at *
    have g1 : ¬ b.2.2 < c.2.2 := fun q => g (.inl q)
    rcases h with h | ⟨h1, h2⟩ <;> rcases hh with hh | ⟨k1, k2⟩
    · omega
    · omega
    · omega
    · have e2 : b.2.2 = c.2.2 := by omega
      have g2 : ¬ c.1 < b.1 := fun q => g (.inr ⟨e2.symm, q⟩)
      exact g2 (List.lt_trans k2 h2)
def cmpI (a b : Int) : Int := if a < b then -1 else if b < a then 1 else 0
def cmpT (a b : T) : Int := if a < b then -1 else if b < a then 1 else 0
def orI (a b : Int) : Int := if a ≠ 0 then a else b
theorem nd_or (x y : Nv) : orI (cmpI y.2.2 x.2.2) (cmpT x.1 y.1) < 0 ↔ ndLt x y := by
  unfold orI cmpI cmpT ndLt
  by_cases h1 : y.2.2 < x.2.2
  · simp [h1]
  · by_cases h2 : x.2.2 < y.2.2
    · simp [h1, h2]; omega
    · have e : x.2.2 = y.2.2 := by omega
      by_cases h3 : x.1 < y.1
      · simp [e, h3]
      · by_cases h4 : y.1 < x.1
        · simp [e, h3, h4]
        · simp [e, h3, h4]
abbrev accS (v : Value) (xs : List Nv) : Own := accC 30 3 encN v xs
abbrev rowW (br : Nat) (sv : Value) : Own := rowC br 75 [sv]
section
variable {R : List RO} {O O' : List Own} {POST : Value → List RO → List Own → Prop}
set_option maxRecDepth 20000 in
theorem nanI_spec {a : Int} (hk : POST (.bool false) R O) : Fun Try.prog 92 #[vi a] R O POST := by
  refine Fun.enter (l := [_]) Try.func92 rfl Try.ntmps92 rfl (L0 := [(0, _)]) rfl ?_
  refine WC.seq ?_
  refine WC.region ?_
  refine WL.rd rfl rfl rfl (Rd.assign rfl rfl) ?_
  refine WL.nil ?_
  refine thenQ.normal ?_
  refine WC.seq ?_
  refine WC.region ?_
  refine WL.rd rfl rfl rfl (Rd.move rfl rfl) ?_
  refine WL.rd rfl rfl rfl (Rd.move rfl rfl) ?_
  refine WL.rd rfl rfl rfl (Rd.neq rfl rfl rfl) ?_
  refine WL.rd rfl rfl rfl (Rd.assign rfl rfl) ?_
  refine WL.nil ?_
  refine thenQ.normal ?_
  refine WC.ret (Ret.one Try.results92 rfl ?_)
  rw [show decide (a ≠ a) = false from decide_eq_false (fun h => h rfl)]; exact hk
set_option maxRecDepth 20000 in
theorem nanT_spec {a : T} (hk : POST (.bool false) R O) : Fun Try.prog 68 #[vs a] R O POST := by
  refine Fun.enter (l := [_]) Try.func68 rfl Try.ntmps68 rfl (L0 := [(0, _)]) rfl ?_
  refine WC.seq ?_
  refine WC.region ?_
  refine WL.rd rfl rfl rfl (Rd.assign rfl rfl) ?_
  refine WL.nil ?_
  refine thenQ.normal ?_
  refine WC.seq ?_
  refine WC.region ?_
  refine WL.rd rfl rfl rfl (Rd.move rfl rfl) ?_
  refine WL.rd rfl rfl rfl (Rd.move rfl rfl) ?_
  refine WL.rd rfl rfl rfl (Rd.sneq rfl rfl rfl) ?_
  refine WL.rd rfl rfl rfl (Rd.assign rfl rfl) ?_
  refine WL.nil ?_
  refine thenQ.normal ?_
  refine WC.ret (Ret.one Try.results68 rfl ?_)
  rw [show decide (a ≠ a) = false from decide_eq_false (fun h => h rfl)]; exact hk
set_option maxRecDepth 20000 in
theorem cmpI_spec {a b : Int} (hk : POST (vi (cmpI a b)) R O) : Fun Try.prog 90 #[vi a, vi b] R O POST := by
  refine Fun.enter (l := [_, _]) Try.func90 rfl Try.ntmps90 rfl (L0 := [(0, _), (1, _)]) rfl ?_
  refine WC.seq ?_
  refine WC.region ?_
  refine WL.rd rfl rfl rfl (Rd.assign rfl rfl) ?_
  refine WL.nil ?_
  refine thenQ.normal ?_
  refine WC.seq ?_
  refine WC.region ?_
  refine WL.rd rfl rfl rfl (Rd.move rfl rfl) ?_
  refine WL.op rfl ?_
  refine OpW.call rfl rfl (by repeat (first | exact Evs.nil | apply Evs.cons rfl)) (by kernel_rfl) rfl rfl rfl ?_
  refine nanI_spec ?_
  refine WL.rd rfl rfl rfl (Rd.assign rfl rfl) ?_
  refine WL.nil ?_
  refine thenQ.normal ?_
  refine WC.seq ?_
  refine WC.region ?_
  refine WL.rd rfl rfl rfl (Rd.move rfl rfl) ?_
  refine WL.op rfl ?_
  refine OpW.call rfl rfl (by repeat (first | exact Evs.nil | apply Evs.cons rfl)) (by kernel_rfl) rfl rfl rfl ?_
  refine nanI_spec ?_
  refine WL.rd rfl rfl rfl (Rd.assign rfl rfl) ?_
  refine WL.nil ?_
  refine thenQ.normal ?_
  refine WC.seq ?_
  refine WC.seq ?_
  refine WC.region ?_
  refine WL.rd rfl rfl rfl (Rd.move rfl rfl) ?_
  refine WL.nil ?_
  refine thenQ.normal ?_
  first | refine WC.ite rfl (fun hc1 => ?_) (fun hc1 => ?_) | refine WC.cond rfl (fun hc1 => ?_) (fun hc1 => ?_)
  · skip
    cases hc1
  · skip
    refine WC.skip ?_
    refine thenQ.normal ?_
    refine WC.seq ?_
    refine WC.seq ?_
    refine WC.region ?_
    refine WL.rd rfl rfl rfl (Rd.move rfl rfl) ?_
    refine WL.nil ?_
    refine thenQ.normal ?_
    first | refine WC.ite rfl (fun hc3 => ?_) (fun hc3 => ?_) | refine WC.cond rfl (fun hc3 => ?_) (fun hc3 => ?_)
    · skip
      cases hc3
    · skip
      refine WC.skip ?_
      refine thenQ.normal ?_
      refine WC.seq ?_
      refine WC.seq ?_
      refine WC.region ?_
      refine WL.rd rfl rfl rfl (Rd.move rfl rfl) ?_
      refine WL.rd rfl rfl rfl (Rd.move rfl rfl) ?_
      refine WL.rd rfl rfl rfl (Rd.lss rfl rfl rfl) ?_
      refine WL.nil ?_
      refine thenQ.normal ?_
      first | refine WC.ite rfl (fun hc4 => ?_) (fun hc4 => ?_) | refine WC.cond rfl (fun hc4 => ?_) (fun hc4 => ?_)
      · skip
        refine WC.seq ?_
        refine WC.region ?_
        refine WL.rd rfl rfl rfl (Rd.assign rfl rfl) ?_
        refine WL.nil ?_
        refine thenQ.normal ?_
        refine WC.ret (Ret.one Try.results90 rfl ?_)
        unfold cmpI at hk
        first
          | (rw [if_pos hc4] at hk; exact hk)
          | (rw [if_neg hc4, if_pos hc5] at hk; exact hk)
          | (rw [if_neg hc4, if_neg hc5] at hk; exact hk)
      · skip
        refine WC.skip ?_
        refine thenQ.normal ?_
        refine WC.seq ?_
        refine WC.seq ?_
        refine WC.region ?_
        refine WL.rd rfl rfl rfl (Rd.move rfl rfl) ?_
        refine WL.rd rfl rfl rfl (Rd.move rfl rfl) ?_
        refine WL.rd rfl rfl rfl (Rd.gtr rfl rfl rfl) ?_
        refine WL.nil ?_
        refine thenQ.normal ?_
        first | refine WC.ite rfl (fun hc5 => ?_) (fun hc5 => ?_) | refine WC.cond rfl (fun hc5 => ?_) (fun hc5 => ?_)
        · skip
          refine WC.seq ?_
          refine WC.region ?_
          refine WL.rd rfl rfl rfl (Rd.assign rfl rfl) ?_
          refine WL.nil ?_
          refine thenQ.normal ?_
          refine WC.ret (Ret.one Try.results90 rfl ?_)
          unfold cmpI at hk
          first
            | (rw [if_pos hc4] at hk; exact hk)
            | (rw [if_neg hc4, if_pos hc5] at hk; exact hk)
            | (rw [if_neg hc4, if_neg hc5] at hk; exact hk)
        · skip
          refine WC.skip ?_
          refine thenQ.normal ?_
          refine WC.seq ?_
          refine WC.region ?_
          refine WL.rd rfl rfl rfl (Rd.assign rfl rfl) ?_
          refine WL.nil ?_
          refine thenQ.normal ?_
          refine WC.ret (Ret.one Try.results90 rfl ?_)
          unfold cmpI at hk
          first
            | (rw [if_pos hc4] at hk; exact hk)
            | (rw [if_neg hc4, if_pos hc5] at hk; exact hk)
            | (rw [if_neg hc4, if_neg hc5] at hk; exact hk)
set_option maxRecDepth 20000 in
theorem cmpT_spec {a b : T} (hk : POST (vi (cmpT a b)) R O) : Fun Try.prog 91 #[vs a, vs b] R O POST := by
  refine Fun.enter (l := [_, _]) Try.func91 rfl Try.ntmps91 rfl (L0 := [(0, _), (1, _)]) rfl ?_
  refine WC.seq ?_
  refine WC.region ?_
  refine WL.rd rfl rfl rfl (Rd.assign rfl rfl) ?_
  refine WL.nil ?_
  refine thenQ.normal ?_
  refine WC.seq ?_
  refine WC.region ?_
  refine WL.rd rfl rfl rfl (Rd.move rfl rfl) ?_
  refine WL.op rfl ?_
  refine OpW.call rfl rfl (by repeat (first | exact Evs.nil | apply Evs.cons rfl)) (by kernel_rfl) rfl rfl rfl ?_
  refine nanT_spec ?_
  refine WL.rd rfl rfl rfl (Rd.assign rfl rfl) ?_
  refine WL.nil ?_
  refine thenQ.normal ?_
  refine WC.seq ?_
  refine WC.region ?_
  refine WL.rd rfl rfl rfl (Rd.move rfl rfl) ?_
  refine WL.op rfl ?_
  refine OpW.call rfl rfl (by repeat (first | exact Evs.nil | apply Evs.cons rfl)) (by kernel_rfl) rfl rfl rfl ?_
  refine nanT_spec ?_
  refine WL.rd rfl rfl rfl (Rd.assign rfl rfl) ?_
  refine WL.nil ?_
  refine thenQ.normal ?_
  refine WC.seq ?_
  refine WC.seq ?_
  refine WC.region ?_
  refine WL.rd rfl rfl rfl (Rd.move rfl rfl) ?_
  refine WL.nil ?_
  refine thenQ.normal ?_
  first | refine WC.ite rfl (fun hc1 => ?_) (fun hc1 => ?_) | refine WC.cond rfl (fun hc1 => ?_) (fun hc1 => ?_)
  · skip
    cases hc1
  · skip
    refine WC.skip ?_
    refine thenQ.normal ?_
    refine WC.seq ?_
    refine WC.seq ?_
    refine WC.region ?_
    refine WL.rd rfl rfl rfl (Rd.move rfl rfl) ?_
    refine WL.nil ?_
    refine thenQ.normal ?_
    first | refine WC.ite rfl (fun hc3 => ?_) (fun hc3 => ?_) | refine WC.cond rfl (fun hc3 => ?_) (fun hc3 => ?_)
    · skip
      cases hc3
    · skip
      refine WC.skip ?_
      refine thenQ.normal ?_
      refine WC.seq ?_
      refine WC.seq ?_
      refine WC.region ?_
      refine WL.rd rfl rfl rfl (Rd.move rfl rfl) ?_
      refine WL.rd rfl rfl rfl (Rd.move rfl rfl) ?_
      refine WL.rd rfl rfl rfl (Rd.sltD rfl rfl rfl) ?_
      refine WL.nil ?_
      refine thenQ.normal ?_
      first | refine WC.ite rfl (fun hc4 => ?_) (fun hc4 => ?_) | refine WC.cond rfl (fun hc4 => ?_) (fun hc4 => ?_)
      · skip
        refine WC.seq ?_
        refine WC.region ?_
        refine WL.rd rfl rfl rfl (Rd.assign rfl rfl) ?_
        refine WL.nil ?_
        refine thenQ.normal ?_
        refine WC.ret (Ret.one Try.results91 rfl ?_)
        unfold cmpT at hk
        first
          | (rw [if_pos hc4] at hk; exact hk)
          | (rw [if_neg hc4, if_pos hc5] at hk; exact hk)
          | (rw [if_neg hc4, if_neg hc5] at hk; exact hk)
      · skip
        refine WC.skip ?_
        refine thenQ.normal ?_
        refine WC.seq ?_
        refine WC.seq ?_
        refine WC.region ?_
        refine WL.rd rfl rfl rfl (Rd.move rfl rfl) ?_
        refine WL.rd rfl rfl rfl (Rd.move rfl rfl) ?_
        refine WL.rd rfl rfl rfl (Rd.sgtr rfl rfl rfl) ?_
        refine WL.nil ?_
        refine thenQ.normal ?_
        first | refine WC.ite rfl (fun hc5 => ?_) (fun hc5 => ?_) | refine WC.cond rfl (fun hc5 => ?_) (fun hc5 => ?_)
        · skip
          refine WC.seq ?_
          refine WC.region ?_
          refine WL.rd rfl rfl rfl (Rd.assign rfl rfl) ?_
          refine WL.nil ?_
          refine thenQ.normal ?_
          refine WC.ret (Ret.one Try.results91 rfl ?_)
          unfold cmpT at hk
          first
            | (rw [if_pos hc4] at hk; exact hk)
            | (rw [if_neg hc4, if_pos hc5] at hk; exact hk)
            | (rw [if_neg hc4, if_neg hc5] at hk; exact hk)
        · skip
          refine WC.skip ?_
          refine thenQ.normal ?_
          refine WC.seq ?_
          refine WC.region ?_
          refine WL.rd rfl rfl rfl (Rd.assign rfl rfl) ?_
          refine WL.nil ?_
          refine thenQ.normal ?_
          refine WC.ret (Ret.one Try.results91 rfl ?_)
          unfold cmpT at hk
          first
            | (rw [if_pos hc4] at hk; exact hk)
            | (rw [if_neg hc4, if_pos hc5] at hk; exact hk)
            | (rw [if_neg hc4, if_neg hc5] at hk; exact hk)
set_option maxRecDepth 20000 in
theorem or_spec {a b : Int} {g : Nat} (hk : POST (vi (orI a b)) R (rowC g 3 [vi a, vi b] :: O)) : Fun Try.prog 89 #[.slice (some ⟨g, 0, none⟩) 2 2] R (rowC g 3 [vi a, vi b] :: O) POST := by
  refine Fun.enter (l := [_]) Try.func89 rfl Try.ntmps89 rfl (L0 := [(0, _)]) rfl ?_
  refine WC.seq ?_
  refine WC.region ?_
  refine WL.rd rfl rfl rfl (Rd.assign rfl rfl) ?_
  refine WL.nil ?_
  refine thenQ.normal ?_
  refine WC.seq ?_
  refine WC.region ?_
  refine WL.rd rfl rfl rfl (Rd.assign rfl rfl) ?_
  refine WL.nil ?_
  refine thenQ.normal ?_
  refine WC.seq ?_
  refine WC.seq ?_
  refine WC.region ?_
  refine WL.rd rfl rfl rfl (Rd.move rfl rfl) ?_
  refine WL.rd rfl rfl rfl ((by first | exact Rd.lenE rfl rfl Try.underlying44 (by repeat (first | assumption | exact mS | apply mT)) | exact Rd.lenA rfl rfl Try.underlying44 (by repeat (first | assumption | exact mS | apply mT)) | exact Rd.len rfl rfl Try.underlying44)) ?_
  refine WL.rd rfl rfl rfl (Rd.move rfl rfl) ?_
  refine WL.nil ?_
  refine thenQ.normal ?_
  refine WC.block ?_
  refine WC.pick [8, 3, 6, 7] (by repeat (first | exact Pick.nil | apply Pick.cons rfl)) ?_
  refine WC.loop1o 1 (fun (i : Nat) => [(8, vi i)]) (fun (i : Nat) => i ≤ 2 ∧ (0 < i → a = 0) ∧ (1 < i → b = 0)) (fun (i : Nat) => 2 - i) (0) (by repeat (first | exact Split.zero | apply Split.succ)) ?hinv1 (by repeat (first | exact Sub.nil | refine Sub.cons rfl (by first | rfl | (congr 1; omega) | assumption) ?_)) (fun _ h => h) ?_
  case hinv1 =>
    exact ⟨by omega, by omega, by omega⟩
  intro i
  rintro ⟨i1, i2, i3⟩
  refine WC.seq ?_
  refine WC.region ?_
  refine WL.rd rfl rfl rfl (Rd.lss rfl rfl rfl) ?_
  refine WL.nil ?_
  refine thenQ.normal ?_
  refine WC.seq ?_
  first | refine WC.ite rfl (fun hc1 => ?_) (fun hc1 => ?_) | refine WC.cond rfl (fun hc1 => ?_) (fun hc1 => ?_)
  · skip
    refine WC.skip ?_
    refine thenQ.normal ?_
    refine WC.seq ?_
    refine WC.block ?_
    refine WC.seq ?_
    refine WC.region ?_
    refine WL.rd rfl rfl rfl (Rd.idxR1 (k := i) rfl S44 rfl rfl rfl (by omega)) ?_
    refine WL.rd rfl rfl rfl (Rd.row1 (off := i) (u := vi (if i = 0 then a else b)) rfl C3 rfl (by repeat (first | assumption | exact mS | apply mT)) (by rcases (show i = 0 ∨ i = 1 by omega) with rfl | rfl <;> rfl)) ?_
    refine WL.rd rfl rfl rfl (Rd.assign rfl rfl) ?_
    refine WL.nil ?_
    refine thenQ.normal ?_
    refine WC.seq ?_
    refine WC.region ?_
    refine WL.rd rfl rfl rfl (Rd.move rfl rfl) ?_
    refine WL.rd rfl rfl rfl (Rd.move rfl rfl) ?_
    refine WL.rd rfl rfl rfl (Rd.neq rfl rfl rfl) ?_
    refine WL.nil ?_
    refine thenQ.normal ?_
    first | refine WC.ite rfl (fun hc2 => ?_) (fun hc2 => ?_) | refine WC.cond rfl (fun hc2 => ?_) (fun hc2 => ?_)
    · skip
      refine WC.seq ?_
      refine WC.region ?_
      refine WL.rd rfl rfl rfl (Rd.move rfl rfl) ?_
      refine WL.rd rfl rfl rfl (Rd.assign rfl rfl) ?_
      refine WL.nil ?_
      refine thenQ.normal ?_
      refine WC.ret (Ret.one Try.results89 rfl ?_)
      rcases (show i = 0 ∨ i = 1 by omega) with rfl | rfl
      · rw [if_pos rfl] at *
        rw [orI, if_pos hc2] at hk; exact hk
      · rw [if_neg (by omega)] at *
        rw [orI, if_neg (by rw [i2 (by omega)]; simp)] at hk; exact hk
    · skip
      refine WC.skip ?_
      refine blockQ.normal ?_
      refine thenQ.normal ?_
      refine WC.region ?_
      refine WL.rd rfl rfl rfl (Rd.add rfl rfl rfl (by omega)) ?_
      refine WL.rd rfl rfl rfl (Rd.move rfl rfl) ?_
      refine WL.nil ?_
      exact loopQ1.mk (i + 1) ⟨by omega, fun _ => by
      rcases (show i = 0 ∨ i = 1 by omega) with rfl | rfl
      · simpa using hc2
      · exact i2 (by omega), fun _ => by
      obtain rfl : i = 1 := by omega
      simpa using hc2⟩ (by omega) (by repeat (first | exact Sub.nil | refine Sub.cons rfl (by first | rfl | (congr 1; omega) | assumption) ?_)) (fun w h => OwnL.sat (by repeat (first | exact OwnL.refl | apply OwnL.take (by repeat (first | exact Take.head _ | apply Take.tail)) | apply OwnL.drop)) w (h.thin (SubL.mem (by repeat (first | exact SubL.refl | refine SubL.cons (by repeat (first | assumption | exact mS | apply mT)) ?_ | refine SubL.skip ?_)))))
  · skip
    refine WC.exit ?_
    refine thenQ.exit ?_
    refine loopQ1.exit ?_
    refine blockQ.exit ?_
    refine thenQ.normal ?_
    refine WC.seq ?_
    refine WC.region ?_
    refine WL.rd rfl rfl rfl (Rd.move rfl rfl) ?_
    refine WL.rd rfl rfl rfl (Rd.assign rfl rfl) ?_
    refine WL.nil ?_
    refine thenQ.normal ?_
    refine WC.ret (Ret.one Try.results89 rfl ?_)
    have h2 : i = 2 := by omega
    have hz : orI a b = 0 := by rw [orI, if_neg (by rw [i2 (by omega)]; simp), i3 (by omega)]
    rw [hz] at hk
    exact hk
end
section
variable {R : List RO} {O O' : List Own} {POST : Value → List RO → List Own → Prop} {xs : List Nv} {sv : Value}
theorem Fun.knowO' {P : Program} {f : FuncId} {args : Array Value} {post : Value → List RO → List Own → Prop} {c : Own} {φ : Prop} (hp : c ∈ O) (hφ : ∀ w, c.pred w → φ) (h : φ → Fun P f args R O post) : Fun P f args R O post := fun w hs => h (hφ w (hs.see hp)) w hs
theorem acc_sub {α : Type} {e : TypeId} {size hi : Nat} {enc : α → List Value} {v : Value} {xs : List α} {w : World} (h : (accC e size enc v xs).pred w) : OneV (subSl v size 0 hi) := by
  rcases h.2 with ⟨rfl, _⟩ | ⟨b, c, cur, rfl, _⟩
  · exact ⟨rfl, rfl⟩
  · rw [subSl0]; exact ⟨rfl, rfl⟩
theorem acc_shape {α : Type} {e : TypeId} {size : Nat} {enc : α → List Value} {v : Value} {xs : List α} {w : World} (h : (accC e size enc v xs).pred w) (h0 : 0 < xs.length) : ∃ g cap, v = .slice (some ⟨g, 0, none⟩) xs.length cap := by
  rcases h.2 with ⟨_, h1⟩ | ⟨b, c, cur, rfl, _⟩
  · omega
  · exact ⟨b, c, rfl⟩
set_option maxRecDepth 20000 in
theorem len_spec (hO : accS sv xs ∈ O) (hk : POST (vi xs.length) R O) : Fun Try.prog 86 #[sv] R O POST := by
  refine Fun.enter (l := [_]) Try.func86 rfl Try.ntmps86 rfl (L0 := [(0, _)]) rfl ?_
  refine WC.seq ?_
  refine WC.region ?_
  refine WL.rd rfl rfl rfl (Rd.assign rfl rfl) ?_
  refine WL.nil ?_
  refine thenQ.normal ?_
  refine WC.seq ?_
  refine WC.region ?_
  refine WL.rd rfl rfl rfl (Rd.move rfl rfl) ?_
  refine WL.rd rfl rfl rfl (Rd.lenA (enc := encN) (xs := xs) rfl rfl Try.underlying75 hO) ?_
  refine WL.rd rfl rfl rfl (Rd.assign rfl rfl) ?_
  refine WL.nil ?_
  refine thenQ.normal ?_
  refine WC.ret (Ret.one Try.results86 rfl ?_)
  exact hk
set_option maxRecDepth 20000 in
theorem less0_spec {i j : Nat} (hO : accS sv xs ∈ O) (hi : i < xs.length) (hj : j < xs.length) (hk : ∀ b, POST (.bool (decide (ndLt xs[i]! xs[j]!))) R (rowC b 3 [vi (cmpI xs[j]!.2.2 xs[i]!.2.2), vi (cmpT xs[i]!.1 xs[j]!.1)] :: O)) : Fun Try.prog 87 #[sv, vi i, vi j] R O POST := by
  refine Fun.enter (l := [_, _, _]) Try.func87 rfl Try.ntmps87 rfl (L0 := [(0, _), (1, _), (2, _)]) rfl ?_
  refine WC.seq ?_
  refine WC.region ?_
  refine WL.rd rfl rfl rfl (Rd.assign rfl rfl) ?_
  refine WL.nil ?_
  refine thenQ.normal ?_
  refine WC.seq ?_
  refine WC.drawn (O) 26 rfl mixed ?_
  refine WD.take 0 rfl (by kernel_rfl) (Held.mk' (by repeat (first | exact SubL.refl | refine SubL.cons (by repeat (first | assumption | exact mS | apply mT)) ?_ | refine SubL.skip ?_)) (by repeat (first | exact OwnL.refl | apply OwnL.take (by repeat (first | exact Take.head _ | apply Take.tail)) | apply OwnL.drop))) rfl rfl rfl (Rd.move rfl rfl) ?_
  refine WD.take 1 rfl (by kernel_rfl) (Held.mk' (by repeat (first | exact SubL.refl | refine SubL.cons (by repeat (first | assumption | exact mS | apply mT)) ?_ | refine SubL.skip ?_)) (by repeat (first | exact OwnL.refl | apply OwnL.take (by repeat (first | exact Take.head _ | apply Take.tail)) | apply OwnL.drop))) rfl rfl rfl (Rd.move rfl rfl) ?_
  refine WD.take 2 rfl (by kernel_rfl) (Held.mk' (by repeat (first | exact SubL.refl | refine SubL.cons (by repeat (first | assumption | exact mS | apply mT)) ?_ | refine SubL.skip ?_)) (by repeat (first | exact OwnL.refl | apply OwnL.take (by repeat (first | exact Take.head _ | apply Take.tail)) | apply OwnL.drop))) rfl rfl rfl (Rd.idxA (enc := encN) (xs := xs) (k := j) rfl S75 rfl rfl rfl hO hj) ?_
  refine WD.take 3 rfl (by kernel_rfl) (Held.mk' (by repeat (first | exact SubL.refl | refine SubL.cons (by repeat (first | assumption | exact mS | apply mT)) ?_ | refine SubL.skip ?_)) (by repeat (first | exact OwnL.refl | apply OwnL.take (by repeat (first | exact Take.head _ | apply Take.tail)) | apply OwnL.drop))) rfl rfl rfl (Rd.fieldA (enc := encN) (xs := xs) rfl F30_2 rfl hO (by omega)) ?_
  refine WD.take 4 rfl (by kernel_rfl) (Held.mk' (by repeat (first | exact SubL.refl | refine SubL.cons (by repeat (first | assumption | exact mS | apply mT)) ?_ | refine SubL.skip ?_)) (by repeat (first | exact OwnL.refl | apply OwnL.take (by repeat (first | exact Take.head _ | apply Take.tail)) | apply OwnL.drop))) rfl rfl rfl (Rd.getFA (enc := encN) (size := 3) (xs := xs) (k := j) (f := 2) (a := xs[j]!) (u := vi xs[j]!.2.2) rfl C3 rfl hO (fun x => rfl) (by omega) (get!_of_lt hj) rfl) ?_
  refine WD.take 5 rfl (by kernel_rfl) (Held.mk' (by repeat (first | exact SubL.refl | refine SubL.cons (by repeat (first | assumption | exact mS | apply mT)) ?_ | refine SubL.skip ?_)) (by repeat (first | exact OwnL.refl | apply OwnL.take (by repeat (first | exact Take.head _ | apply Take.tail)) | apply OwnL.drop))) rfl rfl rfl (Rd.move rfl rfl) ?_
  refine WD.take 6 rfl (by kernel_rfl) (Held.mk' (by repeat (first | exact SubL.refl | refine SubL.cons (by repeat (first | assumption | exact mS | apply mT)) ?_ | refine SubL.skip ?_)) (by repeat (first | exact OwnL.refl | apply OwnL.take (by repeat (first | exact Take.head _ | apply Take.tail)) | apply OwnL.drop))) rfl rfl rfl (Rd.move rfl rfl) ?_
  refine WD.take 7 rfl (by kernel_rfl) (Held.mk' (by repeat (first | exact SubL.refl | refine SubL.cons (by repeat (first | assumption | exact mS | apply mT)) ?_ | refine SubL.skip ?_)) (by repeat (first | exact OwnL.refl | apply OwnL.take (by repeat (first | exact Take.head _ | apply Take.tail)) | apply OwnL.drop))) rfl rfl rfl (Rd.idxA (enc := encN) (xs := xs) (k := i) rfl S75 rfl rfl rfl hO hi) ?_
  refine WD.take 8 rfl (by kernel_rfl) (Held.mk' (by repeat (first | exact SubL.refl | refine SubL.cons (by repeat (first | assumption | exact mS | apply mT)) ?_ | refine SubL.skip ?_)) (by repeat (first | exact OwnL.refl | apply OwnL.take (by repeat (first | exact Take.head _ | apply Take.tail)) | apply OwnL.drop))) rfl rfl rfl (Rd.fieldA (enc := encN) (xs := xs) rfl F30_2 rfl hO (by omega)) ?_
  refine WD.take 9 rfl (by kernel_rfl) (Held.mk' (by repeat (first | exact SubL.refl | refine SubL.cons (by repeat (first | assumption | exact mS | apply mT)) ?_ | refine SubL.skip ?_)) (by repeat (first | exact OwnL.refl | apply OwnL.take (by repeat (first | exact Take.head _ | apply Take.tail)) | apply OwnL.drop))) rfl rfl rfl (Rd.getFA (enc := encN) (size := 3) (xs := xs) (k := i) (f := 2) (a := xs[i]!) (u := vi xs[i]!.2.2) rfl C3 rfl hO (fun x => rfl) (by omega) (get!_of_lt hi) rfl) ?_
  refine WD.take 11 rfl (by kernel_rfl) (Held.mk' (by repeat (first | exact SubL.refl | refine SubL.cons (by repeat (first | assumption | exact mS | apply mT)) ?_ | refine SubL.skip ?_)) (by repeat (first | exact OwnL.refl | apply OwnL.take (by repeat (first | exact Take.head _ | apply Take.tail)) | apply OwnL.drop))) rfl rfl rfl (Rd.move rfl rfl) ?_
  refine WD.take 12 rfl (by kernel_rfl) (Held.mk' (by repeat (first | exact SubL.refl | refine SubL.cons (by repeat (first | assumption | exact mS | apply mT)) ?_ | refine SubL.skip ?_)) (by repeat (first | exact OwnL.refl | apply OwnL.take (by repeat (first | exact Take.head _ | apply Take.tail)) | apply OwnL.drop))) rfl rfl rfl (Rd.move rfl rfl) ?_
  refine WD.take 13 rfl (by kernel_rfl) (Held.mk' (by repeat (first | exact SubL.refl | refine SubL.cons (by repeat (first | assumption | exact mS | apply mT)) ?_ | refine SubL.skip ?_)) (by repeat (first | exact OwnL.refl | apply OwnL.take (by repeat (first | exact Take.head _ | apply Take.tail)) | apply OwnL.drop))) rfl rfl rfl (Rd.idxA (enc := encN) (xs := xs) (k := i) rfl S75 rfl rfl rfl hO hi) ?_
  refine WD.take 14 rfl (by kernel_rfl) (Held.mk' (by repeat (first | exact SubL.refl | refine SubL.cons (by repeat (first | assumption | exact mS | apply mT)) ?_ | refine SubL.skip ?_)) (by repeat (first | exact OwnL.refl | apply OwnL.take (by repeat (first | exact Take.head _ | apply Take.tail)) | apply OwnL.drop))) rfl rfl rfl (Rd.fieldA (enc := encN) (xs := xs) rfl F30_0 rfl hO (by omega)) ?_
  refine WD.take 15 rfl (by kernel_rfl) (Held.mk' (by repeat (first | exact SubL.refl | refine SubL.cons (by repeat (first | assumption | exact mS | apply mT)) ?_ | refine SubL.skip ?_)) (by repeat (first | exact OwnL.refl | apply OwnL.take (by repeat (first | exact Take.head _ | apply Take.tail)) | apply OwnL.drop))) rfl rfl rfl (Rd.getFA (enc := encN) (size := 3) (xs := xs) (k := i) (f := 0) (a := xs[i]!) (u := vs xs[i]!.1) rfl C9 rfl hO (fun x => rfl) (by omega) (get!_of_lt hi) rfl) ?_
  refine WD.take 16 rfl (by kernel_rfl) (Held.mk' (by repeat (first | exact SubL.refl | refine SubL.cons (by repeat (first | assumption | exact mS | apply mT)) ?_ | refine SubL.skip ?_)) (by repeat (first | exact OwnL.refl | apply OwnL.take (by repeat (first | exact Take.head _ | apply Take.tail)) | apply OwnL.drop))) rfl rfl rfl (Rd.move rfl rfl) ?_
  refine WD.take 17 rfl (by kernel_rfl) (Held.mk' (by repeat (first | exact SubL.refl | refine SubL.cons (by repeat (first | assumption | exact mS | apply mT)) ?_ | refine SubL.skip ?_)) (by repeat (first | exact OwnL.refl | apply OwnL.take (by repeat (first | exact Take.head _ | apply Take.tail)) | apply OwnL.drop))) rfl rfl rfl (Rd.move rfl rfl) ?_
  refine WD.take 18 rfl (by kernel_rfl) (Held.mk' (by repeat (first | exact SubL.refl | refine SubL.cons (by repeat (first | assumption | exact mS | apply mT)) ?_ | refine SubL.skip ?_)) (by repeat (first | exact OwnL.refl | apply OwnL.take (by repeat (first | exact Take.head _ | apply Take.tail)) | apply OwnL.drop))) rfl rfl rfl (Rd.idxA (enc := encN) (xs := xs) (k := j) rfl S75 rfl rfl rfl hO hj) ?_
  refine WD.take 19 rfl (by kernel_rfl) (Held.mk' (by repeat (first | exact SubL.refl | refine SubL.cons (by repeat (first | assumption | exact mS | apply mT)) ?_ | refine SubL.skip ?_)) (by repeat (first | exact OwnL.refl | apply OwnL.take (by repeat (first | exact Take.head _ | apply Take.tail)) | apply OwnL.drop))) rfl rfl rfl (Rd.fieldA (enc := encN) (xs := xs) rfl F30_0 rfl hO (by omega)) ?_
  refine WD.take 20 rfl (by kernel_rfl) (Held.mk' (by repeat (first | exact SubL.refl | refine SubL.cons (by repeat (first | assumption | exact mS | apply mT)) ?_ | refine SubL.skip ?_)) (by repeat (first | exact OwnL.refl | apply OwnL.take (by repeat (first | exact Take.head _ | apply Take.tail)) | apply OwnL.drop))) rfl rfl rfl (Rd.getFA (enc := encN) (size := 3) (xs := xs) (k := j) (f := 0) (a := xs[j]!) (u := vs xs[j]!.1) rfl C9 rfl hO (fun x => rfl) (by omega) (get!_of_lt hj) rfl) ?_
  refine WD.one 10 rfl (by kernel_rfl) rfl ?_
  refine OpW.call rfl rfl (by repeat (first | exact Evs.nil | apply Evs.cons rfl)) (by kernel_rfl) rfl rfl rfl ?_
  refine cmpI_spec ?_
  refine ⟨(Held.mk' (by repeat (first | exact SubL.refl | refine SubL.cons (by repeat (first | assumption | exact mS | apply mT)) ?_ | refine SubL.skip ?_)) (by repeat (first | exact OwnL.refl | apply OwnL.take (by repeat (first | exact Take.head _ | apply Take.tail)) | apply OwnL.drop))), ?_⟩
  refine WD.one 21 rfl (by kernel_rfl) rfl ?_
  refine OpW.call rfl rfl (by repeat (first | exact Evs.nil | apply Evs.cons rfl)) (by kernel_rfl) rfl rfl rfl ?_
  refine cmpT_spec ?_
  refine ⟨(Held.mk' (by repeat (first | exact SubL.refl | refine SubL.cons (by repeat (first | assumption | exact mS | apply mT)) ?_ | refine SubL.skip ?_)) (by repeat (first | exact OwnL.refl | apply OwnL.take (by repeat (first | exact Take.head _ | apply Take.tail)) | apply OwnL.drop))), ?_⟩
  refine WD.one 22 rfl (by kernel_rfl) rfl ?_
  refine OpW.buildSl (ps := [(0, _), (1, _)]) rfl S44 (by repeat (first | exact Evs.nil | apply Evs.cons rfl)) rfl rfl (by repeat (first | exact CellsOf.nil | apply CellsOf.cons rfl)) (by kernel_rfl) rfl rfl rfl ?_; intro b29
  refine ⟨(Held.mk' (by repeat (first | exact SubL.refl | refine SubL.cons (by repeat (first | assumption | exact mS | apply mT)) ?_ | refine SubL.skip ?_)) (by repeat (first | exact OwnL.refl | apply OwnL.take (by repeat (first | exact Take.head _ | apply Take.tail)) | apply OwnL.drop))), ?_⟩
  refine WD.one 23 rfl (by kernel_rfl) rfl ?_
  refine OpW.call rfl rfl (by repeat (first | exact Evs.nil | apply Evs.cons rfl)) (by kernel_rfl) rfl rfl rfl ?_
  refine or_spec ?_
  refine ⟨(Held.mk' (by repeat (first | exact SubL.refl | refine SubL.cons (by repeat (first | assumption | exact mS | apply mT)) ?_ | refine SubL.skip ?_)) (by repeat (first | exact OwnL.refl | apply OwnL.take (by repeat (first | exact Take.head _ | apply Take.tail)) | apply OwnL.drop))), ?_⟩
  refine WD.take 24 rfl (by kernel_rfl) (Held.mk' (by repeat (first | exact SubL.refl | refine SubL.cons (by repeat (first | assumption | exact mS | apply mT)) ?_ | refine SubL.skip ?_)) (by repeat (first | exact OwnL.refl | apply OwnL.take (by repeat (first | exact Take.head _ | apply Take.tail)) | apply OwnL.drop))) rfl rfl rfl (Rd.lss rfl rfl rfl) ?_
  refine WD.say 31 (u := .bool (decide (ndLt xs[i]! xs[j]!))) rfl (by rw [decide_eq_decide.2 (nd_or xs[i]! xs[j]!)]) ?_
  refine WD.take 25 rfl (by kernel_rfl) (Held.mk' (by repeat (first | exact SubL.refl | refine SubL.cons (by repeat (first | assumption | exact mS | apply mT)) ?_ | refine SubL.skip ?_)) (by repeat (first | exact OwnL.refl | apply OwnL.take (by repeat (first | exact Take.head _ | apply Take.tail)) | apply OwnL.drop))) rfl rfl rfl (Rd.assign rfl rfl) ?_
  refine WD.done (by kernel_rfl) ?_
  refine thenQ.normal ?_
  refine WC.ret (Ret.one Try.results87 rfl ?_)
  exact hk _
theorem less_spec {i j : Nat} (hO : accS sv xs ∈ O) (hi : i < xs.length) (hj : j < xs.length) (hk : POST (.bool (decide (ndLt xs[i]! xs[j]!))) R O) : Fun Try.prog 87 #[sv, vi i, vi j] R O POST := by
  refine Fun.thin (post' := fun v R' O' => v = .bool (decide (ndLt xs[i]! xs[j]!)) ∧ R' = R ∧ ∃ b, O' = rowC b 3 [vi (cmpI xs[j]!.2.2 xs[i]!.2.2), vi (cmpT xs[i]!.1 xs[j]!.1)] :: O) (less0_spec hO hi hj fun b => ⟨rfl, rfl, b, rfl⟩) ?_
  rintro v R' O' ⟨rfl, rfl, b, rfl⟩
  exact ⟨_, _, hk, fun w h => h.drop⟩
set_option maxRecDepth 20000 in
theorem swap0_spec {i j : Nat} (hi : i < xs.length) (hj : j < xs.length) (hk : POST (.tuple #[]) R (accS sv (swapL xs i j) :: O)) : Fun Try.prog 88 #[sv, vi i, vi j] R (accS sv xs :: O) POST := by
  refine Fun.knowO' (c := accS sv xs) List.mem_cons_self (fun w h => acc_shape h (by omega)) fun hone => ?_
  obtain ⟨g, cap, rfl⟩ := hone
  refine Fun.enter (l := [_, _, _]) Try.func88 rfl Try.ntmps88 rfl (L0 := [(0, _), (1, _), (2, _)]) rfl ?_
  refine WC.drawnU (O) ([(13, accS (.slice (some ⟨g, 0, none⟩) xs.length cap) xs)]) 16 rfl mixed ?_
  refine WE.take 0 [] rfl (by kernel_rfl) (by repeat (first | exact List.Sublist.refl _ | exact List.nil_sublist _ | apply List.Sublist.cons_cons | apply List.Sublist.cons)) (HeldL.mk2 [accS (.slice (some ⟨g, 0, none⟩) xs.length cap) xs] (by kernel_rfl) (by repeat (first | exact SubL.refl | refine SubL.cons (by repeat (first | assumption | exact mS | apply mT)) ?_ | refine SubL.skip ?_)) (by repeat (first | exact OwnL.refl | apply OwnL.take (by repeat (first | exact Take.head _ | apply Take.tail)) | apply OwnL.drop)) (by repeat (first | exact Mems.nil | refine Mems.cons (by repeat (first | assumption | exact mS | apply mT)) ?_))) rfl rfl rfl (Rd.move rfl rfl) ?_
  refine WE.take 1 [] rfl (by kernel_rfl) (by repeat (first | exact List.Sublist.refl _ | exact List.nil_sublist _ | apply List.Sublist.cons_cons | apply List.Sublist.cons)) (HeldL.mk2 [accS (.slice (some ⟨g, 0, none⟩) xs.length cap) xs] (by kernel_rfl) (by repeat (first | exact SubL.refl | refine SubL.cons (by repeat (first | assumption | exact mS | apply mT)) ?_ | refine SubL.skip ?_)) (by repeat (first | exact OwnL.refl | apply OwnL.take (by repeat (first | exact Take.head _ | apply Take.tail)) | apply OwnL.drop)) (by repeat (first | exact Mems.nil | refine Mems.cons (by repeat (first | assumption | exact mS | apply mT)) ?_))) rfl rfl rfl (Rd.move rfl rfl) ?_
  refine WE.take 2 [] rfl (by kernel_rfl) (by repeat (first | exact List.Sublist.refl _ | exact List.nil_sublist _ | apply List.Sublist.cons_cons | apply List.Sublist.cons)) (HeldL.mk2 [accS (.slice (some ⟨g, 0, none⟩) xs.length cap) xs] (by kernel_rfl) (by repeat (first | exact SubL.refl | refine SubL.cons (by repeat (first | assumption | exact mS | apply mT)) ?_ | refine SubL.skip ?_)) (by repeat (first | exact OwnL.refl | apply OwnL.take (by repeat (first | exact Take.head _ | apply Take.tail)) | apply OwnL.drop)) (by repeat (first | exact Mems.nil | refine Mems.cons (by repeat (first | assumption | exact mS | apply mT)) ?_))) rfl rfl rfl (Rd.move rfl rfl) ?_
  refine WE.take 3 [] rfl (by kernel_rfl) (by repeat (first | exact List.Sublist.refl _ | exact List.nil_sublist _ | apply List.Sublist.cons_cons | apply List.Sublist.cons)) (HeldL.mk2 [accS (.slice (some ⟨g, 0, none⟩) xs.length cap) xs] (by kernel_rfl) (by repeat (first | exact SubL.refl | refine SubL.cons (by repeat (first | assumption | exact mS | apply mT)) ?_ | refine SubL.skip ?_)) (by repeat (first | exact OwnL.refl | apply OwnL.take (by repeat (first | exact Take.head _ | apply Take.tail)) | apply OwnL.drop)) (by repeat (first | exact Mems.nil | refine Mems.cons (by repeat (first | assumption | exact mS | apply mT)) ?_))) rfl rfl rfl (Rd.move rfl rfl) ?_
  refine WE.take 4 [] rfl (by kernel_rfl) (by repeat (first | exact List.Sublist.refl _ | exact List.nil_sublist _ | apply List.Sublist.cons_cons | apply List.Sublist.cons)) (HeldL.mk2 [accS (.slice (some ⟨g, 0, none⟩) xs.length cap) xs] (by kernel_rfl) (by repeat (first | exact SubL.refl | refine SubL.cons (by repeat (first | assumption | exact mS | apply mT)) ?_ | refine SubL.skip ?_)) (by repeat (first | exact OwnL.refl | apply OwnL.take (by repeat (first | exact Take.head _ | apply Take.tail)) | apply OwnL.drop)) (by repeat (first | exact Mems.nil | refine Mems.cons (by repeat (first | assumption | exact mS | apply mT)) ?_))) rfl rfl rfl (Rd.move rfl rfl) ?_
  refine WE.take 5 [] rfl (by kernel_rfl) (by repeat (first | exact List.Sublist.refl _ | exact List.nil_sublist _ | apply List.Sublist.cons_cons | apply List.Sublist.cons)) (HeldL.mk2 [accS (.slice (some ⟨g, 0, none⟩) xs.length cap) xs] (by kernel_rfl) (by repeat (first | exact SubL.refl | refine SubL.cons (by repeat (first | assumption | exact mS | apply mT)) ?_ | refine SubL.skip ?_)) (by repeat (first | exact OwnL.refl | apply OwnL.take (by repeat (first | exact Take.head _ | apply Take.tail)) | apply OwnL.drop)) (by repeat (first | exact Mems.nil | refine Mems.cons (by repeat (first | assumption | exact mS | apply mT)) ?_))) rfl rfl rfl (Rd.move rfl rfl) ?_
  refine WE.take 6 [] rfl (by kernel_rfl) (by repeat (first | exact List.Sublist.refl _ | exact List.nil_sublist _ | apply List.Sublist.cons_cons | apply List.Sublist.cons)) (HeldL.mk2 [accS (.slice (some ⟨g, 0, none⟩) xs.length cap) xs] (by kernel_rfl) (by repeat (first | exact SubL.refl | refine SubL.cons (by repeat (first | assumption | exact mS | apply mT)) ?_ | refine SubL.skip ?_)) (by repeat (first | exact OwnL.refl | apply OwnL.take (by repeat (first | exact Take.head _ | apply Take.tail)) | apply OwnL.drop)) (by repeat (first | exact Mems.nil | refine Mems.cons (by repeat (first | assumption | exact mS | apply mT)) ?_))) rfl rfl rfl (Rd.idxR (k := j) rfl S75 rfl rfl rfl (by omega)) ?_
  refine WE.take 7 [(13, accS (.slice (some ⟨g, 0, none⟩) xs.length cap) xs)] rfl (by kernel_rfl) (by repeat (first | exact List.Sublist.refl _ | exact List.nil_sublist _ | apply List.Sublist.cons_cons | apply List.Sublist.cons)) (HeldL.mk2 [accS (.slice (some ⟨g, 0, none⟩) xs.length cap) xs] (by kernel_rfl) (by repeat (first | exact SubL.refl | refine SubL.cons (by repeat (first | assumption | exact mS | apply mT)) ?_ | refine SubL.skip ?_)) (by repeat (first | exact OwnL.refl | apply OwnL.take (by repeat (first | exact Take.head _ | apply Take.tail)) | apply OwnL.drop)) (by repeat (first | exact Mems.nil | refine Mems.cons (by repeat (first | assumption | exact mS | apply mT)) ?_))) rfl rfl rfl (Rd.getSA (enc := encN) (size := 3) (xs := xs) (k := j) (a := xs[j]!) (cs := encN xs[j]!) rfl G30 rfl (by repeat (first | assumption | exact mS | apply mT)) (fun x => rfl) (get!_of_lt hj) (NF.refl _)) ?_
  refine WE.take 8 [] rfl (by kernel_rfl) (by repeat (first | exact List.Sublist.refl _ | exact List.nil_sublist _ | apply List.Sublist.cons_cons | apply List.Sublist.cons)) (HeldL.mk2 [accS (.slice (some ⟨g, 0, none⟩) xs.length cap) xs] (by kernel_rfl) (by repeat (first | exact SubL.refl | refine SubL.cons (by repeat (first | assumption | exact mS | apply mT)) ?_ | refine SubL.skip ?_)) (by repeat (first | exact OwnL.refl | apply OwnL.take (by repeat (first | exact Take.head _ | apply Take.tail)) | apply OwnL.drop)) (by repeat (first | exact Mems.nil | refine Mems.cons (by repeat (first | assumption | exact mS | apply mT)) ?_))) rfl rfl rfl (Rd.move rfl rfl) ?_
  refine WE.take 9 [] rfl (by kernel_rfl) (by repeat (first | exact List.Sublist.refl _ | exact List.nil_sublist _ | apply List.Sublist.cons_cons | apply List.Sublist.cons)) (HeldL.mk2 [accS (.slice (some ⟨g, 0, none⟩) xs.length cap) xs] (by kernel_rfl) (by repeat (first | exact SubL.refl | refine SubL.cons (by repeat (first | assumption | exact mS | apply mT)) ?_ | refine SubL.skip ?_)) (by repeat (first | exact OwnL.refl | apply OwnL.take (by repeat (first | exact Take.head _ | apply Take.tail)) | apply OwnL.drop)) (by repeat (first | exact Mems.nil | refine Mems.cons (by repeat (first | assumption | exact mS | apply mT)) ?_))) rfl rfl rfl (Rd.move rfl rfl) ?_
  refine WE.take 10 [] rfl (by kernel_rfl) (by repeat (first | exact List.Sublist.refl _ | exact List.nil_sublist _ | apply List.Sublist.cons_cons | apply List.Sublist.cons)) (HeldL.mk2 [accS (.slice (some ⟨g, 0, none⟩) xs.length cap) xs] (by kernel_rfl) (by repeat (first | exact SubL.refl | refine SubL.cons (by repeat (first | assumption | exact mS | apply mT)) ?_ | refine SubL.skip ?_)) (by repeat (first | exact OwnL.refl | apply OwnL.take (by repeat (first | exact Take.head _ | apply Take.tail)) | apply OwnL.drop)) (by repeat (first | exact Mems.nil | refine Mems.cons (by repeat (first | assumption | exact mS | apply mT)) ?_))) rfl rfl rfl (Rd.idxR (k := i) rfl S75 rfl rfl rfl (by omega)) ?_
  refine WE.take 11 [(13, accS (.slice (some ⟨g, 0, none⟩) xs.length cap) xs)] rfl (by kernel_rfl) (by repeat (first | exact List.Sublist.refl _ | exact List.nil_sublist _ | apply List.Sublist.cons_cons | apply List.Sublist.cons)) (HeldL.mk2 [accS (.slice (some ⟨g, 0, none⟩) xs.length cap) xs] (by kernel_rfl) (by repeat (first | exact SubL.refl | refine SubL.cons (by repeat (first | assumption | exact mS | apply mT)) ?_ | refine SubL.skip ?_)) (by repeat (first | exact OwnL.refl | apply OwnL.take (by repeat (first | exact Take.head _ | apply Take.tail)) | apply OwnL.drop)) (by repeat (first | exact Mems.nil | refine Mems.cons (by repeat (first | assumption | exact mS | apply mT)) ?_))) rfl rfl rfl (Rd.getSA (enc := encN) (size := 3) (xs := xs) (k := i) (a := xs[i]!) (cs := encN xs[i]!) rfl G30 rfl (by repeat (first | assumption | exact mS | apply mT)) (fun x => rfl) (get!_of_lt hi) (NF.refl _)) ?_
  refine WE.take 12 [] rfl (by kernel_rfl) (by repeat (first | exact List.Sublist.refl _ | exact List.nil_sublist _ | apply List.Sublist.cons_cons | apply List.Sublist.cons)) (HeldL.mk2 [accS (.slice (some ⟨g, 0, none⟩) xs.length cap) xs] (by kernel_rfl) (by repeat (first | exact SubL.refl | refine SubL.cons (by repeat (first | assumption | exact mS | apply mT)) ?_ | refine SubL.skip ?_)) (by repeat (first | exact OwnL.refl | apply OwnL.take (by repeat (first | exact Take.head _ | apply Take.tail)) | apply OwnL.drop)) (by repeat (first | exact Mems.nil | refine Mems.cons (by repeat (first | assumption | exact mS | apply mT)) ?_))) rfl rfl rfl (Rd.idxR (k := i) rfl S75 rfl rfl rfl (by omega)) ?_
  refine WE.one 13 rfl (by kernel_rfl) rfl ?_
  refine OpW.storeAccS (enc := encN) (k := i) (a := xs[j]!) rfl G30 rfl rfl rfl (fun x => rfl) rfl (by repeat (first | assumption | exact Take.head _ | apply Take.tail)) (by omega) rfl ?_
  refine ⟨(HeldL.mk2 [] (by kernel_rfl) (by repeat (first | exact SubL.refl | refine SubL.cons (by repeat (first | assumption | exact mS | apply mT)) ?_ | refine SubL.skip ?_)) (by repeat (first | exact OwnL.refl | apply OwnL.take (by repeat (first | exact Take.head _ | apply Take.tail)) | apply OwnL.drop)) (by repeat (first | exact Mems.nil | refine Mems.cons (by repeat (first | assumption | exact mS | apply mT)) ?_))), ?_⟩
  refine WE.take 14 [] rfl (by kernel_rfl) (by repeat (first | exact List.Sublist.refl _ | exact List.nil_sublist _ | apply List.Sublist.cons_cons | apply List.Sublist.cons)) (HeldL.mk2 [] (by kernel_rfl) (by repeat (first | exact SubL.refl | refine SubL.cons (by repeat (first | assumption | exact mS | apply mT)) ?_ | refine SubL.skip ?_)) (by repeat (first | exact OwnL.refl | apply OwnL.take (by repeat (first | exact Take.head _ | apply Take.tail)) | apply OwnL.drop)) (by repeat (first | exact Mems.nil | refine Mems.cons (by repeat (first | assumption | exact mS | apply mT)) ?_))) rfl rfl rfl (Rd.idxR (k := j) rfl S75 rfl rfl rfl (by omega)) ?_
  refine WE.one 15 rfl (by kernel_rfl) rfl ?_
  refine OpW.storeAccS (enc := encN) (k := j) (a := xs[i]!) rfl G30 rfl rfl rfl (fun x => rfl) rfl (by repeat (first | assumption | exact Take.head _ | apply Take.tail)) (by rw [List.length_set]; omega) rfl ?_
  refine ⟨(HeldL.mk2 [] (by kernel_rfl) (by repeat (first | exact SubL.refl | refine SubL.cons (by repeat (first | assumption | exact mS | apply mT)) ?_ | refine SubL.skip ?_)) (by repeat (first | exact OwnL.refl | apply OwnL.take (by repeat (first | exact Take.head _ | apply Take.tail)) | apply OwnL.drop)) (by repeat (first | exact Mems.nil | refine Mems.cons (by repeat (first | assumption | exact mS | apply mT)) ?_))), ?_⟩
  refine WE.done (by kernel_rfl) ?_
  refine Ret.normal (Ret.zero Try.results88 ?_)
  exact hk
theorem swap_spec {i j : Nat} (hO : Take (accS sv xs) O O') (hi : i < xs.length) (hj : j < xs.length) (hk : POST (.tuple #[]) R (accS sv (swapL xs i j) :: O')) : Fun Try.prog 88 #[sv, vi i, vi j] R O POST :=
  Fun.heap (fun w h => h.perm hO.perm) (swap0_spec hi hj hk)
abbrev sptr (b : Nat) : Value := .pointer (some ⟨b, 0, none⟩)
abbrev ifv (b : Nat) : Value := .iface 77 (sptr b)
theorem mLen {br : Nat} (hO : rowW br sv ∈ O) : Meth Try.prog R O 77 (sptr br) "Len" 86 sv := Meth.row (by kernel_rfl) Try.underlying77 C75 hO rfl
theorem mLess {br : Nat} (hO : rowW br sv ∈ O) : Meth Try.prog R O 77 (sptr br) "Less" 87 sv := Meth.row (by kernel_rfl) Try.underlying77 C75 hO rfl
theorem mSwap {br : Nat} (hO : rowW br sv ∈ O) : Meth Try.prog R O 77 (sptr br) "Swap" 88 sv := Meth.row (by kernel_rfl) Try.underlying77 C75 hO rfl
theorem mPush {br : Nat} : Meth Try.prog R O 77 (sptr br) "Push" 94 (sptr br) := Meth.ptr (by kernel_rfl) Try.underlying77
theorem mPop {br : Nat} : Meth Try.prog R O 77 (sptr br) "Pop" 93 (sptr br) := Meth.ptr (by kernel_rfl) Try.underlying77
abbrev spv (s : Nv) : Value := .iface 30 (ndV s)
set_option maxRecDepth 20000 in
theorem push_spec {br : Nat} {x : Nv} (hlen : xs.length ≤ 1000000) (hk : ∀ sv', POST (.tuple #[]) R (rowW br sv' :: accS sv' (xs ++ [x]) :: O)) :
    Fun Try.prog 94 #[sptr br, spv x] R (rowW br sv :: accS sv xs :: O) POST := by
  refine Fun.enter (l := [_, _]) Try.func94 rfl Try.ntmps94 rfl (L0 := [(0, _), (1, _)]) rfl ?_
  refine WC.drawnU (O) ([(9, rowW br sv)]) 10 rfl mixed ?_
  refine WE.take 0 [] rfl (by kernel_rfl) (by repeat (first | exact List.Sublist.refl _ | exact List.nil_sublist _ | apply List.Sublist.cons_cons | apply List.Sublist.cons)) (HeldL.mk2 [rowW br sv] (by kernel_rfl) (by repeat (first | exact SubL.refl | refine SubL.cons (by repeat (first | assumption | exact mS | apply mT)) ?_ | refine SubL.skip ?_)) (by repeat (first | exact OwnL.refl | apply OwnL.take (by repeat (first | exact Take.head _ | apply Take.tail)) | apply OwnL.drop)) (by repeat (first | exact Mems.nil | refine Mems.cons (by repeat (first | assumption | exact mS | apply mT)) ?_))) rfl rfl rfl (Rd.move rfl rfl) ?_
  refine WE.take 1 [] rfl (by kernel_rfl) (by repeat (first | exact List.Sublist.refl _ | exact List.nil_sublist _ | apply List.Sublist.cons_cons | apply List.Sublist.cons)) (HeldL.mk2 [rowW br sv] (by kernel_rfl) (by repeat (first | exact SubL.refl | refine SubL.cons (by repeat (first | assumption | exact mS | apply mT)) ?_ | refine SubL.skip ?_)) (by repeat (first | exact OwnL.refl | apply OwnL.take (by repeat (first | exact Take.head _ | apply Take.tail)) | apply OwnL.drop)) (by repeat (first | exact Mems.nil | refine Mems.cons (by repeat (first | assumption | exact mS | apply mT)) ?_))) rfl rfl rfl (Rd.move rfl rfl) ?_
  refine WE.take 2 [] rfl (by kernel_rfl) (by repeat (first | exact List.Sublist.refl _ | exact List.nil_sublist _ | apply List.Sublist.cons_cons | apply List.Sublist.cons)) (HeldL.mk2 [rowW br sv] (by kernel_rfl) (by repeat (first | exact SubL.refl | refine SubL.cons (by repeat (first | assumption | exact mS | apply mT)) ?_ | refine SubL.skip ?_)) (by repeat (first | exact OwnL.refl | apply OwnL.take (by repeat (first | exact Take.head _ | apply Take.tail)) | apply OwnL.drop)) (by repeat (first | exact Mems.nil | refine Mems.cons (by repeat (first | assumption | exact mS | apply mT)) ?_))) rfl rfl rfl (Rd.nilc rfl rfl) ?_
  refine WE.take 3 [(9, rowW br sv)] rfl (by kernel_rfl) (by repeat (first | exact List.Sublist.refl _ | exact List.nil_sublist _ | apply List.Sublist.cons_cons | apply List.Sublist.cons)) (HeldL.mk2 [rowW br sv] (by kernel_rfl) (by repeat (first | exact SubL.refl | refine SubL.cons (by repeat (first | assumption | exact mS | apply mT)) ?_ | refine SubL.skip ?_)) (by repeat (first | exact OwnL.refl | apply OwnL.take (by repeat (first | exact Take.head _ | apply Take.tail)) | apply OwnL.drop)) (by repeat (first | exact Mems.nil | refine Mems.cons (by repeat (first | assumption | exact mS | apply mT)) ?_))) rfl rfl rfl (Rd.row1 (b := br) (off := 0) (u := sv) rfl C75 rfl (by repeat (first | assumption | exact mS | apply mT)) rfl) ?_
  refine WE.take 4 [] rfl (by kernel_rfl) (by repeat (first | exact List.Sublist.refl _ | exact List.nil_sublist _ | apply List.Sublist.cons_cons | apply List.Sublist.cons)) (HeldL.mk2 [rowW br sv] (by kernel_rfl) (by repeat (first | exact SubL.refl | refine SubL.cons (by repeat (first | assumption | exact mS | apply mT)) ?_ | refine SubL.skip ?_)) (by repeat (first | exact OwnL.refl | apply OwnL.take (by repeat (first | exact Take.head _ | apply Take.tail)) | apply OwnL.drop)) (by repeat (first | exact Mems.nil | refine Mems.cons (by repeat (first | assumption | exact mS | apply mT)) ?_))) rfl rfl rfl (Rd.move rfl rfl) ?_
  refine WE.take 5 [] rfl (by kernel_rfl) (by repeat (first | exact List.Sublist.refl _ | exact List.nil_sublist _ | apply List.Sublist.cons_cons | apply List.Sublist.cons)) (HeldL.mk2 [rowW br sv] (by kernel_rfl) (by repeat (first | exact SubL.refl | refine SubL.cons (by repeat (first | assumption | exact mS | apply mT)) ?_ | refine SubL.skip ?_)) (by repeat (first | exact OwnL.refl | apply OwnL.take (by repeat (first | exact Take.head _ | apply Take.tail)) | apply OwnL.drop)) (by repeat (first | exact Mems.nil | refine Mems.cons (by repeat (first | assumption | exact mS | apply mT)) ?_))) rfl rfl rfl (Rd.assertT rfl Try.underlying30 rfl rfl) ?_
  refine WE.one 6 rfl (by kernel_rfl) rfl ?_
  refine OpW.buildSl (ps := [(0, _)]) rfl S75 (by repeat (first | exact Evs.nil | apply Evs.cons rfl)) rfl rfl (by repeat (first | exact CellsOf.nil | apply CellsOf.cons rfl)) (by kernel_rfl) rfl rfl rfl ?_; intro b10
  refine ⟨(HeldL.mk2 [rowW br sv] (by kernel_rfl) (by repeat (first | exact SubL.refl | refine SubL.cons (by repeat (first | assumption | exact mS | apply mT)) ?_ | refine SubL.skip ?_)) (by repeat (first | exact OwnL.refl | apply OwnL.take (by repeat (first | exact Take.head _ | apply Take.tail)) | apply OwnL.drop)) (by repeat (first | exact Mems.nil | refine Mems.cons (by repeat (first | assumption | exact mS | apply mT)) ?_))), ?_⟩
  refine WE.one 7 rfl (by kernel_rfl) rfl ?_
  refine OpW.appendRow (enc := encN) rfl S75 rfl rfl (by repeat (first | assumption | exact Take.head _ | apply Take.tail)) (by repeat (first | assumption | exact Take.head _ | apply Take.tail)) [x] rfl (by rfl) rfl (by intro x; first | rfl | (cases x; rfl) | (rcases x with ⟨_, _, _⟩; rfl) | (rcases x with ⟨_, _, _, _⟩; rfl)) (by intro x; first | rfl | (cases x; rfl) | (rcases x with ⟨_, _, _⟩; rfl) | (rcases x with ⟨_, _, _, _⟩; rfl)) (by first | assumption | exact ⟨by simp only [maxLen, List.length_append, List.length_nil, List.length_cons, List.length_drop, List.length_take, List.length_map]; omega, by first | omega | (simp only [List.length_append, List.length_nil, List.length_cons, List.length_drop, List.length_take, List.length_map]; omega)⟩) rfl rfl ?_; intro v11 hv11
  refine ⟨(HeldL.mk2 [rowW br sv] (by kernel_rfl) (by repeat (first | exact SubL.refl | refine SubL.cons (by repeat (first | assumption | exact mS | apply mT)) ?_ | refine SubL.skip ?_)) (by repeat (first | exact OwnL.refl | apply OwnL.take (by repeat (first | exact Take.head _ | apply Take.tail)) | apply OwnL.drop)) (by repeat (first | exact Mems.nil | refine Mems.cons (by repeat (first | assumption | exact mS | apply mT)) ?_))), ?_⟩
  refine WE.take 8 [] rfl (by kernel_rfl) (by repeat (first | exact List.Sublist.refl _ | exact List.nil_sublist _ | apply List.Sublist.cons_cons | apply List.Sublist.cons)) (HeldL.mk2 [rowW br sv] (by kernel_rfl) (by repeat (first | exact SubL.refl | refine SubL.cons (by repeat (first | assumption | exact mS | apply mT)) ?_ | refine SubL.skip ?_)) (by repeat (first | exact OwnL.refl | apply OwnL.take (by repeat (first | exact Take.head _ | apply Take.tail)) | apply OwnL.drop)) (by repeat (first | exact Mems.nil | refine Mems.cons (by repeat (first | assumption | exact mS | apply mT)) ?_))) rfl rfl rfl (Rd.nilc rfl rfl) ?_
  refine WE.one 9 rfl (by kernel_rfl) rfl ?_
  refine OpW.store1 rfl Z75 rfl rfl (by first | exact ⟨rfl, rfl⟩ | assumption) (by repeat (first | assumption | exact Take.head _ | apply Take.tail)) (by first | (simp; done) | omega | exact of_decide_eq_true rfl | (simp only [List.length_append, List.length_replicate, List.length_map, List.length_set]; omega)) rfl ?_
  refine ⟨(HeldL.mk2 [] (by kernel_rfl) (by repeat (first | exact SubL.refl | refine SubL.cons (by repeat (first | assumption | exact mS | apply mT)) ?_ | refine SubL.skip ?_)) (by repeat (first | exact OwnL.refl | apply OwnL.take (by repeat (first | exact Take.head _ | apply Take.tail)) | apply OwnL.drop)) (by repeat (first | exact Mems.nil | refine Mems.cons (by repeat (first | assumption | exact mS | apply mT)) ?_))), ?_⟩
  refine WE.done (by kernel_rfl) ?_
  refine Ret.normal (Ret.zero Try.results94 ?_)
  exact hk _
set_option maxRecDepth 20000 in
theorem pop_spec {br : Nat} (hlen : xs.length ≤ 1000000) (h0 : 0 < xs.length) (hk : ∀ sv', POST (spv xs[xs.length - 1]!) R (rowW br sv' :: accS sv' (xs.take (xs.length - 1)) :: O)) :
    Fun Try.prog 93 #[sptr br] R (rowW br sv :: accS sv xs :: O) POST := by
  refine Fun.knowO' (c := accS sv xs) (List.mem_cons_of_mem _ List.mem_cons_self) (fun w h => acc_sub (hi := xs.length - 1) h) fun hone => ?_
  refine Fun.enter (l := [_]) Try.func93 rfl Try.ntmps93 rfl (L0 := [(0, _)]) rfl ?_
  refine WC.seq ?_
  refine WC.region ?_
  refine WL.rd rfl rfl rfl (Rd.assign rfl rfl) ?_
  refine WL.nil ?_
  refine thenQ.normal ?_
  refine WC.seq ?_
  refine WC.drawn (rowW br sv :: accS sv xs :: O) 12 rfl mixed ?_
  refine WD.take 0 rfl (by kernel_rfl) (Held.mk' (by repeat (first | exact SubL.refl | refine SubL.cons (by repeat (first | assumption | exact mS | apply mT)) ?_ | refine SubL.skip ?_)) (by repeat (first | exact OwnL.refl | apply OwnL.take (by repeat (first | exact Take.head _ | apply Take.tail)) | apply OwnL.drop))) rfl rfl rfl (Rd.move rfl rfl) ?_
  refine WD.take 1 rfl (by kernel_rfl) (Held.mk' (by repeat (first | exact SubL.refl | refine SubL.cons (by repeat (first | assumption | exact mS | apply mT)) ?_ | refine SubL.skip ?_)) (by repeat (first | exact OwnL.refl | apply OwnL.take (by repeat (first | exact Take.head _ | apply Take.tail)) | apply OwnL.drop))) rfl rfl rfl (Rd.nilc rfl rfl) ?_
  refine WD.take 2 rfl (by kernel_rfl) (Held.mk' (by repeat (first | exact SubL.refl | refine SubL.cons (by repeat (first | assumption | exact mS | apply mT)) ?_ | refine SubL.skip ?_)) (by repeat (first | exact OwnL.refl | apply OwnL.take (by repeat (first | exact Take.head _ | apply Take.tail)) | apply OwnL.drop))) rfl rfl rfl (Rd.row1 (b := br) (off := 0) (u := sv) rfl C75 rfl (by repeat (first | assumption | exact mS | apply mT)) rfl) ?_
  refine WD.take 3 rfl (by kernel_rfl) (Held.mk' (by repeat (first | exact SubL.refl | refine SubL.cons (by repeat (first | assumption | exact mS | apply mT)) ?_ | refine SubL.skip ?_)) (by repeat (first | exact OwnL.refl | apply OwnL.take (by repeat (first | exact Take.head _ | apply Take.tail)) | apply OwnL.drop))) rfl rfl rfl (Rd.move rfl rfl) ?_
  refine WD.take 4 rfl (by kernel_rfl) (Held.mk' (by repeat (first | exact SubL.refl | refine SubL.cons (by repeat (first | assumption | exact mS | apply mT)) ?_ | refine SubL.skip ?_)) (by repeat (first | exact OwnL.refl | apply OwnL.take (by repeat (first | exact Take.head _ | apply Take.tail)) | apply OwnL.drop))) rfl rfl rfl (Rd.nilc rfl rfl) ?_
  refine WD.take 5 rfl (by kernel_rfl) (Held.mk' (by repeat (first | exact SubL.refl | refine SubL.cons (by repeat (first | assumption | exact mS | apply mT)) ?_ | refine SubL.skip ?_)) (by repeat (first | exact OwnL.refl | apply OwnL.take (by repeat (first | exact Take.head _ | apply Take.tail)) | apply OwnL.drop))) rfl rfl rfl (Rd.row1 (b := br) (off := 0) (u := sv) rfl C75 rfl (by repeat (first | assumption | exact mS | apply mT)) rfl) ?_
  refine WD.take 6 rfl (by kernel_rfl) (Held.mk' (by repeat (first | exact SubL.refl | refine SubL.cons (by repeat (first | assumption | exact mS | apply mT)) ?_ | refine SubL.skip ?_)) (by repeat (first | exact OwnL.refl | apply OwnL.take (by repeat (first | exact Take.head _ | apply Take.tail)) | apply OwnL.drop))) rfl rfl rfl (Rd.lenA (enc := encN) (xs := xs) rfl rfl Try.underlying75 (by repeat (first | assumption | exact mS | apply mT))) ?_
  refine WD.take 7 rfl (by kernel_rfl) (Held.mk' (by repeat (first | exact SubL.refl | refine SubL.cons (by repeat (first | assumption | exact mS | apply mT)) ?_ | refine SubL.skip ?_)) (by repeat (first | exact OwnL.refl | apply OwnL.take (by repeat (first | exact Take.head _ | apply Take.tail)) | apply OwnL.drop))) rfl rfl rfl (Rd.sub rfl rfl rfl (by omega)) ?_
  refine WD.take 8 rfl (by kernel_rfl) (Held.mk' (by repeat (first | exact SubL.refl | refine SubL.cons (by repeat (first | assumption | exact mS | apply mT)) ?_ | refine SubL.skip ?_)) (by repeat (first | exact OwnL.refl | apply OwnL.take (by repeat (first | exact Take.head _ | apply Take.tail)) | apply OwnL.drop))) rfl rfl rfl ((by first | exact Rd.idx (k := xs.length - 1) rfl S75 rfl rfl (by omega) (by repeat (first | assumption | exact mS | apply mT)) (by first | omega | (simp only [List.length_cons, List.length_nil, List.length_append, List.length_map]; omega)) | exact Rd.idxA (k := xs.length - 1) rfl S75 rfl rfl (by omega) (by repeat (first | assumption | exact mS | apply mT)) (by first | omega | (simp only [List.length_cons, List.length_nil, List.length_append, List.length_map]; omega)) | exact Rd.idxR (k := xs.length - 1) rfl S75 rfl rfl (by omega) (by omega))) ?_
  refine WD.take 9 rfl (by kernel_rfl) (Held.mk' (by repeat (first | exact SubL.refl | refine SubL.cons (by repeat (first | assumption | exact mS | apply mT)) ?_ | refine SubL.skip ?_)) (by repeat (first | exact OwnL.refl | apply OwnL.take (by repeat (first | exact Take.head _ | apply Take.tail)) | apply OwnL.drop))) rfl rfl rfl (Rd.getSA (enc := encN) (size := 3) (xs := xs) (k := xs.length - 1) (a := xs[xs.length - 1]!) (cs := encN xs[xs.length - 1]!) rfl G30 rfl (by repeat (first | assumption | exact mS | apply mT)) (fun x => rfl) (get!_of_lt (by omega)) (NF.refl _)) ?_
  refine WD.one 10 rfl (by kernel_rfl) rfl ?_
  refine OpW.alloc rfl I30 rfl (by repeat (first | exact NF.nil | apply NF.cons)) rfl rfl ?_; intro b3
  refine ⟨(Held.mk' (by repeat (first | exact SubL.refl | refine SubL.cons (by repeat (first | assumption | exact mS | apply mT)) ?_ | refine SubL.skip ?_)) (by repeat (first | exact OwnL.refl | apply OwnL.take (by repeat (first | exact Take.head _ | apply Take.tail)) | apply OwnL.drop))), ?_⟩
  refine WD.one 11 rfl (by kernel_rfl) rfl ?_
  refine OpW.storeS rfl G30 rfl rfl (by repeat (first | exact NF.nil | apply NF.cons)) (by repeat (first | assumption | exact Take.head _ | apply Take.tail)) rfl rfl (by repeat (first | exact NF.nil | apply NF.cons)) rfl ?_
  refine ⟨(Held.mk' (by repeat (first | exact SubL.refl | refine SubL.cons (by repeat (first | assumption | exact mS | apply mT)) ?_ | refine SubL.skip ?_)) (by repeat (first | exact OwnL.refl | apply OwnL.take (by repeat (first | exact Take.head _ | apply Take.tail)) | apply OwnL.drop))), ?_⟩
  refine WD.done (by kernel_rfl) ?_
  refine thenQ.normal ?_
  refine WC.seq ?_
  refine WC.tail 11 mixed (by kernel_rfl) ?_
  refine WS.rd rfl rfl rfl (Rd.move rfl rfl) ?_
  refine WS.rd rfl rfl rfl (Rd.move rfl rfl) ?_
  refine WS.rd rfl rfl rfl (Rd.nilc rfl rfl) ?_
  refine WS.rd rfl rfl rfl (Rd.row1 (b := br) (off := 0) (u := sv) rfl C75 rfl (by repeat (first | assumption | exact mS | apply mT)) rfl) ?_
  refine WS.rd rfl rfl rfl (Rd.move rfl rfl) ?_
  refine WS.rd rfl rfl rfl (Rd.nilc rfl rfl) ?_
  refine WS.rd rfl rfl rfl (Rd.row1 (b := br) (off := 0) (u := sv) rfl C75 rfl (by repeat (first | assumption | exact mS | apply mT)) rfl) ?_
  refine WS.rd rfl rfl rfl (Rd.lenA (enc := encN) (xs := xs) rfl rfl Try.underlying75 (by repeat (first | assumption | exact mS | apply mT))) ?_
  refine WS.rd rfl rfl rfl (Rd.sub rfl rfl rfl (by omega)) ?_
  refine WS.rd rfl rfl rfl (Rd.cutA_h (enc := encN) (xs := xs) (hi := xs.length - 1) rfl S75 rfl rfl (by omega) (by repeat (first | assumption | exact mS | apply mT)) (by omega)) ?_
  refine WS.rd rfl rfl rfl (Rd.nilc rfl rfl) ?_
  refine WS.switch ?_
  refine WL.op rfl ?_
  refine OpW.store1 (b := br) (off := 0) rfl Z75 rfl rfl hone (by repeat (first | assumption | exact Take.head _ | apply Take.tail)) (by simp) rfl ?_
  refine WL.nil ?_
  refine thenQ.normal ?_
  refine WC.seq ?_
  refine WC.region ?_
  refine WL.rd rfl rfl rfl ((by first | exact Rd.rowS rfl G30 rfl (by repeat (first | assumption | exact mS | apply mT)) (by repeat (first | exact NF.nil | apply NF.cons)) rfl | exact Rd.getS rfl G30 rfl (by repeat (first | assumption | exact mS | apply mT)) (by intro x; first | rfl | (cases x; rfl) | (rcases x with ⟨_, _, _⟩; rfl) | (rcases x with ⟨_, _, _, _⟩; rfl)) (by first | assumption | rfl | exact get!_of_lt (by omega)) (by repeat (first | exact NF.nil | apply NF.cons)) | exact Rd.getSA rfl G30 rfl (by repeat (first | assumption | exact mS | apply mT)) (by intro x; first | rfl | (cases x; rfl) | (rcases x with ⟨_, _, _⟩; rfl) | (rcases x with ⟨_, _, _, _⟩; rfl)) (by first | assumption | rfl | exact get!_of_lt (by omega)) (by repeat (first | exact NF.nil | apply NF.cons)))) ?_
  refine WL.rd rfl rfl rfl (Rd.iface rfl Try.underlying30 rfl rfl) ?_
  refine WL.heap (fun w h => Sat.cutAcc (e := 30) (enc := encN) (v := sv) (xs := xs) (hi := xs.length - 1) (by repeat (first | assumption | exact Take.head _ | apply Take.tail)) (fun x => rfl) (by omega) h) ?_
  refine WL.heap (R' := R) (O' := rowW br (subSl sv 3 0 (xs.length - 1)) :: accS (subSl sv 3 0 (xs.length - 1)) (xs.take (xs.length - 1)) :: O) (fun w h => OwnL.sat (by repeat (first | exact OwnL.refl | apply OwnL.take (by repeat (first | exact Take.head _ | apply Take.tail)) | apply OwnL.drop)) w (h.thin (SubL.mem (by repeat (first | exact SubL.refl | refine SubL.cons (by repeat (first | assumption | exact mS | apply mT)) ?_ | refine SubL.skip ?_))))) ?_
  refine WL.rd rfl rfl rfl (Rd.assign rfl rfl) ?_
  refine WL.nil ?_
  refine thenQ.normal ?_
  refine WC.ret (Ret.one Try.results93 rfl ?_)
  exact hk _
end
section
variable {R : List RO} {O O' : List Own} {POST : Value → List RO → List Own → Prop} {xs : List Nv} {sv : Value} {br : Nat}
set_option maxRecDepth 20000 in
theorem up_spec {j : Nat} (hlen : xs.length ≤ 1000000) (hU : Up ndLt xs j) (hk : ∀ ys, ys.Perm xs → Hp ndLt ys → POST (.tuple #[]) R (rowW br sv :: accS sv ys :: O)) :
    Fun Try.prog 48 #[ifv br, vi j] R (rowW br sv :: accS sv xs :: O) POST := by
  have hjl := hU.1
  refine Fun.enter (l := [_, _]) Try.func48 rfl Try.ntmps48 rfl (L0 := [(0, _), (1, _)]) rfl ?_
  refine WC.block ?_
  refine WC.pick [1, 0] (by repeat (first | exact Pick.nil | apply Pick.cons rfl)) ?_
  refine WC.loop2 1 (fun (i : Nat) (ys : List Nv) => [(1, vi i)]) (fun (i : Nat) (ys : List Nv) => rowW br sv :: accS sv ys :: O) (fun (i : Nat) (ys : List Nv) => Up ndLt ys i ∧ ys.Perm xs ∧ i < ys.length ∧ ys.length = xs.length) (fun (i : Nat) (ys : List Nv) => i) (j) (xs) (by repeat (first | exact Split.zero | apply Split.succ)) ?hinv1 (by repeat (first | exact Sub.nil | refine Sub.cons rfl (by first | rfl | (congr 1; omega) | assumption) ?_)) (fun _ h => h) ?_
  case hinv1 =>
    exact ⟨hU, List.Perm.refl _, hjl, rfl⟩
  intro i ys
  rintro ⟨i1, i2, i3, i4⟩
  refine WC.block ?_
  refine WC.seq ?_
  refine WC.region ?_
  refine WL.rd rfl rfl rfl (Rd.move rfl rfl) ?_
  refine WL.rd rfl rfl rfl (Rd.sub rfl rfl rfl (by omega)) ?_
  refine WL.rd rfl rfl rfl (Rd.half (j := i) rfl rfl rfl (by omega) (by omega)) ?_
  refine WL.rd rfl rfl rfl (Rd.assign rfl rfl) ?_
  refine WL.nil ?_
  refine thenQ.normal ?_
  refine WC.seq ?_
  refine WC.pick [0, 1, 4] (by repeat (first | exact Pick.nil | apply Pick.cons rfl)) ?_
  refine WC.val 17 (.bool (decide (¬ (0 < i ∧ ndLt ys[i]! ys[(i - 1) / 2]!)))) ?_ ?_
  · skip
    refine WC.region ?_
    refine WL.rd rfl rfl rfl (Rd.move rfl rfl) ?_
    refine WL.rd rfl rfl rfl (Rd.move rfl rfl) ?_
    refine WL.rd rfl rfl rfl (Rd.eql rfl rfl rfl) ?_
    refine WL.rd rfl rfl rfl (Rd.move rfl rfl) ?_
    refine WL.case 11 rfl (fun hg11 => ?_) (fun hg11 => ?_)
    · skip
      refine WL.no rfl rfl rfl rfl rfl rfl ?_
      refine WL.no rfl rfl rfl rfl rfl rfl ?_
      refine WL.no rfl rfl rfl rfl rfl rfl ?_
      refine WL.no rfl rfl rfl rfl rfl rfl ?_
      refine WL.no rfl rfl rfl rfl rfl rfl ?_
      refine WL.rd rfl rfl rfl (Rd.pick_t rfl rfl rfl) ?_
      refine WL.nil ?_
      exact ⟨by repeat (first | exact Sub.nil | refine Sub.cons rfl (by first | rfl | (first | exact vb_t (fun h => by omega) | exact vb ⟨fun h g => h g.2, fun h g => h ⟨by omega, g⟩⟩)) ?_), by first | exact (fun _ h => h.thin (SubL.mem (by repeat (first | exact SubL.refl | refine SubL.cons (by repeat (first | assumption | exact mS | apply mT)) ?_ | refine SubL.skip ?_)))) | exact (fun w h => OwnL.sat (by repeat (first | exact OwnL.refl | apply OwnL.take (by repeat (first | exact Take.head _ | apply Take.tail)) | apply OwnL.drop)) w (h.thin (SubL.mem (by repeat (first | exact SubL.refl | refine SubL.cons (by repeat (first | assumption | exact mS | apply mT)) ?_ | refine SubL.skip ?_)))))⟩
    · skip
      refine WL.rd_yes rfl rfl rfl rfl rfl rfl (Rd.move rfl rfl) ?_
      refine WL.rd_yes rfl rfl rfl rfl rfl rfl (Rd.move rfl rfl) ?_
      refine WL.rd_yes rfl rfl rfl rfl rfl rfl (Rd.move rfl rfl) ?_
      refine WL.op_yes rfl rfl rfl rfl ?_
      refine OpW.invoke rfl rfl (by repeat (first | exact Evs.nil | apply Evs.cons rfl)) (mLess (by repeat (first | assumption | exact mS | apply mT))) (by kernel_rfl) rfl rfl ?_; refine less_spec (xs := ys) (i := i) (j := (i - 1) / 2) (by repeat (first | assumption | exact mS | apply mT)) (by omega) (by omega) ?_
      refine WL.rd_yes rfl rfl rfl rfl rfl rfl ((by first | exact Rd.notd rfl rfl | exact Rd.not rfl rfl)) ?_
      refine WL.rd rfl rfl rfl (Rd.pick_f rfl rfl rfl) ?_
      refine WL.nil ?_
      exact ⟨by repeat (first | exact Sub.nil | refine Sub.cons rfl (by first | rfl | (first | exact vb_t (fun h => by omega) | exact vb ⟨fun h g => h g.2, fun h g => h ⟨by omega, g⟩⟩)) ?_), by first | exact (fun _ h => h.thin (SubL.mem (by repeat (first | exact SubL.refl | refine SubL.cons (by repeat (first | assumption | exact mS | apply mT)) ?_ | refine SubL.skip ?_)))) | exact (fun w h => OwnL.sat (by repeat (first | exact OwnL.refl | apply OwnL.take (by repeat (first | exact Take.head _ | apply Take.tail)) | apply OwnL.drop)) w (h.thin (SubL.mem (by repeat (first | exact SubL.refl | refine SubL.cons (by repeat (first | assumption | exact mS | apply mT)) ?_ | refine SubL.skip ?_)))))⟩
  · skip
    first | refine WC.ite rfl (fun hc1 => ?_) (fun hc1 => ?_) | refine WC.cond rfl (fun hc1 => ?_) (fun hc1 => ?_)
    · skip
      refine WC.exit ?_
      refine thenQ.exit ?_
      refine blockQ.pass rfl ?_
      refine loopQ2.exit ?_
      refine blockQ.exit ?_
      refine Ret.normal (Ret.zero Try.results48 ?_)
      exact hk ys i2 (i1.done (by rcases Nat.eq_zero_or_pos i with h | h; exact .inl h; exact .inr (fun g => hc1 ⟨h, g⟩)))
    · skip
      obtain ⟨h0, hlt⟩ := Decidable.not_not.1 hc1
      refine WC.skip ?_
      refine thenQ.normal ?_
      refine WC.seq ?_
      refine WC.region ?_
      refine WL.rd rfl rfl rfl (Rd.move rfl rfl) ?_
      refine WL.rd rfl rfl rfl (Rd.move rfl rfl) ?_
      refine WL.rd rfl rfl rfl (Rd.move rfl rfl) ?_
      refine WL.op rfl ?_
      refine OpW.invoke rfl rfl (by repeat (first | exact Evs.nil | apply Evs.cons rfl)) (mSwap (by repeat (first | assumption | exact mS | apply mT))) (by kernel_rfl) rfl rfl ?_; refine swap_spec (xs := ys) (i := (i - 1) / 2) (j := i) (by repeat (first | assumption | exact Take.head _ | apply Take.tail)) (by omega) (by omega) ?_
      refine WL.nil ?_
      refine thenQ.normal ?_
      refine WC.region ?_
      refine WL.rd rfl rfl rfl (Rd.move rfl rfl) ?_
      refine WL.rd rfl rfl rfl (Rd.assign rfl rfl) ?_
      refine WL.nil ?_
      refine blockQ.normal ?_
      exact loopQ2.mk ((i - 1) / 2) (swapL ys ((i - 1) / 2) i) ⟨i1.step ndOrd h0 hlt, (swapL_perm (by omega) (by omega)).trans i2, by rw [swapL_len]; omega, by rw [swapL_len]; exact i4⟩ (by omega) (by repeat (first | exact Sub.nil | refine Sub.cons rfl (by first | rfl | (congr 1; omega) | assumption) ?_)) (fun w h => OwnL.sat (by repeat (first | exact OwnL.refl | apply OwnL.take (by repeat (first | exact Take.head _ | apply Take.tail)) | apply OwnL.drop)) w (h.thin (SubL.mem (by repeat (first | exact SubL.refl | refine SubL.cons (by repeat (first | assumption | exact mS | apply mT)) ?_ | refine SubL.skip ?_)))))
set_option maxRecDepth 20000 in
theorem down_spec {n : Nat} (hlen : xs.length ≤ 1000000) (hD : Dn ndLt xs 0 n) (hk : ∀ b ys, ys.Perm xs → ys.drop n = xs.drop n → Hp ndLt (ys.take n) → POST (.bool b) R (rowW br sv :: accS sv ys :: O)) :
    Fun Try.prog 49 #[ifv br, vi 0, vi n] R (rowW br sv :: accS sv xs :: O) POST := by
  have hn := hD.1
  refine Fun.enter (l := [_, _, _]) Try.func49 rfl Try.ntmps49 rfl (L0 := [(0, _), (1, _), (2, _)]) rfl ?_
  refine WC.seq ?_
  refine WC.region ?_
  refine WL.rd rfl rfl rfl (Rd.assign rfl rfl) ?_
  refine WL.nil ?_
  refine thenQ.normal ?_
  refine WC.seq ?_
  refine WC.region ?_
  refine WL.rd rfl rfl rfl (Rd.move rfl rfl) ?_
  refine WL.rd rfl rfl rfl (Rd.assign rfl rfl) ?_
  refine WL.nil ?_
  refine thenQ.normal ?_
  refine WC.seq ?_
  refine WC.block ?_
  refine WC.pick [7, 0, 1, 2] (by repeat (first | exact Pick.nil | apply Pick.cons rfl)) ?_
  refine WC.loop2 1 (fun (i : Nat) (ys : List Nv) => [(7, vi i)]) (fun (i : Nat) (ys : List Nv) => rowW br sv :: accS sv ys :: O) (fun (i : Nat) (ys : List Nv) => Dn ndLt ys i n ∧ ys.Perm xs ∧ ys.drop n = xs.drop n ∧ ys.length = xs.length ∧ i ≤ n) (fun (i : Nat) (ys : List Nv) => n - i) (0) (xs) (by repeat (first | exact Split.zero | apply Split.succ)) ?hinv1 (by repeat (first | exact Sub.nil | refine Sub.cons rfl (by first | rfl | (congr 1; omega) | assumption) ?_)) (fun _ h => h) ?_
  case hinv1 =>
    exact ⟨hD, List.Perm.refl _, rfl, rfl, Nat.zero_le _⟩
  intro i ys
  rintro ⟨i1, i2, i3, i4, i5⟩
  refine WC.block ?_
  refine WC.seq ?_
  refine WC.region ?_
  refine WL.rd rfl rfl rfl (Rd.move rfl rfl) ?_
  refine WL.rd rfl rfl rfl (Rd.mul rfl rfl rfl (by omega)) ?_
  refine WL.rd rfl rfl rfl (Rd.add rfl rfl rfl (by omega)) ?_
  refine WL.rd rfl rfl rfl (Rd.assign rfl rfl) ?_
  refine WL.nil ?_
  refine thenQ.normal ?_
  refine WC.seq ?_
  refine WC.seq ?_
  refine WC.region ?_
  refine WL.rd rfl rfl rfl (Rd.move rfl rfl) ?_
  refine WL.rd rfl rfl rfl (Rd.move rfl rfl) ?_
  refine WL.rd rfl rfl rfl (Rd.geq rfl rfl rfl) ?_
  refine WL.rd rfl rfl rfl (Rd.move rfl rfl) ?_
  refine WL.case 18 rfl (fun hg18 => ?_) (fun hg18 => ?_)
  · skip
    have hdone : Hp ndLt (ys.take n) := i1.done (fun c c0 cn ce => by omega)
    refine WL.no rfl rfl rfl rfl rfl rfl ?_
    refine WL.no rfl rfl rfl rfl rfl rfl ?_
    refine WL.rd rfl rfl rfl (Rd.pick_t rfl rfl rfl) ?_
    refine WL.nil ?_
    refine thenQ.normal ?_
    refine WC.yes rfl ?_
    refine WC.exit ?_
    refine thenQ.exit ?_
    refine blockQ.pass rfl ?_
    refine loopQ2.exit ?_
    refine blockQ.exit ?_
    refine thenQ.normal ?_
    refine WC.seq ?_
    refine WC.region ?_
    refine WL.rd rfl rfl rfl (Rd.move rfl rfl) ?_
    refine WL.rd rfl rfl rfl (Rd.move rfl rfl) ?_
    refine WL.rd rfl rfl rfl (Rd.gtr rfl rfl rfl) ?_
    refine WL.rd rfl rfl rfl (Rd.assign rfl rfl) ?_
    refine WL.nil ?_
    refine thenQ.normal ?_
    refine WC.ret (Ret.one Try.results49 rfl ?_)
    exact hk _ ys i2 i3 hdone
  · skip
    refine WL.rd_yes rfl rfl rfl rfl rfl rfl (Rd.move rfl rfl) ?_
    refine WL.rd_yes rfl rfl rfl rfl rfl rfl (Rd.lss rfl rfl rfl) ?_
    refine WL.rd rfl rfl rfl (Rd.pick_f rfl rfl rfl) ?_
    refine WL.nil ?_
    refine thenQ.normal ?_
    first | refine WC.ite rfl (fun hc1 => ?_) (fun hc1 => ?_) | refine WC.cond rfl (fun hc1 => ?_) (fun hc1 => ?_)
    · skip
      exfalso; omega
    · skip
      refine WC.skip ?_
      refine thenQ.normal ?_
      refine WC.seq ?_
      refine WC.region ?_
      refine WL.rd rfl rfl rfl (Rd.move rfl rfl) ?_
      refine WL.rd rfl rfl rfl (Rd.assign rfl rfl) ?_
      refine WL.nil ?_
      refine thenQ.normal ?_
      refine WC.seq ?_
      refine WC.seq ?_
      refine WC.region ?_
      refine WL.rd rfl rfl rfl (Rd.move rfl rfl) ?_
      refine WL.rd rfl rfl rfl (Rd.add rfl rfl rfl (by omega)) ?_
      refine WL.rd rfl rfl rfl (Rd.assign rfl rfl) ?_
      refine WL.nil ?_
      refine thenQ.normal ?_
      refine WC.pick [0, 1, 2, 7, 8, 9, 10] (by repeat (first | exact Pick.nil | apply Pick.cons rfl)) ?_
      refine WC.val 33 (.bool (decide (2 * i + 1 + 1 < n ∧ ndLt ys[2 * i + 1 + 1]! ys[2 * i + 1]!))) ?_ ?_
      · skip
        refine WC.region ?_
        refine WL.rd rfl rfl rfl (Rd.move rfl rfl) ?_
        refine WL.rd rfl rfl rfl (Rd.move rfl rfl) ?_
        refine WL.rd rfl rfl rfl (Rd.lss rfl rfl rfl) ?_
        refine WL.rd rfl rfl rfl (Rd.move rfl rfl) ?_
        refine WL.case 28 rfl (fun hg28 => ?_) (fun hg28 => ?_)
        · skip
          refine WL.rd_yes rfl rfl rfl rfl rfl rfl (Rd.move rfl rfl) ?_
          refine WL.rd_yes rfl rfl rfl rfl rfl rfl (Rd.move rfl rfl) ?_
          refine WL.rd_yes rfl rfl rfl rfl rfl rfl (Rd.move rfl rfl) ?_
          refine WL.op_yes rfl rfl rfl rfl ?_
          refine OpW.invoke rfl rfl (by repeat (first | exact Evs.nil | apply Evs.cons rfl)) (mLess (by repeat (first | assumption | exact mS | apply mT))) (by kernel_rfl) rfl rfl ?_; refine less_spec (xs := ys) (i := 2 * i + 1 + 1) (j := 2 * i + 1) (by repeat (first | assumption | exact mS | apply mT)) (by omega) (by omega) ?_
          refine WL.rd rfl rfl rfl (Rd.pick_t rfl rfl rfl) ?_
          refine WL.nil ?_
          exact ⟨by repeat (first | exact Sub.nil | refine Sub.cons rfl (by first | rfl | (first | exact vb_f (fun h => hg28 (by have := h.1; omega)) | exact vb ⟨fun h => ⟨by omega, h⟩, fun h => h.2⟩)) ?_), by first | exact (fun _ h => h.thin (SubL.mem (by repeat (first | exact SubL.refl | refine SubL.cons (by repeat (first | assumption | exact mS | apply mT)) ?_ | refine SubL.skip ?_)))) | exact (fun w h => OwnL.sat (by repeat (first | exact OwnL.refl | apply OwnL.take (by repeat (first | exact Take.head _ | apply Take.tail)) | apply OwnL.drop)) w (h.thin (SubL.mem (by repeat (first | exact SubL.refl | refine SubL.cons (by repeat (first | assumption | exact mS | apply mT)) ?_ | refine SubL.skip ?_)))))⟩
        · skip
          refine WL.no rfl rfl rfl rfl rfl rfl ?_
          refine WL.no rfl rfl rfl rfl rfl rfl ?_
          refine WL.no rfl rfl rfl rfl rfl rfl ?_
          refine WL.no rfl rfl rfl rfl rfl rfl ?_
          refine WL.rd rfl rfl rfl (Rd.pick_f rfl rfl rfl) ?_
          refine WL.nil ?_
          exact ⟨by repeat (first | exact Sub.nil | refine Sub.cons rfl (by first | rfl | (first | exact vb_f (fun h => hg28 (by have := h.1; omega)) | exact vb ⟨fun h => ⟨by omega, h⟩, fun h => h.2⟩)) ?_), by first | exact (fun _ h => h.thin (SubL.mem (by repeat (first | exact SubL.refl | refine SubL.cons (by repeat (first | assumption | exact mS | apply mT)) ?_ | refine SubL.skip ?_)))) | exact (fun w h => OwnL.sat (by repeat (first | exact OwnL.refl | apply OwnL.take (by repeat (first | exact Take.head _ | apply Take.tail)) | apply OwnL.drop)) w (h.thin (SubL.mem (by repeat (first | exact SubL.refl | refine SubL.cons (by repeat (first | assumption | exact mS | apply mT)) ?_ | refine SubL.skip ?_)))))⟩
      · skip
        first | refine WC.ite rfl (fun hc2 => ?_) (fun hc2 => ?_) | refine WC.cond rfl (fun hc2 => ?_) (fun hc2 => ?_)
        · skip
          have hmin : ∀ c, 0 < c → c < n → (c - 1) / 2 = i → ¬ ndLt ys[c]! ys[2 * i + 1 + 1]! := fun c c0 cn ce => by
            rcases (show c = 2 * i + 1 ∨ c = 2 * i + 1 + 1 by omega) with rfl | rfl
            · exact ndOrd.asymm _ _ hc2.2
            · exact ndOrd.irrefl _
          have hJn := hc2.1
          refine WC.region ?_
          refine WL.rd rfl rfl rfl (Rd.move rfl rfl) ?_
          refine WL.rd rfl rfl rfl (Rd.assign rfl rfl) ?_
          refine WL.nil ?_
          refine thenQ.normal ?_
          refine WC.seq ?_
          refine WC.seq ?_
          refine WC.region ?_
          refine WL.rd rfl rfl rfl (Rd.move rfl rfl) ?_
          refine WL.rd rfl rfl rfl (Rd.move rfl rfl) ?_
          refine WL.rd rfl rfl rfl (Rd.move rfl rfl) ?_
          refine WL.op rfl ?_
          refine OpW.invoke rfl rfl (by repeat (first | exact Evs.nil | apply Evs.cons rfl)) (mLess (by repeat (first | assumption | exact mS | apply mT))) (by kernel_rfl) rfl rfl ?_; refine less_spec (xs := ys) (i := 2 * i + 1 + 1) (j := i) (by repeat (first | assumption | exact mS | apply mT)) (by omega) (by omega) ?_
          refine WL.rd rfl rfl rfl ((by first | exact Rd.notd rfl rfl | exact Rd.not rfl rfl)) ?_
          refine WL.nil ?_
          refine thenQ.normal ?_
          first | refine WC.ite rfl (fun hc3 => ?_) (fun hc3 => ?_) | refine WC.cond rfl (fun hc3 => ?_) (fun hc3 => ?_)
          · skip
            have hdone : Hp ndLt (ys.take n) := i1.done (fun c c0 cn ce => ndOrd.le_trans _ _ _ hc3 (hmin c c0 cn ce))
            refine WC.exit ?_
            refine thenQ.exit ?_
            refine blockQ.pass rfl ?_
            refine loopQ2.exit ?_
            refine blockQ.exit ?_
            refine thenQ.normal ?_
            refine WC.seq ?_
            refine WC.region ?_
            refine WL.rd rfl rfl rfl (Rd.move rfl rfl) ?_
            refine WL.rd rfl rfl rfl (Rd.move rfl rfl) ?_
            refine WL.rd rfl rfl rfl (Rd.gtr rfl rfl rfl) ?_
            refine WL.rd rfl rfl rfl (Rd.assign rfl rfl) ?_
            refine WL.nil ?_
            refine thenQ.normal ?_
            refine WC.ret (Ret.one Try.results49 rfl ?_)
            exact hk _ ys i2 i3 hdone
          · skip
            have hlt := Decidable.not_not.1 hc3
            refine WC.skip ?_
            refine thenQ.normal ?_
            refine WC.seq ?_
            refine WC.region ?_
            refine WL.rd rfl rfl rfl (Rd.move rfl rfl) ?_
            refine WL.rd rfl rfl rfl (Rd.move rfl rfl) ?_
            refine WL.rd rfl rfl rfl (Rd.move rfl rfl) ?_
            refine WL.op rfl ?_
            refine OpW.invoke rfl rfl (by repeat (first | exact Evs.nil | apply Evs.cons rfl)) (mSwap (by repeat (first | assumption | exact mS | apply mT))) (by kernel_rfl) rfl rfl ?_; refine swap_spec (xs := ys) (i := i) (j := 2 * i + 1 + 1) (by repeat (first | assumption | exact Take.head _ | apply Take.tail)) (by omega) (by omega) ?_
            refine WL.nil ?_
            refine thenQ.normal ?_
            refine WC.region ?_
            refine WL.rd rfl rfl rfl (Rd.move rfl rfl) ?_
            refine WL.rd rfl rfl rfl (Rd.assign rfl rfl) ?_
            refine WL.nil ?_
            refine blockQ.normal ?_
            exact loopQ2.mk (2 * i + 1 + 1) (swapL ys i (2 * i + 1 + 1)) ⟨i1.step ndOrd (by omega) (by omega) (by omega) hmin hlt, (swapL_perm (by omega) (by omega)).trans i2, (swapL_take (by omega) (by omega) (by omega)).trans i3, by rw [swapL_len]; exact i4, by omega⟩ (by omega) (by repeat (first | exact Sub.nil | refine Sub.cons rfl (by first | rfl | (congr 1; omega) | assumption) ?_)) (fun w h => OwnL.sat (by repeat (first | exact OwnL.refl | apply OwnL.take (by repeat (first | exact Take.head _ | apply Take.tail)) | apply OwnL.drop)) w (h.thin (SubL.mem (by repeat (first | exact SubL.refl | refine SubL.cons (by repeat (first | assumption | exact mS | apply mT)) ?_ | refine SubL.skip ?_)))))
        · skip
          have hmin : ∀ c, 0 < c → c < n → (c - 1) / 2 = i → ¬ ndLt ys[c]! ys[2 * i + 1]! := fun c c0 cn ce => by
            rcases (show c = 2 * i + 1 ∨ c = 2 * i + 1 + 1 by omega) with rfl | rfl
            · exact ndOrd.irrefl _
            · exact fun g => hc2 ⟨cn, g⟩
          have hJn : 2 * i + 1 < n := by omega
          refine WC.skip ?_
          refine thenQ.normal ?_
          refine WC.seq ?_
          refine WC.seq ?_
          refine WC.region ?_
          refine WL.rd rfl rfl rfl (Rd.move rfl rfl) ?_
          refine WL.rd rfl rfl rfl (Rd.move rfl rfl) ?_
          refine WL.rd rfl rfl rfl (Rd.move rfl rfl) ?_
          refine WL.op rfl ?_
          refine OpW.invoke rfl rfl (by repeat (first | exact Evs.nil | apply Evs.cons rfl)) (mLess (by repeat (first | assumption | exact mS | apply mT))) (by kernel_rfl) rfl rfl ?_; refine less_spec (xs := ys) (i := 2 * i + 1) (j := i) (by repeat (first | assumption | exact mS | apply mT)) (by omega) (by omega) ?_
          refine WL.rd rfl rfl rfl ((by first | exact Rd.notd rfl rfl | exact Rd.not rfl rfl)) ?_
          refine WL.nil ?_
          refine thenQ.normal ?_
          first | refine WC.ite rfl (fun hc3 => ?_) (fun hc3 => ?_) | refine WC.cond rfl (fun hc3 => ?_) (fun hc3 => ?_)
          · skip
            have hdone : Hp ndLt (ys.take n) := i1.done (fun c c0 cn ce => ndOrd.le_trans _ _ _ hc3 (hmin c c0 cn ce))
            refine WC.exit ?_
            refine thenQ.exit ?_
            refine blockQ.pass rfl ?_
            refine loopQ2.exit ?_
            refine blockQ.exit ?_
            refine thenQ.normal ?_
            refine WC.seq ?_
            refine WC.region ?_
            refine WL.rd rfl rfl rfl (Rd.move rfl rfl) ?_
            refine WL.rd rfl rfl rfl (Rd.move rfl rfl) ?_
            refine WL.rd rfl rfl rfl (Rd.gtr rfl rfl rfl) ?_
            refine WL.rd rfl rfl rfl (Rd.assign rfl rfl) ?_
            refine WL.nil ?_
            refine thenQ.normal ?_
            refine WC.ret (Ret.one Try.results49 rfl ?_)
            exact hk _ ys i2 i3 hdone
          · skip
            have hlt := Decidable.not_not.1 hc3
            refine WC.skip ?_
            refine thenQ.normal ?_
            refine WC.seq ?_
            refine WC.region ?_
            refine WL.rd rfl rfl rfl (Rd.move rfl rfl) ?_
            refine WL.rd rfl rfl rfl (Rd.move rfl rfl) ?_
            refine WL.rd rfl rfl rfl (Rd.move rfl rfl) ?_
            refine WL.op rfl ?_
            refine OpW.invoke rfl rfl (by repeat (first | exact Evs.nil | apply Evs.cons rfl)) (mSwap (by repeat (first | assumption | exact mS | apply mT))) (by kernel_rfl) rfl rfl ?_; refine swap_spec (xs := ys) (i := i) (j := 2 * i + 1) (by repeat (first | assumption | exact Take.head _ | apply Take.tail)) (by omega) (by omega) ?_
            refine WL.nil ?_
            refine thenQ.normal ?_
            refine WC.region ?_
            refine WL.rd rfl rfl rfl (Rd.move rfl rfl) ?_
            refine WL.rd rfl rfl rfl (Rd.assign rfl rfl) ?_
            refine WL.nil ?_
            refine blockQ.normal ?_
            exact loopQ2.mk (2 * i + 1) (swapL ys i (2 * i + 1)) ⟨i1.step ndOrd (by omega) (by omega) (by omega) hmin hlt, (swapL_perm (by omega) (by omega)).trans i2, (swapL_take (by omega) (by omega) (by omega)).trans i3, by rw [swapL_len]; exact i4, by omega⟩ (by omega) (by repeat (first | exact Sub.nil | refine Sub.cons rfl (by first | rfl | (congr 1; omega) | assumption) ?_)) (fun w h => OwnL.sat (by repeat (first | exact OwnL.refl | apply OwnL.take (by repeat (first | exact Take.head _ | apply Take.tail)) | apply OwnL.drop)) w (h.thin (SubL.mem (by repeat (first | exact SubL.refl | refine SubL.cons (by repeat (first | assumption | exact mS | apply mT)) ?_ | refine SubL.skip ?_)))))
set_option maxRecDepth 20000 in
theorem hpush_spec {x : Nv} (hlen : xs.length ≤ 900000) (hH : Hp ndLt xs) (hk : ∀ sv' ys, ys.Perm (xs ++ [x]) → Hp ndLt ys → POST (.tuple #[]) R (rowW br sv' :: accS sv' ys :: O)) :
    Fun Try.prog 37 #[ifv br, spv x] R (rowW br sv :: accS sv xs :: O) POST := by
  refine Fun.enter (l := [_, _]) Try.func37 rfl Try.ntmps37 rfl (L0 := [(0, _), (1, _)]) rfl ?_
  refine WC.seq ?_
  refine WC.region ?_
  refine WL.rd rfl rfl rfl (Rd.move rfl rfl) ?_
  refine WL.rd rfl rfl rfl (Rd.move rfl rfl) ?_
  refine WL.op rfl ?_
  refine OpW.invoke rfl rfl (by repeat (first | exact Evs.nil | apply Evs.cons rfl)) mPush (by kernel_rfl) rfl rfl ?_; refine push_spec (xs := xs) (x := x) (by omega) ?_; intro sv'
  refine WL.nil ?_
  refine thenQ.normal ?_
  refine WC.region ?_
  refine WL.rd rfl rfl rfl (Rd.move rfl rfl) ?_
  refine WL.rd rfl rfl rfl (Rd.move rfl rfl) ?_
  refine WL.op rfl ?_
  refine OpW.invoke rfl rfl (by repeat (first | exact Evs.nil | apply Evs.cons rfl)) (mLen (by repeat (first | assumption | exact mS | apply mT))) (by kernel_rfl) rfl rfl ?_; refine len_spec (xs := xs ++ [x]) (by repeat (first | assumption | exact mS | apply mT)) ?_
  refine WL.rd rfl rfl rfl (Rd.sub rfl rfl rfl (by rw [List.length_append, List.length_singleton]; omega)) ?_
  refine WL.say 10 (u := vi xs.length) rfl (by rw [List.length_append, List.length_singleton]; congr 1; omega) ?_
  refine WL.op rfl ?_
  refine OpW.call rfl rfl (by repeat (first | exact Evs.nil | apply Evs.cons rfl)) (by kernel_rfl) rfl rfl rfl ?_
  refine up_spec (xs := xs ++ [x]) (j := xs.length) (by rw [List.length_append, List.length_singleton]; omega) (Up.push hH x) ?_; intro ys hp hh
  refine WL.nil ?_
  refine Ret.normal (Ret.zero Try.results37 ?_)
  exact hk _ ys hp hh
theorem last_of {zs l : List Nv} {n : Nat} (h : zs.drop n = l.drop n) (hn : n < l.length) (hz : zs.length = l.length) : zs[n]! = l[n]! := by
  have h1 := congrArg (fun q : List Nv => q[0]?) h
  simp only [List.getElem?_drop, Nat.add_zero] at h1
  rw [getElem!_pos zs n (by omega), getElem!_pos l n hn]
  rw [List.getElem?_eq_getElem (by omega), List.getElem?_eq_getElem hn] at h1
  exact Option.some.inj h1
set_option maxRecDepth 20000 in
theorem hpop_spec (hlen : xs.length ≤ 900000) (h0 : 0 < xs.length) (hH : Hp ndLt xs) (hk : ∀ sv' ys, (xs[0]! :: ys).Perm xs → Hp ndLt ys → POST (spv xs[0]!) R (rowW br sv' :: accS sv' ys :: O)) :
    Fun Try.prog 38 #[ifv br] R (rowW br sv :: accS sv xs :: O) POST := by
  obtain ⟨m, hm⟩ : ∃ m, xs.length = m + 1 := ⟨xs.length - 1, by omega⟩
  have hD := Dn.start (m := m) hH hm
  refine Fun.enter (l := [_]) Try.func38 rfl Try.ntmps38 rfl (L0 := [(0, _)]) rfl ?_
  refine WC.seq ?_
  refine WC.region ?_
  refine WL.rd rfl rfl rfl (Rd.assign rfl rfl) ?_
  refine WL.nil ?_
  refine thenQ.normal ?_
  refine WC.seq ?_
  refine WC.region ?_
  refine WL.rd rfl rfl rfl (Rd.move rfl rfl) ?_
  refine WL.op rfl ?_
  refine OpW.invoke rfl rfl (by repeat (first | exact Evs.nil | apply Evs.cons rfl)) (mLen (by repeat (first | assumption | exact mS | apply mT))) (by kernel_rfl) rfl rfl ?_; refine len_spec (xs := xs) (by repeat (first | assumption | exact mS | apply mT)) ?_
  refine WL.rd rfl rfl rfl (Rd.sub rfl rfl rfl (by omega)) ?_
  refine WL.say 6 (u := vi m) rfl (by rw [hm]; congr 1; omega) ?_
  refine WL.rd rfl rfl rfl (Rd.assign rfl rfl) ?_
  refine WL.nil ?_
  refine thenQ.normal ?_
  refine WC.seq ?_
  refine WC.region ?_
  refine WL.rd rfl rfl rfl (Rd.move rfl rfl) ?_
  refine WL.rd rfl rfl rfl (Rd.move rfl rfl) ?_
  refine WL.op rfl ?_
  refine OpW.invoke rfl rfl (by repeat (first | exact Evs.nil | apply Evs.cons rfl)) (mSwap (by repeat (first | assumption | exact mS | apply mT))) (by kernel_rfl) rfl rfl ?_; refine swap_spec (xs := xs) (i := 0) (j := m) (by repeat (first | assumption | exact Take.head _ | apply Take.tail)) (by omega) (by omega) ?_
  refine WL.heap (R' := R) (O' := rowW br sv :: accS sv (swapL xs 0 m) :: O) (fun w h => OwnL.sat (by repeat (first | exact OwnL.refl | apply OwnL.take (by repeat (first | exact Take.head _ | apply Take.tail)) | apply OwnL.drop)) w (h.thin (SubL.mem (by repeat (first | exact SubL.refl | refine SubL.cons (by repeat (first | assumption | exact mS | apply mT)) ?_ | refine SubL.skip ?_))))) ?_
  refine WL.nil ?_
  refine thenQ.normal ?_
  refine WC.seq ?_
  refine WC.region ?_
  refine WL.rd rfl rfl rfl (Rd.move rfl rfl) ?_
  refine WL.rd rfl rfl rfl (Rd.move rfl rfl) ?_
  refine WL.op rfl ?_
  refine OpW.call rfl rfl (by repeat (first | exact Evs.nil | apply Evs.cons rfl)) (by kernel_rfl) rfl rfl rfl ?_
  refine down_spec (xs := swapL xs 0 m) (n := m) (by rw [swapL_len]; omega) hD ?_; intro b zs hp hd hh
  have hzl : zs.length = m + 1 := by rw [hp.length_eq, swapL_len, hm]
  have hlast : zs[zs.length - 1]! = xs[0]! := by
    rw [hzl, show m + 1 - 1 = m from rfl, last_of hd (by rw [swapL_len]; omega) (by rw [swapL_len]; omega), swapL_get (by omega) (by omega), if_pos rfl]
  have hzz : (xs[0]! :: zs.take m).Perm xs := by
    have e : zs = zs.take m ++ [xs[0]!] := by
      rw [← hlast, hzl, show m + 1 - 1 = m from rfl, ← take_snoc' (by omega), List.take_of_length_le (by omega)]
    have h1 : (xs[0]! :: zs.take m).Perm zs := by
      conv => rhs; rw [e]
      exact (List.perm_append_singleton _ _).symm
    exact h1.trans (hp.trans (swapL_perm (by omega) (by omega)))
  refine WL.nil ?_
  refine thenQ.normal ?_
  refine WC.seq ?_
  refine WC.region ?_
  refine WL.rd rfl rfl rfl (Rd.move rfl rfl) ?_
  refine WL.op rfl ?_
  refine OpW.invoke rfl rfl (by repeat (first | exact Evs.nil | apply Evs.cons rfl)) mPop (by kernel_rfl) rfl rfl ?_; refine pop_spec (xs := zs) (by omega) (by omega) ?_; intro sv'
  refine WL.rd rfl rfl rfl (Rd.assign rfl rfl) ?_
  refine WL.nil ?_
  refine thenQ.normal ?_
  refine WC.ret (Ret.one Try.results38 rfl ?_)
  rw [hlast] at *
  rw [hzl] at *
  exact hk _ _ hzz hh
end
end Go.Proofs.Ytfenbhaehkkkeaa
