/-
  Part 2 of the texts that the law TopTokens is proved with: Ty, Acc, Ato, Inv, Pk, Hp1, Opa, Wde, Mg1, Mg2, Mg3, Mg4, Mg5, Mg6, Sho, Mg7, Rf. No premise.
-/
import Derived.Test.YtkobjfjmkhmehaaGreatDoorZ1
import Derived.Test.YtkobjfjmkhmehaaGreatDoorRows
import Derived.Lib.SliceRun
import Derived.Laws.LoneSync
import Derived.RangeFuncIn
import Derived.RangeFuncRecord
import Derived.RangeFuncSeq
import Derived.TacticsIn
import Derived.OrdersIn
namespace Go.Proofs.YtkobjfjmkhmehaaGreatDoor
open Go Go.SL
theorem mixed : Tryz.prog.follows .mixedOrders = true := by kernel_rfl
theorem I3 : Tryz.prog.info? 3 = some Tryz.t3 := by kernel_rfl
theorem I4 : Tryz.prog.info? 4 = some Tryz.t4 := by kernel_rfl
theorem I5 : Tryz.prog.info? 5 = some Tryz.t5 := by kernel_rfl
theorem I9 : Tryz.prog.info? 9 = some Tryz.t9 := by kernel_rfl
theorem I25 : Tryz.prog.info? 25 = some Tryz.t25 := by kernel_rfl
theorem I27 : Tryz.prog.info? 27 = some Tryz.t27 := by kernel_rfl
theorem I35 : Tryz.prog.info? 35 = some Tryz.t35 := by kernel_rfl
theorem I48 : Tryz.prog.info? 48 = some Tryz.t48 := by kernel_rfl
theorem I54 : Tryz.prog.info? 54 = some Tryz.t54 := by kernel_rfl
theorem I61 : Tryz.prog.info? 61 = some Tryz.t61 := by kernel_rfl
theorem I84 : Tryz.prog.info? 84 = some Tryz.t84 := by kernel_rfl
theorem I100 : Tryz.prog.info? 100 = some Tryz.t100 := by kernel_rfl
theorem I105 : Tryz.prog.info? 105 = some Tryz.t105 := by kernel_rfl
theorem I157 : Tryz.prog.info? 157 = some Tryz.t157 := by kernel_rfl
theorem I232 : Tryz.prog.info? 232 = some Tryz.t232 := by kernel_rfl
theorem I234 : Tryz.prog.info? 234 = some Tryz.t234 := by kernel_rfl
theorem I264 : Tryz.prog.info? 264 = some Tryz.t264 := by kernel_rfl
theorem I279 : Tryz.prog.info? 279 = some Tryz.t279 := by kernel_rfl
theorem A232 : ArT Tryz.prog 232 8 69 1 := ⟨Tryz.underlying232, Tryz.sizeOf69⟩
theorem A25 : ArT Tryz.prog 25 2 9 1 := ⟨Tryz.underlying25, Tryz.sizeOf9⟩
theorem A264 : ArT Tryz.prog 264 8 5 1 := ⟨Tryz.underlying264, Tryz.sizeOf5⟩
theorem A266 : ArT Tryz.prog 266 16 69 1 := ⟨Tryz.underlying266, Tryz.sizeOf69⟩
theorem A279 : ArT Tryz.prog 279 64 69 1 := ⟨Tryz.underlying279, Tryz.sizeOf69⟩
theorem Bs105 : FieldPlaces Tryz.prog 105 [(0, 1), (1, 1), (2, 1), (3, 1), (4, 1)] := ⟨_, Tryz.underlying105, fun w => by simp [Tryz.sizeOf101, Tryz.sizeOf103, Tryz.sizeOf42, Tryz.sizeOf85]⟩
theorem Bs157 : FieldPlaces Tryz.prog 157 [(0, 1), (1, 1), (2, 1), (3, 1)] := ⟨_, Tryz.underlying157, fun w => by simp [Tryz.sizeOf3, Tryz.sizeOf9]⟩
theorem Bs27 : FieldPlaces Tryz.prog 27 [(0, 1), (1, 1)] := ⟨_, Tryz.underlying27, fun w => by simp [Tryz.sizeOf9]⟩
theorem Bs61 : FieldPlaces Tryz.prog 61 [(0, 1), (1, 1)] := ⟨_, Tryz.underlying61, fun w => by simp [Tryz.sizeOf3, Tryz.sizeOf9]⟩
theorem Bs84 : FieldPlaces Tryz.prog 84 [(0, 1), (1, 3), (4, 1), (5, 1), (6, 1)] := ⟨_, Tryz.underlying84, fun w => by simp [Tryz.sizeOf35, Tryz.sizeOf77, Tryz.sizeOf78, Tryz.sizeOf79, Tryz.sizeOf82]⟩
theorem C100 : Cell1 Tryz.prog 100 := Tryz.isAgg100
theorem C101 : Cell1 Tryz.prog 101 := Tryz.isAgg101
theorem C103 : Cell1 Tryz.prog 103 := Tryz.isAgg103
theorem C24 : Cell1 Tryz.prog 24 := Tryz.isAgg24
theorem C3 : Cell1 Tryz.prog 3 := Tryz.isAgg3
theorem C30 : Cell1 Tryz.prog 30 := Tryz.isAgg30
theorem C35 : Cell1 Tryz.prog 35 := Tryz.isAgg35
theorem C4 : Cell1 Tryz.prog 4 := Tryz.isAgg4
theorem C42 : Cell1 Tryz.prog 42 := Tryz.isAgg42
theorem C48 : Cell1 Tryz.prog 48 := Tryz.isAgg48
theorem C5 : Cell1 Tryz.prog 5 := Tryz.isAgg5
theorem C52 : Cell1 Tryz.prog 52 := Tryz.isAgg52
theorem C69 : Cell1 Tryz.prog 69 := Tryz.isAgg69
theorem C78 : Cell1 Tryz.prog 78 := Tryz.isAgg78
theorem C79 : Cell1 Tryz.prog 79 := Tryz.isAgg79
theorem C85 : Cell1 Tryz.prog 85 := Tryz.isAgg85
theorem C9 : Cell1 Tryz.prog 9 := Tryz.isAgg9
theorem F105_0 : FieldAt Tryz.prog 105 0 0 := ⟨_, _, 0, Tryz.underlying105, rfl, rfl, Tryz.sizeOf85⟩
theorem F105_1 : FieldAt Tryz.prog 105 1 1 := ⟨_, _, 0, Tryz.underlying105, rfl, rfl, Tryz.sizeOf42⟩
theorem F105_2 : FieldAt Tryz.prog 105 2 2 := ⟨_, _, 0, Tryz.underlying105, rfl, rfl, Tryz.sizeOf42⟩
theorem F105_3 : FieldAt Tryz.prog 105 3 3 := ⟨_, _, 0, Tryz.underlying105, rfl, rfl, Tryz.sizeOf101⟩
theorem F105_4 : FieldAt Tryz.prog 105 4 4 := ⟨_, _, 0, Tryz.underlying105, rfl, rfl, Tryz.sizeOf103⟩
theorem F157_0 : FieldAt Tryz.prog 157 0 0 := ⟨_, _, 0, Tryz.underlying157, rfl, rfl, Tryz.sizeOf3⟩
theorem F157_1 : FieldAt Tryz.prog 157 1 1 := ⟨_, _, 0, Tryz.underlying157, rfl, rfl, Tryz.sizeOf3⟩
theorem F157_2 : FieldAt Tryz.prog 157 2 2 := ⟨_, _, 0, Tryz.underlying157, rfl, rfl, Tryz.sizeOf9⟩
theorem F157_3 : FieldAt Tryz.prog 157 3 3 := ⟨_, _, 0, Tryz.underlying157, rfl, rfl, Tryz.sizeOf9⟩
theorem F234_0 : FieldAt Tryz.prog 234 0 0 := ⟨_, _, 7, Tryz.underlying234, rfl, rfl, Tryz.sizeOf232⟩
theorem F234_1 : FieldAt Tryz.prog 234 1 8 := ⟨_, _, 0, Tryz.underlying234, rfl, rfl, Tryz.sizeOf4⟩
theorem F234_2 : FieldAt Tryz.prog 234 2 9 := ⟨_, _, 0, Tryz.underlying234, rfl, rfl, Tryz.sizeOf9⟩
theorem F234_3 : FieldAt Tryz.prog 234 3 10 := ⟨_, _, 0, Tryz.underlying234, rfl, rfl, Tryz.sizeOf3⟩
theorem F27_0 : FieldAt Tryz.prog 27 0 0 := ⟨_, _, 0, Tryz.underlying27, rfl, rfl, Tryz.sizeOf9⟩
theorem F27_1 : FieldAt Tryz.prog 27 1 1 := ⟨_, _, 0, Tryz.underlying27, rfl, rfl, Tryz.sizeOf9⟩
theorem F54_0 : FieldAt Tryz.prog 54 0 0 := ⟨_, _, 0, Tryz.underlying54, rfl, rfl, Tryz.sizeOf52⟩
theorem F54_1 : FieldAt Tryz.prog 54 1 1 := ⟨_, _, 0, Tryz.underlying54, rfl, rfl, Tryz.sizeOf30⟩
theorem F61_0 : FieldAt Tryz.prog 61 0 0 := ⟨_, _, 0, Tryz.underlying61, rfl, rfl, Tryz.sizeOf3⟩
theorem F61_1 : FieldAt Tryz.prog 61 1 1 := ⟨_, _, 0, Tryz.underlying61, rfl, rfl, Tryz.sizeOf9⟩
theorem F82_2 : FieldAt Tryz.prog 82 2 0 := ⟨_, _, 0, Tryz.underlying82, rfl, rfl, Tryz.sizeOf2⟩
theorem F84_0 : FieldAt Tryz.prog 84 0 0 := ⟨_, _, 0, Tryz.underlying84, rfl, rfl, Tryz.sizeOf35⟩
theorem F84_1 : FieldAt Tryz.prog 84 1 1 := ⟨_, _, 2, Tryz.underlying84, rfl, rfl, Tryz.sizeOf77⟩
theorem F84_2 : FieldAt Tryz.prog 84 2 4 := ⟨_, _, 0, Tryz.underlying84, rfl, rfl, Tryz.sizeOf78⟩
theorem F84_3 : FieldAt Tryz.prog 84 3 5 := ⟨_, _, 0, Tryz.underlying84, rfl, rfl, Tryz.sizeOf79⟩
theorem F84_4 : FieldAt Tryz.prog 84 4 6 := ⟨_, _, 0, Tryz.underlying84, rfl, rfl, Tryz.sizeOf82⟩
theorem G157 : Agg Tryz.prog 157 4 := ⟨Tryz.isAgg157, Tryz.sizeOf157⟩
theorem G232 : Agg Tryz.prog 232 8 := ⟨Tryz.isAgg232, Tryz.sizeOf232⟩
theorem G234 : Agg Tryz.prog 234 11 := ⟨Tryz.isAgg234, Tryz.sizeOf234⟩
theorem G27 : Agg Tryz.prog 27 2 := ⟨Tryz.isAgg27, Tryz.sizeOf27⟩
theorem G279 : Agg Tryz.prog 279 64 := ⟨Tryz.isAgg279, Tryz.sizeOf279⟩
theorem G61 : Agg Tryz.prog 61 2 := ⟨Tryz.isAgg61, Tryz.sizeOf61⟩
-- K27 not printed
theorem K3 : KeyT Tryz.prog 3 (fun n : Int => .int .i64 n) := KeyT.int Tryz.underlying3
theorem K9 : KeyT Tryz.prog 9 vs := KeyT.string Tryz.underlying9
theorem M101 : MapT Tryz.prog 101 27 3 (.int .i64 0) := MapT.mk' Tryz.underlying101 I3 rfl
theorem M48 : MapT Tryz.prog 48 9 4 (.bool false) := MapT.mk' Tryz.underlying48 I4 rfl
theorem M49 : MapT Tryz.prog 49 27 4 (.bool false) := MapT.mk' Tryz.underlying49 I4 rfl
theorem M78 : MapT Tryz.prog 78 9 3 (.int .i64 0) := MapT.mk' Tryz.underlying78 I3 rfl
theorem M79 : MapT Tryz.prog 79 3 9 (.string ⟨#[]⟩) := MapT.mk' Tryz.underlying79 I9 rfl
theorem S103 : SlT Tryz.prog 103 157 4 48 (.agg #[(.int .i64 0), (.int .i64 0), (.string ⟨#[]⟩), (.string ⟨#[]⟩)]) := ⟨Tryz.underlying103, ⟨_, I157, rfl, rfl, rfl⟩, by kernel_rfl, by decide⟩
theorem S22 : SlT Tryz.prog 22 25 2 32 (.agg #[(.string ⟨#[]⟩), (.string ⟨#[]⟩)]) := ⟨Tryz.underlying22, ⟨_, I25, rfl, rfl, rfl⟩, by kernel_rfl, by decide⟩
theorem S24 : SlT Tryz.prog 24 27 2 32 (.agg #[(.string ⟨#[]⟩), (.string ⟨#[]⟩)]) := ⟨Tryz.underlying24, ⟨_, I27, rfl, rfl, rfl⟩, by kernel_rfl, by decide⟩
theorem S30 : SlT Tryz.prog 30 5 1 1 (.int .u8 0) := ⟨Tryz.underlying30, ⟨_, I5, rfl, rfl, rfl⟩, by kernel_rfl, by decide⟩
theorem S35 : SlT Tryz.prog 35 61 2 24 (.agg #[(.int .i64 0), (.string ⟨#[]⟩)]) := ⟨Tryz.underlying35, ⟨_, I61, rfl, rfl, rfl⟩, by kernel_rfl, by decide⟩
theorem S42 : SlT Tryz.prog 42 3 1 8 (.int .i64 0) := ⟨Tryz.underlying42, ⟨_, I3, rfl, rfl, rfl⟩, by kernel_rfl, by decide⟩
theorem S85 : SlT Tryz.prog 85 9 1 16 (.string ⟨#[]⟩) := ⟨Tryz.underlying85, ⟨_, I9, rfl, rfl, rfl⟩, by kernel_rfl, by decide⟩
theorem Z100 : ∀ w, (sizeOf 100).run Tryz.prog w = .ok 1 w := Tryz.sizeOf100
theorem Z103 : ∀ w, (sizeOf 103).run Tryz.prog w = .ok 1 w := Tryz.sizeOf103
theorem Z3 : ∀ w, (sizeOf 3).run Tryz.prog w = .ok 1 w := Tryz.sizeOf3
theorem Z30 : ∀ w, (sizeOf 30).run Tryz.prog w = .ok 1 w := Tryz.sizeOf30
theorem Z35 : ∀ w, (sizeOf 35).run Tryz.prog w = .ok 1 w := Tryz.sizeOf35
theorem Z4 : ∀ w, (sizeOf 4).run Tryz.prog w = .ok 1 w := Tryz.sizeOf4
theorem Z42 : ∀ w, (sizeOf 42).run Tryz.prog w = .ok 1 w := Tryz.sizeOf42
theorem Z48 : ∀ w, (sizeOf 48).run Tryz.prog w = .ok 1 w := Tryz.sizeOf48
theorem Z5 : ∀ w, (sizeOf 5).run Tryz.prog w = .ok 1 w := Tryz.sizeOf5
theorem Z52 : ∀ w, (sizeOf 52).run Tryz.prog w = .ok 1 w := Tryz.sizeOf52
theorem Z69 : ∀ w, (sizeOf 69).run Tryz.prog w = .ok 1 w := Tryz.sizeOf69
theorem Z78 : ∀ w, (sizeOf 78).run Tryz.prog w = .ok 1 w := Tryz.sizeOf78
theorem Z79 : ∀ w, (sizeOf 79).run Tryz.prog w = .ok 1 w := Tryz.sizeOf79
theorem Z85 : ∀ w, (sizeOf 85).run Tryz.prog w = .ok 1 w := Tryz.sizeOf85
theorem Z9 : ∀ w, (sizeOf 9).run Tryz.prog w = .ok 1 w := Tryz.sizeOf9
end Go.Proofs.YtkobjfjmkhmehaaGreatDoor
namespace Go.SL
open Go
section
variable {P : Program} {n : Sz} {o : Oper} {L : Env} {R : List RO} {O O' : List Own} {K : Env → List RO → List Own → Prop} {t t' e : TypeId} {x y : Operand} {v z : Value} {α : Type} {g : α → Value} {enc : α → List Value} {xs : List α} {size bytes : Nat}
theorem OpW.storeAcc {k : Nat} {a : α} (ho : o.op = .store t x y) (hsz : ∀ w, (sizeOf t).run P w = .ok 1 w) (hx : ev L x = some (.pointer (some (elemAddr v k)))) (hy : ev L y = some (g a)) (h1 : (g a).cells = #[g a]) (h2 : (g a).oneCell' = true)
 (hT : Take (accC e 1 (one g) v xs) O O') (hlt : k < xs.length) (hd : o.dst = none) (kk : K L R (accC e 1 (one g) v (xs.set k a) :: O')) : OpW P n o L R O K := by
 intro ac w hf hs Q
 have hs' := hs.perm hT.perm
 have hp : (accC e 1 (one g) v xs).pred w := hs'.see List.mem_cons_self
 have hcell := acc_cell hp (j := k) (u := g xs[k]) (by rw [flat_one, List.getElem?_map, List.getElem?_eq_getElem hlt]; rfl)
 have hlt' := ownBlock_lt hp
 obtain ⟨hl, hv⟩ := hp
 rcases hv with ⟨rfl, h0⟩ | ⟨b, cap, cur, rfl, hb, hh, hnc, hcm, hcs, ht⟩
 · omega
 simp only [elemAddr, Nat.zero_add] at hx hcell
 have hfree : w.frozen? ⟨b, k, none⟩ = false := by
  simp only [World.frozen?, hh]; simp
 have hr : (execOp ac.eval o).run P w = .ok .skip (w.setCell ⟨b, k, none⟩ (g a)) := by
  simp [execOp, ho, hf.ev hx, hf.ev hy, Instr.storeAt, Instr.sureAddr, storeVar, hsz, h1, storeCells, Addr.add, run_store _ _ _ _ _ h2, hcell, hfree]
 unfold Oper.wp
 rw [hr, Oper.upon_skip, hd]
 have hset : (w.setCell ⟨b, k, none⟩ (g a)).heap[b]? = some (.cells (cur.setIfInBounds k (g a)) e (0, 0)) := by
  show (w.heap.modify b _)[b]? = _
  rw [Array.getElem?_modify, if_pos rfl, hh]; rfl
 have hbl : b < w.heap.size := hlt' b (by simp [Value.ownBlock])
 refine ⟨_, _, _, kk, hf.none _, hs'.update _ ⟨rfl, rfl, rfl, by simp, fun j hj hn => heap_setCell_other w _ _ (g a) (by simpa [accC, Value.ownBlock, eq_comm] using hn)⟩ (by intro j hj; left; simpa [accC, Value.ownBlock] using hj) (by intro j hj; simp [accC, Value.ownBlock] at hj; subst hj; simpa using hbl) (by simp [accC, Value.ownBlock]) (fun w'' ha _ => ?_)⟩
 refine ⟨by rw [flat_one, List.length_map, Nat.mul_one], .inr ⟨b, cap, cur.setIfInBounds k (g a), by rw [List.length_set], Nat.zero_le _, ?_, by rw [List.length_set]; exact hnc, hcm, by simpa using hcs, ?_⟩⟩
 · rw [ha.2.2.2.2 b (by simpa using hbl) (by simp [accC, Value.ownBlock])]
   exact hset
 · rw [Nat.mul_one] at ht ⊢
   rw [Array.toList_setIfInBounds, List.length_set, List.take_set, ht, flat_one, flat_one, List.map_set]
theorem Rd.cutA_l {kl : IntKind} {p : Int} {lo : Nat} {e' : TypeId} {a : Operand} (ho : o.op = .slice t x (some a) none none) (hT : SlT P t e size bytes z) (hx : ev L x = some v) (ha : ev L a = some (.int kl p)) (hp : p = (lo : Int)) (hO : accC e' size enc v xs ∈ O) (h1 : lo ≤ xs.length) : Rd P o L R O (subSl v size lo xs.length) := fun ρ w hρ _ hr => by
 rcases (hr _ hO).2 with ⟨rfl, h0⟩ | ⟨b, c, cur, rfl, _⟩
 · have h := run_cut (P := P) (m := 0) (cp := 0) (ad := none) (lo := lo) (hi := xs.length) hT (some (.int kl p)) none (bound_ok hp h1) (fun _ => by rw [h0]; rfl) w
   simp only [execOp, ho, hρ _ _ hx, hρ _ _ ha, Option.map_some, Option.map_none, Sem.run_bind, h, Result.andThen_ok, Sem.run_pure]
 · have h := run_cut (P := P) (m := xs.length) (cp := c) (ad := some ⟨b, 0, none⟩) (lo := lo) (hi := xs.length) hT (some (.int kl p)) none (bound_ok hp h1) (fun _ => rfl) w
   simp only [execOp, ho, hρ _ _ hx, hρ _ _ ha, Option.map_some, Option.map_none, Sem.run_bind, h, Result.andThen_ok, Sem.run_pure]
theorem Rd.cutA_h {kh : IntKind} {q : Int} {hi : Nat} {e' : TypeId} {b : Operand} (ho : o.op = .slice t x none (some b) none) (hT : SlT P t e size bytes z) (hx : ev L x = some v) (hb : ev L b = some (.int kh q)) (hq : q = (hi : Int)) (hO : accC e' size enc v xs ∈ O) (h2 : hi ≤ xs.length) : Rd P o L R O (subSl v size 0 hi) := fun ρ w hρ _ hr => by
 rcases (hr _ hO).2 with ⟨rfl, h0⟩ | ⟨g, c, cur, rfl, _, _, hnc, _⟩
 · have h := run_cut (P := P) (m := 0) (cp := 0) (ad := none) (lo := 0) (hi := hi) hT none (some (.int kh q)) (fun _ => rfl) (bound_ok hq Z.W) w
   simp only [execOp, ho, hρ _ _ hx, hρ _ _ hb, Option.map_some, Option.map_none, Sem.run_bind, h, Result.andThen_ok, Sem.run_pure]
 · have h := run_cut (P := P) (m := xs.length) (cp := c) (ad := some ⟨g, 0, none⟩) (lo := 0) (hi := hi) hT none (some (.int kh q)) (fun _ => rfl) (bound_ok hq Z.W) w
   simp only [execOp, ho, hρ _ _ hx, hρ _ _ hb, Option.map_some, Option.map_none, Sem.run_bind, h, Result.andThen_ok, Sem.run_pure]
/-- clear(s[lo:]): zero values from there on. -/
theorem run_clear_row (hT : SlT P t e 1 bytes z) (hz : z.cells = #[z]) (h1 : z.oneCell' = true) (ty : TypeId) {w : World} {b lo m c : Nat} {cur : Array Value} (hg : w.heap[b]? = some (.cells cur e (0, 0))) (hn : 0 < m) (hfit : lo + m ≤ cur.size) :
 (Builtin.clear_ #[t] ty #[.slice (some ⟨b, lo, none⟩) m c]).run P w = .ok (.tuple #[]) (w.setRow b (cur.toList.take lo ++ List.replicate m z ++ cur.toList.drop (lo + m)).toArray) := by
 have hzc : (Builtin.zeroCells z.cells m).toList = List.replicate m z := by
  rw [hz]
  simp [Builtin.zeroCells]
  apply List.ext_getElem
  · simp
  · intro i h1 h2
    simp [Nat.mod_one]
 have hst := run_storeCells_at P b lo e (List.replicate m z) 0 cur w hg (by simpa using hfit) (by intro v hv'; rw [List.eq_of_mem_replicate hv']; exact h1)
 simp only [Nat.add_zero, List.length_replicate] at hst
 obtain ⟨k, rfl⟩ : ∃ k, m = k + 1 := ⟨m - 1, by omega⟩
 simp [Builtin.clear_, run_underlying hT.under, hT.zero, hzc, hst]
theorem OpW.clearAcc {lo : Nat} {a0 : α} {u : Value} (ho : o.op = .call { callee := .builtin .clear, args := #[x], argTypes := #[t] }) (hT : SlT P t e 1 bytes z) (hz : z = g a0) (hzc : (g a0).cells = #[g a0]) (h1 : (g a0).oneCell' = true)
 (hx : ev L x = some u) (hu : u = subSl v 1 lo xs.length) (hO : Take (accC e 1 (one g) v xs) O O') (hlo : lo < xs.length) (hd : o.dst = none) (kk : K L R (accC e 1 (one g) v (xs.take lo ++ List.replicate (xs.length - lo) a0) :: O')) : OpW P n o L R O K := by
 intro ac w hf hs Q
 subst hu
 have hs' := hs.perm hO.perm
 have hp : (accC e 1 (one g) v xs).pred w := hs'.see List.mem_cons_self
 have hlt' := ownBlock_lt hp
 obtain ⟨hl, hv⟩ := hp
 rcases hv with ⟨rfl, h0⟩ | ⟨b, cap, cur, rfl, hb, hh, hnc, hcm, hcs, ht⟩
 · omega
 have hsub : subSl (.slice (some ⟨b, 0, none⟩) xs.length cap) 1 lo xs.length = .slice (some ⟨b, lo, none⟩) (xs.length - lo) (cap - lo) := by
  simp only [subSl]
  rw [if_neg Z.W]
  simp [add_spot]
 rw [hsub] at hx
 have hcl := run_clear_row (P := P) hT (by rw [hz]; exact hzc) (by rw [hz]; exact h1) o.type (c := cap - lo) hh (lo := lo) (m := xs.length - lo) Z.W Z.W
 have hr : (execOp ac.eval o).run P w = .ok (.value (.tuple #[])) (w.setRow b (cur.toList.take lo ++ List.replicate (xs.length - lo) z ++ cur.toList.drop (lo + (xs.length - lo))).toArray) := by
  simp only [execOp, ho, resolve, invoke, builtin, hf.ev hx, Sem.run_bind, Sem.run_pure, Result.andThen_ok, List.map_toArray, List.map_cons, List.map_nil, hcl]
 unfold Oper.wp
 rw [hr, Oper.upon_value, hd]
 have hbl : b < w.heap.size := hlt' b (by simp [Value.ownBlock])
 refine ⟨_, _, _, kk, hf.none _, hs'.update _ ⟨rfl, rfl, rfl, by simp, fun j hj hn => setRow_other w b j _ (by simpa [accC, Value.ownBlock, eq_comm] using hn)⟩ (by intro j hj; left; simpa [accC, Value.ownBlock] using hj) (by intro j hj; simp [accC, Value.ownBlock] at hj; subst hj; simpa using hbl) (by simp [accC, Value.ownBlock]) (fun w'' ha _ => ?_)⟩
 have hlen : (xs.take lo ++ List.replicate (xs.length - lo) a0).length = xs.length := by simp; omega
 refine ⟨by rw [flat_one, List.length_map, Nat.mul_one], .inr ⟨b, cap, (cur.toList.take lo ++ List.replicate (xs.length - lo) z ++ cur.toList.drop (lo + (xs.length - lo))).toArray, by rw [hlen], Nat.zero_le _, ?_, by rw [hlen]; exact hnc, hcm, ?_, ?_⟩⟩
 · rw [ha.2.2.2.2 b (by simpa using hbl) (by simp [accC, Value.ownBlock])]
   exact setRow_heap w b cur _ e _ hh
 · simp; omega
 · have hcl2 : cur.toList.length = cap := by rw [Array.length_toList]; omega
   rw [Nat.mul_one, hlen, List.toList_toArray, List.take_append_of_le_length (by simp; omega), List.take_of_length_le (by simp; omega), flat_one, List.map_append, List.map_replicate, hz, List.map_take]
   rw [Nat.mul_one, flat_one] at ht
   rw [← ht, List.take_take, Nat.min_eq_left Z.W]
theorem subSl0 (b m cap size hi : Nat) : subSl (.slice (some ⟨b, 0, none⟩) m cap) size 0 hi = .slice (some ⟨b, 0, none⟩) hi cap := by
 simp only [subSl]
 split <;> simp [add_spot]
/-- An own slice's first elements. -/
theorem Sat.cutAcc {hi : Nat} {w : World} (hT : Take (accC e size enc v xs) O O') (hs : ∀ x, (enc x).length = size) (h2 : hi ≤ xs.length) (h : Sat R O w) : Sat R (accC e size enc (subSl v size 0 hi) (xs.take hi) :: O') w := by
 have hs' := h.perm hT.perm
 have hp : (accC e size enc v xs).pred w := hs'.see List.mem_cons_self
 have hbk : (subSl v size 0 hi).ownBlock = v.ownBlock := by
  rcases hp.2 with ⟨rfl, h0⟩ | ⟨b, cap, cur, rfl, _⟩
  · simp [subSl, Value.ownBlock]
  · rw [subSl0]; rfl
 refine hs'.recast _ (by simp only [accC, hbk]) (fun w' hp' _ => ?_)
 obtain ⟨hl, hv⟩ := hp'
 refine ⟨by rw [flat_len hs, List.length_take], ?_⟩
 rcases hv with ⟨rfl, h0⟩ | ⟨b, cap, cur, rfl, hb, hh, hnc, hcm, hcs, ht⟩
 · left
   obtain rfl : hi = 0 := by omega
   exact ⟨by simp [subSl], by simp⟩
 · right
   refine ⟨b, cap, cur, ?_, Nat.zero_le _, hh, by rw [List.length_take]; omega, hcm, hcs, ?_⟩
   · rw [subSl0, List.length_take, Nat.min_eq_left h2]
   · have h5 : (xs.take hi).flatMap enc = (xs.flatMap enc).take (hi * size) := by
      have h6 := flat_len hs (xs.take hi)
      rw [List.length_take, Nat.min_eq_left h2] at h6
      have h7 : xs.flatMap enc = (xs.take hi).flatMap enc ++ (xs.drop hi).flatMap enc := by rw [← List.flatMap_append, List.take_append_drop]
      rw [h7, List.take_append_of_le_length (Nat.le_of_eq h6.symm)]
      exact (List.take_of_length_le (Nat.le_of_eq h6)).symm
     rw [h5, ← ht, List.take_take, List.length_take, Nat.min_eq_left h2, Nat.min_eq_left (Nat.mul_le_mul_right _ h2)]
end
section maps
variable {κ β : Type} [DecidableEq κ] {P : Program} {n : Sz} {o : Oper} {L : Env} {R : List RO} {O O' : List Own} {K : Env → List RO → List Own → Prop} {t t' kt et : TypeId} {z : Value} {x y : Operand} {kenc : κ → Value} {venc : β → Value} {m : GoMap κ β} {b : Nat} {k : κ} {kv : Value}
theorem OpW.delete (T : MapT P t kt et z) (KT : KeyT P kt kenc) (ho : o.op = .call { callee := .builtin .delete, args := #[x, y], argTypes := #[t, t'] }) (hx : ev L x = some (.map (some b))) (hy : ev L y = some kv) (hT : Take (mapC kenc venc b m) O O') (hk : kenc k = kv) (hd : o.dst = none)
 (c : K L R (mapC kenc venc b (m.del k) :: O')) : OpW P n o L R O K := by
 intro a w hf hs Q
 have hs' := hs.perm hT.perm
 have hp : mapP kenc venc b m w := hs'.see List.mem_cons_self
 unfold Oper.wp
 have hr : (execOp a.eval o).run P w = .ok (.value (.tuple #[])) { w with heap := w.heap.setIfInBounds b (.map ((m.del k).l.map (ent kenc venc)).toArray (m.del k).clock) } := by
  simp only [execOp, ho, resolve, invoke, builtin, Sem.run_bind, Sem.run_pure, hf.ev hx, hf.ev hy, ← hk, List.map_toArray, List.map_cons, List.map_nil, run_delete T KT hp, Result.andThen_ok]
 rw [hr, Oper.upon_value, hd]
 exact ⟨_, _, _, c, hf.none _, map_put hs' _ hp⟩
end maps
end Go.SL
namespace Go.SL
open Go
section
variable {P : Program} {n : Sz} {o : Oper} {L : Env} {R : List RO} {O O' : List Own} {K : Env → List RO → List Own → Prop} {t t' e te : TypeId} {x y u : Operand} {v z : Value}
theorem Rd.pneqN {ad : Option Addr} (ho : o.op = .binOp .neq t x y t') (hT : P.underlying t = some (.pointer te)) (hx : ev L x = some (.pointer ad)) (hy : ev L y = some (.pointer none)) : Rd P o L R O (.bool ad.isSome) :=
 run_pbin ho hx hy fun w _ _ => by
  have h : ∀ d : Nat, (Op.equalIn (d + 1) t (.pointer ad) (.pointer none)).run P w = .ok ad.isNone w := fun d => by
   cases ad <;> simp [Op.equalIn, run_underlying hT]
  simp only [binOp]
  simp [Op.equal, Op.maxDepth, h 9999]
theorem Rd.peqN {ad : Option Addr} (ho : o.op = .binOp .eql t x y t') (hT : P.underlying t = some (.pointer te)) (hx : ev L x = some (.pointer ad)) (hy : ev L y = some (.pointer none)) : Rd P o L R O (.bool ad.isNone) :=
 run_pbin ho hx hy fun w _ _ => by
  have h : ∀ d : Nat, (Op.equalIn (d + 1) t (.pointer ad) (.pointer none)).run P w = .ok ad.isNone w := fun d => by
   cases ad <;> simp [Op.equalIn, run_underlying hT]
  simp only [binOp]
  simp [Op.equal, Op.maxDepth, h 9999]
/-- s == nil -/
theorem Rd.eqNil' {a : Option Addr} {m c : Nat} (ho : o.op = .binOp .eql t x y t') (hT : P.underlying t = some (.slice e)) (hx : ev L x = some (.slice a m c)) (hy : ev L y = some (.slice none 0 0)) : Rd P o L R O (.bool a.isNone) := fun ρ w hρ _ _ => by
 have e0 : (eqGuard .eql t x y (.slice a m c) (.slice none 0 0)).run P w = .ok () w := by
  unfold eqGuard
  split <;> rfl
 simp only [execOp, ho, hρ _ _ hx, hρ _ _ hy, Sem.run_bind, e0, Result.andThen_ok, Lib.run_eql_slice_nil w t e a m c 0 0 hT, Sem.run_pure]
theorem OpW.atomicAdd {f : FuncId} {fn : Func} {ts : Array TypeId} {b off d : Nat} {cs : List Value} {p k : Int} (ho : o.op = .call { callee := .value x, args := #[y, u], argTypes := ts }) (hx : ev L x = some (.func (.func f) #[] #[])) (hy : ev L y = some (.pointer (some ⟨b, off, none⟩))) (hu : ev L u = some (.int .i64 k))
 (hf : P.funcs[f]? = some fn) (hname : (fn.name == "runtime.NumGoroutine") = false) (hb : fn.body.isNone = true) (hn0 : Extern.findNext fn = none) (he : Extern.find fn = some (Extern.Atomic.update (Op.intArith .add) .i64 true))
 (hT : Take (rowC b e cs) O O') (hc : cs[off]? = some (.int .i64 p)) (hr : -9223372036854775808 ≤ p + k ∧ p + k ≤ 9223372036854775807) (hd : o.dst = some d) (hn : Nat.blt d n.n = true)
 (kk : K ((d, .int .i64 (p + k)) :: L) R (rowC b e (cs.set off (.int .i64 (p + k))) :: O')) : OpW P n o L R O K := by
 intro a w hfr hs Q
 have hs' := hs.perm hT.perm
 have hp : (rowC b e cs).pred w := hs'.see List.mem_cons_self
 have hlt : off < cs.length := (List.getElem?_eq_some_iff.1 hc).1
 have hcell := row_cell hp hc
 have hfree := row_free hp off
 have hsum : (Op.intArith .add .i64 p k).run P w = .ok (.int .i64 (p + k)) w := by
  have : IntKind.i64.wrap (p + k) = p + k := wrap_i64 hr
  simp [Op.intArith, this]
 have hrun := run_call_add (P := P) hf hname hb hn0 .i64 he (y := k) hcell hfree hsum
 have hr' : (execOp a.eval o).run P w = .ok (.value (.int .i64 (p + k))) (w.setCell ⟨b, off, none⟩ (.int .i64 (p + k))) := by
  simp [execOp, ho, resolve, hfr.ev hx, hfr.ev hy, hfr.ev hu, Deferred.ofValue, invoke, hrun]
 unfold Oper.wp
 rw [hr', Oper.upon_value, hd]
 have hlt' : b < w.heap.size := hs'.lt b (by simp [owned, rowC])
 refine ⟨_, _, _, kk, hfr.put hn _, hs'.update _ ⟨rfl, rfl, rfl, by simp, fun j hj hne => heap_setCell_other w _ _ _ (by simpa [rowC, eq_comm] using hne)⟩ (by simp [rowC]) (by simpa [rowC] using hlt') (by simp [rowC]) (fun w'' ha _ => ?_)⟩
 show w''.heap[b]? = _
 rw [ha.2.2.2.2 b (by simpa using hlt') (by simp [rowC])]
 exact setCell_row hp off _
end
section acc
variable {P : Program} {n : Sz} {o : Oper} {L : Env} {R : List RO} {O O' : List Own} {K : Env → List RO → List Own → Prop} {t t' e : TypeId} {x y : Operand} {v z : Value} {α : Type} {enc : α → List Value} {xs : List α} {size bytes : Nat}
theorem flat_take (hs : ∀ x, (enc x).length = size) : ∀ (xs : List α) (k : Nat), (xs.flatMap enc).take (k * size) = (xs.take k).flatMap enc
 | [], k => by simp
 | a :: xs, 0 => by simp
 | a :: xs, k + 1 => by
   rw [List.flatMap_cons, List.take_succ_cons, List.flatMap_cons, List.take_append, hs, List.take_of_length_le (by rw [hs, Nat.add_mul, Nat.one_mul]; omega)]
   rw [show (k + 1) * size - size = k * size from by rw [Nat.add_mul, Nat.one_mul]; omega, flat_take hs xs k]
theorem flat_drop (hs : ∀ x, (enc x).length = size) (xs : List α) (k : Nat) (hk : k ≤ xs.length) : (xs.flatMap enc).drop (k * size) = (xs.drop k).flatMap enc := by
 have h1 : xs.flatMap enc = (xs.take k).flatMap enc ++ (xs.drop k).flatMap enc := by rw [← List.flatMap_append, List.take_append_drop]
 rw [h1, List.drop_append, flat_len hs, List.length_take, Nat.min_eq_left hk, List.drop_eq_nil_of_le (by rw [flat_len hs, List.length_take, Nat.min_eq_left hk]; exact Nat.le_refl _)]
 simp
/-- Elements of an own slice are written. -/
theorem acc_write {b cap k : Nat} {cur : Array Value} {ys : List α} {w : World} (hsz : ∀ x, (enc x).length = size) (hs : Sat R (accC e size enc (.slice (some ⟨b, 0, none⟩) xs.length cap) xs :: O) w) (hh : w.heap[b]? = some (.cells cur e (0, 0))) (hfit : k + ys.length ≤ xs.length) :
 Sat R (accC e size enc (.slice (some ⟨b, 0, none⟩) xs.length cap) (xs.take k ++ ys ++ xs.drop (k + ys.length)) :: O) (w.setRow b (cur.toList.take (k * size) ++ ys.flatMap enc ++ cur.toList.drop (k * size + (ys.flatMap enc).length)).toArray) := by
 have hp : (accC e size enc (.slice (some ⟨b, 0, none⟩) xs.length cap) xs).pred w := hs.see List.mem_cons_self
 have hlt' := ownBlock_lt hp
 obtain ⟨hl, hv⟩ := hp
 rcases hv with ⟨hc, _⟩ | ⟨b', cap', cur', hc, hb, hh', hnc, hcm, hcs, ht⟩
 · cases hc
 · simp only [Value.slice.injEq, Option.some.injEq, Addr.mk.injEq, and_true, true_and] at hc
   obtain ⟨rfl, rfl⟩ := hc
   rw [hh] at hh'
   simp only [Option.some.injEq, Obj.cells.injEq, and_true] at hh'
   subst hh'
   have hbl : b < w.heap.size := hlt' b (by simp [Value.ownBlock])
   have hyl := flat_len hsz ys
   have hlen : (xs.take k ++ ys ++ xs.drop (k + ys.length)).length = xs.length := by simp; omega
   have hk : k * size + ys.length * size ≤ xs.length * size := by rw [← Nat.add_mul]; exact Nat.mul_le_mul_right _ hfit
   refine hs.update _ ⟨rfl, rfl, rfl, by simp, fun j hj hne => setRow_other w b j _ (fun e' => hne (by simp [accC, Value.ownBlock, e']))⟩ (by intro j hj; left; simpa [accC, Value.ownBlock] using hj) (by intro j hj; simp [accC, Value.ownBlock] at hj; subst hj; simpa using hbl) (by simp [accC, Value.ownBlock]) (fun w'' ha _ => ?_)
   refine ⟨by rw [flat_len hsz, hlen], .inr ⟨b, cap, (cur.toList.take (k * size) ++ ys.flatMap enc ++ cur.toList.drop (k * size + (ys.flatMap enc).length)).toArray, by rw [hlen], hb, ?_, by rw [hlen]; exact hnc, hcm, ?_, ?_⟩⟩
   · rw [ha.2.2.2.2 b (by simpa using hbl) (by simp [accC, Value.ownBlock])]
     exact setRow_heap w b cur _ e _ hh
   · have h5 : cur.toList.length = cap * size := by rw [Array.length_toList]; exact hcs
     have h6 : xs.length * size ≤ cap * size := Nat.mul_le_mul_right _ hnc
     simp only [List.size_toArray, List.length_append, List.length_take, List.length_drop, h5, hyl]
     omega
   · have h5 : cur.toList.length = cap * size := by rw [Array.length_toList]; exact hcs
     have h6 : xs.length * size ≤ cap * size := Nat.mul_le_mul_right _ hnc
     rw [hlen, List.toList_toArray, List.flatMap_append, List.flatMap_append]
     have e1 : cur.toList.take (k * size) = (xs.take k).flatMap enc := by
      rw [← flat_take hsz xs k, ← ht, List.take_take, Nat.min_eq_left Z.W]
     have e2 : (cur.toList.drop (k * size + (ys.flatMap enc).length)).take (xs.length * size - (k * size + (ys.flatMap enc).length)) = (xs.drop (k + ys.length)).flatMap enc := by
      rw [← flat_drop hsz xs _ hfit, ← ht, List.drop_take, hyl, Nat.add_mul]
     rw [List.take_append, List.take_of_length_le (by rw [List.length_append, List.length_take, hyl]; omega), e1, List.length_append, hyl]
     congr 1
     rw [show ((xs.take k).flatMap enc).length = k * size from by rw [flat_len hsz, List.length_take, Nat.min_eq_left Z.W]]
     rw [hyl] at e2
     exact e2
/-- s[k] = v of a struct's type. -/
theorem OpW.storeAccS {k : Nat} {a : α} {va : Array Value} (ho : o.op = .store t x y) (hG : Agg P t size) (hx : ev L x = some (.pointer (some (elemAddr v (k * size))))) (hy : ev L y = some (.agg va)) (hva : va.toList = enc a) (hsz : ∀ x, (enc x).length = size) (h1 : ((enc a).all Value.oneCell') = true)
 (hT : Take (accC e size enc v xs) O O') (hlt : k < xs.length) (hd : o.dst = none) (kk : K L R (accC e size enc v (xs.set k a) :: O')) : OpW P n o L R O K := by
 intro ac w hf hs Q
 have hs' := hs.perm hT.perm
 have hp : (accC e size enc v xs).pred w := hs'.see List.mem_cons_self
 obtain ⟨hl, hv⟩ := hp
 rcases hv with ⟨rfl, h0⟩ | ⟨b, cap, cur, rfl, hb, hh, hnc, hcm, hcs, ht⟩
 · omega
 simp only [elemAddr, Nat.zero_add] at hx
 have hk : k * size + size ≤ cap * size := by
  have h1 : (k + 1) * size ≤ cap * size := Nat.mul_le_mul_right _ Z.W
  rw [Nat.add_mul, Nat.one_mul] at h1; exact h1
 have hvl : va.toList.length = size := by rw [hva, hsz]
 have hst := run_storeCells_at P b (k * size) e va.toList 0 cur w hh (by rw [hvl, hcs]; omega) (fun u hu => List.all_eq_true.1 h1 u (hva ▸ hu))
 simp only [Nat.add_zero] at hst
 have hvs : va.size = size := by simpa using hvl
 have hsz2 : ∀ w, (sizeOf t).run P w = .ok va.size w := fun w => by rw [hvs]; exact hG.2 w
 have hr : (execOp ac.eval o).run P w = .ok .skip (w.setRow b (cur.toList.take (k * size) ++ va.toList ++ cur.toList.drop (k * size + va.toList.length)).toArray) := by
  simp only [execOp, ho, hf.ev hx, hf.ev hy, Instr.storeAt, Instr.sureAddr, storeVar, Value.cells, hsz2, Sem.run_bind, Result.andThen_ok, Sem.run_pure, Sem.run_ite, ne_eq, not_true_eq_false, if_false, hst]
 unfold Oper.wp
 rw [hr, Oper.upon_skip, hd]
 have hw := acc_write (k := k) (ys := [a]) hsz hs' hh (by show k + 1 ≤ _; omega)
 have e1 : xs.take k ++ [a] ++ xs.drop (k + [a].length) = xs.set k a := by
  rw [List.set_eq_take_append_cons_drop, if_pos hlt]; simp
 have e2 : [a].flatMap enc = va.toList := by simp [hva]
 rw [e1, e2] at hw
 exact ⟨_, _, _, kk, hf.none _, hw⟩
theorem rep_at (l : List Value) : ∀ m i, i < m * l.length → (List.replicate m l).flatten[i]? = some l[i % l.length]!
 | 0, i, h => by simp at h
 | m + 1, i, h => by
   rw [List.replicate_succ, List.flatten_cons]
   by_cases hi : i < l.length
   · rw [List.getElem?_append_left hi, Nat.mod_eq_of_lt hi, get!_of_lt hi]
   · rw [List.getElem?_append_right Z.W, rep_at l m (i - l.length) (by rw [Nat.add_mul, Nat.one_mul] at h; omega), ← Nat.mod_eq_sub_mod Z.W]
theorem zeroCells_flat (l : Array Value) (m : Nat) : (Builtin.zeroCells l m).toList = (List.replicate m l.toList).flatten := by
 apply List.ext_getElem?
 intro i
 have hlen : ((List.replicate m l.toList).flatten).length = m * l.size := by simp
 by_cases h : i < m * l.size
 · rw [rep_at l.toList m i (by simpa using h)]
   simp only [Builtin.zeroCells, Array.toList_map, Array.toList_range, List.getElem?_map, List.getElem?_range h, Option.map_some, Array.length_toList]
   congr 1
   have h0 : i % l.size < l.size := Nat.mod_lt _ (Nat.pos_of_ne_zero fun h1 => by rw [h1] at h; simp at h)
   rw [getElem!_pos l _ h0, getElem!_pos l.toList _ (by simpa using h0), Array.getElem_toList]
 · rw [List.getElem?_eq_none (by simp [Builtin.zeroCells]; omega), List.getElem?_eq_none Z.W]
end acc
end Go.SL
namespace Go.SL
open Go Go.RowKit
section
variable {P : Program} {n : Sz} {o : Oper} {L : Env} {R : List RO} {O O' : List Own} {K : Env → List RO → List Own → Prop} {t t' e te : TypeId} {x y u : Operand} {v z : Value}
/-- What a method's name means for a value's type and the heap that is known. -/
def Meth (P : Program) (R : List RO) (O : List Own) (ty : TypeId) (rv : Value) (name : String) (f : FuncId) (recv : Value) : Prop :=
 ∀ w, (∀ p ∈ R, p w) → (∀ c ∈ O, c.pred w) → (method (P.types.size + Made.depth) ty rv name).run P w = .ok (f, recv) w
theorem OpW.invoke {f : FuncId} {ty : TypeId} {rv recv : Value} {name : String} {xs : List Operand} {azs : List Value} {ts : Array TypeId} {d : Nat} (ho : o.op = .call { callee := .invoke x name, args := xs.toArray, argTypes := ts })
 (hx : ev L x = some (.iface ty rv)) (has : Evs L xs azs) (hm : Meth P R O ty rv name f recv) (hb : hasBody P f = true) (hd : o.dst = some d) (hn : Nat.blt d n.n = true)
 (h : Fun P f (recv :: azs).toArray R O (fun v R' O' => K ((d, v) :: L) R' O')) : OpW P n o L R O K := by
 intro a w hf hs Q
 have e1 : a.eval x = _ := hf.ev hx
 have e2 := has.eval (ρ := a.eval) (fun x u hx => hf.ev hx)
 have e3 := hm w (fun p hp => hs.read hp) (fun c hc => hs.see hc)
 unfold Oper.wp
 have hr : (execOp a.eval o).run P w = .ok (.enter f (recv :: azs).toArray) w := by
  have e4 : (#[Value.iface ty rv] ++ azs.toArray).extract 1 (#[Value.iface ty rv] ++ azs.toArray).size = azs.toArray := by
   apply Array.ext'; simp
  have e5 : (#[Value.iface ty rv] ++ azs.toArray)[0]? = some (Value.iface ty rv) := by simp
  have e6 : #[recv] ++ azs.toArray = (recv :: azs).toArray := by simp
  have ep : ∀ w, (program : Sem Program).run P w = .ok P w := fun w => by simp
  simp only [execOp, ho, resolve, e1, List.map_toArray, e2, Sem.run_bind, Sem.run_pure, Result.andThen_ok, Go.invoke, e5, callMethod, e4, ep, e3, e6, run_callFunc hb]
 rw [hr, Oper.upon_enter]
 exact (h w hs).mono fun e w' ⟨v, R', O', he, hk, hs'⟩ => by
  subst he
  rw [hd]
  exact ⟨_, _, _, hk, hf.put hn v, hs'⟩
end
section
variable {P : Program} {o : Oper} {L : Env} {R : List RO} {O : List Own} {t t' e te : TypeId} {x y : Operand} {v z : Value}
/-- A pointer's own method. -/
theorem Meth.ptr {ty : TypeId} {ad : Addr} {name : String} {f : FuncId} {d : TypeId} (hm' : ((P.info? ty).bind (fun i => i.methods.find? (·.name == name))).map (fun m => (m.path, m.func)) = some (#[], some (f, true))) (hU : P.underlying ty = some (.pointer d)) :
 Meth P R O ty (.pointer (some ad)) name f (.pointer (some ad)) := fun w _ _ => by
 obtain ⟨m, hm, hpf⟩ := Option.map_eq_some_iff.1 hm'
 simp only [Prod.mk.injEq] at hpf
 obtain ⟨hp, hf⟩ := hpf
 obtain ⟨i, hi, hfi⟩ := Option.bind_eq_some_iff.1 hm
 rw [show P.types.size + Made.depth = (P.types.size + (Made.depth - 1)) + 1 from rfl, method]
 simp [typeInfo, hi, hfi, hp, hf, follow, receiverAt, run_underlying hU, Place.get]
theorem run_wrapnil {P : Program} {ts : Array TypeId} {ty : TypeId} {ad : Addr} {s m : ByteArray} (w : World) : (Builtin.ssaWrapNilChk_ ts ty #[.pointer (some ad), .string s, .string m]).run P w = .ok (.pointer (some ad)) w := rfl
/-- A value's method through a pointer to it. -/
theorem Meth.val {ty : TypeId} {ad : Addr} {name : String} {f : FuncId} {d : TypeId} (hm' : ((P.info? ty).bind (fun i => i.methods.find? (·.name == name))).map (fun m => (m.path, m.func)) = some (#[], some (f, false))) (hU : P.underlying ty = some (.pointer d))
 (hv : ∀ w, (∀ p ∈ R, p w) → (∀ c ∈ O, c.pred w) → (loadVar d ad).run P w = .ok v w) : Meth P R O ty (.pointer (some ad)) name f v := fun w hR hO => by
 obtain ⟨m, hm, hpf⟩ := Option.map_eq_some_iff.1 hm'
 simp only [Prod.mk.injEq] at hpf
 obtain ⟨hp, hf⟩ := hpf
 obtain ⟨i, hi, hfi⟩ := Option.bind_eq_some_iff.1 hm
 rw [show P.types.size + Made.depth = (P.types.size + (Made.depth - 1)) + 1 from rfl, method]
 simp [typeInfo, hi, hfi, hp, hf, follow, receiverAt, run_underlying hU, Place.get, strVal, run_wrapnil, asAddr, hv w hR hO]
theorem Meth.row {ty : TypeId} {name : String} {f : FuncId} {d : TypeId} {b off : Nat} {cs : List Value} (hm' : ((P.info? ty).bind (fun i => i.methods.find? (·.name == name))).map (fun m => (m.path, m.func)) = some (#[], some (f, false))) (hU : P.underlying ty = some (.pointer d))
 (hc : Cell1 P d) (hO : rowC b e cs ∈ O) (hk : cs[off]? = some v) : Meth P R O ty (.pointer (some ⟨b, off, none⟩)) name f v :=
 Meth.val hm' hU (fun w _ h => by
  have := run_load1 (P := P) hc (row_cell (h _ hO) hk)
  simpa [Instr.loadAt, Instr.sureAddr] using this)
theorem Rd.iface {d : TypeDesc} (ho : o.op = .makeInterface t x) (hU : P.underlying t = some d) (hd : (match d with | .interface _ => true | _ => false) = false) (hx : ev L x = some v) : Rd P o L R O (.iface t v) := fun ρ w hρ _ _ => by
 simp only [execOp, ho, hρ _ _ hx, Instr.makeInterface, Sem.run_bind, run_underlying hU, Result.andThen_ok]
 cases d <;> simp_all
theorem Rd.assertT {d : TypeDesc} (ho : o.op = .typeAssert x t' t false) (hU : P.underlying t = some d) (hd : (match d with | .interface _ => true | _ => false) = false) (hx : ev L x = some (.iface t v)) : Rd P o L R O v := fun ρ w hρ _ _ => by
 simp only [execOp, ho, hρ _ _ hx, Instr.typeAssert, Sem.run_bind, run_underlying hU, Result.andThen_ok]
 cases d <;> simp_all
end
end Go.SL
namespace Go.SL
open Go Go.RowKit
abbrev vp (a : List UInt8 × List UInt8) : Value := .agg #[vs a.1, vs a.2]
theorem sameBits_vs (n : Nat) (a : List UInt8) : Instr.sameBits n (vs a) (vs a) = true := by cases n <;> simp only [Instr.sameBits, vs, bytes_beq_list, decide_true]
theorem run_part1 {P : Program} {t : TypeId} (hc : Cell1 P t) {cs : Array Value} {i : Nat} {u : Value} (h : cs[i]? = some u) (w : World) : (part t cs i).run P w = .ok u w := by
 simp [Go.part, hc w, h]
theorem KeyT.two {P : Program} {t : TypeId} {f0 f1 : Field} (hU : P.underlying t = some (.struct #[f0, f1])) (h0 : P.underlying f0.type = some .string) (h1 : P.underlying f1.type = some .string)
 (c0 : Cell1 P f0.type) (c1 : Cell1 P f1.type) (o0 : f0.offset = 0) (o1 : f1.offset = 1)
 (hE : ∀ a b : List UInt8 × List UInt8, EqS P t #[vs a.1, vs a.2] #[vs b.1, vs b.2] (a = b)) : KeyT P t vp := by
 refine ⟨fun w e k => ?_, fun w k => ?_, fun w venc l k => ?_⟩
 · have e0 : ∀ n w, (Instr.checkKey e (n + 1) f0.type (vs k.1)).run P w = .ok () w := fun n w => by rw [Instr.checkKey]; simp [run_underlying h0]
   have e1 : ∀ n w, (Instr.checkKey e (n + 1) f1.type (vs k.2)).run P w = .ok () w := fun n w => by rw [Instr.checkKey]; simp [run_underlying h1]
   have p0 := fun w => run_part1 (P := P) c0 (cs := #[vs k.1, vs k.2]) (i := 0) rfl w
   have p1 := fun w => run_part1 (P := P) c1 (cs := #[vs k.1, vs k.2]) (i := 1) rfl w
   rw [show (10000 : Nat) = 9998 + 1 + 1 from rfl, Instr.checkKey]
   simp only [Sem.run_bind, run_underlying hU, Result.andThen_ok]
   simp [o0, o1]
   by_cases n0 : f0.name = "_" <;> by_cases n1 : f1.name = "_" <;> simp [n0, n1, p0, p1, e0, e1, Sem.run_bind, Result.andThen]
 · have : Instr.sameBits 10000 (vp k) (vp k) = true := by
    rw [show (10000 : Nat) = 9999 + 1 from rfl, Instr.sameBits]
    simp [sameBits_vs]
   simp [Instr.keyThatStays, this]
 · have key : ∀ (l : List ((List UInt8 × List UInt8) × _ × Nat)) (i : Nat) (w : World), (Instr.findAsking t (vp k) (l.map (ent vp venc)) i).run P w = .ok ((GoMap.gfind l k i).map fun q => (q.1, venc q.2)) w := by
    intro l
    induction l with
    | nil => intro i w; simp [Instr.findAsking, GoMap.gfind]
    | cons x r ih =>
      intro i w
      rw [List.map_cons, Instr.findAsking, GoMap.gfind]
      have h : (Op.equal t (vp k) (vp x.1)).run P w = .ok (decide (k = x.1)) w := (hE k x.1).1 w
      by_cases e : x.1 = k
      · rw [decide_eq_true e.symm] at h
        rw [e] at h; simp [ent, h, e]
      · rw [decide_eq_false (fun g => e g.symm)] at h
        have := ih (i + 1) w
        rw [show (ent vp venc x).key = vp x.1 from rfl]
        simp only [Sem.run_bind, h, Result.andThen_ok, this, Bool.false_eq_true, if_false, if_neg e]
   cases l with
   | nil => simp [Instr.findKey, run_underlying hU, Instr.findNow, GoMap.gfind]
   | cons x r =>
     have := key (x :: r) 0 w
     simp only [List.map_cons] at this
     simp [Instr.findKey, run_underlying hU, Instr.findNow, Instr.sameNow, this]
end Go.SL
namespace Go.Proofs.YtkobjfjmkhmehaaGreatDoor
open Go
/-- A strict order, of which what is not below either way round is alike. -/
structure Ord {α : Type} (lt : α → α → Prop) : Prop where
 irrefl : ∀ a, ¬ lt a a
 asymm : ∀ a b, lt a b → ¬ lt b a
 le_trans : ∀ a b c, ¬ lt b a → ¬ lt c b → ¬ lt c a
 lt_le : ∀ a b c, lt a b → ¬ lt c b → ¬ lt c a
section
variable {α : Type} [Inhabited α] {lt : α → α → Prop}
def swapL (l : List α) (i j : Nat) : List α := (l.set i l[j]!).set j l[i]!
theorem swapL_len (l : List α) (i j : Nat) : (swapL l i j).length = l.length := by simp [swapL]
theorem set_get! {l : List α} {i : Nat} {a : α} {k : Nat} (hi : i < l.length) : (l.set i a)[k]! = if k = i then a else l[k]! := by
 by_cases hk : k < l.length
 · rw [getElem!_pos (l.set i a) k (by simpa using hk), getElem!_pos l k hk, List.getElem_set]
   by_cases e : i = k
   · rw [if_pos e, if_pos e.symm]
   · rw [if_neg e, if_neg (fun h => e h.symm)]
 · rw [if_neg (by omega), getElem!_neg (l.set i a) k (by simpa using hk), getElem!_neg l k hk]
theorem swapL_get {l : List α} {i j : Nat} (hi : i < l.length) (hj : j < l.length) (k : Nat) : (swapL l i j)[k]! = if k = j then l[i]! else if k = i then l[j]! else l[k]! := by
 unfold swapL
 rw [set_get! (by simpa using hj)]
 by_cases e : k = j
 · rw [if_pos e, if_pos e]
 · rw [if_neg e, if_neg e, set_get! hi]
theorem swapL_perm {l : List α} {i j : Nat} (hi : i < l.length) (hj : j < l.length) : (swapL l i j).Perm l := by
 unfold swapL
 rw [getElem!_pos l i hi, getElem!_pos l j hj]
 exact List.set_set_perm hi hj
theorem swapL_take {l : List α} {i j n : Nat} (hi : i < n) (hj : j < n) (hn : n ≤ l.length) : (swapL l i j).drop n = l.drop n := by
 unfold swapL
 rw [List.drop_set_of_lt hj, List.drop_set_of_lt hi]
def Hp (lt : α → α → Prop) (l : List α) : Prop := ∀ k, 0 < k → k < l.length → ¬ lt l[k]! l[(k - 1) / 2]!
/-- Sifting up: at j alone there may be a fault. -/
def Up (lt : α → α → Prop) (l : List α) (j : Nat) : Prop := j < l.length ∧ (∀ k, 0 < k → k < l.length → k ≠ j → ¬ lt l[k]! l[(k - 1) / 2]!) ∧ (∀ c, 0 < c → c < l.length → (c - 1) / 2 = j → 0 < j → ¬ lt l[c]! l[(j - 1) / 2]!)
theorem Up.push {l : List α} (h : Hp lt l) (x : α) : Up lt (l ++ [x]) l.length := by
 refine ⟨by simp, fun k h0 hk hne => ?_, fun c h0 hc he => ?_⟩
 · rw [List.length_append, List.length_singleton] at hk
   have h1 := h k h0 (by omega)
   rw [getElem!_pos l k (by omega), getElem!_pos l ((k - 1) / 2) (by omega)] at h1
   rw [getElem!_pos (l ++ [x]) k (by simp; omega), getElem!_pos (l ++ [x]) ((k - 1) / 2) (by simp; omega), List.getElem_append_left (by omega), List.getElem_append_left (by omega)]
   exact h1
 · rw [List.length_append, List.length_singleton] at hc; omega
theorem Up.done {l : List α} {j : Nat} (h : Up lt l j) (hd : j = 0 ∨ ¬ lt l[j]! l[(j - 1) / 2]!) : Hp lt l := fun k h0 hk => by
 by_cases e : k = j
 · subst e; rcases hd with hd | hd
   · omega
   · exact hd
 · exact h.2.1 k h0 hk e
theorem Up.step (ho : Ord lt) {l : List α} {j : Nat} (h : Up lt l j) (h0 : 0 < j) (hl : lt l[j]! l[(j - 1) / 2]!) : Up lt (swapL l ((j - 1) / 2) j) ((j - 1) / 2) := by
 obtain ⟨hj, h1, h2⟩ := h
 have hi : (j - 1) / 2 < l.length := by omega
 refine ⟨by rw [swapL_len]; exact hi, fun k k0 hk hne => ?_, fun c c0 hc he g0 => ?_⟩
 · rw [swapL_len] at hk
   rw [swapL_get hi hj, swapL_get hi hj]
   by_cases e : k = j
   · subst e
     rw [if_pos rfl, if_neg (by omega), if_pos rfl]
     exact ho.asymm _ _ hl
   · rw [if_neg e, if_neg hne]
     by_cases e2 : (k - 1) / 2 = j
     · rw [if_pos e2]; exact h2 k k0 hk e2 h0
     · rw [if_neg e2]
       by_cases e3 : (k - 1) / 2 = (j - 1) / 2
       · rw [if_pos e3]
         have := h1 k k0 hk e
         rw [e3] at this
         exact ho.lt_le _ _ _ hl this
       · rw [if_neg e3]; exact h1 k k0 hk e
 · rw [swapL_len] at hc
   rw [swapL_get hi hj, swapL_get hi hj]
   have hg := h1 ((j - 1) / 2) g0 hi (by omega)
   rw [if_neg (c := ((j - 1) / 2 - 1) / 2 = j) (by omega), if_neg (c := ((j - 1) / 2 - 1) / 2 = (j - 1) / 2) (by omega)]
   by_cases e : c = j
   · rw [if_pos e]; exact hg
   · rw [if_neg e, if_neg (by omega)]
     have := h1 c c0 hc e
     rw [he] at this
     exact ho.le_trans _ _ _ hg this
/-- Sifting down among the first n: at i's children alone there may be a fault. -/
def Dn (lt : α → α → Prop) (l : List α) (i n : Nat) : Prop := n ≤ l.length ∧ (∀ k, 0 < k → k < n → (k - 1) / 2 ≠ i → ¬ lt l[k]! l[(k - 1) / 2]!) ∧ (∀ c, 0 < c → c < n → (c - 1) / 2 = i → 0 < i → ¬ lt l[c]! l[(i - 1) / 2]!)
theorem Dn.done {l : List α} {i n : Nat} (h : Dn lt l i n) (hd : ∀ c, 0 < c → c < n → (c - 1) / 2 = i → ¬ lt l[c]! l[i]!) : Hp lt (l.take n) := fun k h0 hk => by
 have hn := h.1
 rw [List.length_take] at hk
 rw [getElem!_pos (l.take n) k (by rw [List.length_take]; omega), getElem!_pos (l.take n) ((k - 1) / 2) (by rw [List.length_take]; omega), List.getElem_take, List.getElem_take]
 rw [← getElem!_pos l k (by omega), ← getElem!_pos l ((k - 1) / 2) (by omega)]
 by_cases e : (k - 1) / 2 = i
 · rw [e]; exact hd k h0 (by omega) e
 · exact h.2.1 k h0 (by omega) e
/-- j is the child of i that is not above the other one. -/
theorem Dn.step (ho : Ord lt) {l : List α} {i j n : Nat} (h : Dn lt l i n) (hj : j < n) (hji : (j - 1) / 2 = i) (j0 : 0 < j) (hmin : ∀ c, 0 < c → c < n → (c - 1) / 2 = i → ¬ lt l[c]! l[j]!) (hl : lt l[j]! l[i]!) : Dn lt (swapL l i j) j n := by
 obtain ⟨hn, h1, h2⟩ := h
 have hi : i < l.length := by omega
 have hj' : j < l.length := by omega
 refine ⟨by rw [swapL_len]; exact hn, fun k k0 hk hne => ?_, fun c c0 hc he _ => ?_⟩
 · rw [swapL_get hi hj', swapL_get hi hj']
   by_cases e : k = j
   · subst e
     rw [if_pos rfl, if_neg hne, if_pos hji]
     exact ho.asymm _ _ hl
   · rw [if_neg e, if_neg hne]
     by_cases e2 : k = i
     · subst e2
       rw [if_pos rfl, if_neg (by omega)]
       exact h2 j j0 hj hji k0
     · rw [if_neg e2]
       by_cases e3 : (k - 1) / 2 = i
       · rw [if_pos e3]; exact hmin k k0 hk e3
       · rw [if_neg e3]; exact h1 k k0 hk e3
 · rw [swapL_get hi hj', swapL_get hi hj', if_neg (by omega), if_neg (by omega), if_neg (by omega), if_pos hji]
   have := h1 c c0 hc (by omega)
   rwa [he] at this
theorem Hp.first (ho : Ord lt) {l : List α} (h : Hp lt l) : ∀ k, k < l.length → ¬ lt l[k]! l[0]! := by
 intro k
 induction k using Nat.strongRecOn with
 | _ k ih =>
   intro hk
   by_cases e : k = 0
   · subst e; exact ho.irrefl _
   · exact ho.le_trans _ _ _ (ih ((k - 1) / 2) (by omega) (by omega)) (h k (by omega) hk)
theorem Hp.least (ho : Ord lt) {l : List α} (h : Hp lt l) {x : α} (hx : x ∈ l) : ¬ lt x l[0]! := by
 obtain ⟨k, hk, rfl⟩ := List.getElem_of_mem hx
 rw [← getElem!_pos l k hk]
 exact h.first ho k hk
/-- The first goes to the end; what comes ahead of it is to be sifted down. -/
theorem Dn.start {l : List α} {m : Nat} (h : Hp lt l) (hm : l.length = m + 1) : Dn lt (swapL l 0 m) 0 m := by
 refine ⟨by rw [swapL_len]; omega, fun k k0 hk hne => ?_, fun c _ _ _ h0 => absurd h0 (Nat.lt_irrefl 0)⟩
 rw [swapL_get (by omega) (by omega), swapL_get (by omega) (by omega), if_neg (by omega), if_neg (by omega), if_neg (by omega), if_neg hne]
 exact h k k0 (by omega)
theorem hp_nil : Hp lt ([] : List α) := fun k _ hk => absurd hk (Nat.not_lt_zero _)
end
end Go.Proofs.YtkobjfjmkhmehaaGreatDoor
namespace Go.SL
open Go Go.RowKit Go.ChangeShapes Go.WideShapes Go.ChangeAt
section
variable {H : Type} {en : TypeId × Value → H} {P : Program} {w : World} {base b0 : Nat} {r : Reach} {spare : Nat → Bool} {held : Bool}
theorem piecesW {α : Type} {enc : α → List Value} {Q : World → α → Prop} {size : Nat} : ∀ (n : Nat) (cs : List Value), cs.length = n * size → (∀ i, i < n → ∃ a, (cs.drop (i * size)).take size = enc a ∧ Q w a) → ∃ xs : List α, xs.length = n ∧ cs = xs.flatMap enc ∧ ∀ a ∈ xs, Q w a
 | 0, cs, hl, _ => ⟨[], rfl, by rw [Nat.zero_mul] at hl; exact List.length_eq_zero_iff.1 hl, fun a ha => absurd ha List.not_mem_nil⟩
 | n + 1, cs, hl, h => by
   obtain ⟨a, ha, hq⟩ := h 0 (Nat.succ_pos _)
   rw [Nat.zero_mul, List.drop_zero] at ha
   obtain ⟨xs, hxl, hx, hxq⟩ := piecesW (enc := enc) (Q := Q) (size := size) n (cs.drop size) (by rw [List.length_drop, hl, Nat.succ_mul]; omega) (fun i hi => by
    obtain ⟨b, hb, hbq⟩ := h (i + 1) Z.W
    exact ⟨b, by rw [List.drop_drop, ← hb]; congr 2; rw [Nat.succ_mul]; omega, hbq⟩)
   refine ⟨a :: xs, by rw [List.length_cons, hxl], ?_, fun b hb => ?_⟩
   · rw [List.flatMap_cons, ← hx, ← ha, List.take_append_drop]
   · rcases List.mem_cons.1 hb with rfl | hb
     · exact hq
     · exact hxq b hb
theorem elsW_arr2 {α : Type} {t e : TypeId} {enc : α → List Value} {Q : World → α → Prop} {size : Nat} (ht : P.underlying t = some (.array 2 e)) (hsz : P.cellsOf e = size) (hct : P.cellsOf t = 2 * size) (hel : ElsW P e enc Q) :
 ElsW P t (fun x : α × α => enc x.1 ++ enc x.2) (fun w x => Q w x.1 ∧ Q w x.2) := fun _ _ w _ _ _ n cs x hx hsm => by
 obtain ⟨ys, m, _, hd, hlen, hyl, hall⟩ := DataW.trod_array ht hx
 obtain ⟨xs, hxl, hxx, hq⟩ := piecesW (enc := enc) (Q := Q) (w := w) (size := size) 2 cs (by rw [hlen, hct]) (fun i hi => by
  have h1 := hall i hi
  rw [hsz] at h1
  obtain ⟨y, hy⟩ : ∃ y, ys[i]? = some y := ⟨_, List.getElem?_eq_getElem Z.W⟩
  rw [hy] at h1
  refine hel _ _ _ h1 (fun k hk => hsm k ?_)
  rw [hd]
  simp only [DataW.weights, ht, List.mem_cons, List.mem_append]
  first
   | exact weightsAll_mem (List.mem_map.2 ⟨y, List.mem_of_getElem? hy, rfl⟩) k hk
   | exact .inr (weightsAll_mem (List.mem_map.2 ⟨y, List.mem_of_getElem? hy, rfl⟩) k hk))
 obtain ⟨a, b, rfl⟩ := two hxl
 exact ⟨(a, b), by rw [hxx]; simp, hq a (by simp), hq b (by simp)⟩
end
end Go.SL
namespace Go.SL
open Go Go.RowKit
section
variable {P : Program} {ops : Array Oper} {Q : Exit → Act → World → Prop} {md : Region.Mode} {S : Array Bool → World → Prop}
/-- Whatever order is picked from here on, and S, at what has come up, holds behind each operation. -/
def wpAnyL (P : Program) (md : Region.Mode) (ops : Array Oper) (Q : Exit → Act → World → Prop) (S : Array Bool → World → Prop) : Nat → Array Bool → Act → World → Prop
 | 0, listed, a, w => Region.ready md ops listed = [] ∧ Q .normal a w
 | fuel + 1, listed, a, w =>
   (Region.ready md ops listed = [] → Q .normal a w) ∧
   ∀ i ∈ Region.ready md ops listed, wpOp P ops Q i (fun a' w' => S (listed.setIfInBounds i true) w' ∧ wpAnyL P md ops Q S fuel (listed.setIfInBounds i true) a' w') a w
theorem wpAny_of_L : ∀ (fuel : Nat) (listed : Array Bool) (a : Act) (w : World), wpAnyL P md ops Q S fuel listed a w → wpAny P md ops Q fuel listed a w
 | 0, _, _, _, h => h
 | fuel + 1, _, _, _, h => ⟨h.1, fun i hi => wpOp_mono (fun a' w' h' => wpAny_of_L fuel _ a' w' h'.2) (h.2 i hi)⟩
/-- Operation j waits for i. -/
def Waits (md : Region.Mode) (ops : Array Oper) (i j : Nat) : Prop := ∃ oj, ops[j]? = some oj ∧ ∃ e ∈ oj.after, Region.binds md e = true ∧ e.on = i
def Early (md : Region.Mode) (ops : Array Oper) (i : Nat) (l : Array Bool) : Prop := ∀ j, Waits md ops i j → l.getD j true = false
theorem wpAnyL_first {i : Nat} {oi : Oper} {v : Value} (hi : ops[i]? = some oi) (hsel : ∀ (j : Nat) (o : Oper) cs b, ops[j]? = some o → o.op ≠ .select cs b)
 (hQ : ∀ c a w, Q (.panic c) (a.put oi.dst v) w → Q (.panic c) a w)
 (hmono : ∀ l w, S l w → S (l.setIfInBounds i true) w) (hback : ∀ l w, S (l.setIfInBounds i true) w → S l w) :
 ∀ (fuel : Nat) (listed : Array Bool) (a : Act) (w : World),
  (∀ j oj, ops[j]? = some oj → j ≠ i → listed.getD j true = false → (∀ e ∈ oj.after, Region.binds md e = true → e.on ≠ i) → oi.apart ops oj = true) →
  i ∈ Region.ready md ops listed → Early md ops i listed → YieldsIf P ops (fun w => ∃ l, Early md ops i l ∧ S l w) oi v a → S listed w →
  wpAnyL P md ops Q S fuel (listed.setIfInBounds i true) (a.put oi.dst v) w → wpAnyL P md ops Q S (fuel + 1) listed a w := by
 intro fuel
 induction fuel with
 | zero =>
   intro listed a w _ hr hE hy hS H
   refine ⟨fun h => (by rw [h] at hr; cases hr), fun j hj => ?_⟩
   by_cases hji : j = i
   · subst hji; exact hy.wpOp hi ⟨listed, hE, hS⟩ ⟨hmono _ _ hS, H⟩
   · have := ready_mono hj hji
     rw [H.1] at this
     cases this
 | succ fuel ih =>
   intro listed a w hfree hr hE hy hS H
   refine ⟨fun h => (by rw [h] at hr; cases hr), fun j hj => ?_⟩
   by_cases hji : j = i
   · subst hji; exact hy.wpOp hi ⟨listed, hE, hS⟩ ⟨hmono _ _ hS, H⟩
   · have h1 := H.2 j (ready_mono hj hji)
     obtain ⟨hjun, oj, hoj, hall⟩ := mem_ready.1 hj
     have hnot : ∀ e ∈ oj.after, Region.binds md e = true → e.on ≠ i := fun e he hb heq => by
      have h1 := hall e he hb
      have h0 := (mem_ready.1 hr).1
      rw [heq] at h1
      rcases Nat.lt_or_ge i listed.size with h' | h'
      · simp [h'] at h0 h1; rw [h0] at h1; cases h1
      · simp [Array.getElem?_eq_none h'] at h1
     have h2 := wpOp_putIf hoj (hfree j oj hoj hji hjun hnot) (fun cs b => hsel i oi cs b hi) (fun cs b => hsel j oj cs b hoj) hQ hy h1
     have hfree' : ∀ k ok, ops[k]? = some ok → k ≠ i → (listed.setIfInBounds j true).getD k true = false →
      (∀ e ∈ ok.after, Region.binds md e = true → e.on ≠ i) → oi.apart ops ok = true := fun k ok hk hki hun hno => by
      refine hfree k ok hk hki ?_ hno
      by_cases hjk : j = k
      · subst hjk; exact hjun
      · rw [getD_set_ne true hjk] at hun; exact hun
     have hE' : Early md ops i (listed.setIfInBounds j true) := fun k hk => by
      have hjk : j ≠ k := by
       rintro rfl
       obtain ⟨ok, hok, e, he, hb, heq⟩ := hk
       rw [hoj] at hok
       cases hok
       exact hnot e he hb heq
      rw [getD_set_ne true hjk]; exact hE k hk
     refine wpOp_mono (fun a' w' h3 => ?_) h2
     have hS' : S (listed.setIfInBounds j true) w' := hback _ _ (by rw [Array.setIfInBounds_comm _ _ hji]; exact h3.2.1)
     refine ⟨hS', ih (listed.setIfInBounds j true) a' w' hfree' (ready_mono hr (Ne.symm hji)) hE' h3.1 hS' ?_⟩
     rw [Array.setIfInBounds_comm _ _ hji]
     exact h3.2.2
end
section draw
variable {P : Program} {n : Sz} {ops : Array Oper} {Q : Post} {S : List RO} {T : List Own} {U : List (Nat × Own)} {fuel : Nat} {listed : Array Bool} {L : Env} {R : List RO} {O : List Own} {o : Oper}
/-- What readers lean on: S, T to the end; each of U until its store has come up. -/
def FactsL (S : List RO) (T : List Own) (U : List (Nat × Own)) (l : Array Bool) (w : World) : Prop := (∀ p ∈ S, p w) ∧ (∀ c ∈ T, c.pred w) ∧ ∀ u ∈ U, l.getD u.1 true = false → u.2.pred w
def WE (P : Program) (n : Sz) (ops : Array Oper) (Q : Post) (S : List RO) (T : List Own) (U : List (Nat × Own)) (fuel : Nat) (listed : Array Bool) (L : Env) (R : List RO) (O : List Own) : Prop :=
 ∀ a w, Fr n L a → Sat R O w → wpAnyL P .any ops (lift n Q) (FactsL S T U) fuel listed a w
def HeldL (S : List RO) (T : List Own) (U : List (Nat × Own)) (l : Array Bool) (R : List RO) (O : List Own) : Prop := ∀ w, Sat R O w → FactsL S T U l w
/-- Those of U whose store hasn't come up. -/
def live (U : List (Nat × Own)) (l : Array Bool) : List Own := (U.filter fun u => l.getD u.1 true == false).map (·.2)
inductive Mems (O : List Own) : List Own → Prop
 | nil : Mems O []
 | cons {c : Own} {V : List Own} (h : c ∈ O) (k : Mems O V) : Mems O (c :: V)
theorem Mems.mem {V : List Own} (h : Mems O V) : ∀ c ∈ V, c ∈ O := by
 induction h with
 | nil => exact fun c hc => absurd hc List.not_mem_nil
 | cons h _ ih =>
   intro c hc
   rcases List.mem_cons.1 hc with rfl | hc
   · exact h
   · exact ih c hc
theorem HeldL.mk2 {l : Array Bool} (V : List Own) (hV : live U l = V) (hS : SubL S R) (hT : OwnL O T) (hU : Mems O V) : HeldL S T U l R O := fun _ h =>
 ⟨fun p hp => h.read (hS.mem p hp), fun c hc => h.see (hT.mem.1 c hc), fun u hu hl => h.see (hU.mem u.2 (by rw [← hV]; exact List.mem_map.2 ⟨u, List.mem_filter.2 ⟨hu, by rw [hl]; rfl⟩, rfl⟩))⟩
/-- Each store of U waits for i, and is not i. -/
def behindOk (ops : Array Oper) (U : List (Nat × Own)) (i : Nat) : Bool := U.all fun u => u.1 != i && (match ops[u.1]? with
 | some o => o.after.any fun e => Region.binds .any e && e.on == i
 | none => false)
theorem take_auxL {V : List (Nat × Own)} {i : Nat} {v : Value} {dst : Option Nat} {L' : Env} (hi : ops[i]? = some o) (hok : takeOk ops listed i = true) (hne : (U.all fun u => u.1 != i) = true) (hVU : V.Sublist U) (hb : behindOk ops V i = true) (hS : HeldL S T U listed R O) (hE : Early .any ops i listed) (hd : o.dst = dst) (hL : ∀ a, Fr n L a → Fr n L' (a.put dst v))
 (hy : ∀ a, Fr n L a → YieldsIf P ops (fun w => (∀ p ∈ S, p w) ∧ ∀ c ∈ V.map (·.2) ++ T, c.pred w) o v a) (k : WE P n ops Q S T U fuel (listed.setIfInBounds i true) L' R O) : WE P n ops Q S T U (fuel + 1) listed L R O := by
 intro a w hf hs
 simp only [takeOk, Bool.and_eq_true] at hok
 have hne2 : ∀ u ∈ U, u.1 ≠ i := fun u hu => by simpa using List.all_eq_true.1 hne u hu
 have hbw : ∀ u ∈ V, u.1 ≠ i ∧ Waits .any ops i u.1 := fun u hu => by
  have h := List.all_eq_true.1 hb u hu
  rw [Bool.and_eq_true] at h
  refine ⟨by simpa using h.1, ?_⟩
  have h2 := h.2
  cases ho : ops[u.1]? with
  | none => rw [ho] at h2; cases h2
  | some oj =>
    rw [ho] at h2
    obtain ⟨e, he, hee⟩ := Array.any_eq_true'.1 h2
    rw [Bool.and_eq_true] at hee
    exact ⟨oj, ho, e, he, hee.1, by simpa using hee.2⟩
 refine wpAnyL_first (v := v) hi (Region.noSelect_spec hok.1.1) (fun c a w h => h) ?_ ?_ fuel listed a w (Region.free_spec hi hok.1.2) (by simpa using hok.2) hE ?_ (hS w hs) ?_
 · rintro l w ⟨h1, h2, h3⟩
   exact ⟨h1, h2, fun u hu hl => h3 u hu (by rw [getD_set_ne true (Ne.symm (hne2 u hu))] at hl; exact hl)⟩
 · rintro l w ⟨h1, h2, h3⟩
   exact ⟨h1, h2, fun u hu hl => h3 u hu (by rw [getD_set_ne true (Ne.symm (hne2 u hu))]; exact hl)⟩
 · rcases hy a hf with ⟨h1, h2⟩ | h
   · refine .inl ⟨h1, fun w hw => h2 w ?_⟩
     obtain ⟨l, hEl, g1, g2, g3⟩ := hw
     refine ⟨g1, fun c hc => ?_⟩
     rcases List.mem_append.1 hc with hc | hc
     · obtain ⟨u, hu, rfl⟩ := List.mem_map.1 hc
       exact g3 u (hVU.subset hu) (hEl u.1 (hbw u hu).2)
     · exact g2 c hc
   · exact .inr h
 · rw [hd]
   exact k _ _ (hL a hf) hs
/-- No operation that waits for i has come up. -/
def earlyOk (ops : Array Oper) (listed : Array Bool) (i : Nat) : Bool := (List.range ops.size).all fun j => match ops[j]? with
 | some o => !(o.after.any fun e => Region.binds .any e && e.on == i) || (listed.getD j true == false)
 | none => true
theorem early_of {i : Nat} (h : earlyOk ops listed i = true) : Early .any ops i listed := by
 rintro j ⟨oj, hoj, e, he, hb, heq⟩
 have hj : j < ops.size := (Array.getElem?_eq_some_iff.1 hoj).1
 have h1 := List.all_eq_true.1 h j (List.mem_range.2 hj)
 rw [hoj] at h1
 simp only [Bool.or_eq_true, Bool.not_eq_true'] at h1
 rcases h1 with h1 | h1
 · have : (oj.after.any fun e => Region.binds .any e && e.on == i) = true := Array.any_eq_true'.2 ⟨e, he, by rw [hb, heq]; simp⟩
   rw [this] at h1; cases h1
 · simpa using h1
def readOk (ops : Array Oper) (listed : Array Bool) (U V : List (Nat × Own)) (i : Nat) : Bool := takeOk ops listed i && (behindOk ops V i && (earlyOk ops listed i && U.all fun u => u.1 != i))
theorem readOk_parts {V : List (Nat × Own)} {i : Nat} (h : readOk ops listed U V i = true) : takeOk ops listed i = true ∧ behindOk ops V i = true ∧ earlyOk ops listed i = true ∧ (U.all fun u => u.1 != i) = true := by
 unfold readOk at h
 rw [Bool.and_eq_true, Bool.and_eq_true, Bool.and_eq_true] at h
 exact ⟨h.1, h.2.1, h.2.2.1, h.2.2.2⟩
theorem WE.take (i : Nat) (V : List (Nat × Own)) {d : Nat} {v : Value} (hi : ops[i]? = some o) (hok : readOk ops listed U V i = true) (hVU : V.Sublist U) (hS : HeldL S T U listed R O) (hg : o.guard = none) (hd : o.dst = some d) (hn : Nat.blt d n.n = true) (h : Rd P o L S (V.map (·.2) ++ T) v)
 (k : WE P n ops Q S T U fuel (listed.setIfInBounds i true) ((d, v) :: L) R O) : WE P n ops Q S T U (fuel + 1) listed L R O :=
 take_auxL hi (readOk_parts hok).1 (readOk_parts hok).2.2.2 hVU (readOk_parts hok).2.1 hS (early_of (readOk_parts hok).2.2.1) hd (fun _ hf => hf.put hn v) (fun a hf => .inl ⟨by simp [Region.wanted, hg], fun w hw => h a.eval w (fun x u hx => hf.ev hx) hw.1 hw.2⟩) k
/-- The only operation that may come up now. -/
theorem WE.one (i : Nat) (hi : ops[i]? = some o) (hr : Region.ready .any ops listed = [i]) (hg : o.guard = none)
 (h : OpW P n o L R O (fun L' R' O' => HeldL S T U (listed.setIfInBounds i true) R' O' ∧ WE P n ops Q S T U fuel (listed.setIfInBounds i true) L' R' O')) : WE P n ops Q S T U (fuel + 1) listed L R O := by
 intro a w hf hs
 refine ⟨fun h0 => (by rw [hr] at h0; cases h0), fun j hj => ?_⟩
 rw [hr] at hj
 simp only [List.mem_singleton] at hj
 subst hj
 unfold wpOp
 rw [hi]
 simp only [Region.wanted, hg, if_true]
 exact .inl (Oper.wp_mono (fun a' w' ⟨L', R', O', hk, hf', hs'⟩ => ⟨hk.1 w' hs', hk.2 a' w' hf' hs'⟩) (h a w hf hs _))
/-- Several operations may come up now. -/
theorem WE.many (is : List Nat) (hr : Region.ready .any ops listed = is) (hne : is ≠ [])
 (h : ∀ i ∈ is, ∃ o, ops[i]? = some o ∧ o.guard = none ∧ OpW P n o L R O (fun L' R' O' => HeldL S T U (listed.setIfInBounds i true) R' O' ∧ WE P n ops Q S T U fuel (listed.setIfInBounds i true) L' R' O')) : WE P n ops Q S T U (fuel + 1) listed L R O := by
 intro a w hf hs
 refine ⟨fun h0 => absurd (hr ▸ h0) hne, fun x hx => ?_⟩
 rw [hr] at hx
 obtain ⟨o, ho, hg, hop⟩ := h x hx
 unfold wpOp
 rw [ho]
 simp only [Region.wanted, hg, if_true]
 exact .inl (Oper.wp_mono (fun a' w' ⟨L', R', O', hk, hf', hs'⟩ => ⟨hk.1 w' hs', hk.2 a' w' hf' hs'⟩) (hop a w hf hs _))
theorem WE.say (t : Nat) {v u : Value} (ht : Env.find L t = some v) (e : v = u) (k : WE P n ops Q S T U fuel listed ((t, u) :: L) R O) : WE P n ops Q S T U fuel listed L R O :=
 fun a w hf hs => k a w (hf.known ht e) hs
theorem WE.heap {R' : List RO} {O' : List Own} (hs : ∀ w, Sat R O w → Sat R' O' w) (c : WE P n ops Q S T U fuel listed L R' O') : WE P n ops Q S T U fuel listed L R O := fun a w hf h => c a w hf (hs w h)
theorem WE.done (hr : (Region.ready .any ops listed).isEmpty = true) (h : Q .normal L R O) : WE P n ops Q S T U fuel listed L R O := fun a w hf hs => by
 have hr' := List.isEmpty_iff.1 hr
 have hq := lift_normal h hf hs
 cases fuel with
 | zero => exact ⟨hr', hq⟩
 | succ m => exact ⟨fun _ => hq, fun i hi => by rw [hr'] at hi; cases hi⟩
theorem WC.drawnU {id : Nat} {l : List Oper} (T : List Own) (U : List (Nat × Own)) (m : Nat) (hlen : l.length = m) (hm : P.follows .mixedOrders = true) (h : WE P n l.toArray Q R T U m (Array.replicate m false) L R O) : WC P n (.region id l.toArray true) Q L R O := by
 subst hlen
 intro a w hf hs
 exact wp_region_any hm (wpAny_of_L _ _ _ _ (h a _ hf (hs.drew _)))
end draw
end Go.SL
namespace Go.Proofs.YtkobjfjmkhmehaaGreatDoor.Mg
open Go Go.SL
abbrev Pr := List UInt8 × List UInt8
def encP (x : Pr) : List Value := [vs x.1, vs x.2]
structure Sp where
 rank : Nat
 pl : Nat
 a : List UInt8
 b : List UInt8
deriving DecidableEq
instance : Inhabited Sp := ⟨⟨0, 0, [], []⟩⟩
def encS (s : Sp) : List Value := [vi s.rank, vi s.pl, vs s.a, vs s.b]
def spLt (x y : Sp) : Prop := x.rank < y.rank ∨ x.rank = y.rank ∧ x.pl < y.pl
instance (x y : Sp) : Decidable (spLt x y) := by unfold spLt; infer_instance
theorem spOrd : Ord spLt := ⟨fun a => by unfold spLt; omega, fun a b => by unfold spLt; omega, fun a b c => by unfold spLt; omega, fun a b c => by unfold spLt; omega⟩
theorem take_snoc' {α : Type} [Inhabited α] {l : List α} {i : Nat} (h : i < l.length) : l.take (i + 1) = l.take i ++ [l[i]!] := by
 rw [List.take_add_one, List.getElem?_eq_getElem h, getElem!_pos l i h]; rfl
theorem get!_mem {β : Type} [Inhabited β] {l : List β} {i : Nat} (hi : i < l.length) : l[i]! ∈ l := by rw [getElem!_pos l i hi]; exact List.getElem_mem _
abbrev accS (v : Value) (xs : List Sp) : Own := accC 157 4 encS v xs
/-- A row of parts: its slices, its map, its spots. -/
abbrev rowW (br : Nat) (pv nv qv : Value) (bm : Nat) (sv : Value) : Own := rowC br 105 [pv, nv, qv, .map (some bm), sv]
section
variable {R : List RO} {O O' : List Own} {POST : Value → List RO → List Own → Prop} {xs : List Sp} {sv : Value}
theorem Fun.knowO' {P : Program} {f : FuncId} {args : Array Value} {post : Value → List RO → List Own → Prop} {c : Own} {φ : Prop} (hp : c ∈ O) (hφ : ∀ w, c.pred w → φ) (h : φ → Fun P f args R O post) : Fun P f args R O post := fun w hs => h (hφ w (hs.see hp)) w hs
theorem acc_sub {α : Type} {e : TypeId} {size hi : Nat} {enc : α → List Value} {v : Value} {xs : List α} {w : World} (h : (accC e size enc v xs).pred w) : OneV (subSl v size 0 hi) := by
 rcases h.2 with ⟨rfl, _⟩ | ⟨b, c, cur, rfl, _⟩
 · exact ⟨rfl, rfl⟩
 · rw [subSl0]; exact ⟨rfl, rfl⟩
theorem acc_shape {α : Type} {e : TypeId} {size : Nat} {enc : α → List Value} {v : Value} {xs : List α} {w : World} (h : (accC e size enc v xs).pred w) (h0 : 0 < xs.length) : ∃ g cap, v = .slice (some ⟨g, 0, none⟩) xs.length cap := by
 rcases h.2 with ⟨_, h1⟩ | ⟨b, c, cur, rfl, _⟩
 · omega
 · exact ⟨b, c, rfl⟩
set_option maxRecDepth 20000 in
theorem len_spec (hO : accS sv xs ∈ O) (hk : POST (vi xs.length) R O) : Fun Tryz.prog 235 #[sv] R O POST := by
 refine Fun.enter (l := [_]) Tryz.func235 rfl Tryz.ntmps235 rfl (L0 := [(0, _)]) rfl ?_
 refine WC.seq ?_
 refine WC.region ?_
 refine WL.rd rfl rfl rfl (Rd.assign rfl rfl) ?_
 refine WL.nil ?_
 refine thenQ.normal ?_
 refine WC.seq ?_
 refine WC.region ?_
 refine WL.rd rfl rfl rfl (Rd.move rfl rfl) ?_
 refine WL.rd rfl rfl rfl (Rd.lenA (enc := encS) (xs := xs) rfl rfl Tryz.underlying103 hO) ?_
 refine WL.rd rfl rfl rfl (Rd.assign rfl rfl) ?_
 refine WL.nil ?_
 refine thenQ.normal ?_
 refine WC.ret (Ret.one Tryz.results235 rfl ?_)
 exact hk
set_option maxRecDepth 20000 in
theorem less_spec {i j : Nat} (hO : accS sv xs ∈ O) (hi : i < xs.length) (hj : j < xs.length) (hk : POST (.bool (decide (spLt xs[i]! xs[j]!))) R O) : Fun Tryz.prog 236 #[sv, vi i, vi j] R O POST := by
 refine Fun.enter (l := [_, _, _]) Tryz.func236 rfl Tryz.ntmps236 rfl (L0 := [(0, _), (1, _), (2, _)]) rfl ?_
 refine WC.seq ?_
 refine WC.region ?_
 refine WL.rd rfl rfl rfl (Rd.assign rfl rfl) ?_
 refine WL.nil ?_
 refine thenQ.normal ?_
 refine WC.seq ?_
 refine WC.seq ?_
 refine WC.still mixed Z.K ?_
 refine WA.rd rfl rfl rfl (Rd.move rfl rfl) ?_
 refine WA.rd rfl rfl rfl (Rd.move rfl rfl) ?_
 refine WA.rd rfl rfl rfl ((by exact Rd.idxA (k := i) rfl S103 rfl rfl Z.W Z.M Z.W)) ?_
 refine WA.rd rfl rfl rfl ((by exact Rd.fieldA rfl F157_0 rfl Z.M Z.W)) ?_
 refine WA.rd rfl rfl rfl (Rd.getFA (enc := encS) (size := 4) (xs := xs) (k := i) (f := 0) (a := xs[i]!) (u := vi xs[i]!.rank) rfl C3 rfl Z.M (fun x => rfl) Z.W (get!_of_lt hi) rfl) ?_
 refine WA.rd rfl rfl rfl (Rd.move rfl rfl) ?_
 refine WA.rd rfl rfl rfl (Rd.move rfl rfl) ?_
 refine WA.rd rfl rfl rfl ((by exact Rd.idxA (k := j) rfl S103 rfl rfl Z.W Z.M Z.W)) ?_
 refine WA.rd rfl rfl rfl ((by exact Rd.fieldA rfl F157_0 rfl Z.M Z.W)) ?_
 refine WA.rd rfl rfl rfl (Rd.getFA (enc := encS) (size := 4) (xs := xs) (k := j) (f := 0) (a := xs[j]!) (u := vi xs[j]!.rank) rfl C3 rfl Z.M (fun x => rfl) Z.W (get!_of_lt hj) rfl) ?_
 refine WA.rd rfl rfl rfl (Rd.neq rfl rfl rfl) ?_
 refine WA.nil ?_
 refine thenQ.normal ?_
 refine WC.ite rfl (fun hc1 => ?_) (fun hc1 => ?_)
 ·
  refine WC.seq ?_
  refine WC.still mixed Z.K ?_
  refine WA.rd rfl rfl rfl (Rd.move rfl rfl) ?_
  refine WA.rd rfl rfl rfl (Rd.move rfl rfl) ?_
  refine WA.rd rfl rfl rfl ((by exact Rd.idxA (k := i) rfl S103 rfl rfl Z.W Z.M Z.W)) ?_
  refine WA.rd rfl rfl rfl ((by exact Rd.fieldA rfl F157_0 rfl Z.M Z.W)) ?_
  refine WA.rd rfl rfl rfl (Rd.getFA (enc := encS) (size := 4) (xs := xs) (k := i) (f := 0) (a := xs[i]!) (u := vi xs[i]!.rank) rfl C3 rfl Z.M (fun x => rfl) Z.W (get!_of_lt hi) rfl) ?_
  refine WA.rd rfl rfl rfl (Rd.move rfl rfl) ?_
  refine WA.rd rfl rfl rfl (Rd.move rfl rfl) ?_
  refine WA.rd rfl rfl rfl ((by exact Rd.idxA (k := j) rfl S103 rfl rfl Z.W Z.M Z.W)) ?_
  refine WA.rd rfl rfl rfl ((by exact Rd.fieldA rfl F157_0 rfl Z.M Z.W)) ?_
  refine WA.rd rfl rfl rfl (Rd.getFA (enc := encS) (size := 4) (xs := xs) (k := j) (f := 0) (a := xs[j]!) (u := vi xs[j]!.rank) rfl C3 rfl Z.M (fun x => rfl) Z.W (get!_of_lt hj) rfl) ?_
  refine WA.rd rfl rfl rfl (Rd.lss rfl rfl rfl) ?_
  refine WA.rd rfl rfl rfl (Rd.assign rfl rfl) ?_
  refine WA.nil ?_
  refine thenQ.normal ?_
  refine WC.ret (Ret.one Tryz.results236 rfl ?_)
  rw [show decide (spLt xs[i]! xs[j]!) = decide ((xs[i]!.rank : Int) < xs[j]!.rank) from decide_eq_decide.2 (by unfold spLt; omega)] at hk
  exact hk
 ·
  refine WC.skip ?_
  refine thenQ.normal ?_
  refine WC.seq ?_
  refine WC.still mixed Z.K ?_
  refine WA.rd rfl rfl rfl (Rd.move rfl rfl) ?_
  refine WA.rd rfl rfl rfl (Rd.move rfl rfl) ?_
  refine WA.rd rfl rfl rfl ((by exact Rd.idxA (k := i) rfl S103 rfl rfl Z.W Z.M Z.W)) ?_
  refine WA.rd rfl rfl rfl ((by exact Rd.fieldA rfl F157_1 rfl Z.M Z.W)) ?_
  refine WA.rd rfl rfl rfl (Rd.getFA (enc := encS) (size := 4) (xs := xs) (k := i) (f := 1) (a := xs[i]!) (u := vi xs[i]!.pl) rfl C3 rfl Z.M (fun x => rfl) Z.W (get!_of_lt hi) rfl) ?_
  refine WA.rd rfl rfl rfl (Rd.move rfl rfl) ?_
  refine WA.rd rfl rfl rfl (Rd.move rfl rfl) ?_
  refine WA.rd rfl rfl rfl ((by exact Rd.idxA (k := j) rfl S103 rfl rfl Z.W Z.M Z.W)) ?_
  refine WA.rd rfl rfl rfl ((by exact Rd.fieldA rfl F157_1 rfl Z.M Z.W)) ?_
  refine WA.rd rfl rfl rfl (Rd.getFA (enc := encS) (size := 4) (xs := xs) (k := j) (f := 1) (a := xs[j]!) (u := vi xs[j]!.pl) rfl C3 rfl Z.M (fun x => rfl) Z.W (get!_of_lt hj) rfl) ?_
  refine WA.rd rfl rfl rfl (Rd.lss rfl rfl rfl) ?_
  refine WA.rd rfl rfl rfl (Rd.assign rfl rfl) ?_
  refine WA.nil ?_
  refine thenQ.normal ?_
  refine WC.ret (Ret.one Tryz.results236 rfl ?_)
  rw [show decide (spLt xs[i]! xs[j]!) = decide ((xs[i]!.pl : Int) < xs[j]!.pl) from decide_eq_decide.2 (by unfold spLt; omega)] at hk
  exact hk
set_option maxRecDepth 20000 in
theorem swap0_spec {i j : Nat} (hi : i < xs.length) (hj : j < xs.length) (hk : POST (.tuple #[]) R (accS sv (swapL xs i j) :: O)) : Fun Tryz.prog 237 #[sv, vi i, vi j] R (accS sv xs :: O) POST := by
 refine Fun.knowO' (c := accS sv xs) List.mem_cons_self (fun w h => acc_shape h Z.W) fun hone => ?_
 obtain ⟨g, cap, rfl⟩ := hone
 refine Fun.enter (l := [_, _, _]) Tryz.func237 rfl Tryz.ntmps237 rfl (L0 := [(0, _), (1, _), (2, _)]) rfl ?_
 refine WC.drawnU (O) ([(13, accS (.slice (some ⟨g, 0, none⟩) xs.length cap) xs)]) 16 rfl mixed ?_
 refine WE.take 0 [] rfl Z.K (by repeat (first | exact List.Sublist.refl _ | exact List.nil_sublist _ | apply List.Sublist.cons_cons | apply List.Sublist.cons)) (HeldL.mk2 [accS (.slice (some ⟨g, 0, none⟩) xs.length cap) xs] Z.K Z.S Z.O (by repeat (first | exact Mems.nil | refine Mems.cons Z.M ?_))) rfl rfl rfl (Rd.move rfl rfl) ?_
 refine WE.take 1 [] rfl Z.K (by repeat (first | exact List.Sublist.refl _ | exact List.nil_sublist _ | apply List.Sublist.cons_cons | apply List.Sublist.cons)) (HeldL.mk2 [accS (.slice (some ⟨g, 0, none⟩) xs.length cap) xs] Z.K Z.S Z.O (by repeat (first | exact Mems.nil | refine Mems.cons Z.M ?_))) rfl rfl rfl (Rd.move rfl rfl) ?_
 refine WE.take 2 [] rfl Z.K (by repeat (first | exact List.Sublist.refl _ | exact List.nil_sublist _ | apply List.Sublist.cons_cons | apply List.Sublist.cons)) (HeldL.mk2 [accS (.slice (some ⟨g, 0, none⟩) xs.length cap) xs] Z.K Z.S Z.O (by repeat (first | exact Mems.nil | refine Mems.cons Z.M ?_))) rfl rfl rfl (Rd.move rfl rfl) ?_
 refine WE.take 3 [] rfl Z.K (by repeat (first | exact List.Sublist.refl _ | exact List.nil_sublist _ | apply List.Sublist.cons_cons | apply List.Sublist.cons)) (HeldL.mk2 [accS (.slice (some ⟨g, 0, none⟩) xs.length cap) xs] Z.K Z.S Z.O (by repeat (first | exact Mems.nil | refine Mems.cons Z.M ?_))) rfl rfl rfl (Rd.move rfl rfl) ?_
 refine WE.take 4 [] rfl Z.K (by repeat (first | exact List.Sublist.refl _ | exact List.nil_sublist _ | apply List.Sublist.cons_cons | apply List.Sublist.cons)) (HeldL.mk2 [accS (.slice (some ⟨g, 0, none⟩) xs.length cap) xs] Z.K Z.S Z.O (by repeat (first | exact Mems.nil | refine Mems.cons Z.M ?_))) rfl rfl rfl (Rd.move rfl rfl) ?_
 refine WE.take 5 [] rfl Z.K (by repeat (first | exact List.Sublist.refl _ | exact List.nil_sublist _ | apply List.Sublist.cons_cons | apply List.Sublist.cons)) (HeldL.mk2 [accS (.slice (some ⟨g, 0, none⟩) xs.length cap) xs] Z.K Z.S Z.O (by repeat (first | exact Mems.nil | refine Mems.cons Z.M ?_))) rfl rfl rfl (Rd.move rfl rfl) ?_
 refine WE.take 6 [] rfl Z.K (by repeat (first | exact List.Sublist.refl _ | exact List.nil_sublist _ | apply List.Sublist.cons_cons | apply List.Sublist.cons)) (HeldL.mk2 [accS (.slice (some ⟨g, 0, none⟩) xs.length cap) xs] Z.K Z.S Z.O (by repeat (first | exact Mems.nil | refine Mems.cons Z.M ?_))) rfl rfl rfl (Rd.idxR (k := j) rfl S103 rfl rfl rfl Z.W) ?_
 refine WE.take 7 [(13, accS (.slice (some ⟨g, 0, none⟩) xs.length cap) xs)] rfl Z.K (by repeat (first | exact List.Sublist.refl _ | exact List.nil_sublist _ | apply List.Sublist.cons_cons | apply List.Sublist.cons)) (HeldL.mk2 [accS (.slice (some ⟨g, 0, none⟩) xs.length cap) xs] Z.K Z.S Z.O (by repeat (first | exact Mems.nil | refine Mems.cons Z.M ?_))) rfl rfl rfl (Rd.getSA (enc := encS) (size := 4) (xs := xs) (k := j) (a := xs[j]!) (cs := encS xs[j]!) rfl G157 rfl Z.M (fun x => rfl) (get!_of_lt hj) (NF.refl _)) ?_
 refine WE.take 8 [] rfl Z.K (by repeat (first | exact List.Sublist.refl _ | exact List.nil_sublist _ | apply List.Sublist.cons_cons | apply List.Sublist.cons)) (HeldL.mk2 [accS (.slice (some ⟨g, 0, none⟩) xs.length cap) xs] Z.K Z.S Z.O (by repeat (first | exact Mems.nil | refine Mems.cons Z.M ?_))) rfl rfl rfl (Rd.move rfl rfl) ?_
 refine WE.take 9 [] rfl Z.K (by repeat (first | exact List.Sublist.refl _ | exact List.nil_sublist _ | apply List.Sublist.cons_cons | apply List.Sublist.cons)) (HeldL.mk2 [accS (.slice (some ⟨g, 0, none⟩) xs.length cap) xs] Z.K Z.S Z.O (by repeat (first | exact Mems.nil | refine Mems.cons Z.M ?_))) rfl rfl rfl (Rd.move rfl rfl) ?_
 refine WE.take 10 [] rfl Z.K (by repeat (first | exact List.Sublist.refl _ | exact List.nil_sublist _ | apply List.Sublist.cons_cons | apply List.Sublist.cons)) (HeldL.mk2 [accS (.slice (some ⟨g, 0, none⟩) xs.length cap) xs] Z.K Z.S Z.O (by repeat (first | exact Mems.nil | refine Mems.cons Z.M ?_))) rfl rfl rfl (Rd.idxR (k := i) rfl S103 rfl rfl rfl Z.W) ?_
 refine WE.take 11 [(13, accS (.slice (some ⟨g, 0, none⟩) xs.length cap) xs)] rfl Z.K (by repeat (first | exact List.Sublist.refl _ | exact List.nil_sublist _ | apply List.Sublist.cons_cons | apply List.Sublist.cons)) (HeldL.mk2 [accS (.slice (some ⟨g, 0, none⟩) xs.length cap) xs] Z.K Z.S Z.O (by repeat (first | exact Mems.nil | refine Mems.cons Z.M ?_))) rfl rfl rfl (Rd.getSA (enc := encS) (size := 4) (xs := xs) (k := i) (a := xs[i]!) (cs := encS xs[i]!) rfl G157 rfl Z.M (fun x => rfl) (get!_of_lt hi) (NF.refl _)) ?_
 refine WE.take 12 [] rfl Z.K (by repeat (first | exact List.Sublist.refl _ | exact List.nil_sublist _ | apply List.Sublist.cons_cons | apply List.Sublist.cons)) (HeldL.mk2 [accS (.slice (some ⟨g, 0, none⟩) xs.length cap) xs] Z.K Z.S Z.O (by repeat (first | exact Mems.nil | refine Mems.cons Z.M ?_))) rfl rfl rfl (Rd.idxR (k := i) rfl S103 rfl rfl rfl Z.W) ?_
 refine WE.one 13 rfl Z.K rfl ?_
 refine OpW.storeAccS (enc := encS) (k := i) (a := xs[j]!) rfl G157 rfl rfl rfl (fun x => rfl) rfl Z.T Z.W rfl ?_
 refine ⟨(HeldL.mk2 [] Z.K Z.S Z.O (by repeat (first | exact Mems.nil | refine Mems.cons Z.M ?_))), ?_⟩
 refine WE.take 14 [] rfl Z.K (by repeat (first | exact List.Sublist.refl _ | exact List.nil_sublist _ | apply List.Sublist.cons_cons | apply List.Sublist.cons)) (HeldL.mk2 [] Z.K Z.S Z.O (by repeat (first | exact Mems.nil | refine Mems.cons Z.M ?_))) rfl rfl rfl (Rd.idxR (k := j) rfl S103 rfl rfl rfl Z.W) ?_
 refine WE.one 15 rfl Z.K rfl ?_
 refine OpW.storeAccS (enc := encS) (k := j) (a := xs[i]!) rfl G157 rfl rfl rfl (fun x => rfl) rfl Z.T (by rw [List.length_set]; omega) rfl ?_
 refine ⟨(HeldL.mk2 [] Z.K Z.S Z.O (by repeat (first | exact Mems.nil | refine Mems.cons Z.M ?_))), ?_⟩
 refine WE.done Z.K ?_
 refine Ret.normal (Ret.zero Tryz.results237 ?_)
 exact hk
theorem swap_spec {i j : Nat} (hO : Take (accS sv xs) O O') (hi : i < xs.length) (hj : j < xs.length) (hk : POST (.tuple #[]) R (accS sv (swapL xs i j) :: O')) : Fun Tryz.prog 237 #[sv, vi i, vi j] R O POST :=
 Fun.heap (fun w h => h.perm hO.perm) (swap0_spec hi hj hk)
abbrev sptr (b : Nat) : Value := .pointer (some ⟨b, 4, none⟩)
abbrev ifv (b : Nat) : Value := .iface 155 (sptr b)
theorem mLen {br bm : Nat} {pv nv qv : Value} (hO : rowW br pv nv qv bm sv ∈ O) : Meth Tryz.prog R O 155 (sptr br) "Len" 235 sv := Meth.row Z.K Tryz.underlying155 C103 hO rfl
theorem mLess {br bm : Nat} {pv nv qv : Value} (hO : rowW br pv nv qv bm sv ∈ O) : Meth Tryz.prog R O 155 (sptr br) "Less" 236 sv := Meth.row Z.K Tryz.underlying155 C103 hO rfl
theorem mSwap {br bm : Nat} {pv nv qv : Value} (hO : rowW br pv nv qv bm sv ∈ O) : Meth Tryz.prog R O 155 (sptr br) "Swap" 237 sv := Meth.row Z.K Tryz.underlying155 C103 hO rfl
theorem mPush {br : Nat} : Meth Tryz.prog R O 155 (sptr br) "Push" 242 (sptr br) := Meth.ptr Z.K Tryz.underlying155
theorem mPop {br : Nat} : Meth Tryz.prog R O 155 (sptr br) "Pop" 241 (sptr br) := Meth.ptr Z.K Tryz.underlying155
abbrev spv (s : Sp) : Value := .iface 157 (.agg (encS s).toArray)
set_option maxRecDepth 20000 in
theorem push_spec {br bm : Nat} {pv nv qv : Value} {x : Sp} (hlen : xs.length ≤ 1000000) (hk : ∀ sv', POST (.tuple #[]) R (rowW br pv nv qv bm sv' :: accS sv' (xs ++ [x]) :: O)) :
 Fun Tryz.prog 242 #[sptr br, spv x] R (rowW br pv nv qv bm sv :: accS sv xs :: O) POST := by
 refine Fun.enter (l := [_, _]) Tryz.func242 rfl Tryz.ntmps242 rfl (L0 := [(0, _), (1, _)]) rfl ?_
 refine WC.drawnU (O) ([(9, rowW br pv nv qv bm sv)]) 10 rfl mixed ?_
 refine WE.take 0 [] rfl Z.K (by repeat (first | exact List.Sublist.refl _ | exact List.nil_sublist _ | apply List.Sublist.cons_cons | apply List.Sublist.cons)) (HeldL.mk2 [rowW br pv nv qv bm sv] Z.K Z.S Z.O (by repeat (first | exact Mems.nil | refine Mems.cons Z.M ?_))) rfl rfl rfl (Rd.move rfl rfl) ?_
 refine WE.take 1 [] rfl Z.K (by repeat (first | exact List.Sublist.refl _ | exact List.nil_sublist _ | apply List.Sublist.cons_cons | apply List.Sublist.cons)) (HeldL.mk2 [rowW br pv nv qv bm sv] Z.K Z.S Z.O (by repeat (first | exact Mems.nil | refine Mems.cons Z.M ?_))) rfl rfl rfl (Rd.move rfl rfl) ?_
 refine WE.take 2 [] rfl Z.K (by repeat (first | exact List.Sublist.refl _ | exact List.nil_sublist _ | apply List.Sublist.cons_cons | apply List.Sublist.cons)) (HeldL.mk2 [rowW br pv nv qv bm sv] Z.K Z.S Z.O (by repeat (first | exact Mems.nil | refine Mems.cons Z.M ?_))) rfl rfl rfl (Rd.nilc rfl rfl) ?_
 refine WE.take 3 [(9, rowW br pv nv qv bm sv)] rfl Z.K (by repeat (first | exact List.Sublist.refl _ | exact List.nil_sublist _ | apply List.Sublist.cons_cons | apply List.Sublist.cons)) (HeldL.mk2 [rowW br pv nv qv bm sv] Z.K Z.S Z.O (by repeat (first | exact Mems.nil | refine Mems.cons Z.M ?_))) rfl rfl rfl (Rd.row1 (b := br) (off := 4) (u := sv) rfl C103 rfl Z.M rfl) ?_
 refine WE.take 4 [] rfl Z.K (by repeat (first | exact List.Sublist.refl _ | exact List.nil_sublist _ | apply List.Sublist.cons_cons | apply List.Sublist.cons)) (HeldL.mk2 [rowW br pv nv qv bm sv] Z.K Z.S Z.O (by repeat (first | exact Mems.nil | refine Mems.cons Z.M ?_))) rfl rfl rfl (Rd.move rfl rfl) ?_
 refine WE.take 5 [] rfl Z.K (by repeat (first | exact List.Sublist.refl _ | exact List.nil_sublist _ | apply List.Sublist.cons_cons | apply List.Sublist.cons)) (HeldL.mk2 [rowW br pv nv qv bm sv] Z.K Z.S Z.O (by repeat (first | exact Mems.nil | refine Mems.cons Z.M ?_))) rfl rfl rfl (Rd.assertT rfl Tryz.underlying157 rfl rfl) ?_
 refine WE.one 6 rfl Z.K rfl ?_
 refine OpW.buildSl (ps := [(0, _)]) rfl S103 Z.E rfl rfl Z.C Z.K rfl rfl rfl ?_; intro b10
 refine ⟨(HeldL.mk2 [rowW br pv nv qv bm sv] Z.K Z.S Z.O (by repeat (first | exact Mems.nil | refine Mems.cons Z.M ?_))), ?_⟩
 refine WE.one 7 rfl Z.K rfl ?_
 refine OpW.appendRow (enc := encS) rfl S103 rfl rfl Z.T Z.T [x] rfl (by rfl) rfl (by intro x; rfl) (by intro x; rfl) (by exact ⟨by simp only [maxLen, List.length_append, List.length_nil, List.length_cons, List.length_drop, List.length_take, List.length_map]; omega, by omega⟩) rfl rfl ?_; intro v11 hv11
 refine ⟨(HeldL.mk2 [rowW br pv nv qv bm sv] Z.K Z.S Z.O (by repeat (first | exact Mems.nil | refine Mems.cons Z.M ?_))), ?_⟩
 refine WE.take 8 [] rfl Z.K (by repeat (first | exact List.Sublist.refl _ | exact List.nil_sublist _ | apply List.Sublist.cons_cons | apply List.Sublist.cons)) (HeldL.mk2 [rowW br pv nv qv bm sv] Z.K Z.S Z.O (by repeat (first | exact Mems.nil | refine Mems.cons Z.M ?_))) rfl rfl rfl (Rd.nilc rfl rfl) ?_
 refine WE.one 9 rfl Z.K rfl ?_
 refine OpW.store1 rfl Z103 rfl rfl (by assumption) Z.T (by (simp; done)) rfl ?_
 refine ⟨(HeldL.mk2 [] Z.K Z.S Z.O (by repeat (first | exact Mems.nil | refine Mems.cons Z.M ?_))), ?_⟩
 refine WE.done Z.K ?_
 refine Ret.normal (Ret.zero Tryz.results242 ?_)
 exact hk _
set_option maxRecDepth 20000 in
theorem pop_spec {br bm : Nat} {pv nv qv : Value} (hlen : xs.length ≤ 1000000) (h0 : 0 < xs.length) (hk : ∀ sv', POST (spv xs[xs.length - 1]!) R (rowW br pv nv qv bm sv' :: accS sv' (xs.take (xs.length - 1)) :: O)) :
 Fun Tryz.prog 241 #[sptr br] R (rowW br pv nv qv bm sv :: accS sv xs :: O) POST := by
 refine Fun.knowO' (c := accS sv xs) (List.mem_cons_of_mem _ List.mem_cons_self) (fun w h => acc_sub (hi := xs.length - 1) h) fun hone => ?_
 refine Fun.enter (l := [_]) Tryz.func241 rfl Tryz.ntmps241 rfl (L0 := [(0, _)]) rfl ?_
 refine WC.seq ?_
 refine WC.region ?_
 refine WL.rd rfl rfl rfl (Rd.assign rfl rfl) ?_
 refine WL.nil ?_
 refine thenQ.normal ?_
 refine WC.seq ?_
 refine WC.drawn (rowW br pv nv qv bm sv :: accS sv xs :: O) 12 rfl mixed ?_
 refine WD.take 0 rfl Z.K Z.H rfl rfl rfl (Rd.move rfl rfl) ?_
 refine WD.take 1 rfl Z.K Z.H rfl rfl rfl (Rd.nilc rfl rfl) ?_
 refine WD.take 2 rfl Z.K Z.H rfl rfl rfl (Rd.row1 (b := br) (off := 4) (u := sv) rfl C103 rfl Z.M rfl) ?_
 refine WD.take 3 rfl Z.K Z.H rfl rfl rfl (Rd.move rfl rfl) ?_
 refine WD.take 4 rfl Z.K Z.H rfl rfl rfl (Rd.nilc rfl rfl) ?_
 refine WD.take 5 rfl Z.K Z.H rfl rfl rfl (Rd.row1 (b := br) (off := 4) (u := sv) rfl C103 rfl Z.M rfl) ?_
 refine WD.take 6 rfl Z.K Z.H rfl rfl rfl (Rd.lenA (enc := encS) (xs := xs) rfl rfl Tryz.underlying103 Z.M) ?_
 refine WD.take 7 rfl Z.K Z.H rfl rfl rfl (Rd.sub rfl rfl rfl Z.W) ?_
 refine WD.take 8 rfl Z.K Z.H rfl rfl rfl ((by exact Rd.idxA (k := xs.length - 1) rfl S103 rfl rfl Z.W Z.M Z.W)) ?_
 refine WD.take 9 rfl Z.K Z.H rfl rfl rfl (Rd.getSA (enc := encS) (size := 4) (xs := xs) (k := xs.length - 1) (a := xs[xs.length - 1]!) (cs := encS xs[xs.length - 1]!) rfl G157 rfl Z.M (fun x => rfl) (get!_of_lt Z.W) (NF.refl _)) ?_
 refine WD.one 10 rfl Z.K rfl ?_
 refine OpW.alloc rfl I157 rfl Z.N rfl rfl ?_; intro b3
 refine ⟨Z.H, ?_⟩
 refine WD.one 11 rfl Z.K rfl ?_
 refine OpW.storeS rfl G157 rfl rfl Z.N Z.T rfl rfl Z.N rfl ?_
 refine ⟨Z.H, ?_⟩
 refine WD.done Z.K ?_
 refine thenQ.normal ?_
 refine WC.seq ?_
 refine WC.tail 11 mixed Z.K ?_
 refine WS.rd rfl rfl rfl (Rd.move rfl rfl) ?_
 refine WS.rd rfl rfl rfl (Rd.move rfl rfl) ?_
 refine WS.rd rfl rfl rfl (Rd.nilc rfl rfl) ?_
 refine WS.rd rfl rfl rfl (Rd.row1 (b := br) (off := 4) (u := sv) rfl C103 rfl Z.M rfl) ?_
 refine WS.rd rfl rfl rfl (Rd.move rfl rfl) ?_
 refine WS.rd rfl rfl rfl (Rd.nilc rfl rfl) ?_
 refine WS.rd rfl rfl rfl (Rd.row1 (b := br) (off := 4) (u := sv) rfl C103 rfl Z.M rfl) ?_
 refine WS.rd rfl rfl rfl (Rd.lenA (enc := encS) (xs := xs) rfl rfl Tryz.underlying103 Z.M) ?_
 refine WS.rd rfl rfl rfl (Rd.sub rfl rfl rfl Z.W) ?_
 refine WS.rd rfl rfl rfl (Rd.cutA_h (enc := encS) (xs := xs) (hi := xs.length - 1) rfl S103 rfl rfl Z.W Z.M Z.W) ?_
 refine WS.rd rfl rfl rfl (Rd.nilc rfl rfl) ?_
 refine WS.switch ?_
 refine WL.op rfl ?_
 refine OpW.store1 (b := br) (off := 4) rfl Z103 rfl rfl hone Z.T (by simp) rfl ?_
 refine WL.nil ?_
 refine thenQ.normal ?_
 refine WC.seq ?_
 refine WC.region ?_
 refine WL.rd rfl rfl rfl ((by exact Rd.rowS rfl G157 rfl Z.M Z.N rfl)) ?_
 refine WL.rd rfl rfl rfl (Rd.iface rfl Tryz.underlying157 rfl rfl) ?_
 refine WL.heap (fun w h => Sat.cutAcc (e := 157) (enc := encS) (v := sv) (xs := xs) (hi := xs.length - 1) Z.T (fun x => rfl) Z.W h) ?_
 refine WL.heap (R' := R) (O' := rowW br pv nv qv bm (subSl sv 4 0 (xs.length - 1)) :: accS (subSl sv 4 0 (xs.length - 1)) (xs.take (xs.length - 1)) :: O) Z.F ?_
 refine WL.rd rfl rfl rfl (Rd.assign rfl rfl) ?_
 refine WL.nil ?_
 refine thenQ.normal ?_
 refine WC.ret (Ret.one Tryz.results241 rfl ?_)
 exact hk _
end
end Go.Proofs.YtkobjfjmkhmehaaGreatDoor.Mg
namespace Go.SL
open Go Go.RowKit
/-- (j - 1) / 2 of int, of none below 0 too. -/
theorem Rd.half {P : Program} {L : Env} {R : List RO} {O : List Own} {o : Oper} {x y : Operand} {t t' : TypeId} {p : Int} {j : Nat} (ho : o.op = .binOp .quo t x y t') (hx : ev L x = some (.int .i64 p)) (hy : ev L y = some (.int .i64 2)) (hp : p = (j : Int) - 1) (hj : j ≤ 9223372036854775807) : Rd P o L R O (.int .i64 (((j - 1) / 2 : Nat) : Int)) := by
 cases j with
 | zero =>
   subst hp
   exact run_bin ho hx hy fun w => by simp [binOp, Op.intDiv]; rfl
 | succ j => exact Rd.quoI (a := j) (b := 2) ho hx hy (by rw [hp]; omega) rfl Z.W Z.W
end Go.SL
namespace Go.Proofs.YtkobjfjmkhmehaaGreatDoor.Mg
open Go Go.SL
section
variable {R : List RO} {O O' : List Own} {POST : Value → List RO → List Own → Prop} {xs : List Sp} {sv : Value} {br bm : Nat} {pv nv qv : Value}
set_option maxRecDepth 20000 in
theorem up_spec {j : Nat} (hlen : xs.length ≤ 1000000) (hU : Up spLt xs j) (hk : ∀ ys, ys.Perm xs → Hp spLt ys → POST (.tuple #[]) R (rowW br pv nv qv bm sv :: accS sv ys :: O)) :
 Fun Tryz.prog 119 #[ifv br, vi j] R (rowW br pv nv qv bm sv :: accS sv xs :: O) POST := by
 have hjl := hU.1
 refine Fun.enter (l := [_, _]) Tryz.func119 rfl Tryz.ntmps119 rfl (L0 := [(0, _), (1, _)]) rfl ?_
 refine WC.block ?_
 refine WC.pick [1, 0] Z.P ?_
 refine WC.loop2 1 (fun (i : Nat) (ys : List Sp) => [(1, vi i)]) (fun (i : Nat) (ys : List Sp) => rowW br pv nv qv bm sv :: accS sv ys :: O) (fun (i : Nat) (ys : List Sp) => Up spLt ys i ∧ ys.Perm xs ∧ i < ys.length ∧ ys.length = xs.length) (fun (i : Nat) (ys : List Sp) => i) (j) (xs) Z.L ?hinv1 (by repeat (first | exact Sub.nil | refine Sub.cons rfl (by rfl) ?_)) (fun _ h => h) ?_
 case hinv1 =>
  exact ⟨hU, List.Perm.refl _, hjl, rfl⟩
 intro i ys
 rintro ⟨i1, i2, i3, i4⟩
 refine WC.block ?_
 refine WC.seq ?_
 refine WC.region ?_
 refine WL.rd rfl rfl rfl (Rd.move rfl rfl) ?_
 refine WL.rd rfl rfl rfl (Rd.sub rfl rfl rfl Z.W) ?_
 refine WL.rd rfl rfl rfl (Rd.half (j := i) rfl rfl rfl Z.W Z.W) ?_
 refine WL.rd rfl rfl rfl (Rd.assign rfl rfl) ?_
 refine WL.nil ?_
 refine thenQ.normal ?_
 refine WC.seq ?_
 refine WC.pick [0, 1, 4] Z.P ?_
 refine WC.val 17 (.bool (decide (¬ (0 < i ∧ spLt ys[i]! ys[(i - 1) / 2]!)))) ?_ ?_
 ·
  refine WC.region ?_
  refine WL.rd rfl rfl rfl (Rd.move rfl rfl) ?_
  refine WL.rd rfl rfl rfl (Rd.move rfl rfl) ?_
  refine WL.rd rfl rfl rfl (Rd.eql rfl rfl rfl) ?_
  refine WL.rd rfl rfl rfl (Rd.move rfl rfl) ?_
  refine WL.case 11 rfl (fun hg11 => ?_) (fun hg11 => ?_)
  ·
   refine WL.no rfl rfl rfl rfl rfl rfl ?_
   refine WL.no rfl rfl rfl rfl rfl rfl ?_
   refine WL.no rfl rfl rfl rfl rfl rfl ?_
   refine WL.no rfl rfl rfl rfl rfl rfl ?_
   refine WL.no rfl rfl rfl rfl rfl rfl ?_
   refine WL.rd rfl rfl rfl (Rd.pick_t rfl rfl rfl) ?_
   refine WL.nil ?_
   exact ⟨by repeat (first | exact Sub.nil | refine Sub.cons rfl (by first | rfl | (exact vb_t (fun h => by omega))) ?_), by exact (fun _ h => h.thin (SubL.mem Z.S))⟩
  ·
   refine WL.rd_yes rfl rfl rfl rfl rfl rfl (Rd.move rfl rfl) ?_
   refine WL.rd_yes rfl rfl rfl rfl rfl rfl (Rd.move rfl rfl) ?_
   refine WL.rd_yes rfl rfl rfl rfl rfl rfl (Rd.move rfl rfl) ?_
   refine WL.op_yes rfl rfl rfl rfl ?_
   refine OpW.invoke rfl rfl Z.E (mLess Z.M) Z.K rfl rfl ?_; refine less_spec (xs := ys) (i := i) (j := (i - 1) / 2) Z.M Z.W Z.W ?_
   refine WL.rd_yes rfl rfl rfl rfl rfl rfl ((by exact Rd.notd rfl rfl)) ?_
   refine WL.rd rfl rfl rfl (Rd.pick_f rfl rfl rfl) ?_
   refine WL.nil ?_
   exact ⟨by repeat (first | exact Sub.nil | refine Sub.cons rfl (by first | rfl | (exact vb ⟨fun h g => h g.2, fun h g => h ⟨by omega, g⟩⟩)) ?_), by exact (fun _ h => h.thin (SubL.mem Z.S))⟩
 ·
  refine WC.ite rfl (fun hc1 => ?_) (fun hc1 => ?_)
  ·
   refine WC.exit ?_
   refine thenQ.exit ?_
   refine blockQ.pass rfl ?_
   refine loopQ2.exit ?_
   refine blockQ.exit ?_
   refine Ret.normal (Ret.zero Tryz.results119 ?_)
   exact hk ys i2 (i1.done (by rcases Nat.eq_zero_or_pos i with h | h; exact .inl h; exact .inr (fun g => hc1 ⟨h, g⟩)))
  ·
   obtain ⟨h0, hlt⟩ := Decidable.not_not.1 hc1
   refine WC.skip ?_
   refine thenQ.normal ?_
   refine WC.seq ?_
   refine WC.region ?_
   refine WL.rd rfl rfl rfl (Rd.move rfl rfl) ?_
   refine WL.rd rfl rfl rfl (Rd.move rfl rfl) ?_
   refine WL.rd rfl rfl rfl (Rd.move rfl rfl) ?_
   refine WL.op rfl ?_
   refine OpW.invoke rfl rfl Z.E (mSwap Z.M) Z.K rfl rfl ?_; refine swap_spec (xs := ys) (i := (i - 1) / 2) (j := i) Z.T Z.W Z.W ?_
   refine WL.nil ?_
   refine thenQ.normal ?_
   refine WC.region ?_
   refine WL.rd rfl rfl rfl (Rd.move rfl rfl) ?_
   refine WL.rd rfl rfl rfl (Rd.assign rfl rfl) ?_
   refine WL.nil ?_
   refine blockQ.normal ?_
   exact loopQ2.mk ((i - 1) / 2) (swapL ys ((i - 1) / 2) i) ⟨i1.step spOrd h0 hlt, (swapL_perm Z.W Z.W).trans i2, by rw [swapL_len]; omega, by rw [swapL_len]; exact i4⟩ Z.W (by repeat (first | exact Sub.nil | refine Sub.cons rfl (by rfl) ?_)) Z.F
set_option maxRecDepth 20000 in
theorem down_spec {n : Nat} (hlen : xs.length ≤ 1000000) (hD : Dn spLt xs 0 n) (hk : ∀ b ys, ys.Perm xs → ys.drop n = xs.drop n → Hp spLt (ys.take n) → POST (.bool b) R (rowW br pv nv qv bm sv :: accS sv ys :: O)) :
 Fun Tryz.prog 120 #[ifv br, vi 0, vi n] R (rowW br pv nv qv bm sv :: accS sv xs :: O) POST := by
 have hn := hD.1
 refine Fun.enter (l := [_, _, _]) Tryz.func120 rfl Tryz.ntmps120 rfl (L0 := [(0, _), (1, _), (2, _)]) rfl ?_
 refine WC.seq ?_
 refine WC.region ?_
 refine WL.rd rfl rfl rfl (Rd.assign rfl rfl) ?_
 refine WL.nil ?_
 refine thenQ.normal ?_
 refine WC.seq ?_
 refine WC.region ?_
 refine WL.rd rfl rfl rfl (Rd.move rfl rfl) ?_
 refine WL.rd rfl rfl rfl (Rd.assign rfl rfl) ?_
 refine WL.nil ?_
 refine thenQ.normal ?_
 refine WC.seq ?_
 refine WC.block ?_
 refine WC.pick [7, 0, 1, 2] Z.P ?_
 refine WC.loop2 1 (fun (i : Nat) (ys : List Sp) => [(7, vi i)]) (fun (i : Nat) (ys : List Sp) => rowW br pv nv qv bm sv :: accS sv ys :: O) (fun (i : Nat) (ys : List Sp) => Dn spLt ys i n ∧ ys.Perm xs ∧ ys.drop n = xs.drop n ∧ ys.length = xs.length ∧ i ≤ n) (fun (i : Nat) (ys : List Sp) => n - i) (0) (xs) Z.L ?hinv1 (by repeat (first | exact Sub.nil | refine Sub.cons rfl (by rfl) ?_)) (fun _ h => h) ?_
 case hinv1 =>
  exact ⟨hD, List.Perm.refl _, rfl, rfl, Nat.zero_le _⟩
 intro i ys
 rintro ⟨i1, i2, i3, i4, i5⟩
 refine WC.block ?_
 refine WC.seq ?_
 refine WC.region ?_
 refine WL.rd rfl rfl rfl (Rd.move rfl rfl) ?_
 refine WL.rd rfl rfl rfl (Rd.mul rfl rfl rfl Z.W) ?_
 refine WL.rd rfl rfl rfl (Rd.add rfl rfl rfl Z.W) ?_
 refine WL.rd rfl rfl rfl (Rd.assign rfl rfl) ?_
 refine WL.nil ?_
 refine thenQ.normal ?_
 refine WC.seq ?_
 refine WC.seq ?_
 refine WC.region ?_
 refine WL.rd rfl rfl rfl (Rd.move rfl rfl) ?_
 refine WL.rd rfl rfl rfl (Rd.move rfl rfl) ?_
 refine WL.rd rfl rfl rfl (Rd.geq rfl rfl rfl) ?_
 refine WL.rd rfl rfl rfl (Rd.move rfl rfl) ?_
 refine WL.case 18 rfl (fun hg18 => ?_) (fun hg18 => ?_)
 ·
  have hdone : Hp spLt (ys.take n) := i1.done (fun c c0 cn ce => by omega)
  refine WL.no rfl rfl rfl rfl rfl rfl ?_
  refine WL.no rfl rfl rfl rfl rfl rfl ?_
  refine WL.rd rfl rfl rfl (Rd.pick_t rfl rfl rfl) ?_
  refine WL.nil ?_
  refine thenQ.normal ?_
  refine WC.yes rfl ?_
  refine WC.exit ?_
  refine thenQ.exit ?_
  refine blockQ.pass rfl ?_
  refine loopQ2.exit ?_
  refine blockQ.exit ?_
  refine thenQ.normal ?_
  refine WC.seq ?_
  refine WC.region ?_
  refine WL.rd rfl rfl rfl (Rd.move rfl rfl) ?_
  refine WL.rd rfl rfl rfl (Rd.move rfl rfl) ?_
  refine WL.rd rfl rfl rfl (Rd.gtr rfl rfl rfl) ?_
  refine WL.rd rfl rfl rfl (Rd.assign rfl rfl) ?_
  refine WL.nil ?_
  refine thenQ.normal ?_
  refine WC.ret (Ret.one Tryz.results120 rfl ?_)
  exact hk _ ys i2 i3 hdone
 ·
  refine WL.rd_yes rfl rfl rfl rfl rfl rfl (Rd.move rfl rfl) ?_
  refine WL.rd_yes rfl rfl rfl rfl rfl rfl (Rd.lss rfl rfl rfl) ?_
  refine WL.rd rfl rfl rfl (Rd.pick_f rfl rfl rfl) ?_
  refine WL.nil ?_
  refine thenQ.normal ?_
  refine WC.ite rfl (fun hc1 => ?_) (fun hc1 => ?_)
  ·
   exfalso; omega
  ·
   refine WC.skip ?_
   refine thenQ.normal ?_
   refine WC.seq ?_
   refine WC.region ?_
   refine WL.rd rfl rfl rfl (Rd.move rfl rfl) ?_
   refine WL.rd rfl rfl rfl (Rd.assign rfl rfl) ?_
   refine WL.nil ?_
   refine thenQ.normal ?_
   refine WC.seq ?_
   refine WC.seq ?_
   refine WC.region ?_
   refine WL.rd rfl rfl rfl (Rd.move rfl rfl) ?_
   refine WL.rd rfl rfl rfl (Rd.add rfl rfl rfl Z.W) ?_
   refine WL.rd rfl rfl rfl (Rd.assign rfl rfl) ?_
   refine WL.nil ?_
   refine thenQ.normal ?_
   refine WC.pick [0, 1, 2, 7, 8, 9, 10] Z.P ?_
   refine WC.val 33 (.bool (decide (2 * i + 1 + 1 < n ∧ spLt ys[2 * i + 1 + 1]! ys[2 * i + 1]!))) ?_ ?_
   ·
    refine WC.region ?_
    refine WL.rd rfl rfl rfl (Rd.move rfl rfl) ?_
    refine WL.rd rfl rfl rfl (Rd.move rfl rfl) ?_
    refine WL.rd rfl rfl rfl (Rd.lss rfl rfl rfl) ?_
    refine WL.rd rfl rfl rfl (Rd.move rfl rfl) ?_
    refine WL.case 28 rfl (fun hg28 => ?_) (fun hg28 => ?_)
    ·
     refine WL.rd_yes rfl rfl rfl rfl rfl rfl (Rd.move rfl rfl) ?_
     refine WL.rd_yes rfl rfl rfl rfl rfl rfl (Rd.move rfl rfl) ?_
     refine WL.rd_yes rfl rfl rfl rfl rfl rfl (Rd.move rfl rfl) ?_
     refine WL.op_yes rfl rfl rfl rfl ?_
     refine OpW.invoke rfl rfl Z.E (mLess Z.M) Z.K rfl rfl ?_; refine less_spec (xs := ys) (i := 2 * i + 1 + 1) (j := 2 * i + 1) Z.M Z.W Z.W ?_
     refine WL.rd rfl rfl rfl (Rd.pick_t rfl rfl rfl) ?_
     refine WL.nil ?_
     exact ⟨by repeat (first | exact Sub.nil | refine Sub.cons rfl (by first | rfl | (exact vb ⟨fun h => ⟨by omega, h⟩, fun h => h.2⟩)) ?_), by exact (fun _ h => h.thin (SubL.mem Z.S))⟩
    ·
     refine WL.no rfl rfl rfl rfl rfl rfl ?_
     refine WL.no rfl rfl rfl rfl rfl rfl ?_
     refine WL.no rfl rfl rfl rfl rfl rfl ?_
     refine WL.no rfl rfl rfl rfl rfl rfl ?_
     refine WL.rd rfl rfl rfl (Rd.pick_f rfl rfl rfl) ?_
     refine WL.nil ?_
     exact ⟨by repeat (first | exact Sub.nil | refine Sub.cons rfl (by first | rfl | (exact vb_f (fun h => hg28 (by have := h.1; omega)))) ?_), by exact (fun _ h => h.thin (SubL.mem Z.S))⟩
   ·
    refine WC.ite rfl (fun hc2 => ?_) (fun hc2 => ?_)
    ·
     have hmin : ∀ c, 0 < c → c < n → (c - 1) / 2 = i → ¬ spLt ys[c]! ys[2 * i + 1 + 1]! := fun c c0 cn ce => by
      rcases (show c = 2 * i + 1 ∨ c = 2 * i + 1 + 1 by omega) with rfl | rfl
      · exact spOrd.asymm _ _ hc2.2
      · exact spOrd.irrefl _
     have hJn := hc2.1
     refine WC.region ?_
     refine WL.rd rfl rfl rfl (Rd.move rfl rfl) ?_
     refine WL.rd rfl rfl rfl (Rd.assign rfl rfl) ?_
     refine WL.nil ?_
     refine thenQ.normal ?_
     refine WC.seq ?_
     refine WC.seq ?_
     refine WC.region ?_
     refine WL.rd rfl rfl rfl (Rd.move rfl rfl) ?_
     refine WL.rd rfl rfl rfl (Rd.move rfl rfl) ?_
     refine WL.rd rfl rfl rfl (Rd.move rfl rfl) ?_
     refine WL.op rfl ?_
     refine OpW.invoke rfl rfl Z.E (mLess Z.M) Z.K rfl rfl ?_; refine less_spec (xs := ys) (i := 2 * i + 1 + 1) (j := i) Z.M Z.W Z.W ?_
     refine WL.rd rfl rfl rfl ((by exact Rd.notd rfl rfl)) ?_
     refine WL.nil ?_
     refine thenQ.normal ?_
     refine WC.ite rfl (fun hc3 => ?_) (fun hc3 => ?_)
     ·
      have hdone : Hp spLt (ys.take n) := i1.done (fun c c0 cn ce => spOrd.le_trans _ _ _ hc3 (hmin c c0 cn ce))
      refine WC.exit ?_
      refine thenQ.exit ?_
      refine blockQ.pass rfl ?_
      refine loopQ2.exit ?_
      refine blockQ.exit ?_
      refine thenQ.normal ?_
      refine WC.seq ?_
      refine WC.region ?_
      refine WL.rd rfl rfl rfl (Rd.move rfl rfl) ?_
      refine WL.rd rfl rfl rfl (Rd.move rfl rfl) ?_
      refine WL.rd rfl rfl rfl (Rd.gtr rfl rfl rfl) ?_
      refine WL.rd rfl rfl rfl (Rd.assign rfl rfl) ?_
      refine WL.nil ?_
      refine thenQ.normal ?_
      refine WC.ret (Ret.one Tryz.results120 rfl ?_)
      exact hk _ ys i2 i3 hdone
     ·
      have hlt := Decidable.not_not.1 hc3
      refine WC.skip ?_
      refine thenQ.normal ?_
      refine WC.seq ?_
      refine WC.region ?_
      refine WL.rd rfl rfl rfl (Rd.move rfl rfl) ?_
      refine WL.rd rfl rfl rfl (Rd.move rfl rfl) ?_
      refine WL.rd rfl rfl rfl (Rd.move rfl rfl) ?_
      refine WL.op rfl ?_
      refine OpW.invoke rfl rfl Z.E (mSwap Z.M) Z.K rfl rfl ?_; refine swap_spec (xs := ys) (i := i) (j := 2 * i + 1 + 1) Z.T Z.W Z.W ?_
      refine WL.nil ?_
      refine thenQ.normal ?_
      refine WC.region ?_
      refine WL.rd rfl rfl rfl (Rd.move rfl rfl) ?_
      refine WL.rd rfl rfl rfl (Rd.assign rfl rfl) ?_
      refine WL.nil ?_
      refine blockQ.normal ?_
      exact loopQ2.mk (2 * i + 1 + 1) (swapL ys i (2 * i + 1 + 1)) ⟨i1.step spOrd Z.W Z.W Z.W hmin hlt, (swapL_perm Z.W Z.W).trans i2, (swapL_take Z.W Z.W Z.W).trans i3, by rw [swapL_len]; exact i4, by omega⟩ Z.W (by repeat (first | exact Sub.nil | refine Sub.cons rfl (by rfl) ?_)) Z.F
    ·
     have hmin : ∀ c, 0 < c → c < n → (c - 1) / 2 = i → ¬ spLt ys[c]! ys[2 * i + 1]! := fun c c0 cn ce => by
      rcases (show c = 2 * i + 1 ∨ c = 2 * i + 1 + 1 by omega) with rfl | rfl
      · exact spOrd.irrefl _
      · exact fun g => hc2 ⟨cn, g⟩
     have hJn : 2 * i + 1 < n := by omega
     refine WC.skip ?_
     refine thenQ.normal ?_
     refine WC.seq ?_
     refine WC.seq ?_
     refine WC.region ?_
     refine WL.rd rfl rfl rfl (Rd.move rfl rfl) ?_
     refine WL.rd rfl rfl rfl (Rd.move rfl rfl) ?_
     refine WL.rd rfl rfl rfl (Rd.move rfl rfl) ?_
     refine WL.op rfl ?_
     refine OpW.invoke rfl rfl Z.E (mLess Z.M) Z.K rfl rfl ?_; refine less_spec (xs := ys) (i := 2 * i + 1) (j := i) Z.M Z.W Z.W ?_
     refine WL.rd rfl rfl rfl ((by exact Rd.notd rfl rfl)) ?_
     refine WL.nil ?_
     refine thenQ.normal ?_
     refine WC.ite rfl (fun hc3 => ?_) (fun hc3 => ?_)
     ·
      have hdone : Hp spLt (ys.take n) := i1.done (fun c c0 cn ce => spOrd.le_trans _ _ _ hc3 (hmin c c0 cn ce))
      refine WC.exit ?_
      refine thenQ.exit ?_
      refine blockQ.pass rfl ?_
      refine loopQ2.exit ?_
      refine blockQ.exit ?_
      refine thenQ.normal ?_
      refine WC.seq ?_
      refine WC.region ?_
      refine WL.rd rfl rfl rfl (Rd.move rfl rfl) ?_
      refine WL.rd rfl rfl rfl (Rd.move rfl rfl) ?_
      refine WL.rd rfl rfl rfl (Rd.gtr rfl rfl rfl) ?_
      refine WL.rd rfl rfl rfl (Rd.assign rfl rfl) ?_
      refine WL.nil ?_
      refine thenQ.normal ?_
      refine WC.ret (Ret.one Tryz.results120 rfl ?_)
      exact hk _ ys i2 i3 hdone
     ·
      have hlt := Decidable.not_not.1 hc3
      refine WC.skip ?_
      refine thenQ.normal ?_
      refine WC.seq ?_
      refine WC.region ?_
      refine WL.rd rfl rfl rfl (Rd.move rfl rfl) ?_
      refine WL.rd rfl rfl rfl (Rd.move rfl rfl) ?_
      refine WL.rd rfl rfl rfl (Rd.move rfl rfl) ?_
      refine WL.op rfl ?_
      refine OpW.invoke rfl rfl Z.E (mSwap Z.M) Z.K rfl rfl ?_; refine swap_spec (xs := ys) (i := i) (j := 2 * i + 1) Z.T Z.W Z.W ?_
      refine WL.nil ?_
      refine thenQ.normal ?_
      refine WC.region ?_
      refine WL.rd rfl rfl rfl (Rd.move rfl rfl) ?_
      refine WL.rd rfl rfl rfl (Rd.assign rfl rfl) ?_
      refine WL.nil ?_
      refine blockQ.normal ?_
      exact loopQ2.mk (2 * i + 1) (swapL ys i (2 * i + 1)) ⟨i1.step spOrd Z.W Z.W Z.W hmin hlt, (swapL_perm Z.W Z.W).trans i2, (swapL_take Z.W Z.W Z.W).trans i3, by rw [swapL_len]; exact i4, by omega⟩ Z.W (by repeat (first | exact Sub.nil | refine Sub.cons rfl (by rfl) ?_)) Z.F
set_option maxRecDepth 20000 in
theorem hpush_spec {x : Sp} (hlen : xs.length ≤ 900000) (hH : Hp spLt xs) (hk : ∀ sv' ys, ys.Perm (xs ++ [x]) → Hp spLt ys → POST (.tuple #[]) R (rowW br pv nv qv bm sv' :: accS sv' ys :: O)) :
 Fun Tryz.prog 73 #[ifv br, spv x] R (rowW br pv nv qv bm sv :: accS sv xs :: O) POST := by
 refine Fun.enter (l := [_, _]) Tryz.func73 rfl Tryz.ntmps73 rfl (L0 := [(0, _), (1, _)]) rfl ?_
 refine WC.seq ?_
 refine WC.region ?_
 refine WL.rd rfl rfl rfl (Rd.move rfl rfl) ?_
 refine WL.rd rfl rfl rfl (Rd.move rfl rfl) ?_
 refine WL.op rfl ?_
 refine OpW.invoke rfl rfl Z.E mPush Z.K rfl rfl ?_; refine push_spec (xs := xs) (x := x) Z.W ?_; intro sv'
 refine WL.nil ?_
 refine thenQ.normal ?_
 refine WC.region ?_
 refine WL.rd rfl rfl rfl (Rd.move rfl rfl) ?_
 refine WL.rd rfl rfl rfl (Rd.move rfl rfl) ?_
 refine WL.op rfl ?_
 refine OpW.invoke rfl rfl Z.E (mLen Z.M) Z.K rfl rfl ?_; refine len_spec (xs := xs ++ [x]) Z.M ?_
 refine WL.rd rfl rfl rfl (Rd.sub rfl rfl rfl (by rw [List.length_append, List.length_singleton]; omega)) ?_
 refine WL.say 10 (u := vi xs.length) rfl (by rw [List.length_append, List.length_singleton]; congr 1; omega) ?_
 refine WL.op rfl ?_
 refine OpW.call rfl rfl Z.E Z.K rfl rfl rfl ?_
 refine up_spec (xs := xs ++ [x]) (j := xs.length) (by rw [List.length_append, List.length_singleton]; omega) (Up.push hH x) ?_; intro ys hp hh
 refine WL.nil ?_
 refine Ret.normal (Ret.zero Tryz.results73 ?_)
 exact hk _ ys hp hh
theorem last_of {zs l : List Sp} {n : Nat} (h : zs.drop n = l.drop n) (hn : n < l.length) (hz : zs.length = l.length) : zs[n]! = l[n]! := by
 have h1 := congrArg (fun q : List Sp => q[0]?) h
 simp only [List.getElem?_drop, Nat.add_zero] at h1
 rw [getElem!_pos zs n Z.W, getElem!_pos l n hn]
 rw [List.getElem?_eq_getElem Z.W, List.getElem?_eq_getElem hn] at h1
 exact Option.some.inj h1
set_option maxRecDepth 20000 in
theorem hpop_spec (hlen : xs.length ≤ 900000) (h0 : 0 < xs.length) (hH : Hp spLt xs) (hk : ∀ sv' ys, (xs[0]! :: ys).Perm xs → Hp spLt ys → POST (spv xs[0]!) R (rowW br pv nv qv bm sv' :: accS sv' ys :: O)) :
 Fun Tryz.prog 74 #[ifv br] R (rowW br pv nv qv bm sv :: accS sv xs :: O) POST := by
 obtain ⟨m, hm⟩ : ∃ m, xs.length = m + 1 := ⟨xs.length - 1, by omega⟩
 have hD := Dn.start (m := m) hH hm
 refine Fun.enter (l := [_]) Tryz.func74 rfl Tryz.ntmps74 rfl (L0 := [(0, _)]) rfl ?_
 refine WC.seq ?_
 refine WC.region ?_
 refine WL.rd rfl rfl rfl (Rd.assign rfl rfl) ?_
 refine WL.nil ?_
 refine thenQ.normal ?_
 refine WC.seq ?_
 refine WC.region ?_
 refine WL.rd rfl rfl rfl (Rd.move rfl rfl) ?_
 refine WL.op rfl ?_
 refine OpW.invoke rfl rfl Z.E (mLen Z.M) Z.K rfl rfl ?_; refine len_spec (xs := xs) Z.M ?_
 refine WL.rd rfl rfl rfl (Rd.sub rfl rfl rfl Z.W) ?_
 refine WL.say 6 (u := vi m) rfl (by rw [hm]; congr 1; omega) ?_
 refine WL.rd rfl rfl rfl (Rd.assign rfl rfl) ?_
 refine WL.nil ?_
 refine thenQ.normal ?_
 refine WC.seq ?_
 refine WC.region ?_
 refine WL.rd rfl rfl rfl (Rd.move rfl rfl) ?_
 refine WL.rd rfl rfl rfl (Rd.move rfl rfl) ?_
 refine WL.op rfl ?_
 refine OpW.invoke rfl rfl Z.E (mSwap Z.M) Z.K rfl rfl ?_; refine swap_spec (xs := xs) (i := 0) (j := m) Z.T Z.W Z.W ?_
 refine WL.heap (R' := R) (O' := rowW br pv nv qv bm sv :: accS sv (swapL xs 0 m) :: O) Z.F ?_
 refine WL.nil ?_
 refine thenQ.normal ?_
 refine WC.seq ?_
 refine WC.region ?_
 refine WL.rd rfl rfl rfl (Rd.move rfl rfl) ?_
 refine WL.rd rfl rfl rfl (Rd.move rfl rfl) ?_
 refine WL.op rfl ?_
 refine OpW.call rfl rfl Z.E Z.K rfl rfl rfl ?_
 refine down_spec (xs := swapL xs 0 m) (n := m) (by rw [swapL_len]; omega) hD ?_; intro b zs hp hd hh
 have hzl : zs.length = m + 1 := by rw [hp.length_eq, swapL_len, hm]
 have hlast : zs[zs.length - 1]! = xs[0]! := by
  rw [hzl, show m + 1 - 1 = m from rfl, last_of hd (by rw [swapL_len]; omega) (by rw [swapL_len]; omega), swapL_get Z.W Z.W, if_pos rfl]
 have hzz : (xs[0]! :: zs.take m).Perm xs := by
  have e : zs = zs.take m ++ [xs[0]!] := by
   rw [← hlast, hzl, show m + 1 - 1 = m from rfl, ← take_snoc' Z.W, List.take_of_length_le Z.W]
  have h1 : (xs[0]! :: zs.take m).Perm zs := by
   conv => rhs; rw [e]
   exact (List.perm_append_singleton _ _).symm
  exact h1.trans (hp.trans (swapL_perm Z.W Z.W))
 refine WL.nil ?_
 refine thenQ.normal ?_
 refine WC.seq ?_
 refine WC.region ?_
 refine WL.rd rfl rfl rfl (Rd.move rfl rfl) ?_
 refine WL.op rfl ?_
 refine OpW.invoke rfl rfl Z.E mPop Z.K rfl rfl ?_; refine pop_spec (xs := zs) Z.W Z.W ?_; intro sv'
 refine WL.rd rfl rfl rfl (Rd.assign rfl rfl) ?_
 refine WL.nil ?_
 refine thenQ.normal ?_
 refine WC.ret (Ret.one Tryz.results74 rfl ?_)
 rw [hlast] at *
 rw [hzl] at *
 exact hk _ _ hzz hh
end
end Go.Proofs.YtkobjfjmkhmehaaGreatDoor.Mg
namespace Go.Proofs.YtkobjfjmkhmehaaGreatDoor.Mg
open Go Go.SL
abbrev T := List UInt8
def rk : List Pr → Pr → Option Nat
 | [], _ => none
 | x :: l, p => if x = p then some 0 else (rk l p).map (· + 1)
theorem rk_at : ∀ {l : List Pr} {p : Pr} {r : Nat}, rk l p = some r → r < l.length ∧ l[r]! = p ∧ ∀ j, j < r → l[j]! ≠ p
 | [], _, _, h => by cases h
 | x :: l, p, r, h => by
   rw [rk] at h
   by_cases e : x = p
   · rw [if_pos e] at h; cases h; exact ⟨by simp, e, fun j hj => absurd hj (Nat.not_lt_zero _)⟩
   · rw [if_neg e] at h
     obtain ⟨r', h1, rfl⟩ := Option.map_eq_some_iff.1 h
     obtain ⟨g1, g2, g3⟩ := rk_at h1
     refine ⟨by simp; omega, ?_, fun j hj => ?_⟩
     · rw [List.getElem!_cons_succ]; exact g2
     · cases j with
       | zero => exact e
       | succ j => rw [List.getElem!_cons_succ]; exact g3 j Z.W
theorem rk_inj {l : List Pr} {p q : Pr} {r : Nat} (h : rk l p = some r) (h' : rk l q = some r) : p = q := (rk_at h).2.1.symm.trans (rk_at h').2.1
def pass (A B : T) : List T → List T
 | a :: b :: r => if a = A ∧ b = B then (a ++ b) :: pass A B r else a :: pass A B (b :: r)
 | [a] => [a]
 | [] => []
def NoAdj (A B : T) (ps : List T) : Prop := ∀ u v, ps ≠ u ++ A :: B :: v
theorem NoAdj.tail {A B a : T} {ps : List T} (h : NoAdj A B (a :: ps)) : NoAdj A B ps := fun u v e => h (a :: u) v (by rw [e]; rfl)
theorem pass_none {A B : T} : ∀ {ps : List T}, NoAdj A B ps → pass A B ps = ps
 | [], _ => rfl
 | [_], _ => rfl
 | a :: b :: r, h => by
   rw [pass, if_neg (fun g => h [] r (by rw [g.1, g.2]; rfl)), pass_none h.tail]
theorem pass_at {A B : T} : ∀ {u v : List T}, NoAdj A B (u ++ [A]) → pass A B (u ++ A :: B :: v) = u ++ (A ++ B) :: pass A B v
 | [], v, _ => by rw [List.nil_append, pass, if_pos ⟨rfl, rfl⟩]; rfl
 | [a], v, h => by
   show pass A B (a :: A :: B :: v) = _
   rw [pass, if_neg (fun g => h [] [] (by rw [g.1, ← g.2]; rfl)), pass, if_pos ⟨rfl, rfl⟩]; rfl
 | a :: b :: u, v, h => by
   show pass A B (a :: b :: (u ++ A :: B :: v)) = _
   rw [pass, if_neg (fun g => h [] (u ++ [A]) (by rw [g.1, g.2]; rfl))]
   have ih := pass_at (u := b :: u) (v := v) (by exact NoAdj.tail h)
   show a :: pass A B ((b :: u) ++ A :: B :: v) = _
   rw [ih]; rfl
def HasPair (l : List Pr) (ps : List T) (r : Nat) : Prop := ∃ u a b v, ps = u ++ a :: b :: v ∧ rk l (a, b) = some r
inductive Spl (l : List Pr) : List T → List T → Prop
 | done {ps : List T} (h : ∀ r, ¬ HasPair l ps r) : Spl l ps ps
 | step {ps out : List T} {r : Nat} (h : HasPair l ps r) (hm : ∀ r', HasPair l ps r' → r ≤ r') (k : Spl l (pass l[r]!.1 l[r]!.2 ps) out) : Spl l ps out
theorem Spl.uniq {l : List Pr} {ps x y : List T} (h : Spl l ps x) (h' : Spl l ps y) : x = y := by
 induction h with
 | done hn =>
   cases h' with
   | done => rfl
   | step g => exact absurd g (hn _)
 | step g gm k ih =>
   cases h' with
   | done hn => exact absurd g (hn _)
   | step g' gm' k' =>
     have e := Nat.le_antisymm (gm _ g') (gm' _ g)
     subst e
     exact ih k'
/-- A round by a rank below which there is no pair. -/
theorem Spl.round {l : List Pr} {ps out : List T} {r : Nat} {A B : T} (hr : rk l (A, B) = some r) (hm : ∀ r', HasPair l ps r' → r ≤ r') (h : Spl l (pass A B ps) out) : Spl l ps out := by
 by_cases hp : HasPair l ps r
 · refine Spl.step hp hm ?_
   rw [(rk_at hr).2.1]; exact h
 · rw [pass_none (fun u v e => hp ⟨u, A, B, v, e, hr⟩)] at h
   exact h
def off (u : List T) : Nat := u.flatten.length
theorem off_nil : off [] = 0 := rfl
theorem off_cons (a : T) (u : List T) : off (a :: u) = a.length + off u := by simp [off]
theorem off_app (u v : List T) : off (u ++ v) = off u + off v := by simp [off]
def Full (ps : List T) : Prop := ∀ p ∈ ps, p ≠ []
theorem len_pos {p : T} (h : p ≠ []) : 0 < p.length := List.length_pos_iff.2 h
theorem Full.left {u v : List T} (h : Full (u ++ v)) : Full u := fun p hp => h p (List.mem_append_left _ hp)
theorem Full.mid {u v : List T} {a : T} (h : Full (u ++ a :: v)) : a ≠ [] := h a (List.mem_append_right _ List.mem_cons_self)
/-- Where a piece stands tells which one it is. -/
theorem place {ps : List T} (hf : Full ps) : ∀ {u u' v v' : List T} {a a' : T}, ps = u ++ a :: v → ps = u' ++ a' :: v' → off u = off u' → u = u' ∧ a = a' ∧ v = v' := by
 intro u
 induction u generalizing ps with
 | nil =>
   intro u' v v' a a' h h' ho
   cases u' with
   | nil => rw [h] at h'; simp at h'; exact ⟨rfl, h'.1, h'.2⟩
   | cons b u' =>
     have := len_pos (hf b (by rw [h']; simp))
     rw [off_nil, off_cons] at ho; omega
 | cons b u ih =>
   intro u' v v' a a' h h' ho
   cases u' with
   | nil =>
     have := len_pos (hf b (by rw [h]; simp))
     rw [off_nil, off_cons] at ho; omega
   | cons b' u' =>
     rw [h] at h'
     simp only [List.cons_append, List.cons.injEq] at h'
     obtain ⟨rfl, h'⟩ := h'
     rw [off_cons, off_cons] at ho
     obtain ⟨e1, e2, e3⟩ := ih (ps := u ++ a :: v) (fun p hp => hf p (by rw [h]; exact List.mem_cons_of_mem _ hp)) rfl h' Z.W
     exact ⟨by rw [e1], e2, e3⟩
def lay (ps : List T) : List T := ps.flatMap fun p => p :: List.replicate (p.length - 1) []
theorem lay_app (u v : List T) : lay (u ++ v) = lay u ++ lay v := by simp [lay]
theorem lay_cons (a : T) (v : List T) : lay (a :: v) = a :: List.replicate (a.length - 1) [] ++ lay v := rfl
theorem lay_len : ∀ {ps : List T}, Full ps → (lay ps).length = off ps
 | [], _ => rfl
 | a :: v, h => by
   have h1 := len_pos (h a List.mem_cons_self)
   have ih := lay_len (ps := v) (fun p hp => h p (List.mem_cons_of_mem _ hp))
   rw [lay_cons, List.length_append, List.length_cons, List.length_replicate, ih, off_cons]; omega
theorem lay_get {u v : List T} {a : T} (h : Full (u ++ a :: v)) : (lay (u ++ a :: v))[off u]? = some a := by
 rw [lay_app, lay_cons, List.getElem?_append_right (by rw [lay_len h.left]; exact Nat.le_refl _), lay_len h.left, Nat.sub_self]; rfl
theorem lay_merge {u v : List T} {a b : T} (h : Full (u ++ a :: b :: v)) : ((lay (u ++ a :: b :: v)).set (off u) (a ++ b)).set (off u + a.length) [] = lay (u ++ (a ++ b) :: v) := by
 have ha := len_pos h.mid
 have hb : 0 < b.length := len_pos (h b (by simp))
 have hu := lay_len h.left
 rw [lay_app, lay_app, lay_cons, lay_cons, lay_cons]
 rw [List.set_append_right _ _ Z.W, hu, Nat.sub_self]
 rw [List.cons_append, List.set_cons_zero]
 rw [List.set_append_right _ _ Z.W, hu, show off u + a.length - off u = (a.length - 1) + 1 from by omega, List.set_cons_succ]
 rw [List.set_append_right _ _ (by rw [List.length_replicate]; exact Nat.le_refl _), List.length_replicate, Nat.sub_self, List.cons_append, List.set_cons_zero]
 congr 1
 rw [List.cons_append]
 congr 1
 rw [List.length_append, show a.length + b.length - 1 = (a.length - 1) + b.length from by omega, ← List.replicate_append_replicate, List.append_assoc]
 congr 1
 have e : List.replicate b.length ([] : T) = [] :: List.replicate (b.length - 1) [] := by
  rw [← List.replicate_succ, show b.length - 1 + 1 = b.length from by omega]
 rw [e]; rfl
theorem lay_filter : ∀ {ps : List T}, Full ps → (lay ps).filter (fun s => decide (s ≠ [])) = ps
 | [], _ => rfl
 | a :: v, h => by
   have ih := lay_filter (ps := v) (fun p hp => h p (List.mem_cons_of_mem _ hp))
   rw [lay_cons, List.filter_append, ih, List.filter_cons_of_pos (by simpa using h a List.mem_cons_self)]
   have : (List.replicate (a.length - 1) ([] : T)).filter (fun s => decide (s ≠ [])) = [] := by
    rw [List.filter_eq_nil_iff]
    intro x hx
    rw [List.eq_of_mem_replicate hx]; simp
   rw [this]; rfl
theorem lay_start : ∀ {ps : List T} {j : Nat} {a : T}, Full ps → (lay ps)[j]? = some a → a ≠ [] → ∃ u v, ps = u ++ a :: v ∧ off u = j
 | [], j, a, _, h, _ => by simp [lay] at h
 | b :: v, j, a, hf, h, hne => by
   have hb := len_pos (hf b List.mem_cons_self)
   rw [lay_cons] at h
   cases j with
   | zero =>
     simp at h
     exact ⟨[], v, by rw [h]; rfl, rfl⟩
   | succ j =>
     rw [List.cons_append, List.getElem?_cons_succ] at h
     rcases Nat.lt_or_ge j (b.length - 1) with hj | hj
     · rw [List.getElem?_append_left (by rw [List.length_replicate]; exact hj), List.getElem?_replicate, if_pos hj] at h
       exact absurd (Option.some.inj h).symm hne
     · rw [List.getElem?_append_right (by rw [List.length_replicate]; exact hj), List.length_replicate] at h
       obtain ⟨u, w, e, ho⟩ := lay_start (ps := v) (fun p hp => hf p (List.mem_cons_of_mem _ hp)) h hne
       exact ⟨b :: u, w, by rw [e]; rfl, by rw [off_cons, ho]; omega⟩
end Go.Proofs.YtkobjfjmkhmehaaGreatDoor.Mg
namespace Go.Proofs.YtkobjfjmkhmehaaGreatDoor.Mg
open Go Go.SL
theorem app_cases {α : Type} {c d : α} : ∀ {x y p v : List α}, x ++ c :: y = p ++ d :: v → (∃ p', p = x ++ c :: p' ∧ y = p' ++ d :: v) ∨ (x = p ∧ c = d ∧ y = v) ∨ (∃ x', x = p ++ d :: x' ∧ v = x' ++ c :: y)
 | [], y, [], v, h => by
   simp only [List.nil_append, List.cons.injEq] at h; exact .inr (.inl ⟨rfl, h.1, h.2⟩)
 | [], y, e :: p, v, h => by
   simp only [List.nil_append, List.cons_append, List.cons.injEq] at h
   exact .inl ⟨p, by rw [h.1]; rfl, h.2⟩
 | e :: x, y, [], v, h => by
   simp only [List.nil_append, List.cons_append, List.cons.injEq] at h
   exact .inr (.inr ⟨x, by rw [h.1]; rfl, h.2.symm⟩)
 | e :: x, y, e' :: p, v, h => by
   simp only [List.cons_append, List.cons.injEq] at h
   obtain ⟨rfl, h⟩ := h
   rcases app_cases h with ⟨p', h1, h2⟩ | ⟨h1, h2, h3⟩ | ⟨x', h1, h2⟩
   · exact .inl ⟨p', by rw [h1]; rfl, h2⟩
   · exact .inr (.inl ⟨by rw [h1], h2, h3⟩)
   · exact .inr (.inr ⟨x', by rw [h1]; rfl, h2⟩)
theorem adj_cases {α : Type} {a b d : α} {x y p v : List α} (h : x ++ a :: b :: y = p ++ d :: v) :
 (∃ p', p = x ++ a :: b :: p' ∧ y = p' ++ d :: v) ∨ (p = x ++ [a] ∧ b = d ∧ y = v) ∨ (x = p ∧ a = d ∧ v = b :: y) ∨ (∃ x', x = p ++ d :: x' ∧ v = x' ++ a :: b :: y) := by
 rcases app_cases h with ⟨p', h1, h2⟩ | ⟨h1, h2, h3⟩ | ⟨x', h1, h2⟩
 · cases p' with
   | nil => simp only [List.nil_append, List.cons.injEq] at h2; exact .inr (.inl ⟨h1, h2.1, h2.2⟩)
   | cons e p' =>
     simp only [List.cons_append, List.cons.injEq] at h2
     obtain ⟨rfl, h2⟩ := h2
     exact .inl ⟨p', h1, h2⟩
 · exact .inr (.inr (.inl ⟨h1, h2, h3.symm⟩))
 · exact .inr (.inr (.inr ⟨x', h1, h2⟩))
structure Links (n : Nat) (ps : List T) (nx pr : List Int) : Prop where
 nl : nx.length = n
 pl : pr.length = n
 next : ∀ u a v, ps = u ++ a :: v → nx[off u]! = ((off u + a.length : Nat) : Int)
 prev : ∀ u a b v, ps = u ++ a :: b :: v → pr[off u + a.length]! = ((off u : Nat) : Int)
 first : ps ≠ [] → pr[0]! = -1
theorem off_snoc (u : List T) (a : T) (v : List T) : off (u ++ a :: v) = off u + a.length + off v := by rw [off_app, off_cons]; omega
def prSet (pr : List Int) (v : List T) (k x : Nat) : List Int := if v = [] then pr else pr.set k (x : Int)
theorem prSet_len (pr : List Int) (v : List T) (k x : Nat) : (prSet pr v k x).length = pr.length := by unfold prSet; split <;> simp
theorem prSet_ne {pr : List Int} {v : List T} {k x j : Nat} (h : j ≠ k) : (prSet pr v k x)[j]! = pr[j]! := by
 unfold prSet
 split
 · rfl
 · by_cases hk : k < pr.length
   · rw [set_get! hk, if_neg h]
   · rw [List.set_eq_of_length_le Z.W]
theorem Links.merge {n : Nat} {u v : List T} {a b : T} {nx pr : List Int} (h : Links n (u ++ a :: b :: v) nx pr) (hf : Full (u ++ a :: b :: v)) (hn : off (u ++ a :: b :: v) = n) :
 Links n (u ++ (a ++ b) :: v) (nx.set (off u) ((off u + a.length + b.length : Nat) : Int)) (prSet pr v (off u + a.length + b.length) (off u)) := by
 have ha := len_pos hf.mid
 have hb : 0 < b.length := len_pos (hf b (by simp))
 rw [off_snoc, off_cons] at hn
 refine ⟨by rw [List.length_set]; exact h.nl, by rw [prSet_len]; exact h.pl, fun u' c v' e => ?_, fun u' c d v' e => ?_, fun _ => ?_⟩
 · have hu : off u < nx.length := by rw [h.nl]; omega
   rw [set_get! hu]
   rcases app_cases e.symm with ⟨p', h1, h2⟩ | ⟨h1, h2, h3⟩ | ⟨x', h1, h2⟩
   · have hc := len_pos (hf c (by rw [h1]; simp))
     have ho : off u = off u' + c.length + off p' := by rw [h1, off_snoc]
     rw [if_neg Z.W]
     exact h.next u' c (p' ++ a :: b :: v) (by rw [h1]; simp)
   · rw [h1, if_pos rfl, h2, List.length_append]; congr 1; omega
   · have ho : off u' = off u + (a ++ b).length + off x' := by rw [h1, off_snoc]
     rw [List.length_append] at ho
     rw [if_neg Z.W]
     have := h.next (u ++ a :: b :: x') c v' (by rw [h2]; simp)
     rw [off_snoc, off_cons] at this
     rw [show off u' = off u + a.length + (b.length + off x') from by omega]
     exact this
 · rcases adj_cases e.symm with ⟨p', h1, h2⟩ | ⟨h1, h2, h3⟩ | ⟨h1, h2, h3⟩ | ⟨x', h1, h2⟩
   · have ho : off u = off u' + c.length + (d.length + off p') := by rw [h1, off_snoc, off_cons]
     rw [prSet_ne Z.W]
     exact h.prev u' c d (p' ++ a :: b :: v) (by rw [h1]; simp)
   · have ho : off u = off u' + c.length := by rw [h1, off_snoc, off_nil, Nat.add_zero]
     rw [prSet_ne Z.W]
     exact h.prev u' c a (b :: v) (by rw [h1]; simp)
   · subst h1
     subst h2
     subst h3
     have hd := len_pos (hf d (by simp))
     rw [off_cons] at hn
     rw [List.length_append, prSet, if_neg (by simp), set_get! (by rw [h.pl]; omega), if_pos Z.W]
   · have ho : off u' = off u + (a ++ b).length + off x' := by rw [h1, off_snoc]
     rw [List.length_append] at ho
     have hc := len_pos (hf c (by rw [h2]; simp))
     rw [prSet_ne Z.W]
     have := h.prev (u ++ a :: b :: x') c d v' (by rw [h2]; simp)
     rw [off_snoc, off_cons] at this
     rw [show off u' = off u + a.length + (b.length + off x') from by omega]
     exact this
 · rw [prSet_ne Z.W]
   exact h.first (by simp)
def Sound (l : List Pr) (n : Nat) (H : List Sp) : Prop := ∀ s ∈ H, rk l (s.a, s.b) = some s.rank ∧ s.pl < n ∧ s.a ≠ []
def Cov (l : List Pr) (ps : List T) (H : List Sp) (M : List Nat) : Prop := ∀ u a b v r, ps = u ++ a :: b :: v → rk l (a, b) = some r → (⟨r, off u, a, b⟩ : Sp) ∈ H ∨ off u ∈ M ∨ off u + a.length ∈ M
structure Inv (l : List Pr) (n : Nat) (ps : List T) (H : List Sp) : Prop where
 full : Full ps
 len : off ps = n
 sound : Sound l n H
 cov : Cov l ps H []
def Fits (q : List T) (s : Sp) : Prop := ∃ u v, q = u ++ s.a :: s.b :: v ∧ off u = s.pl
structure InR (l : List Pr) (n : Nat) (ps0 : List T) (r : Nat) (A B : T) (pre suf : List T) (H : List Sp) (M : List Nat) : Prop where
 full : Full (pre ++ suf)
 len : off (pre ++ suf) = n
 sound : Sound l n H
 cov : Cov l (pre ++ suf) H M
 low : ∀ s ∈ H, r ≤ s.rank
 h1 : pass A B ps0 = pre ++ pass A B suf
 h2 : ∀ u v, pre ++ suf = u ++ A :: B :: v → pre.length ≤ u.length
 mok : ∀ m ∈ M, A ≠ [] ∧ B ≠ [] ∧ ∃ u v, pre ++ suf = u ++ (A ++ B) :: v ∧ off u = m
 cnt : (pre ++ suf).length + M.length = ps0.length
theorem InR.start {l : List Pr} {n : Nat} {ps : List T} {H : List Sp} {r : Nat} {A B : T} (h : Inv l n ps H) (hl : ∀ s ∈ H, r ≤ s.rank) : InR l n ps r A B [] ps H [] :=
 ⟨h.full, h.len, h.sound, h.cov, hl, rfl, fun u v _ => Nat.zero_le _, fun m hm => (by cases hm), by simp⟩
theorem app_ne_l {A B : T} (h : B ≠ []) : A ++ B ≠ A := fun e => h (by simpa using e)
theorem app_ne_r {A B : T} (h : A ≠ []) : A ++ B ≠ B := fun e => h (by simpa using e)
theorem Sound.mono {l : List Pr} {n : Nat} {H H' : List Sp} (h : Sound l n H) (hs : ∀ s ∈ H', s ∈ H) : Sound l n H' := fun s hm => h s (hs s hm)
theorem InR.bad {l : List Pr} {n : Nat} {ps0 : List T} {r : Nat} {A B : T} {pre suf : List T} {H H' : List Sp} {M : List Nat} {s : Sp} (h : InR l n ps0 r A B pre suf H M) (hp : (s :: H').Perm H) (hb : ¬ Fits (pre ++ suf) s) : InR l n ps0 r A B pre suf H' M := by
 have hm : ∀ t ∈ H', t ∈ H := fun t ht => hp.mem_iff.1 (List.mem_cons_of_mem _ ht)
 refine ⟨h.full, h.len, h.sound.mono hm, fun u a b v r' e hr => ?_, fun t ht => h.low t (hm t ht), h.h1, h.h2, h.mok, h.cnt⟩
 rcases h.cov u a b v r' e hr with g | g
 · rcases List.mem_cons.1 (hp.mem_iff.2 g) with g | g
   · exact absurd ⟨u, v, by rw [← g]; exact e, by rw [← g]⟩ hb
   · exact .inl g
 · exact .inr g
theorem InR.good {l : List Pr} {n : Nat} {ps0 : List T} {r : Nat} {A B : T} {pre suf : List T} {H H' : List Sp} {M : List Nat} {s : Sp} (hr : rk l (A, B) = some r) (h : InR l n ps0 r A B pre suf H M) (hp : (s :: H').Perm H) (hmin : ∀ t ∈ H, ¬ spLt t s) (hs : s.rank = r)
 {u v : List T} (hq : pre ++ suf = u ++ s.a :: s.b :: v) (ho : off u = s.pl) : s.a = A ∧ s.b = B ∧ ∃ pre' suf', pre' ++ suf' = u ++ (A ++ B) :: v ∧ InR l n ps0 r A B pre' suf' H' (M ++ [s.pl]) := by
 have hsm : s ∈ H := hp.mem_iff.1 List.mem_cons_self
 have hm : ∀ t ∈ H', t ∈ H := fun t ht => hp.mem_iff.1 (List.mem_cons_of_mem _ ht)
 have hsr := (h.sound s hsm).1
 rw [hs] at hsr
 have hpair := rk_inj hsr hr
 simp only [Prod.mk.injEq] at hpair
 obtain ⟨ea, eb⟩ := hpair
 rw [ea, eb] at hq
 refine ⟨ea, eb, ?_⟩
 have hfq : Full (u ++ A :: B :: v) := hq ▸ h.full
 have hA : A ≠ [] := hfq.mid
 have hB : B ≠ [] := hfq B (by simp)
 have lA := len_pos hA
 have lB := len_pos hB
 -- the rest begins in 'suf'
 obtain ⟨u', hu⟩ : ∃ u', u = pre ++ u' := by
  have hle := h.h2 u v hq
  have : pre <+: u := List.prefix_of_prefix_length_le (l₃ := pre ++ suf) (List.prefix_append _ _) (by rw [hq]; exact List.prefix_append _ _) hle
  obtain ⟨t, ht⟩ := this
  exact ⟨t, ht.symm⟩
 have hsuf : suf = u' ++ A :: B :: v := by
  rw [hu, List.append_assoc] at hq
  exact List.append_cancel_left hq
 -- no pair ahead of it
 have early : ∀ x y, pre ++ suf = x ++ A :: B :: y → off u ≤ off x := fun x y e => by
  have touched : off x ∉ M ∧ off x + A.length ∉ M := by
   constructor
   · intro hx
     obtain ⟨_, _, x', y', e', ho'⟩ := h.mok _ hx
     exact app_ne_l hB (place h.full e' e Z.W).2.1
   · intro hx
     obtain ⟨_, _, x', y', e', ho'⟩ := h.mok _ hx
     have e2 : pre ++ suf = (x ++ [A]) ++ B :: y := by rw [e]; simp
     exact app_ne_r hA (place h.full e' e2 (by rw [ho', off_snoc, off_nil]; rfl)).2.1
  rcases h.cov x A B y r e hr with g | g | g
  · have := hmin _ g
    unfold spLt at this
    simp only at this
    omega
  · exact absurd g touched.1
  · exact absurd g touched.2
 have hno : NoAdj A B (u' ++ [A]) := fun x y e => by
  have e2 : pre ++ suf = (pre ++ x) ++ A :: B :: (y ++ B :: v) := by
   rw [hsuf, show u' ++ A :: B :: v = (u' ++ [A]) ++ B :: v from by simp, e]; simp
  have g := early _ _ e2
  have ho2 : off (u' ++ [A]) = off x + A.length + (B.length + off y) := by rw [e, off_snoc, off_cons]
  rw [off_snoc, off_nil] at ho2
  rw [hu, off_app, off_app] at g
  omega
 refine ⟨pre ++ u' ++ [A ++ B], v, by rw [hu]; simp, ?_⟩
 have hq' : pre ++ u' ++ [A ++ B] ++ v = u ++ (A ++ B) :: v := by rw [hu]; simp
 have hf' : Full (u ++ (A ++ B) :: v) := fun p hp => by
  rcases List.mem_append.1 hp with g | g
  · exact hfq p (List.mem_append_left _ g)
  · rcases List.mem_cons.1 g with g | g
    · rw [g]; intro e; exact hA (List.append_eq_nil_iff.1 e).1
    · exact hfq p (by simp [g])
 refine ⟨by rw [hq']; exact hf', ?_, h.sound.mono hm, ?_, fun t ht => h.low t (hm t ht), ?_, ?_, ?_, ?_⟩
 · rw [hq', ← h.len, hq, off_snoc, off_snoc, off_cons, List.length_append]; omega
 · rw [hq']
   intro x a b y r' e hr'
   rw [List.mem_append, List.mem_append, List.mem_singleton, List.mem_singleton]
   have old : ∀ {x' y' : List T}, pre ++ suf = x' ++ a :: b :: y' → off x' ≠ off u → ((⟨r', off x', a, b⟩ : Sp) ∈ H' ∨ (off x' ∈ M ∨ off x' = s.pl) ∨ (off x' + a.length ∈ M ∨ off x' + a.length = s.pl)) := fun e2 hne => by
    rcases h.cov _ a b _ r' e2 hr' with g | g | g
    · rcases List.mem_cons.1 (hp.mem_iff.2 g) with g | g
      · have := congrArg Sp.pl g; simp only at this; omega
      · exact .inl g
    · exact .inr (.inl (.inl g))
    · exact .inr (.inr (.inl g))
   rcases adj_cases e.symm with ⟨p', g1, g2⟩ | ⟨g1, g2, g3⟩ | ⟨g1, g2, g3⟩ | ⟨x', g1, g2⟩
   · have ha : 0 < a.length := len_pos (hfq a (by rw [g1]; simp))
     exact old (x' := x) (y' := p' ++ A :: B :: v) (by rw [hq, g1]; simp) (by rw [g1, off_snoc]; omega)
   · refine .inr (.inr (.inr ?_))
     rw [← ho, g1, off_snoc, off_nil]; rfl
   · exact .inr (.inl (.inr (by rw [g1, ho])))
   · have hx : off x = off (u ++ A :: B :: x') := by rw [g1, off_snoc, off_snoc, off_cons, List.length_append]; omega
     rw [hx]
     exact old (x' := u ++ A :: B :: x') (y' := y) (by rw [hq, g2]; simp) (by rw [off_snoc]; omega)
 · rw [h.h1, hsuf, pass_at hno]; simp
 · rw [hq']
   intro x y e
   rcases adj_cases e.symm with ⟨p', g1, g2⟩ | ⟨g1, g2, g3⟩ | ⟨g1, g2, g3⟩ | ⟨x', g1, g2⟩
   · have := early x (p' ++ A :: B :: v) (by rw [hq, g1]; simp)
     rw [g1, off_snoc] at this; omega
   · exact absurd g2.symm (app_ne_r hA)
   · exact absurd g2.symm (app_ne_l hB)
   · rw [g1, hu]; simp
 · rw [hq']
   intro m hm'
   refine ⟨hA, hB, ?_⟩
   rcases List.mem_append.1 hm' with g | g
   · obtain ⟨_, _, x, y, e, ho'⟩ := h.mok m g
     rw [hq] at e
     rcases app_cases e.symm with ⟨p', g1, g2⟩ | ⟨g1, g2, g3⟩ | ⟨x', g1, g2⟩
     · exact ⟨x, p' ++ (A ++ B) :: v, by rw [g1]; simp, ho'⟩
     · exact absurd g2 (app_ne_l hB)
     · cases x' with
       | nil =>
         simp only [List.nil_append, List.cons.injEq] at g2
         exact absurd g2.1.symm (app_ne_r hA)
       | cons c x' =>
         simp only [List.cons_append, List.cons.injEq] at g2
         obtain ⟨rfl, g2⟩ := g2
         exact ⟨u ++ (A ++ B) :: x', y, by rw [g2]; simp, by rw [← ho', g1, off_snoc, off_snoc, off_cons, List.length_append]; omega⟩
   · rw [List.mem_singleton] at g
     exact ⟨u, v, rfl, by rw [g]; exact ho⟩
 · have := h.cnt
   rw [hq] at this
   rw [hq']
   simp only [List.length_append, List.length_cons, List.length_nil] at this ⊢
   omega
/-- Where no spot of the rank is left the round is whole. -/
theorem InR.finish {l : List Pr} {n : Nat} {ps0 : List T} {r : Nat} {A B : T} {pre suf : List T} {H : List Sp} {M : List Nat} (hr : rk l (A, B) = some r) (h : InR l n ps0 r A B pre suf H M) (hh : ∀ s ∈ H, s.rank ≠ r) : pre ++ suf = pass A B ps0 := by
 have hno : NoAdj A B (pre ++ suf) := fun x y e => by
  have hf := h.full
  rw [e] at hf
  have hA : A ≠ [] := hf.mid
  have hB : B ≠ [] := hf B (by simp)
  rcases h.cov x A B y r e hr with g | g | g
  · exact hh _ g rfl
  · obtain ⟨_, _, x', y', e', ho'⟩ := h.mok _ g
    exact app_ne_l hB (place h.full e' e Z.W).2.1
  · obtain ⟨_, _, x', y', e', ho'⟩ := h.mok _ g
    have e2 : pre ++ suf = (x ++ [A]) ++ B :: y := by rw [e]; simp
    exact app_ne_r hA (place h.full e' e2 (by rw [ho', off_snoc, off_nil]; rfl)).2.1
 rw [h.h1, pass_none (ps := suf) (fun u v e => hno (pre ++ u) v (by rw [e]; simp))]
theorem Inv.least {l : List Pr} {n : Nat} {ps : List T} {H : List Sp} {r : Nat} (h : Inv l n ps H) (hl : ∀ s ∈ H, r ≤ s.rank) : ∀ r', HasPair l ps r' → r ≤ r' := fun r' ⟨u, a, b, v, e, hr⟩ => by
 rcases h.cov u a b v r' e hr with g | g | g
 · exact hl _ g
 · cases g
 · cases g
end Go.Proofs.YtkobjfjmkhmehaaGreatDoor.Mg
namespace Go.Proofs.YtkobjfjmkhmehaaGreatDoor.Mg
open Go Go.SL
abbrev rptr (b : Nat) : Value := .pointer (some ⟨b, 0, none⟩)
abbrev accT (v : Value) (xs : List T) : Own := accC 9 1 (SL.one vs) v xs
abbrev accI (v : Value) (xs : List Int) : Own := accC 3 1 (SL.one vi) v xs
theorem get?_of {α : Type} [Inhabited α] {l : List α} {i : Nat} {a : α} (h : i < l.length) (e : l[i]! = a) : l[i]? = some a := by
 rw [List.getElem?_eq_getElem h, ← e, getElem!_pos l i h]
section
variable {R : List RO} {O O' : List Own} {POST : Value → List RO → List Own → Prop} {br bm n : Nat} {pv nv qv sv : Value} {nx pr : List Int}
set_option maxRecDepth 20000 in
theorem merge_spec {u v : List T} {a b : T} (hL : Links n (u ++ a :: b :: v) nx pr) (hf : Full (u ++ a :: b :: v)) (hn : off (u ++ a :: b :: v) = n) (hn4 : n ≤ 4096)
 (hk : POST (.tuple #[]) R (rowW br pv nv qv bm sv :: accT pv (lay (u ++ (a ++ b) :: v)) :: accI nv (nx.set (off u) ((off u + a.length + b.length : Nat) : Int)) :: accI qv (prSet pr v (off u + a.length + b.length) (off u)) :: O)) :
 Fun Tryz.prog 75 #[rptr br, vi (off u)] R (rowW br pv nv qv bm sv :: accT pv (lay (u ++ a :: b :: v)) :: accI nv nx :: accI qv pr :: O) POST := by
 have ha := len_pos hf.mid
 have hb : 0 < b.length := len_pos (hf b (by simp))
 have hll := lay_len hf
 have hnn := hn
 rw [off_snoc, off_cons] at hnn
 have hga : (lay (u ++ a :: b :: v))[off u]? = some a := lay_get hf
 have hgb : (lay (u ++ a :: b :: v))[off u + a.length]? = some b := by
  have := lay_get (u := u ++ [a]) (a := b) (v := v) (by simpa using hf)
  rw [off_snoc, off_nil, Nat.add_zero] at this
  simpa using this
 have hx1 := hL.next u a (b :: v) rfl
 have hx2 : nx[off u + a.length]! = ((off u + a.length + b.length : Nat) : Int) := by
  have := hL.next (u ++ [a]) b v (by simp)
  rw [off_snoc, off_nil, Nat.add_zero] at this
  exact this
 have hnl := hL.nl
 have hpl := hL.pl
 have hx3 : (nx.set (off u) ((off u + a.length + b.length : Nat) : Int))[off u]! = ((off u + a.length + b.length : Nat) : Int) := by rw [set_get! Z.W, if_pos rfl]
 refine Fun.knowO' (c := accT pv (lay (u ++ a :: b :: v))) (List.mem_cons_of_mem _ List.mem_cons_self) (fun w h => acc_shape h Z.W) fun hsh => ?_
 obtain ⟨g, cap, rfl⟩ := hsh
 rw [hll, hn] at hk ⊢
 refine Fun.enter (l := [_, _]) Tryz.func75 rfl Tryz.ntmps75 rfl (L0 := [(0, _), (1, _)]) rfl ?_
 refine WC.seq ?_
 refine WC.region ?_
 refine WL.rd rfl rfl rfl (Rd.move rfl rfl) ?_
 refine WL.rd rfl rfl rfl (Rd.nilc rfl rfl) ?_
 refine WL.rd rfl rfl rfl ((by exact Rd.field rfl F105_1 rfl rfl)) ?_
 refine WL.rd rfl rfl rfl (Rd.row1 (b := br) (off := 1) (u := nv) rfl C42 rfl Z.M rfl) ?_
 refine WL.rd rfl rfl rfl (Rd.move rfl rfl) ?_
 refine WL.rd rfl rfl rfl ((by exact Rd.idxA1 (k := off u) rfl S42 rfl rfl Z.W Z.M Z.W)) ?_
 refine WL.rd rfl rfl rfl (Rd.getA (g := vi) (xs := nx) (k := off u) (a := nx[off u]!) rfl C3 rfl Z.M (get?_of Z.W rfl)) ?_
 refine WL.say 11 (u := vi (off u + a.length : Nat)) rfl (by rw [hx1]) ?_
 refine WL.rd rfl rfl rfl (Rd.assign rfl rfl) ?_
 refine WL.nil ?_
 refine thenQ.normal ?_
 refine WC.seq ?_
 refine WC.drawnU (rowW br (.slice (some ⟨g, 0, none⟩) n cap) nv qv bm sv :: accI nv nx :: accI qv pr :: O) ([(26, accT (.slice (some ⟨g, 0, none⟩) n cap) (lay (u ++ a :: b :: v)))]) 29 rfl mixed ?_
 refine WE.take 0 [] rfl Z.K (by repeat (first | exact List.Sublist.refl _ | exact List.nil_sublist _ | apply List.Sublist.cons_cons | apply List.Sublist.cons)) (HeldL.mk2 [accT (.slice (some ⟨g, 0, none⟩) n cap) (lay (u ++ a :: b :: v))] Z.K Z.S Z.O (by repeat (first | exact Mems.nil | refine Mems.cons Z.M ?_))) rfl rfl rfl (Rd.move rfl rfl) ?_
 refine WE.take 1 [] rfl Z.K (by repeat (first | exact List.Sublist.refl _ | exact List.nil_sublist _ | apply List.Sublist.cons_cons | apply List.Sublist.cons)) (HeldL.mk2 [accT (.slice (some ⟨g, 0, none⟩) n cap) (lay (u ++ a :: b :: v))] Z.K Z.S Z.O (by repeat (first | exact Mems.nil | refine Mems.cons Z.M ?_))) rfl rfl rfl (Rd.nilc rfl rfl) ?_
 refine WE.take 2 [] rfl Z.K (by repeat (first | exact List.Sublist.refl _ | exact List.nil_sublist _ | apply List.Sublist.cons_cons | apply List.Sublist.cons)) (HeldL.mk2 [accT (.slice (some ⟨g, 0, none⟩) n cap) (lay (u ++ a :: b :: v))] Z.K Z.S Z.O (by repeat (first | exact Mems.nil | refine Mems.cons Z.M ?_))) rfl rfl rfl ((by exact Rd.field rfl F105_0 rfl rfl)) ?_
 refine WE.take 3 [(26, accT (.slice (some ⟨g, 0, none⟩) n cap) (lay (u ++ a :: b :: v)))] rfl Z.K (by repeat (first | exact List.Sublist.refl _ | exact List.nil_sublist _ | apply List.Sublist.cons_cons | apply List.Sublist.cons)) (HeldL.mk2 [accT (.slice (some ⟨g, 0, none⟩) n cap) (lay (u ++ a :: b :: v))] Z.K Z.S Z.O (by repeat (first | exact Mems.nil | refine Mems.cons Z.M ?_))) rfl rfl rfl (Rd.row1 (b := br) (off := 0) (u := .slice (some ⟨g, 0, none⟩) n cap) rfl C85 rfl Z.M rfl) ?_
 refine WE.take 4 [] rfl Z.K (by repeat (first | exact List.Sublist.refl _ | exact List.nil_sublist _ | apply List.Sublist.cons_cons | apply List.Sublist.cons)) (HeldL.mk2 [accT (.slice (some ⟨g, 0, none⟩) n cap) (lay (u ++ a :: b :: v))] Z.K Z.S Z.O (by repeat (first | exact Mems.nil | refine Mems.cons Z.M ?_))) rfl rfl rfl (Rd.move rfl rfl) ?_
 refine WE.take 5 [] rfl Z.K (by repeat (first | exact List.Sublist.refl _ | exact List.nil_sublist _ | apply List.Sublist.cons_cons | apply List.Sublist.cons)) (HeldL.mk2 [accT (.slice (some ⟨g, 0, none⟩) n cap) (lay (u ++ a :: b :: v))] Z.K Z.S Z.O (by repeat (first | exact Mems.nil | refine Mems.cons Z.M ?_))) rfl rfl rfl (Rd.move rfl rfl) ?_
 refine WE.take 6 [] rfl Z.K (by repeat (first | exact List.Sublist.refl _ | exact List.nil_sublist _ | apply List.Sublist.cons_cons | apply List.Sublist.cons)) (HeldL.mk2 [accT (.slice (some ⟨g, 0, none⟩) n cap) (lay (u ++ a :: b :: v))] Z.K Z.S Z.O (by repeat (first | exact Mems.nil | refine Mems.cons Z.M ?_))) rfl rfl rfl (Rd.nilc rfl rfl) ?_
 refine WE.take 7 [] rfl Z.K (by repeat (first | exact List.Sublist.refl _ | exact List.nil_sublist _ | apply List.Sublist.cons_cons | apply List.Sublist.cons)) (HeldL.mk2 [accT (.slice (some ⟨g, 0, none⟩) n cap) (lay (u ++ a :: b :: v))] Z.K Z.S Z.O (by repeat (first | exact Mems.nil | refine Mems.cons Z.M ?_))) rfl rfl rfl ((by exact Rd.field rfl F105_0 rfl rfl)) ?_
 refine WE.take 8 [(26, accT (.slice (some ⟨g, 0, none⟩) n cap) (lay (u ++ a :: b :: v)))] rfl Z.K (by repeat (first | exact List.Sublist.refl _ | exact List.nil_sublist _ | apply List.Sublist.cons_cons | apply List.Sublist.cons)) (HeldL.mk2 [accT (.slice (some ⟨g, 0, none⟩) n cap) (lay (u ++ a :: b :: v))] Z.K Z.S Z.O (by repeat (first | exact Mems.nil | refine Mems.cons Z.M ?_))) rfl rfl rfl (Rd.row1 (b := br) (off := 0) (u := .slice (some ⟨g, 0, none⟩) n cap) rfl C85 rfl Z.M rfl) ?_
 refine WE.take 9 [] rfl Z.K (by repeat (first | exact List.Sublist.refl _ | exact List.nil_sublist _ | apply List.Sublist.cons_cons | apply List.Sublist.cons)) (HeldL.mk2 [accT (.slice (some ⟨g, 0, none⟩) n cap) (lay (u ++ a :: b :: v))] Z.K Z.S Z.O (by repeat (first | exact Mems.nil | refine Mems.cons Z.M ?_))) rfl rfl rfl (Rd.move rfl rfl) ?_
 refine WE.take 10 [] rfl Z.K (by repeat (first | exact List.Sublist.refl _ | exact List.nil_sublist _ | apply List.Sublist.cons_cons | apply List.Sublist.cons)) (HeldL.mk2 [accT (.slice (some ⟨g, 0, none⟩) n cap) (lay (u ++ a :: b :: v))] Z.K Z.S Z.O (by repeat (first | exact Mems.nil | refine Mems.cons Z.M ?_))) rfl rfl rfl (Rd.move rfl rfl) ?_
 refine WE.take 11 [] rfl Z.K (by repeat (first | exact List.Sublist.refl _ | exact List.nil_sublist _ | apply List.Sublist.cons_cons | apply List.Sublist.cons)) (HeldL.mk2 [accT (.slice (some ⟨g, 0, none⟩) n cap) (lay (u ++ a :: b :: v))] Z.K Z.S Z.O (by repeat (first | exact Mems.nil | refine Mems.cons Z.M ?_))) rfl rfl rfl (Rd.nilc rfl rfl) ?_
 refine WE.take 12 [] rfl Z.K (by repeat (first | exact List.Sublist.refl _ | exact List.nil_sublist _ | apply List.Sublist.cons_cons | apply List.Sublist.cons)) (HeldL.mk2 [accT (.slice (some ⟨g, 0, none⟩) n cap) (lay (u ++ a :: b :: v))] Z.K Z.S Z.O (by repeat (first | exact Mems.nil | refine Mems.cons Z.M ?_))) rfl rfl rfl ((by exact Rd.field rfl F105_0 rfl rfl)) ?_
 refine WE.take 13 [(26, accT (.slice (some ⟨g, 0, none⟩) n cap) (lay (u ++ a :: b :: v)))] rfl Z.K (by repeat (first | exact List.Sublist.refl _ | exact List.nil_sublist _ | apply List.Sublist.cons_cons | apply List.Sublist.cons)) (HeldL.mk2 [accT (.slice (some ⟨g, 0, none⟩) n cap) (lay (u ++ a :: b :: v))] Z.K Z.S Z.O (by repeat (first | exact Mems.nil | refine Mems.cons Z.M ?_))) rfl rfl rfl (Rd.row1 (b := br) (off := 0) (u := .slice (some ⟨g, 0, none⟩) n cap) rfl C85 rfl Z.M rfl) ?_
 refine WE.take 14 [] rfl Z.K (by repeat (first | exact List.Sublist.refl _ | exact List.nil_sublist _ | apply List.Sublist.cons_cons | apply List.Sublist.cons)) (HeldL.mk2 [accT (.slice (some ⟨g, 0, none⟩) n cap) (lay (u ++ a :: b :: v))] Z.K Z.S Z.O (by repeat (first | exact Mems.nil | refine Mems.cons Z.M ?_))) rfl rfl rfl (Rd.move rfl rfl) ?_
 refine WE.take 15 [] rfl Z.K (by repeat (first | exact List.Sublist.refl _ | exact List.nil_sublist _ | apply List.Sublist.cons_cons | apply List.Sublist.cons)) (HeldL.mk2 [accT (.slice (some ⟨g, 0, none⟩) n cap) (lay (u ++ a :: b :: v))] Z.K Z.S Z.O (by repeat (first | exact Mems.nil | refine Mems.cons Z.M ?_))) rfl rfl rfl (Rd.idxR (k := off u) (r := 0 + off u) rfl S85 rfl rfl rfl Z.W Z.W) ?_
 refine WE.take 16 [(26, accT (.slice (some ⟨g, 0, none⟩) n cap) (lay (u ++ a :: b :: v)))] rfl Z.K (by repeat (first | exact List.Sublist.refl _ | exact List.nil_sublist _ | apply List.Sublist.cons_cons | apply List.Sublist.cons)) (HeldL.mk2 [accT (.slice (some ⟨g, 0, none⟩) n cap) (lay (u ++ a :: b :: v))] Z.K Z.S Z.O (by repeat (first | exact Mems.nil | refine Mems.cons Z.M ?_))) rfl rfl rfl (Rd.getA (g := vs) (v := .slice (some ⟨g, 0, none⟩) n cap) (xs := lay (u ++ a :: b :: v)) (k := off u) (a := a) rfl C9 rfl Z.M hga) ?_
 refine WE.take 17 [] rfl Z.K (by repeat (first | exact List.Sublist.refl _ | exact List.nil_sublist _ | apply List.Sublist.cons_cons | apply List.Sublist.cons)) (HeldL.mk2 [accT (.slice (some ⟨g, 0, none⟩) n cap) (lay (u ++ a :: b :: v))] Z.K Z.S Z.O (by repeat (first | exact Mems.nil | refine Mems.cons Z.M ?_))) rfl rfl rfl (Rd.move rfl rfl) ?_
 refine WE.take 18 [] rfl Z.K (by repeat (first | exact List.Sublist.refl _ | exact List.nil_sublist _ | apply List.Sublist.cons_cons | apply List.Sublist.cons)) (HeldL.mk2 [accT (.slice (some ⟨g, 0, none⟩) n cap) (lay (u ++ a :: b :: v))] Z.K Z.S Z.O (by repeat (first | exact Mems.nil | refine Mems.cons Z.M ?_))) rfl rfl rfl (Rd.nilc rfl rfl) ?_
 refine WE.take 19 [] rfl Z.K (by repeat (first | exact List.Sublist.refl _ | exact List.nil_sublist _ | apply List.Sublist.cons_cons | apply List.Sublist.cons)) (HeldL.mk2 [accT (.slice (some ⟨g, 0, none⟩) n cap) (lay (u ++ a :: b :: v))] Z.K Z.S Z.O (by repeat (first | exact Mems.nil | refine Mems.cons Z.M ?_))) rfl rfl rfl ((by exact Rd.field rfl F105_0 rfl rfl)) ?_
 refine WE.take 20 [(26, accT (.slice (some ⟨g, 0, none⟩) n cap) (lay (u ++ a :: b :: v)))] rfl Z.K (by repeat (first | exact List.Sublist.refl _ | exact List.nil_sublist _ | apply List.Sublist.cons_cons | apply List.Sublist.cons)) (HeldL.mk2 [accT (.slice (some ⟨g, 0, none⟩) n cap) (lay (u ++ a :: b :: v))] Z.K Z.S Z.O (by repeat (first | exact Mems.nil | refine Mems.cons Z.M ?_))) rfl rfl rfl (Rd.row1 (b := br) (off := 0) (u := .slice (some ⟨g, 0, none⟩) n cap) rfl C85 rfl Z.M rfl) ?_
 refine WE.take 21 [] rfl Z.K (by repeat (first | exact List.Sublist.refl _ | exact List.nil_sublist _ | apply List.Sublist.cons_cons | apply List.Sublist.cons)) (HeldL.mk2 [accT (.slice (some ⟨g, 0, none⟩) n cap) (lay (u ++ a :: b :: v))] Z.K Z.S Z.O (by repeat (first | exact Mems.nil | refine Mems.cons Z.M ?_))) rfl rfl rfl (Rd.move rfl rfl) ?_
 refine WE.take 22 [] rfl Z.K (by repeat (first | exact List.Sublist.refl _ | exact List.nil_sublist _ | apply List.Sublist.cons_cons | apply List.Sublist.cons)) (HeldL.mk2 [accT (.slice (some ⟨g, 0, none⟩) n cap) (lay (u ++ a :: b :: v))] Z.K Z.S Z.O (by repeat (first | exact Mems.nil | refine Mems.cons Z.M ?_))) rfl rfl rfl (Rd.idxR (k := off u + a.length) (r := 0 + (off u + a.length)) rfl S85 rfl rfl rfl Z.W Z.W) ?_
 refine WE.take 23 [(26, accT (.slice (some ⟨g, 0, none⟩) n cap) (lay (u ++ a :: b :: v)))] rfl Z.K (by repeat (first | exact List.Sublist.refl _ | exact List.nil_sublist _ | apply List.Sublist.cons_cons | apply List.Sublist.cons)) (HeldL.mk2 [accT (.slice (some ⟨g, 0, none⟩) n cap) (lay (u ++ a :: b :: v))] Z.K Z.S Z.O (by repeat (first | exact Mems.nil | refine Mems.cons Z.M ?_))) rfl rfl rfl (Rd.getA (g := vs) (v := .slice (some ⟨g, 0, none⟩) n cap) (xs := lay (u ++ a :: b :: v)) (k := off u + a.length) (a := b) rfl C9 rfl Z.M hgb) ?_
 refine WE.take 24 [] rfl Z.K (by repeat (first | exact List.Sublist.refl _ | exact List.nil_sublist _ | apply List.Sublist.cons_cons | apply List.Sublist.cons)) (HeldL.mk2 [accT (.slice (some ⟨g, 0, none⟩) n cap) (lay (u ++ a :: b :: v))] Z.K Z.S Z.O (by repeat (first | exact Mems.nil | refine Mems.cons Z.M ?_))) rfl rfl rfl (Rd.scat rfl rfl rfl Z.W) ?_
 refine WE.take 25 [] rfl Z.K (by repeat (first | exact List.Sublist.refl _ | exact List.nil_sublist _ | apply List.Sublist.cons_cons | apply List.Sublist.cons)) (HeldL.mk2 [accT (.slice (some ⟨g, 0, none⟩) n cap) (lay (u ++ a :: b :: v))] Z.K Z.S Z.O (by repeat (first | exact Mems.nil | refine Mems.cons Z.M ?_))) rfl rfl rfl (Rd.idxR (k := off u) (r := 0 + off u) rfl S85 rfl rfl rfl Z.W Z.W) ?_
 refine WE.one 26 rfl Z.K rfl ?_
 refine OpW.storeAcc (g := vs) (k := off u) (a := a ++ b) (v := .slice (some ⟨g, 0, none⟩) n cap) rfl Z9 rfl rfl rfl rfl Z.T Z.W rfl ?_
 refine ⟨(HeldL.mk2 [] Z.K Z.S Z.O (by repeat (first | exact Mems.nil | refine Mems.cons Z.M ?_))), ?_⟩
 refine WE.take 27 [] rfl Z.K (by repeat (first | exact List.Sublist.refl _ | exact List.nil_sublist _ | apply List.Sublist.cons_cons | apply List.Sublist.cons)) (HeldL.mk2 [] Z.K Z.S Z.O (by repeat (first | exact Mems.nil | refine Mems.cons Z.M ?_))) rfl rfl rfl (Rd.idxR (k := off u + a.length) (r := 0 + (off u + a.length)) rfl S85 rfl rfl rfl Z.W Z.W) ?_
 refine WE.one 28 rfl Z.K rfl ?_
 refine OpW.storeAcc (g := vs) (k := off u + a.length) (a := []) (v := .slice (some ⟨g, 0, none⟩) n cap) rfl Z9 rfl rfl rfl rfl Z.T (by rw [List.length_set]; omega) rfl ?_
 refine ⟨(HeldL.mk2 [] Z.K Z.S Z.O (by repeat (first | exact Mems.nil | refine Mems.cons Z.M ?_))), ?_⟩
 refine WE.done Z.K ?_
 refine thenQ.normal ?_
 refine WC.seq ?_
 refine WC.tail 13 mixed Z.K ?_
 refine WS.rd rfl rfl rfl (Rd.move rfl rfl) ?_
 refine WS.rd rfl rfl rfl (Rd.nilc rfl rfl) ?_
 refine WS.rd rfl rfl rfl ((by exact Rd.field rfl F105_1 rfl rfl)) ?_
 refine WS.rd rfl rfl rfl (Rd.row1 (b := br) (off := 1) (u := nv) rfl C42 rfl Z.M rfl) ?_
 refine WS.rd rfl rfl rfl (Rd.move rfl rfl) ?_
 refine WS.rd rfl rfl rfl (Rd.move rfl rfl) ?_
 refine WS.rd rfl rfl rfl (Rd.nilc rfl rfl) ?_
 refine WS.rd rfl rfl rfl ((by exact Rd.field rfl F105_1 rfl rfl)) ?_
 refine WS.rd rfl rfl rfl (Rd.row1 (b := br) (off := 1) (u := nv) rfl C42 rfl Z.M rfl) ?_
 refine WS.rd rfl rfl rfl (Rd.move rfl rfl) ?_
 refine WS.rd rfl rfl rfl ((by exact Rd.idxA1 (k := off u + a.length) rfl S42 rfl rfl Z.W Z.M Z.W)) ?_
 refine WS.rd rfl rfl rfl (Rd.getA (g := vi) (xs := nx) (k := off u + a.length) (a := nx[off u + a.length]!) rfl C3 rfl Z.M (get?_of Z.W rfl)) ?_
 refine WS.rd rfl rfl rfl ((by exact Rd.idxA1 (k := off u) rfl S42 rfl rfl Z.W Z.M Z.W)) ?_
 refine WS.switch ?_
 refine WL.op rfl ?_
 refine OpW.storeAcc (g := vi) (k := off u) (a := ((off u + a.length + b.length : Nat) : Int)) rfl Z3 rfl (by rw [hx2]; rfl) rfl rfl Z.T Z.W rfl ?_
 refine WL.nil ?_
 refine thenQ.normal ?_
 refine WC.seq ?_
 refine WC.still mixed Z.K ?_
 refine WA.rd rfl rfl rfl (Rd.move rfl rfl) ?_
 refine WA.rd rfl rfl rfl (Rd.nilc rfl rfl) ?_
 refine WA.rd rfl rfl rfl ((by exact Rd.field rfl F105_1 rfl rfl)) ?_
 refine WA.rd rfl rfl rfl (Rd.row1 (b := br) (off := 1) (u := nv) rfl C42 rfl Z.M rfl) ?_
 refine WA.rd rfl rfl rfl (Rd.move rfl rfl) ?_
 refine WA.rd rfl rfl rfl (Rd.idxA1 (enc := SL.one vi) (xs := (nx.set (off u) ((off u + a.length + b.length : Nat) : Int))) (k := off u) rfl S42 rfl rfl Z.W Z.M (by rw [List.length_set]; omega)) ?_
 refine WA.rd rfl rfl rfl (Rd.getA (g := vi) (xs := (nx.set (off u) ((off u + a.length + b.length : Nat) : Int))) (k := off u) (a := ((off u + a.length + b.length : Nat) : Int)) rfl C3 rfl Z.M (get?_of (by rw [List.length_set]; omega) hx3)) ?_
 refine WA.rd rfl rfl rfl (Rd.move rfl rfl) ?_
 refine WA.rd rfl rfl rfl (Rd.nilc rfl rfl) ?_
 refine WA.rd rfl rfl rfl ((by exact Rd.field rfl F105_0 rfl rfl)) ?_
 refine WA.rd rfl rfl rfl (Rd.row1 (b := br) (off := 0) (u := .slice (some ⟨g, 0, none⟩) n cap) rfl C85 rfl Z.M rfl) ?_
 refine WA.rd rfl rfl rfl (Rd.len rfl rfl Tryz.underlying85) ?_
 refine WA.rd rfl rfl rfl (Rd.lss rfl rfl rfl) ?_
 refine WA.nil ?_
 refine thenQ.normal ?_
 refine WC.ite rfl (fun hc1 => ?_) (fun hc1 => ?_)
 ·
  have hv : v ≠ [] := fun e => by subst e; rw [off_nil] at hnn; omega
  have hpe : (prSet pr v (off u + a.length + b.length) (off u)) = pr.set (off u + a.length + b.length) ((off u : Nat) : Int) := by unfold prSet; rw [if_neg hv]
  refine WC.tail 13 mixed Z.K ?_
  refine WS.rd rfl rfl rfl (Rd.move rfl rfl) ?_
  refine WS.rd rfl rfl rfl (Rd.nilc rfl rfl) ?_
  refine WS.rd rfl rfl rfl ((by exact Rd.field rfl F105_2 rfl rfl)) ?_
  refine WS.rd rfl rfl rfl (Rd.row1 (b := br) (off := 2) (u := qv) rfl C42 rfl Z.M rfl) ?_
  refine WS.rd rfl rfl rfl (Rd.move rfl rfl) ?_
  refine WS.rd rfl rfl rfl (Rd.nilc rfl rfl) ?_
  refine WS.rd rfl rfl rfl ((by exact Rd.field rfl F105_1 rfl rfl)) ?_
  refine WS.rd rfl rfl rfl (Rd.row1 (b := br) (off := 1) (u := nv) rfl C42 rfl Z.M rfl) ?_
  refine WS.rd rfl rfl rfl (Rd.move rfl rfl) ?_
  refine WS.rd rfl rfl rfl (Rd.idxA1 (enc := SL.one vi) (xs := (nx.set (off u) ((off u + a.length + b.length : Nat) : Int))) (k := off u) rfl S42 rfl rfl Z.W Z.M (by rw [List.length_set]; omega)) ?_
  refine WS.rd rfl rfl rfl (Rd.getA (g := vi) (xs := (nx.set (off u) ((off u + a.length + b.length : Nat) : Int))) (k := off u) (a := ((off u + a.length + b.length : Nat) : Int)) rfl C3 rfl Z.M (get?_of (by rw [List.length_set]; omega) hx3)) ?_
  refine WS.rd rfl rfl rfl (Rd.move rfl rfl) ?_
  refine WS.rd rfl rfl rfl (Rd.idxA1 (enc := SL.one vi) (xs := pr) (k := off u + a.length + b.length) rfl S42 rfl rfl Z.W Z.M Z.W) ?_
  refine WS.switch ?_
  refine WL.op rfl ?_
  refine OpW.storeAcc (g := vi) (k := off u + a.length + b.length) (a := ((off u : Nat) : Int)) rfl Z3 rfl rfl rfl rfl Z.T Z.W rfl ?_
  refine WL.heap (R' := R) (O' := rowW br (.slice (some ⟨g, 0, none⟩) n cap) nv qv bm sv :: accT (.slice (some ⟨g, 0, none⟩) n cap) (lay (u ++ (a ++ b) :: v)) :: accI nv (nx.set (off u) ((off u + a.length + b.length : Nat) : Int)) :: accI qv (prSet pr v (off u + a.length + b.length) (off u)) :: O) (fun w h => by rw [lay_merge hf, ← hpe] at h; exact Z.Fw h) ?_
  refine WL.nil ?_
  refine Ret.normal (Ret.zero Tryz.results75 ?_)
  exact hk
 ·
  have hv : v = [] := Classical.byContradiction fun e => by
   obtain ⟨c, v', rfl⟩ := List.exists_cons_of_ne_nil e
   have := len_pos (hf c (by simp))
   rw [off_cons] at hnn; omega
  have hpe : (prSet pr v (off u + a.length + b.length) (off u)) = pr := by unfold prSet; rw [if_pos hv]
  refine WC.heap (R' := R) (O' := rowW br (.slice (some ⟨g, 0, none⟩) n cap) nv qv bm sv :: accT (.slice (some ⟨g, 0, none⟩) n cap) (lay (u ++ (a ++ b) :: v)) :: accI nv (nx.set (off u) ((off u + a.length + b.length : Nat) : Int)) :: accI qv (prSet pr v (off u + a.length + b.length) (off u)) :: O) (fun w h => by rw [lay_merge hf] at h; rw [hpe]; exact Z.Fw h) ?_
  refine WC.skip ?_
  refine Ret.normal (Ret.zero Tryz.results75 ?_)
  exact hk
end
end Go.Proofs.YtkobjfjmkhmehaaGreatDoor.Mg
namespace Go.Proofs.YtkobjfjmkhmehaaGreatDoor.Mg
open Go Go.SL
theorem EPr (a0 b0 : List UInt8) (a1 b1 : List UInt8) : EqS Tryz.prog 27 #[vs a0, vs a1] #[vs b0, vs b1] (a0 = b0 ∧ a1 = b1) := ⟨fun w => by
 simp [go_sem, run_equalIn_agg, Op.eqFields, part, Tryz.underlying9, Tryz.underlying27, Tryz.isAgg9, Tryz.isAgg27, Tryz.stoodInHeld27, Tryz.sizeOf9, Tryz.sizeOf27]
 all_goals (try (repeat' split)) <;> simp_all, Tryz.eqGuardType27⟩
theorem EqS.iff {P : Program} {t : TypeId} {xs ys : Array Value} {p q : Prop} [Decidable p] [Decidable q] (h : EqS P t xs ys p) (e : p ↔ q) : EqS P t xs ys q := ⟨fun w => by rw [h.1 w, decide_eq_decide.2 e], h.2⟩
theorem KPr : KeyT Tryz.prog 27 vp := KeyT.two Tryz.underlying27 Tryz.underlying9 Tryz.underlying9 C9 C9 rfl rfl (fun a b => EqS.iff (EPr _ _ _ _) Prod.ext_iff.symm)
/-- What meets at a piece's place. -/
structure Met (l : List Pr) (u : List T) (a : T) (v : List T) (H H' : List Sp) : Prop where
 old : ∀ s ∈ H, s ∈ H'
 new : ∀ s ∈ H', s ∈ H ∨ ∃ b v' r, v = b :: v' ∧ rk l (a, b) = some r ∧ s = ⟨r, off u, a, b⟩
 cnt : H'.length ≤ H.length + 1
 got : ∀ b v' r, v = b :: v' → rk l (a, b) = some r → (⟨r, off u, a, b⟩ : Sp) ∈ H'
def RkM (l : List Pr) (m : GoMap Pr Int) : Prop := ∀ p, m.get p = (rk l p).map fun r => (r : Int)
section
variable {R : List RO} {O O' : List Own} {POST : Value → List RO → List Own → Prop} {br bm n : Nat} {pv nv qv sv : Value} {nx pr : List Int} {H : List Sp} {l : List Pr} {m : GoMap Pr Int}
set_option maxRecDepth 20000 in
theorem meetN_spec (hk : POST (.tuple #[]) R O) : Fun Tryz.prog 39 #[rptr br, vi (-1)] R O POST := by
 refine Fun.enter (l := [_, _]) Tryz.func39 rfl Tryz.ntmps39 rfl (L0 := [(0, _), (1, _)]) rfl ?_
 refine WC.seq ?_
 refine WC.seq ?_
 refine WC.still mixed Z.K ?_
 refine WA.rd rfl rfl rfl (Rd.move rfl rfl) ?_
 refine WA.rd rfl rfl rfl (Rd.lss rfl rfl rfl) ?_
 refine WA.say 8 (u := .bool (decide True)) rfl rfl ?_
 refine WA.rd rfl rfl rfl (Rd.move rfl rfl) ?_
 refine WA.case 9 rfl (fun hg9 => ?_) (fun hg9 => ?_)
 ·
  refine WA.no rfl rfl rfl rfl rfl rfl ?_
  refine WA.no rfl rfl rfl rfl rfl rfl ?_
  refine WA.no rfl rfl rfl rfl rfl rfl ?_
  refine WA.no rfl rfl rfl rfl rfl rfl ?_
  refine WA.no rfl rfl rfl rfl rfl rfl ?_
  refine WA.no rfl rfl rfl rfl rfl rfl ?_
  refine WA.no rfl rfl rfl rfl rfl rfl ?_
  refine WA.no rfl rfl rfl rfl rfl rfl ?_
  refine WA.no rfl rfl rfl rfl rfl rfl ?_
  refine WA.no rfl rfl rfl rfl rfl rfl ?_
  refine WA.no rfl rfl rfl rfl rfl rfl ?_
  refine WA.no rfl rfl rfl rfl rfl rfl ?_
  refine WA.no rfl rfl rfl rfl rfl rfl ?_
  refine WA.rd rfl rfl rfl (Rd.pick_t rfl rfl rfl) ?_
  refine WA.nil ?_
  refine thenQ.normal ?_
  refine WC.yes rfl ?_
  refine WC.ret (Ret.zero Tryz.results39 ?_)
  exact hk
 ·
  exact absurd trivial hg9
set_option maxRecDepth 20000 in
theorem meet_spec {u v : List T} {a : T} (hL : Links n (u ++ a :: v) nx pr) (hf : Full (u ++ a :: v)) (hn : off (u ++ a :: v) = n) (hn4 : n ≤ 4096) (hmap : mapP vp vi bm m ∈ R) (hget : RkM l m) (hH : Hp spLt H) (hlen : H.length ≤ 800000)
 (hk : ∀ sv' H', Met l u a v H H' → Hp spLt H' → POST (.tuple #[]) R (rowW br pv nv qv bm sv' :: accT pv (lay (u ++ a :: v)) :: accI nv nx :: accI qv pr :: accS sv' H' :: O)) :
 Fun Tryz.prog 39 #[rptr br, vi (off u)] R (rowW br pv nv qv bm sv :: accT pv (lay (u ++ a :: v)) :: accI nv nx :: accI qv pr :: accS sv H :: O) POST := by
 have ha := len_pos hf.mid
 have hll := lay_len hf
 have hnn := hn
 rw [off_snoc] at hnn
 have hga : (lay (u ++ a :: v))[off u]? = some a := lay_get hf
 have hx1 := hL.next u a v rfl
 have hnl := hL.nl
 refine Fun.enter (l := [_, _]) Tryz.func39 rfl Tryz.ntmps39 rfl (L0 := [(0, _), (1, _)]) rfl ?_
 refine WC.seq ?_
 refine WC.seq ?_
 refine WC.still mixed Z.K ?_
 refine WA.rd rfl rfl rfl (Rd.move rfl rfl) ?_
 refine WA.rd rfl rfl rfl (Rd.lss rfl rfl rfl) ?_
 refine WA.rd rfl rfl rfl (Rd.move rfl rfl) ?_
 refine WA.case 9 rfl (fun hg9 => ?_) (fun hg9 => ?_)
 ·
  exfalso; omega
 ·
  refine WA.rd_yes rfl rfl rfl rfl rfl rfl (Rd.move rfl rfl) ?_
  refine WA.rd_yes rfl rfl rfl rfl rfl rfl (Rd.nilc rfl rfl) ?_
  refine WA.rd_yes rfl rfl rfl rfl rfl rfl ((by exact Rd.field rfl F105_1 rfl rfl)) ?_
  refine WA.rd_yes rfl rfl rfl rfl rfl rfl (Rd.row1 (b := br) (off := 1) (u := nv) rfl C42 rfl Z.M rfl) ?_
  refine WA.rd_yes rfl rfl rfl rfl rfl rfl (Rd.move rfl rfl) ?_
  refine WA.rd_yes rfl rfl rfl rfl rfl rfl ((by exact Rd.idxA1 (k := off u) rfl S42 rfl rfl Z.W Z.M Z.W)) ?_
  refine WA.rd_yes rfl rfl rfl rfl rfl rfl (Rd.getA (g := vi) (xs := nx) (k := off u) (a := ((off u + a.length : Nat) : Int)) rfl C3 rfl Z.M (get?_of Z.W hx1)) ?_
  refine WA.rd_yes rfl rfl rfl rfl rfl rfl (Rd.move rfl rfl) ?_
  refine WA.rd_yes rfl rfl rfl rfl rfl rfl (Rd.nilc rfl rfl) ?_
  refine WA.rd_yes rfl rfl rfl rfl rfl rfl ((by exact Rd.field rfl F105_0 rfl rfl)) ?_
  refine WA.rd_yes rfl rfl rfl rfl rfl rfl (Rd.row1 (b := br) (off := 0) (u := pv) rfl C85 rfl Z.M rfl) ?_
  refine WA.rd_yes rfl rfl rfl rfl rfl rfl (Rd.lenA (enc := SL.one vs) (xs := lay (u ++ a :: v)) rfl rfl Tryz.underlying85 Z.M) ?_
  refine WA.rd_yes rfl rfl rfl rfl rfl rfl (Rd.geq rfl rfl rfl) ?_
  refine WA.rd rfl rfl rfl (Rd.pick_f rfl rfl rfl) ?_
  refine WA.nil ?_
  refine thenQ.normal ?_
  refine WC.ite rfl (fun hc1 => ?_) (fun hc1 => ?_)
  ·
   have hv : v = [] := Classical.byContradiction fun e => by
    obtain ⟨c, v', rfl⟩ := List.exists_cons_of_ne_nil e
    have := len_pos (hf c (by simp))
    rw [off_cons] at hnn; omega
   refine WC.ret (Ret.zero Tryz.results39 ?_)
   exact hk sv H ⟨fun s h => h, fun s h => .inl h, by omega, fun b v' r e => by rw [hv] at e; cases e⟩ hH
  ·
   obtain ⟨b, v', hv⟩ : ∃ b v', v = b :: v' := List.exists_cons_of_ne_nil (fun e => by subst e; rw [off_nil] at hnn; omega)
   subst hv
   have hb : 0 < b.length := len_pos (hf b (by simp))
   rw [off_cons] at hnn
   have hgb : (lay (u ++ a :: b :: v'))[off u + a.length]? = some b := by
    have := lay_get (u := u ++ [a]) (a := b) (v := v') (by simpa using hf)
    rw [off_snoc, off_nil, Nat.add_zero] at this
    simpa using this
   refine WC.skip ?_
   refine thenQ.normal ?_
   refine WC.seq ?_
   refine WC.drawn (rowW br pv nv qv bm sv :: accT pv (lay (u ++ a :: b :: v')) :: accI nv nx :: accI qv pr :: accS sv H :: O) 23 rfl mixed ?_
   refine WD.take 0 rfl Z.K Z.H rfl rfl rfl (Rd.move rfl rfl) ?_
   refine WD.take 1 rfl Z.K Z.H rfl rfl rfl (Rd.nilc rfl rfl) ?_
   refine WD.take 2 rfl Z.K Z.H rfl rfl rfl ((by exact Rd.field rfl F105_0 rfl rfl)) ?_
   refine WD.take 3 rfl Z.K Z.H rfl rfl rfl (Rd.row1 (b := br) (off := 0) (u := pv) rfl C85 rfl Z.M rfl) ?_
   refine WD.take 4 rfl Z.K Z.H rfl rfl rfl (Rd.move rfl rfl) ?_
   refine WD.take 5 rfl Z.K Z.H rfl rfl rfl ((by exact Rd.idxA1 (k := off u) rfl S85 rfl rfl Z.W Z.M Z.W)) ?_
   refine WD.take 6 rfl Z.K Z.H rfl rfl rfl (Rd.getA (g := vs) (xs := lay (u ++ a :: b :: v')) (k := off u) (a := a) rfl C9 rfl Z.M hga) ?_
   refine WD.take 7 rfl Z.K Z.H rfl rfl rfl (Rd.move rfl rfl) ?_
   refine WD.take 8 rfl Z.K Z.H rfl rfl rfl (Rd.nilc rfl rfl) ?_
   refine WD.take 9 rfl Z.K Z.H rfl rfl rfl ((by exact Rd.field rfl F105_0 rfl rfl)) ?_
   refine WD.take 10 rfl Z.K Z.H rfl rfl rfl (Rd.row1 (b := br) (off := 0) (u := pv) rfl C85 rfl Z.M rfl) ?_
   refine WD.take 11 rfl Z.K Z.H rfl rfl rfl (Rd.move rfl rfl) ?_
   refine WD.take 12 rfl Z.K Z.H rfl rfl rfl (Rd.nilc rfl rfl) ?_
   refine WD.take 13 rfl Z.K Z.H rfl rfl rfl ((by exact Rd.field rfl F105_1 rfl rfl)) ?_
   refine WD.take 14 rfl Z.K Z.H rfl rfl rfl (Rd.row1 (b := br) (off := 1) (u := nv) rfl C42 rfl Z.M rfl) ?_
   refine WD.take 15 rfl Z.K Z.H rfl rfl rfl (Rd.move rfl rfl) ?_
   refine WD.take 16 rfl Z.K Z.H rfl rfl rfl ((by exact Rd.idxA1 (k := off u) rfl S42 rfl rfl Z.W Z.M Z.W)) ?_
   refine WD.take 17 rfl Z.K Z.H rfl rfl rfl (Rd.getA (g := vi) (xs := nx) (k := off u) (a := ((off u + a.length : Nat) : Int)) rfl C3 rfl Z.M (get?_of Z.W hx1)) ?_
   refine WD.take 18 rfl Z.K Z.H rfl rfl rfl ((by exact Rd.idxA1 (k := off u + a.length) rfl S85 rfl rfl Z.W Z.M Z.W)) ?_
   refine WD.take 19 rfl Z.K Z.H rfl rfl rfl (Rd.getA (g := vs) (xs := lay (u ++ a :: b :: v')) (k := off u + a.length) (a := b) rfl C9 rfl Z.M hgb) ?_
   refine WD.take 20 rfl Z.K Z.H rfl rfl rfl (Rd.buildN (ps := [(0, _), (1, _)]) rfl Bs27 I27 rfl Z.E Z.C (by apply NFo.mk; repeat (first | exact NF.nil | apply NF.cons))) ?_
   refine WD.one 21 rfl Z.K rfl ?_
   refine OpW.alloc rfl I27 rfl Z.N rfl rfl ?_; intro b4
   refine ⟨Z.H, ?_⟩
   refine WD.one 22 rfl Z.K rfl ?_
   refine OpW.storeS rfl G27 rfl rfl Z.N Z.T rfl rfl Z.N rfl ?_
   refine ⟨Z.H, ?_⟩
   refine WD.done Z.K ?_
   refine thenQ.normal ?_
   refine WC.seq ?_
   refine WC.still mixed Z.K ?_
   refine WA.rd rfl rfl rfl (Rd.move rfl rfl) ?_
   refine WA.rd rfl rfl rfl (Rd.nilc rfl rfl) ?_
   refine WA.rd rfl rfl rfl ((by exact Rd.field rfl F105_3 rfl rfl)) ?_
   refine WA.rd rfl rfl rfl (Rd.row1 (b := br) (off := 3) (u := .map (some bm)) rfl C101 rfl Z.M rfl) ?_
   refine WA.rd rfl rfl rfl (Rd.rowS (b := b4) (off := 0) (ds := [vs a, vs b]) rfl G27 rfl Z.M Z.N rfl) ?_
   refine WA.rd rfl rfl rfl (Rd.lookup2R (k := (a, b)) M101 KPr rfl rfl rfl hmap rfl) ?_
   refine WA.rd rfl rfl rfl (Rd.move rfl rfl) ?_
   refine WA.rd rfl rfl rfl (Rd.extract rfl rfl rfl) ?_
   refine WA.rd rfl rfl rfl (Rd.extract rfl rfl rfl) ?_
   refine WA.say 53 (u := .bool (decide ((rk l (a, b)).isSome = true))) rfl (by rw [hget]; cases rk l (a, b) <;> rfl) ?_
   refine WA.rd rfl rfl rfl (Rd.assign rfl rfl) ?_
   refine WA.rd rfl rfl rfl (Rd.assign rfl rfl) ?_
   refine WA.nil ?_
   refine thenQ.normal ?_
   refine WC.seq ?_
   refine WC.region ?_
   refine WL.rd rfl rfl rfl (Rd.move rfl rfl) ?_
   refine WL.nil ?_
   refine thenQ.normal ?_
   refine WC.ite rfl (fun hc2 => ?_) (fun hc2 => ?_)
   ·
    obtain ⟨r, hr⟩ := Option.isSome_iff_exists.1 hc2
    refine WC.say 5 (u := vi r) rfl (by rw [hget, hr]; rfl) ?_
    refine WC.tail 12 mixed Z.K ?_
    refine WS.rd rfl rfl rfl (Rd.move rfl rfl) ?_
    refine WS.rd rfl rfl rfl (Rd.nilc rfl rfl) ?_
    refine WS.rd rfl rfl rfl ((by exact Rd.field rfl F105_4 rfl rfl)) ?_
    refine WS.rd rfl rfl rfl (Rd.iface rfl Tryz.underlying155 rfl rfl) ?_
    refine WS.rd rfl rfl rfl (Rd.move rfl rfl) ?_
    refine WS.rd rfl rfl rfl (Rd.move rfl rfl) ?_
    refine WS.rd rfl rfl rfl ((by exact Rd.field rfl F27_0 rfl rfl)) ?_
    refine WS.rd rfl rfl rfl (Rd.row1 (b := b4) (off := 0) (u := vs a) rfl C9 rfl Z.M rfl) ?_
    refine WS.rd rfl rfl rfl ((by exact Rd.field rfl F27_1 rfl rfl)) ?_
    refine WS.rd rfl rfl rfl (Rd.row1 (b := b4) (off := 1) (u := vs b) rfl C9 rfl Z.M rfl) ?_
    refine WS.rd rfl rfl rfl (Rd.buildN (ps := [(0, _), (1, _), (2, _), (3, _)]) rfl Bs157 I157 rfl Z.E Z.C (by apply NFo.mk; repeat (first | exact NF.nil | apply NF.cons))) ?_
    refine WS.rd rfl rfl rfl (Rd.iface rfl Tryz.underlying157 rfl rfl) ?_
    refine WS.switch ?_
    refine WL.op rfl ?_
    refine OpW.call rfl rfl Z.E Z.K rfl rfl rfl ?_
    refine Fun.heap (R' := R) (O' := rowW br pv nv qv bm sv :: accS sv H :: accT pv (lay (u ++ a :: b :: v')) :: accI nv nx :: accI qv pr :: O) Z.F ?_
    refine hpush_spec (x := ⟨r, off u, a, b⟩) Z.W hH ?_; intro sv' H' hp hh
    refine WL.heap (R' := R) (O' := rowW br pv nv qv bm sv' :: accT pv (lay (u ++ a :: b :: v')) :: accI nv nx :: accI qv pr :: accS sv' H' :: O) Z.F ?_
    refine WL.nil ?_
    refine Ret.normal (Ret.zero Tryz.results39 ?_)
    exact hk sv' H' ⟨fun s h => hp.mem_iff.2 (List.mem_append_left _ h), fun s h => (List.mem_append.1 (hp.mem_iff.1 h)).elim .inl (fun h => .inr ⟨b, v', r, rfl, hr, List.mem_singleton.1 h⟩), by rw [hp.length_eq, List.length_append, List.length_singleton]; omega, fun b2 v2 r2 e hr2 => by
    simp only [List.cons.injEq] at e
    obtain ⟨rfl, rfl⟩ := e
    rw [hr] at hr2
    cases hr2
    exact hp.mem_iff.2 (List.mem_append_right _ (List.mem_singleton.2 rfl))⟩ hh
   ·
    refine WC.heap (R' := R) (O' := rowW br pv nv qv bm sv :: accT pv (lay (u ++ a :: b :: v')) :: accI nv nx :: accI qv pr :: accS sv H :: O) Z.F ?_
    refine WC.skip ?_
    refine Ret.normal (Ret.zero Tryz.results39 ?_)
    exact hk sv H ⟨fun s h => h, fun s h => .inl h, by omega, fun b2 v2 r2 e hr2 => by
    simp only [List.cons.injEq] at e
    obtain ⟨rfl, rfl⟩ := e
    rw [hr2] at hc2
    exact absurd rfl hc2⟩ hH
end
end Go.Proofs.YtkobjfjmkhmehaaGreatDoor.Mg
namespace Go.Proofs.YtkobjfjmkhmehaaGreatDoor
open Go Go.SL
namespace Z
theorem H {S R : List RO} {T O : List Own} (hS : SubL S R := by repeat (first | exact SubL.refl | refine SubL.cons Z.M ?_ | refine SubL.skip ?_)) (hT : OwnL O T := by repeat (first | exact OwnL.refl | apply OwnL.take Z.T | apply OwnL.drop)) : Held S T R O := Held.mk' hS hT
theorem N {α : Type} {a b : List α} (h : NF a b := by repeat (first | exact NF.nil | apply NF.cons)) : NF a b := h
theorem T {c : Own} {O O' : List Own} (h : Take c O O' := by repeat (first | assumption | exact Take.head _ | apply Take.tail)) : Take c O O' := h
end Z
end Go.Proofs.YtkobjfjmkhmehaaGreatDoor
namespace Go.Proofs.YtkobjfjmkhmehaaGreatDoor.Mg
open Go Go.SL
structure RSt where
 pre : List T
 suf : List T
 H : List Sp
 M : List Nat
 nx : List Int
 pr : List Int
abbrev ints (M : List Nat) : List Int := M.map fun m : Nat => (m : Int)
section
variable {R : List RO} {O O' : List Own} {POST : Value → List RO → List Own → Prop} {br bm n : Nat} {pv nv qv sv : Value} {nx pr : List Int} {H : List Sp} {l : List Pr} {m : GoMap Pr Int}
/-- The row as it stands. -/
abbrev rowO (br bm : Nat) (pv nv qv sv : Value) (q : List T) (nx pr : List Int) (H : List Sp) (O : List Own) : List Own := rowW br pv nv qv bm sv :: accT pv (lay q) :: accI nv nx :: accI qv pr :: accS sv H :: O
theorem meetP_spec {u v : List T} {c : T} (hL : Links n (u ++ c :: v) nx pr) (hf : Full (u ++ c :: v)) (hn : off (u ++ c :: v) = n) (hn4 : n ≤ 4096) (hmap : mapP vp vi bm m ∈ R) (hget : RkM l m) (hH : Hp spLt H) (hlen : H.length ≤ 800000)
 (hk : ∀ sv' H', (∀ s ∈ H, s ∈ H') → (∀ s ∈ H', s ∈ H ∨ (rk l (s.a, s.b) = some s.rank ∧ s.pl < n ∧ s.a ≠ [])) → H'.length ≤ H.length + 1 → (∀ u0 x r, u = u0 ++ [x] → rk l (x, c) = some r → (⟨r, off u0, x, c⟩ : Sp) ∈ H') → Hp spLt H' → POST (.tuple #[]) R (rowO br bm pv nv qv sv' (u ++ c :: v) nx pr H' O)) :
 Fun Tryz.prog 39 #[rptr br, vi pr[off u]!] R (rowO br bm pv nv qv sv (u ++ c :: v) nx pr H O) POST := by
 rcases u.eq_nil_or_concat with rfl | ⟨u0, x, rfl⟩
 ·
  rw [off_nil, hL.first (by simp)]
  exact meetN_spec (hk sv H (fun s h => h) (fun s h => .inl h) Z.W (fun u0 x r e => by simp at e) hH)
 ·
  rw [List.concat_eq_append] at *
  have e : (u0 ++ [x]) ++ c :: v = u0 ++ x :: c :: v := by simp
  have ho : off (u0 ++ [x]) = off u0 + x.length := by rw [off_snoc, off_nil, Nat.add_zero]
  rw [e] at hL hf hn hk ⊢
  rw [ho, hL.prev u0 x c v rfl]
  have hx := hf.mid
  have hlx := len_pos hx
  rw [off_snoc] at hn
  refine meet_spec hL hf (by rw [off_snoc]; exact hn) hn4 hmap hget hH hlen (fun sv' H' hM hh => hk sv' H' hM.old (fun s hs => ?_) hM.cnt (fun u1 y r e2 hr => ?_) hh)
  ·
   rcases hM.new s hs with h | ⟨b, v', r, e2, hr, rfl⟩
   ·
    exact .inl h
   ·
    exact .inr ⟨hr, by show off u0 < n; omega, hx⟩
  ·
   have := List.append_inj' e2 rfl
   obtain ⟨rfl, h2⟩ := this
   simp only [List.cons.injEq, and_true] at h2
   subst h2
   exact hM.got c v r rfl hr
theorem get!_some {α : Type} [Inhabited α] {l : List α} {i : Nat} {a : α} (h : l[i]? = some a) : l[i]! = a := by
 obtain ⟨h1, h2⟩ := List.getElem?_eq_some_iff.1 h
 rw [getElem!_pos l i h1, h2]
theorem drop_mem {M : List Nat} {j x : Nat} (h : x ∈ M.drop j) (hj : j < M.length) : x = M[j]! ∨ x ∈ M.drop (j + 1) := by
 rw [List.drop_eq_getElem_cons hj] at h
 rcases List.mem_cons.1 h with h | h
 ·
  left; rw [getElem!_pos M j hj]; exact h
 ·
  exact .inr h
set_option maxRecDepth 20000 in
set_option maxHeartbeats 4000000 in
theorem round_spec {q : List T} (hI : Inv l n q H) (hL : Links n q nx pr) (hH : Hp spLt H) (h0 : 0 < H.length) (hn4 : n ≤ 4096) (hB : H.length + 3 * q.length ≤ 100000) (hmap : mapP vp vi bm m ∈ R) (hget : RkM l m)
 (hk : ∀ sv' q' nx' pr' H', Inv l n q' H' → Links n q' nx' pr' → Hp spLt H' → (∀ out, Spl l q' out → Spl l q out) → q'.flatten = q.flatten → H'.length + 3 * q'.length < H.length + 3 * q.length → POST (.tuple #[]) R (rowO br bm pv nv qv sv' q' nx' pr' H' O)) :
 Fun Tryz.prog 40 #[rptr br] R (rowO br bm pv nv qv sv q nx pr H O) POST := by
 obtain ⟨A, B, r, hr, hr0, hlow⟩ : ∃ A B r, rk l (A, B) = some r ∧ H[0]!.rank = r ∧ ∀ s ∈ H, r ≤ s.rank := by
  refine ⟨H[0]!.a, H[0]!.b, _, (hI.sound _ (get!_mem h0)).1, rfl, fun s hs => ?_⟩
  have := hH.least spOrd hs
  unfold spLt at this; omega
 have hrl : r ≤ 9223372036854775807 ∨ True := .inr trivial
 have hmin := hI.least hlow
 haveI inst : ∀ (q : List T) (s : Sp), Decidable (Fits q s) := fun _ _ => Classical.propDecidable _
 refine Fun.enter (l := [_]) Tryz.func40 rfl Tryz.ntmps40 rfl (L0 := [(0, _)]) rfl ?_
 refine WC.seq ?_
 refine WC.region ?_
 refine WL.rd rfl rfl rfl (Rd.move rfl rfl) ?_
 refine WL.rd rfl rfl rfl (Rd.nilc rfl rfl) ?_
 refine WL.rd rfl rfl rfl ((by exact Rd.field rfl F105_4 rfl rfl)) ?_
 refine WL.rd rfl rfl rfl (Rd.row1 (b := br) (off := 4) (u := sv) rfl C103 rfl Z.M rfl) ?_
 refine WL.rd rfl rfl rfl ((by exact Rd.idxA (k := 0) rfl S103 rfl rfl rfl Z.M Z.W)) ?_
 refine WL.rd rfl rfl rfl ((by exact Rd.fieldA rfl F157_0 rfl Z.M Z.W)) ?_
 refine WL.rd rfl rfl rfl (Rd.getFA (enc := encS) (size := 4) (xs := H) (k := 0) (f := 0) (a := H[0]!) (u := vi H[0]!.rank) rfl C3 rfl Z.M (fun x => rfl) Z.W (get!_of_lt h0) rfl) ?_
 refine WL.say 13 (u := vi r) rfl (by rw [hr0]) ?_
 refine WL.heap (fun w h => Sat.accNil (e := 3) (size := 1) (enc := SL.one vi) h) ?_
 refine WL.rd rfl rfl rfl (Rd.assign rfl rfl) ?_
 refine WL.nil ?_
 refine thenQ.normal ?_
 refine WC.seq ?_
 refine WC.region ?_
 refine WL.rd rfl rfl rfl (Rd.assign rfl rfl) ?_
 refine WL.nil ?_
 refine thenQ.normal ?_
 refine WC.seq ?_
 refine WC.block ?_
 refine WC.pick [3, 0, 2] Z.P ?_
 refine WC.loop3 1 (fun (s : RSt) (sv1 : Value) (mv : Value) => [(3, mv)]) (fun (s : RSt) (sv1 : Value) (mv : Value) => accI mv (ints s.M) :: rowO br bm pv nv qv sv1 (s.pre ++ s.suf) s.nx s.pr s.H O) (fun (s : RSt) (sv1 : Value) (mv : Value) => InR l n q r A B s.pre s.suf s.H s.M ∧ Links n (s.pre ++ s.suf) s.nx s.pr ∧ Hp spLt s.H ∧ (s.H = H ∨ s.H.length < H.length) ∧ (s.pre ++ s.suf).flatten = q.flatten) (fun (s : RSt) (sv1 : Value) (mv : Value) => s.H.length) (⟨[], q, H, [], nx, pr⟩) (sv) (.slice none 0 0) Z.L ?hinv1 (by repeat (first | exact Sub.nil | refine Sub.cons rfl (by rfl) ?_)) (fun _ h => h) ?_
 case hinv1 =>
  exact ⟨InR.start hI hlow, hL, hH, .inl rfl, rfl⟩
 intro s sv1 mv
 rintro ⟨i1, i2, i3, i4, i5⟩
 refine WC.seq ?_
 refine WC.pick [0, 2, 3] Z.P ?_
 refine WC.val 30 (.bool (decide (0 < s.H.length ∧ s.H[0]!.rank = r))) ?_ ?_
 ·
  refine WC.region ?_
  refine WL.rd rfl rfl rfl (Rd.move rfl rfl) ?_
  refine WL.rd rfl rfl rfl (Rd.nilc rfl rfl) ?_
  refine WL.rd rfl rfl rfl ((by exact Rd.field rfl F105_4 rfl rfl)) ?_
  refine WL.rd rfl rfl rfl (Rd.row1 (b := br) (off := 4) (u := sv1) rfl C103 rfl Z.M rfl) ?_
  refine WL.rd rfl rfl rfl (Rd.lenA (enc := encS) (xs := s.H) rfl rfl Tryz.underlying103 Z.M) ?_
  refine WL.rd rfl rfl rfl (Rd.gtr rfl rfl rfl) ?_
  refine WL.rd rfl rfl rfl (Rd.move rfl rfl) ?_
  refine WL.case 20 rfl (fun hg20 => ?_) (fun hg20 => ?_)
  ·
   refine WL.rd_yes rfl rfl rfl rfl rfl rfl (Rd.move rfl rfl) ?_
   refine WL.rd_yes rfl rfl rfl rfl rfl rfl (Rd.nilc rfl rfl) ?_
   refine WL.rd_yes rfl rfl rfl rfl rfl rfl ((by exact Rd.field rfl F105_4 rfl rfl)) ?_
   refine WL.rd_yes rfl rfl rfl rfl rfl rfl (Rd.row1 (b := br) (off := 4) (u := sv1) rfl C103 rfl Z.M rfl) ?_
   refine WL.rd_yes rfl rfl rfl rfl rfl rfl ((by exact Rd.idxA (k := 0) rfl S103 rfl rfl rfl Z.M Z.W)) ?_
   refine WL.rd_yes rfl rfl rfl rfl rfl rfl ((by exact Rd.fieldA rfl F157_0 rfl Z.M Z.W)) ?_
   refine WL.rd_yes rfl rfl rfl rfl rfl rfl (Rd.getFA (enc := encS) (size := 4) (xs := s.H) (k := 0) (f := 0) (a := s.H[0]!) (u := vi s.H[0]!.rank) rfl C3 rfl Z.M (fun x => rfl) Z.W (get!_of_lt Z.W) rfl) ?_
   refine WL.rd_yes rfl rfl rfl rfl rfl rfl (Rd.move rfl rfl) ?_
   refine WL.rd_yes rfl rfl rfl rfl rfl rfl (Rd.eql rfl rfl rfl) ?_
   refine WL.rd rfl rfl rfl (Rd.pick_t rfl rfl rfl) ?_
   refine WL.nil ?_
   exact ⟨by repeat (first | exact Sub.nil | refine Sub.cons rfl (by first | rfl | (exact vb ⟨fun h => ⟨by omega, by omega⟩, fun h => by have := h.2; omega⟩)) ?_), by exact (fun _ h => h.thin (SubL.mem Z.S))⟩
  ·
   refine WL.no rfl rfl rfl rfl rfl rfl ?_
   refine WL.no rfl rfl rfl rfl rfl rfl ?_
   refine WL.no rfl rfl rfl rfl rfl rfl ?_
   refine WL.no rfl rfl rfl rfl rfl rfl ?_
   refine WL.no rfl rfl rfl rfl rfl rfl ?_
   refine WL.no rfl rfl rfl rfl rfl rfl ?_
   refine WL.no rfl rfl rfl rfl rfl rfl ?_
   refine WL.no rfl rfl rfl rfl rfl rfl ?_
   refine WL.no rfl rfl rfl rfl rfl rfl ?_
   refine WL.rd rfl rfl rfl (Rd.pick_f rfl rfl rfl) ?_
   refine WL.nil ?_
   exact ⟨by repeat (first | exact Sub.nil | refine Sub.cons rfl (by first | rfl | (exact vb_f (fun h => hg20 (by have := h.1; omega)))) ?_), by exact (fun _ h => h.thin (SubL.mem Z.S))⟩
 ·
  refine WC.ite rfl (fun hc1 => ?_) (fun hc1 => ?_)
  ·
   have hsl : s.H.length ≤ H.length := by rcases i4 with h | h; rw [h]; exact Nat.le_refl _; omega
   have hcnt := i1.cnt
   have hs0 := get!_mem hc1.1
   have hsnd := i1.sound _ hs0
   refine WC.skip ?_
   refine thenQ.normal ?_
   refine WC.block ?_
   refine WC.seq ?_
   refine WC.region ?_
   refine WL.rd rfl rfl rfl (Rd.move rfl rfl) ?_
   refine WL.rd rfl rfl rfl (Rd.nilc rfl rfl) ?_
   refine WL.rd rfl rfl rfl ((by exact Rd.field rfl F105_4 rfl rfl)) ?_
   refine WL.rd rfl rfl rfl (Rd.iface rfl Tryz.underlying155 rfl rfl) ?_
   refine WL.op rfl ?_
   refine OpW.call rfl rfl Z.E Z.K rfl rfl rfl ?_
   refine Fun.heap (R' := R) (O' := rowW br pv nv qv bm sv1 :: accS sv1 s.H :: accI mv (ints s.M) :: accT pv (lay (s.pre ++ s.suf)) :: accI nv s.nx :: accI qv s.pr :: O) Z.F ?_
   refine hpop_spec (xs := s.H) Z.W hc1.1 i3 ?_; intro sv2 ys hys hhy
   have hyl := hys.length_eq
   simp only [List.length_cons] at hyl
   have hmn : ∀ t ∈ s.H, ¬ spLt t s.H[0]! := fun t ht => i3.least spOrd ht
   generalize s.H[0]! = s0 at *
   have hll := lay_len i1.full
   have hlen := i1.len
   have hnl := i2.nl
   refine WL.rd rfl rfl rfl (Rd.assertT rfl Tryz.underlying157 rfl rfl) ?_
   refine WL.op rfl ?_
   refine OpW.alloc rfl I157 rfl Z.N rfl rfl ?_; intro b4
   refine WL.op rfl ?_
   refine OpW.storeS rfl G157 rfl rfl Z.N Z.T rfl rfl Z.N rfl ?_
   refine WL.nil ?_
   refine thenQ.normal ?_
   refine WC.pick [0, 2, 3, 4] Z.P ?_
   refine WC.val 87 (.bool (decide (Fits (s.pre ++ s.suf) s0))) ?_ ?_
   ·
    refine WC.still mixed Z.K ?_
    refine WA.rd rfl rfl rfl (Rd.move rfl rfl) ?_
    refine WA.rd rfl rfl rfl (Rd.nilc rfl rfl) ?_
    refine WA.rd rfl rfl rfl ((by exact Rd.field rfl F105_0 rfl rfl)) ?_
    refine WA.rd rfl rfl rfl (Rd.row1 (b := br) (off := 0) (u := pv) rfl C85 rfl Z.M rfl) ?_
    refine WA.rd rfl rfl rfl ((by exact Rd.field rfl F157_1 rfl rfl)) ?_
    refine WA.rd rfl rfl rfl (Rd.row1 (b := b4) (off := 1) (u := vi s0.pl) rfl C3 rfl Z.M rfl) ?_
    refine WA.rd rfl rfl rfl ((by exact Rd.idxA1 (k := s0.pl) rfl S85 rfl rfl Z.W Z.M Z.W)) ?_
    refine WA.rd rfl rfl rfl (Rd.getA (g := vs) (xs := lay (s.pre ++ s.suf)) (k := s0.pl) (a := (lay (s.pre ++ s.suf))[s0.pl]!) rfl C9 rfl Z.M (get?_of Z.W rfl)) ?_
    refine WA.rd rfl rfl rfl ((by exact Rd.field rfl F157_2 rfl rfl)) ?_
    refine WA.rd rfl rfl rfl (Rd.row1 (b := b4) (off := 2) (u := vs s0.a) rfl C9 rfl Z.M rfl) ?_
    refine WA.rd rfl rfl rfl (Rd.seql rfl rfl rfl) ?_
    refine WA.rd rfl rfl rfl (Rd.move rfl rfl) ?_
    refine WA.case 48 rfl (fun hg48 => ?_) (fun hg48 => ?_)
    ·
     refine WA.rd_yes rfl rfl rfl rfl rfl rfl ((by exact Rd.field rfl F157_2 rfl rfl)) ?_
     refine WA.rd_yes rfl rfl rfl rfl rfl rfl (Rd.row1 (b := b4) (off := 2) (u := vs s0.a) rfl C9 rfl Z.M rfl) ?_
     refine WA.rd_yes rfl rfl rfl rfl rfl rfl (Rd.sneq rfl rfl rfl) ?_
     refine WA.rd rfl rfl rfl (Rd.pick_t rfl rfl rfl) ?_
     refine WA.rd rfl rfl rfl (Rd.move rfl rfl) ?_
     refine WA.case 53 rfl (fun hg53 => ?_) (fun hg53 => ?_)
     ·
      obtain ⟨u, v, hq1, ho⟩ := lay_start i1.full (get?_of Z.W hg48) hg53
      have hx := i2.next u s0.a v hq1
      rw [ho] at hx
      have hol := hlen
      rw [hq1, off_snoc, ho] at hol
      refine WA.rd_yes rfl rfl rfl rfl rfl rfl (Rd.move rfl rfl) ?_
      refine WA.rd_yes rfl rfl rfl rfl rfl rfl (Rd.nilc rfl rfl) ?_
      refine WA.rd_yes rfl rfl rfl rfl rfl rfl ((by exact Rd.field rfl F105_1 rfl rfl)) ?_
      refine WA.rd_yes rfl rfl rfl rfl rfl rfl (Rd.row1 (b := br) (off := 1) (u := nv) rfl C42 rfl Z.M rfl) ?_
      refine WA.rd_yes rfl rfl rfl rfl rfl rfl ((by exact Rd.field rfl F157_1 rfl rfl)) ?_
      refine WA.rd_yes rfl rfl rfl rfl rfl rfl (Rd.row1 (b := b4) (off := 1) (u := vi s0.pl) rfl C3 rfl Z.M rfl) ?_
      refine WA.rd_yes rfl rfl rfl rfl rfl rfl ((by exact Rd.idxA1 (k := s0.pl) rfl S42 rfl rfl Z.W Z.M Z.W)) ?_
      refine WA.rd_yes rfl rfl rfl rfl rfl rfl (Rd.getA (g := vi) (xs := s.nx) (k := s0.pl) (a := ((s0.pl + s0.a.length : Nat) : Int)) rfl C3 rfl Z.M (get?_of Z.W hx)) ?_
      refine WA.rd_yes rfl rfl rfl rfl rfl rfl (Rd.move rfl rfl) ?_
      refine WA.rd_yes rfl rfl rfl rfl rfl rfl (Rd.nilc rfl rfl) ?_
      refine WA.rd_yes rfl rfl rfl rfl rfl rfl ((by exact Rd.field rfl F105_0 rfl rfl)) ?_
      refine WA.rd_yes rfl rfl rfl rfl rfl rfl (Rd.row1 (b := br) (off := 0) (u := pv) rfl C85 rfl Z.M rfl) ?_
      refine WA.rd_yes rfl rfl rfl rfl rfl rfl (Rd.lenA (enc := SL.one vs) (xs := lay (s.pre ++ s.suf)) rfl rfl Tryz.underlying85 Z.M) ?_
      refine WA.rd_yes rfl rfl rfl rfl rfl rfl (Rd.lss rfl rfl rfl) ?_
      refine WA.rd rfl rfl rfl (Rd.pick_t rfl rfl rfl) ?_
      refine WA.rd rfl rfl rfl (Rd.move rfl rfl) ?_
      refine WA.case 69 rfl (fun hg69 => ?_) (fun hg69 => ?_)
      ·
       obtain ⟨b, v', hv⟩ : ∃ b v', v = b :: v' := List.exists_cons_of_ne_nil (fun e => by rw [e, off_nil] at hol; omega)
       subst hv
       have hgb : (lay (s.pre ++ s.suf))[s0.pl + s0.a.length]? = some b := by
        have e : (s.pre ++ s.suf) = (u ++ [s0.a]) ++ b :: v' := by rw [hq1]; simp
        have := lay_get (u := u ++ [s0.a]) (a := b) (v := v') (e ▸ i1.full)
        rw [off_snoc, off_nil, Nat.add_zero, ho, ← e] at this
        exact this
       refine WA.rd_yes rfl rfl rfl rfl rfl rfl (Rd.move rfl rfl) ?_
       refine WA.rd_yes rfl rfl rfl rfl rfl rfl (Rd.nilc rfl rfl) ?_
       refine WA.rd_yes rfl rfl rfl rfl rfl rfl ((by exact Rd.field rfl F105_0 rfl rfl)) ?_
       refine WA.rd_yes rfl rfl rfl rfl rfl rfl (Rd.row1 (b := br) (off := 0) (u := pv) rfl C85 rfl Z.M rfl) ?_
       refine WA.rd_yes rfl rfl rfl rfl rfl rfl (Rd.move rfl rfl) ?_
       refine WA.rd_yes rfl rfl rfl rfl rfl rfl (Rd.nilc rfl rfl) ?_
       refine WA.rd_yes rfl rfl rfl rfl rfl rfl ((by exact Rd.field rfl F105_1 rfl rfl)) ?_
       refine WA.rd_yes rfl rfl rfl rfl rfl rfl (Rd.row1 (b := br) (off := 1) (u := nv) rfl C42 rfl Z.M rfl) ?_
       refine WA.rd_yes rfl rfl rfl rfl rfl rfl ((by exact Rd.field rfl F157_1 rfl rfl)) ?_
       refine WA.rd_yes rfl rfl rfl rfl rfl rfl (Rd.row1 (b := b4) (off := 1) (u := vi s0.pl) rfl C3 rfl Z.M rfl) ?_
       refine WA.rd_yes rfl rfl rfl rfl rfl rfl ((by exact Rd.idxA1 (k := s0.pl) rfl S42 rfl rfl Z.W Z.M Z.W)) ?_
       refine WA.rd_yes rfl rfl rfl rfl rfl rfl (Rd.getA (g := vi) (xs := s.nx) (k := s0.pl) (a := ((s0.pl + s0.a.length : Nat) : Int)) rfl C3 rfl Z.M (get?_of Z.W hx)) ?_
       refine WA.rd_yes rfl rfl rfl rfl rfl rfl ((by exact Rd.idxA1 (k := s0.pl + s0.a.length) rfl S85 rfl rfl Z.W Z.M Z.W)) ?_
       refine WA.rd_yes rfl rfl rfl rfl rfl rfl (Rd.getA (g := vs) (xs := lay (s.pre ++ s.suf)) (k := s0.pl + s0.a.length) (a := b) rfl C9 rfl Z.M hgb) ?_
       refine WA.rd_yes rfl rfl rfl rfl rfl rfl ((by exact Rd.field rfl F157_3 rfl rfl)) ?_
       refine WA.rd_yes rfl rfl rfl rfl rfl rfl (Rd.row1 (b := b4) (off := 3) (u := vs s0.b) rfl C9 rfl Z.M rfl) ?_
       refine WA.rd_yes rfl rfl rfl rfl rfl rfl (Rd.seql rfl rfl rfl) ?_
       refine WA.rd rfl rfl rfl (Rd.pick_t rfl rfl rfl) ?_
       refine WA.nil ?_
       exact ⟨by repeat (first | exact Sub.nil | refine Sub.cons rfl (by first | rfl | (exact vb ⟨fun h => ⟨u, v', by rw [hq1, h], ho⟩, fun ⟨u', v2, e, ho'⟩ => by have h3 := (place i1.full hq1 e Z.W).2.2; simp only [List.cons.injEq] at h3; exact h3.1⟩)) ?_), by exact (fun _ h => h.thin (SubL.mem Z.S))⟩
      ·
       refine WA.no rfl rfl rfl rfl rfl rfl ?_
       refine WA.no rfl rfl rfl rfl rfl rfl ?_
       refine WA.no rfl rfl rfl rfl rfl rfl ?_
       refine WA.no rfl rfl rfl rfl rfl rfl ?_
       refine WA.no rfl rfl rfl rfl rfl rfl ?_
       refine WA.no rfl rfl rfl rfl rfl rfl ?_
       refine WA.no rfl rfl rfl rfl rfl rfl ?_
       refine WA.no rfl rfl rfl rfl rfl rfl ?_
       refine WA.no rfl rfl rfl rfl rfl rfl ?_
       refine WA.no rfl rfl rfl rfl rfl rfl ?_
       refine WA.no rfl rfl rfl rfl rfl rfl ?_
       refine WA.no rfl rfl rfl rfl rfl rfl ?_
       refine WA.no rfl rfl rfl rfl rfl rfl ?_
       refine WA.no rfl rfl rfl rfl rfl rfl ?_
       refine WA.no rfl rfl rfl rfl rfl rfl ?_
       refine WA.no rfl rfl rfl rfl rfl rfl ?_
       refine WA.no rfl rfl rfl rfl rfl rfl ?_
       refine WA.rd rfl rfl rfl (Rd.pick_f rfl rfl rfl) ?_
       refine WA.nil ?_
       exact ⟨by repeat (first | exact Sub.nil | refine Sub.cons rfl (by first | rfl | (exact vb_f (fun ⟨u', v', e, ho'⟩ => by have h3 := (place i1.full hq1 e Z.W).2.2; rw [h3, off_cons] at hol; have h4 := len_pos (p := s0.b) (i1.full s0.b (by rw [e]; simp)); omega))) ?_), by exact (fun _ h => h.thin (SubL.mem Z.S))⟩
     ·
      refine WA.no rfl rfl rfl rfl rfl rfl ?_
      refine WA.no rfl rfl rfl rfl rfl rfl ?_
      refine WA.no rfl rfl rfl rfl rfl rfl ?_
      refine WA.no rfl rfl rfl rfl rfl rfl ?_
      refine WA.no rfl rfl rfl rfl rfl rfl ?_
      refine WA.no rfl rfl rfl rfl rfl rfl ?_
      refine WA.no rfl rfl rfl rfl rfl rfl ?_
      refine WA.no rfl rfl rfl rfl rfl rfl ?_
      refine WA.no rfl rfl rfl rfl rfl rfl ?_
      refine WA.no rfl rfl rfl rfl rfl rfl ?_
      refine WA.no rfl rfl rfl rfl rfl rfl ?_
      refine WA.no rfl rfl rfl rfl rfl rfl ?_
      refine WA.no rfl rfl rfl rfl rfl rfl ?_
      refine WA.no rfl rfl rfl rfl rfl rfl ?_
      refine WA.rd rfl rfl rfl (Rd.pick_f rfl rfl rfl) ?_
      refine WA.rd rfl rfl rfl (Rd.move rfl rfl) ?_
      refine WA.no rfl rfl rfl rfl rfl rfl ?_
      refine WA.no rfl rfl rfl rfl rfl rfl ?_
      refine WA.no rfl rfl rfl rfl rfl rfl ?_
      refine WA.no rfl rfl rfl rfl rfl rfl ?_
      refine WA.no rfl rfl rfl rfl rfl rfl ?_
      refine WA.no rfl rfl rfl rfl rfl rfl ?_
      refine WA.no rfl rfl rfl rfl rfl rfl ?_
      refine WA.no rfl rfl rfl rfl rfl rfl ?_
      refine WA.no rfl rfl rfl rfl rfl rfl ?_
      refine WA.no rfl rfl rfl rfl rfl rfl ?_
      refine WA.no rfl rfl rfl rfl rfl rfl ?_
      refine WA.no rfl rfl rfl rfl rfl rfl ?_
      refine WA.no rfl rfl rfl rfl rfl rfl ?_
      refine WA.no rfl rfl rfl rfl rfl rfl ?_
      refine WA.no rfl rfl rfl rfl rfl rfl ?_
      refine WA.no rfl rfl rfl rfl rfl rfl ?_
      refine WA.no rfl rfl rfl rfl rfl rfl ?_
      refine WA.rd rfl rfl rfl (Rd.pick_f rfl rfl rfl) ?_
      refine WA.nil ?_
      exact ⟨by repeat (first | exact Sub.nil | refine Sub.cons rfl (by first | rfl | (exact vb_f (fun _ => hg53 hsnd.2.2))) ?_), by exact (fun _ h => h.thin (SubL.mem Z.S))⟩
    ·
     refine WA.no rfl rfl rfl rfl rfl rfl ?_
     refine WA.no rfl rfl rfl rfl rfl rfl ?_
     refine WA.no rfl rfl rfl rfl rfl rfl ?_
     refine WA.rd rfl rfl rfl (Rd.pick_f rfl rfl rfl) ?_
     refine WA.rd rfl rfl rfl (Rd.move rfl rfl) ?_
     refine WA.no rfl rfl rfl rfl rfl rfl ?_
     refine WA.no rfl rfl rfl rfl rfl rfl ?_
     refine WA.no rfl rfl rfl rfl rfl rfl ?_
     refine WA.no rfl rfl rfl rfl rfl rfl ?_
     refine WA.no rfl rfl rfl rfl rfl rfl ?_
     refine WA.no rfl rfl rfl rfl rfl rfl ?_
     refine WA.no rfl rfl rfl rfl rfl rfl ?_
     refine WA.no rfl rfl rfl rfl rfl rfl ?_
     refine WA.no rfl rfl rfl rfl rfl rfl ?_
     refine WA.no rfl rfl rfl rfl rfl rfl ?_
     refine WA.no rfl rfl rfl rfl rfl rfl ?_
     refine WA.no rfl rfl rfl rfl rfl rfl ?_
     refine WA.no rfl rfl rfl rfl rfl rfl ?_
     refine WA.no rfl rfl rfl rfl rfl rfl ?_
     refine WA.rd rfl rfl rfl (Rd.pick_f rfl rfl rfl) ?_
     refine WA.rd rfl rfl rfl (Rd.move rfl rfl) ?_
     refine WA.no rfl rfl rfl rfl rfl rfl ?_
     refine WA.no rfl rfl rfl rfl rfl rfl ?_
     refine WA.no rfl rfl rfl rfl rfl rfl ?_
     refine WA.no rfl rfl rfl rfl rfl rfl ?_
     refine WA.no rfl rfl rfl rfl rfl rfl ?_
     refine WA.no rfl rfl rfl rfl rfl rfl ?_
     refine WA.no rfl rfl rfl rfl rfl rfl ?_
     refine WA.no rfl rfl rfl rfl rfl rfl ?_
     refine WA.no rfl rfl rfl rfl rfl rfl ?_
     refine WA.no rfl rfl rfl rfl rfl rfl ?_
     refine WA.no rfl rfl rfl rfl rfl rfl ?_
     refine WA.no rfl rfl rfl rfl rfl rfl ?_
     refine WA.no rfl rfl rfl rfl rfl rfl ?_
     refine WA.no rfl rfl rfl rfl rfl rfl ?_
     refine WA.no rfl rfl rfl rfl rfl rfl ?_
     refine WA.no rfl rfl rfl rfl rfl rfl ?_
     refine WA.no rfl rfl rfl rfl rfl rfl ?_
     refine WA.rd rfl rfl rfl (Rd.pick_f rfl rfl rfl) ?_
     refine WA.nil ?_
     exact ⟨by repeat (first | exact Sub.nil | refine Sub.cons rfl (by first | rfl | (exact vb_f (fun ⟨u, v, e, ho⟩ => hg48 (by have h := lay_get (u := u) (a := s0.a) (v := s0.b :: v) (by rw [← e]; exact i1.full); rw [← e, ho] at h; exact get!_some h)))) ?_), by exact (fun _ h => h.thin (SubL.mem Z.S))⟩
   ·
    refine WC.ite rfl (fun hc2 => ?_) (fun hc2 => ?_)
    ·
     obtain ⟨u, v, hq1, ho⟩ := hc2
     obtain ⟨ea, eb, pre', suf', hq2, i1'⟩ := i1.good hr hys hmn hc1.2 hq1 ho
     rw [hq1] at i2
     have hfq : Full (u ++ s0.a :: s0.b :: v) := hq1 ▸ i1.full
     have hnq : off (u ++ s0.a :: s0.b :: v) = n := hq1 ▸ i1.len
     have i2' := i2.merge hfq hnq
     rw [ho] at i2'
     refine WC.heap (R' := R) (O' := rowW br pv nv qv bm sv2 :: accT pv (lay (u ++ s0.a :: s0.b :: v)) :: accI nv s.nx :: accI qv s.pr :: accI mv (ints s.M) :: accS sv2 ys :: rowC b4 157 [vi s0.rank, vi s0.pl, vs s0.a, vs s0.b] :: O) (fun w h => by rw [hq1] at h; exact Z.Fw h) ?_
     refine WC.seq ?_
     refine WC.region ?_
     refine WL.rd rfl rfl rfl (Rd.move rfl rfl) ?_
     refine WL.rd rfl rfl rfl ((by exact Rd.field rfl F157_1 rfl rfl)) ?_
     refine WL.rd rfl rfl rfl (Rd.row1 (b := b4) (off := 1) (u := vi s0.pl) rfl C3 rfl Z.M rfl) ?_
     refine WL.say 90 (u := vi (off u)) rfl (by rw [ho]) ?_
     refine WL.op rfl ?_
     refine OpW.call rfl rfl Z.E Z.K rfl rfl rfl ?_
     refine merge_spec (u := u) (v := v) (a := s0.a) (b := s0.b) i2 hfq hnq hn4 ?_
     refine WL.nil ?_
     refine thenQ.normal ?_
     refine WC.region ?_
     refine WL.rd rfl rfl rfl (Rd.move rfl rfl) ?_
     refine WL.rd rfl rfl rfl ((by exact Rd.field rfl F157_1 rfl rfl)) ?_
     refine WL.rd rfl rfl rfl (Rd.row1 (b := b4) (off := 1) (u := vi s0.pl) rfl C3 rfl Z.M rfl) ?_
     refine WL.op rfl ?_
     refine OpW.buildSl (ps := [(0, _)]) rfl S42 Z.E rfl rfl Z.C Z.K rfl rfl rfl ?_; intro b95
     have hml : (ints s.M).length = s.M.length := List.length_map _
     rw [hq1] at hcnt
     refine WL.op rfl ?_
     refine OpW.appendRow (enc := SL.one vi) rfl S42 rfl rfl Z.T Z.T [((s0.pl : Nat) : Int)] rfl (by rfl) rfl (by intro x; rfl) (by intro x; rfl) (by exact ⟨by simp only [maxLen, List.length_append, List.length_nil, List.length_cons, List.length_drop, List.length_take, List.length_map]; omega, by omega⟩) rfl rfl ?_; intro v96 hv96
     refine WL.rd rfl rfl rfl (Rd.assign rfl rfl) ?_
     refine WL.nil ?_
     refine blockQ.normal ?_
     exact loopQ3.mk ⟨pre', suf', ys, s.M ++ [s0.pl], s.nx.set (off u) ((off u + s0.a.length + s0.b.length : Nat) : Int), prSet s.pr v (off u + s0.a.length + s0.b.length) (off u)⟩ sv2 v96
      ⟨i1', by rw [hq2, ← ea, ← eb, ho]; exact i2', hhy, .inr (by show ys.length < _; omega), by rw [hq2, ← i5, hq1, ← ea, ← eb]; simp⟩ (by show ys.length < _; omega) (by repeat (first | exact Sub.nil | refine Sub.cons rfl (by rfl) ?_)) (by
       show ∀ w, _ → Sat R (accI v96 (ints (s.M ++ [s0.pl])) :: rowO br bm pv nv qv sv2 (pre' ++ suf') _ _ ys O) w
       rw [hq2, ← ea, ← eb, show ints (s.M ++ [s0.pl]) = ints s.M ++ [((s0.pl : Nat) : Int)] from by simp [ints]]; exact Z.F)
    ·
     have i1' := i1.bad hys hc2
     refine WC.skip ?_
     refine blockQ.normal ?_
     exact loopQ3.mk ⟨s.pre, s.suf, ys, s.M, s.nx, s.pr⟩ sv2 mv ⟨i1', i2, hhy, .inr (by show ys.length < _; omega), i5⟩ (by show ys.length < _; omega) (by repeat (first | exact Sub.nil | refine Sub.cons rfl (by rfl) ?_)) Z.F
  ·
   have hh : ∀ t ∈ s.H, t.rank ≠ r := fun t ht e => by
    have hl0 : 0 < s.H.length := List.length_pos_of_mem ht
    have h1 := i3.least spOrd ht
    have h2 := i1.low _ (get!_mem hl0)
    unfold spLt at h1
    exact hc1 ⟨hl0, by omega⟩
   have hfin := i1.finish hr hh
   have hsH : s.H.length < H.length := by
    rcases i4 with h | h
    ·
     exact absurd ⟨by rw [h]; exact h0, by rw [h]; exact hr0⟩ hc1
    ·
     exact h
   have hcnt := i1.cnt
   have hml : (ints s.M).length = s.M.length := List.length_map _
   refine WC.exit ?_
   refine thenQ.exit ?_
   refine loopQ3.exit ?_
   refine blockQ.exit ?_
   refine thenQ.normal ?_
   refine WC.seq ?_
   refine WC.region ?_
   refine WL.rd rfl rfl rfl (Rd.move rfl rfl) ?_
   refine WL.rd rfl rfl rfl (Rd.lenA (enc := SL.one vi) (xs := ints s.M) rfl rfl Tryz.underlying42 Z.M) ?_
   refine WL.say 98 (u := vi s.M.length) rfl (by rw [hml]) ?_
   refine WL.rd rfl rfl rfl (Rd.move rfl rfl) ?_
   refine WL.nil ?_
   refine thenQ.normal ?_
   refine WC.block ?_
   refine WC.pick [99, 0, 97, 98] Z.P ?_
   refine WC.loop3 1 (fun (j : Nat) (sv3 : Value) (H2 : List Sp) => [(99, vi j)]) (fun (j : Nat) (sv3 : Value) (H2 : List Sp) => accI mv (ints s.M) :: rowO br bm pv nv qv sv3 (s.pre ++ s.suf) s.nx s.pr H2 O) (fun (j : Nat) (sv3 : Value) (H2 : List Sp) => j ≤ s.M.length ∧ Sound l n H2 ∧ Hp spLt H2 ∧ Cov l (s.pre ++ s.suf) H2 (s.M.drop j) ∧ H2.length ≤ s.H.length + 2 * j) (fun (j : Nat) (sv3 : Value) (H2 : List Sp) => s.M.length - j) (0) (sv1) (s.H) Z.L ?hinv2 (by repeat (first | exact Sub.nil | refine Sub.cons rfl (by rfl) ?_)) (fun _ h => h) ?_
   case hinv2 =>
    exact ⟨Nat.zero_le _, i1.sound, i3, i1.cov, by omega⟩
   intro j sv3 H2
   rintro ⟨j1, j2, j3, j4, j5⟩
   refine WC.seq ?_
   refine WC.region ?_
   refine WL.rd rfl rfl rfl (Rd.lss rfl rfl rfl) ?_
   refine WL.nil ?_
   refine thenQ.normal ?_
   refine WC.seq ?_
   refine WC.ite rfl (fun hc3 => ?_) (fun hc3 => ?_)
   ·
    obtain ⟨hA, hB, u, v, hqm, hom⟩ := i1.mok s.M[j]! (get!_mem Z.W)
    have hjm : (ints s.M)[j]? = some ((off u : Nat) : Int) := by
     rw [List.getElem?_map, get!_of_lt Z.W, hom]; rfl
    rw [hqm] at i2
    have hfq : Full (u ++ (A ++ B) :: v) := hqm ▸ i1.full
    have hnq : off (u ++ (A ++ B) :: v) = n := hqm ▸ i1.len
    have hnq2 := hnq
    rw [off_snoc] at hnq2
    have hAB : A ++ B ≠ [] := hfq.mid
    have hlAB := len_pos hAB
    have hprl := i2.pl
    refine WC.heap (R' := R) (O' := rowO br bm pv nv qv sv3 (u ++ (A ++ B) :: v) s.nx s.pr H2 (accI mv (ints s.M) :: O)) (fun w h => by rw [hqm] at h; exact Z.Fw h) ?_
    refine WC.skip ?_
    refine thenQ.normal ?_
    refine WC.seq ?_
    refine WC.block ?_
    refine WC.seq ?_
    refine WC.region ?_
    refine WL.rd rfl rfl rfl (Rd.idxA1 (enc := SL.one vi) (xs := ints s.M) (k := j) rfl S42 rfl rfl rfl Z.M Z.W) ?_
    refine WL.rd rfl rfl rfl (Rd.getA (g := vi) (xs := ints s.M) (k := j) (a := ((off u : Nat) : Int)) rfl C3 rfl Z.M hjm) ?_
    refine WL.rd rfl rfl rfl (Rd.assign rfl rfl) ?_
    refine WL.nil ?_
    refine thenQ.normal ?_
    refine WC.seq ?_
    refine WC.region ?_
    refine WL.rd rfl rfl rfl (Rd.move rfl rfl) ?_
    refine WL.rd rfl rfl rfl (Rd.move rfl rfl) ?_
    refine WL.rd rfl rfl rfl (Rd.nilc rfl rfl) ?_
    refine WL.rd rfl rfl rfl ((by exact Rd.field rfl F105_2 rfl rfl)) ?_
    refine WL.rd rfl rfl rfl (Rd.row1 (b := br) (off := 2) (u := qv) rfl C42 rfl Z.M rfl) ?_
    refine WL.rd rfl rfl rfl (Rd.move rfl rfl) ?_
    refine WL.rd rfl rfl rfl ((by exact Rd.idxA1 (k := off u) rfl S42 rfl rfl Z.W Z.M Z.W)) ?_
    refine WL.rd rfl rfl rfl (Rd.getA (g := vi) (xs := s.pr) (k := off u) (a := s.pr[off u]!) rfl C3 rfl Z.M (get?_of Z.W rfl)) ?_
    refine WL.op rfl ?_
    refine OpW.call rfl rfl Z.E Z.K rfl rfl rfl ?_
    refine meetP_spec i2 hfq hnq hn4 hmap hget j3 Z.W ?_; intro sv4 H3 p1 p2 p3 p4 p5
    refine WL.nil ?_
    refine thenQ.normal ?_
    refine WC.region ?_
    refine WL.rd rfl rfl rfl (Rd.move rfl rfl) ?_
    refine WL.rd rfl rfl rfl (Rd.move rfl rfl) ?_
    refine WL.op rfl ?_
    refine OpW.call rfl rfl Z.E Z.K rfl rfl rfl ?_
    refine meet_spec (u := u) (a := A ++ B) (v := v) i2 hfq hnq hn4 hmap hget p5 Z.W ?_; intro sv5 H4 hM hh4
    refine WL.nil ?_
    refine blockQ.normal ?_
    refine thenQ.normal ?_
    refine WC.region ?_
    refine WL.rd rfl rfl rfl (Rd.add rfl rfl rfl Z.W) ?_
    refine WL.rd rfl rfl rfl (Rd.move rfl rfl) ?_
    refine WL.nil ?_
    have hM3 := hM.cnt
    refine loopQ3.mk (j + 1) sv5 H4 ⟨by omega, fun t ht => ?_, hh4, fun u' a b v' r' e hr' => ?_, by omega⟩ Z.W (by repeat (first | exact Sub.nil | refine Sub.cons rfl (by rfl) ?_)) (fun w h => by rw [hqm]; exact Z.Fw h)
    ·
     rcases hM.new t ht with g | ⟨b, v', r', e, hr', rfl⟩
     ·
      rcases p2 t g with g | g
      ·
       exact j2 t g
      ·
       exact g
     ·
      exact ⟨hr', by show off u < n; omega, hAB⟩
    ·
     have hf1 := i1.full
     rcases j4 u' a b v' r' e hr' with g | g | g
     ·
      exact .inl (hM.old _ (p1 _ g))
     ·
      rcases drop_mem g Z.W with g | g
      ·
       obtain ⟨e1, e2, e3⟩ := place hf1 e hqm Z.W
       subst e1; subst e2
       exact .inl (hM.got b v' r' e3.symm hr')
      ·
       exact .inr (.inl g)
     ·
      rcases drop_mem g Z.W with g | g
      ·
       have e0 : s.pre ++ s.suf = (u' ++ [a]) ++ b :: v' := by rw [e]; simp
       obtain ⟨e1, e2, e3⟩ := place hf1 e0 hqm (by rw [off_snoc, off_nil]; omega)
       subst e2
       exact .inl (hM.old _ (p4 u' a r' e1.symm hr'))
      ·
       exact .inr (.inr g)
   ·
    obtain rfl : j = s.M.length := by omega
    rw [List.drop_length] at j4
    refine WC.heap (R' := R) (O' := rowO br bm pv nv qv sv3 (s.pre ++ s.suf) s.nx s.pr H2 O) Z.F ?_
    refine WC.exit ?_
    refine thenQ.exit ?_
    refine loopQ3.exit ?_
    refine blockQ.exit ?_
    refine Ret.normal (Ret.zero Tryz.results40 ?_)
    exact hk sv3 _ _ _ H2 ⟨i1.full, i1.len, j2, j4⟩ i2 j3 (fun out h => Spl.round hr hmin (hfin ▸ h)) i5 Z.W
end
end Go.Proofs.YtkobjfjmkhmehaaGreatDoor.Mg
namespace Go.SL
open Go Go.RowKit
def fw (ro : Option Nat) : Fence := { Fence.wide with round := ro }
theorem stepsIn_fw {P : Program} {ro : Option Nat} {m m' : Machine} : StepsIn (Machine.fenced P (fw ro)) P m m' ↔ Steps P m m' := stepsIn_wide
theorem callsIn_fw {P : Program} {ro : Option Nat} {k : Nat} {f : FuncId} {args : Array Value} {w : World} {R : Ending → World → Prop} : CallsIn (fw ro) k P f args w R ↔ Calls P f args w R := callsIn_wide (n := k)
def noDef (l : List Oper) : Bool := l.all fun o => match o.op with
 | .defer _ => false
 | _ => true
theorem noDef_spec {l : List Oper} (h : noDef l = true) {o : Oper} (ho : o ∈ l) : ∀ c, o.op ≠ .defer c := fun c e => by
 have := List.all_eq_true.1 h o ho
 rw [e] at this
 cases this
section
variable {P : Program} {ro : Option Nat} {o : Oper} {a : Act} {w : World} {K : Act → World → Prop} {Q : Exit → Act → World → Prop} {ops : Array Oper} {md : Region.Mode}
theorem wp_in (hd : ∀ c, o.op ≠ .defer c) (h : o.wp P a w K Q) : o.wpIn (fw ro) 0 P a w K Q := by
 refine ⟨fun _ _ => trivial, ?_⟩
 show o.uponIn _ _ _ _ _ _ ((o.semAt ro a.eval).run P w)
 rw [Oper.semAt_eq ro a.eval o hd]
 unfold Oper.wp at h
 generalize (execOp a.eval o).run P w = r at h ⊢
 have dep : (fw ro).depth.isSome = true → 1 ≤ 0 := fun hx => by cases hx
 cases r with
 | ok x w' =>
   cases x with
   | value v => exact h
   | skip => exact h
   | defer d => exact h
   | enter f args => exact ⟨dep, callsIn_fw.2 h⟩
   | row row args => exact ⟨dep, fun c cs _ => let ⟨v, w', r, s⟩ := h c cs; ⟨v, w', r, stepsIn_fw.2 s⟩⟩
   | round l f tmps assign body => exact h.elim
   | _ => exact h.elim
 | halt x w' => cases x <;> exact h
theorem wpOp_in {i : Nat} (hd : ∀ o ∈ ops.toList, ∀ c, o.op ≠ .defer c) (hQ : ¬ LetsOut Q) (h : wpOp P ops Q i K a w) : wpOpIn (fw ro) 0 P ops Q i K a w := by
 unfold wpOp at h
 unfold wpOpIn
 cases e : ops[i]? with
 | none => rw [e] at h; exact h
 | some o =>
   rw [e] at h
   simp only at h ⊢
   have hm : o ∈ ops.toList := Array.mem_toList_iff.2 (Array.mem_of_getElem? e)
   split
   · rename_i hw
     rw [if_pos hw] at h
     rcases h with h | h
     · exact wp_in (hd o hm) h
     · exact absurd h.2 hQ
   · rename_i hw
     rw [if_neg hw] at h
     exact ⟨fun _ _ => trivial, h⟩
theorem wpAny_in (hd : ∀ o ∈ ops.toList, ∀ c, o.op ≠ .defer c) (hQ : ¬ LetsOut Q) : ∀ (fuel : Nat) (listed : Array Bool) (a : Act) (w : World), wpAny P md ops Q fuel listed a w → wpAnyIn (fw ro) 0 P md ops Q fuel listed a w
 | 0, _, _, _, h => h
 | fuel + 1, listed, a, w, h => ⟨h.1, fun i hi => wpOpIn_mono (fun a w => wpAny_in hd hQ fuel _ a w) (wpOp_in hd hQ (h.2 i hi))⟩
theorem wpList_in (hQ : ¬ LetsOut Q) : ∀ (l : List Oper) (a : Act) (w : World), (∀ o ∈ l, ∀ c, o.op ≠ .defer c) → wpList P ops Q l a w → wpListIn (fw ro) 0 P ops Q l a w
 | [], _, _, _, h => h
 | o :: l, a, w, hd, h => by
   unfold wpList at h
   unfold wpListIn
   split
   · rename_i hw
     rw [if_pos hw] at h
     rcases h with h | h
     · exact Oper.wpIn_mono (fun a w => wpList_in hQ l a w (fun o ho => hd o (List.mem_cons_of_mem _ ho))) (wp_in (hd o List.mem_cons_self) h)
     · exact absurd h.2 hQ
   · rename_i hw
     rw [if_neg hw] at h
     exact ⟨fun _ _ => trivial, wpList_in hQ l _ w (fun o ho => hd o (List.mem_cons_of_mem _ ho)) h⟩
end
def WR (ro : Option Nat) (P : Program) (n : Sz) (c : Code) (Q : Post) (L : Env) (R : List RO) (O : List Own) : Prop :=
 ∀ a w, Fr n L a → Sat R O w → c.wpIn (fw ro) 0 P (lift n Q) a w
/-- The operations of a region of a function (not of a round), of which some may call yield. -/
def WY (P : Program) (n : Sz) (ops : Array Oper) (Q : Post) (rest : List Oper) (L : Env) (R : List RO) (O : List Own) : Prop :=
 ∀ a w, Fr n L a → Sat R O w → wpListIn (fw none) 0 P ops (lift n Q) rest a w
theorem lift_out {n : Sz} {Q : Post} : ¬ LetsOut (lift n Q) := fun ⟨_, _, h⟩ => h
section
variable {P : Program} {ro : Option Nat} {n : Sz} {ops : Array Oper} {Q : Post} {rest : List Oper} {o : Oper} {L : Env} {R : List RO} {O O' : List Own}
theorem WR.region {id : Nat} {l : List Oper} (h : WL P n l.toArray Q l L R O) (hd : noDef l = true := by kernel_rfl) : WR ro P n (.region id l.toArray false) Q L R O :=
 fun a w hf hs => wpIn_region_lit (wpList_in lift_out l a w (fun o ho => noDef_spec hd ho) (h a w hf hs))
theorem WR.regionY {id : Nat} {l : List Oper} (h : WY P n l.toArray Q l L R O) : WR none P n (.region id l.toArray false) Q L R O :=
 fun a w hf hs => wpIn_region_lit (h a w hf hs)
theorem WR.drawn {id : Nat} {l : List Oper} (T : List Own) (m : Nat) (hlen : l.length = m) (hm : P.follows .mixedOrders = true) (h : WD P n l.toArray Q R T m (Array.replicate m false) L R O) (hd : noDef l = true := by kernel_rfl) : WR ro P n (.region id l.toArray true) Q L R O := by
 subst hlen
 intro a w hf hs
 exact wpIn_region_any hm (wpAny_in (fun o ho => noDef_spec hd (by simpa using ho)) lift_out _ _ _ _ (wpAny_of_held _ _ _ _ (h a _ hf (hs.drew _))))
theorem WY.nil (h : Q .normal L R O) : WY P n ops Q [] L R O := fun _ _ hf hs => wpListIn_nil (lift_normal h hf hs)
theorem WY.op (hg : o.guard = none) (h : OpW P n o L R O (fun L' R' O' => WY P n ops Q rest L' R' O')) (hd : noDef [o] = true := by kernel_rfl) : WY P n ops Q (o :: rest) L R O := by
 intro a w hf hs
 refine wpListIn_plain hg fun K hK => wp_in (noDef_spec hd List.mem_cons_self) ?_
 exact Oper.wp_mono (fun a' w' ⟨L', R', O', hk, hf', hs'⟩ => hK _ _ (hk a' w' hf' hs')) (h a w hf hs _)
theorem WY.rd {v : Value} {d : Nat} (hg : o.guard = none) (hd : o.dst = some d) (hn : Nat.blt d n.n = true) (h : Rd P o L R O v) (k : WY P n ops Q rest ((d, v) :: L) R O) (hdf : noDef [o] = true := by kernel_rfl) : WY P n ops Q (o :: rest) L R O :=
 WY.op hg (OpW.rd hd hn h k) hdf
theorem WY.say (t : Nat) {v u : Value} (ht : Env.find L t = some v) (e : v = u) (k : WY P n ops Q rest ((t, u) :: L) R O) : WY P n ops Q rest L R O :=
 fun a w hf hs => k a w (hf.known ht e) hs
theorem WY.heap {R' : List RO} {O' : List Own} (hs : ∀ w, Sat R O w → Sat R' O' w) (k : WY P n ops Q rest L R' O') : WY P n ops Q rest L R O := fun a w hf h => k a w hf (hs w h)
def thenR (ro : Option Nat) (P : Program) (n : Sz) (y : Code) (Q : Post) : Post
 | .normal, L, R, O => WR ro P n y Q L R O
 | e, L, R, O => Q e L R O
theorem thenR.normal {y : Code} (h : WR ro P n y Q L R O) : thenR ro P n y Q .normal L R O := h
theorem thenR.exit {y : Code} {id : Nat} (h : Q (.exit id) L R O) : thenR ro P n y Q (.exit id) L R O := h
theorem WR.seq {x y : Code} (h : WR ro P n x (thenR ro P n y Q) L R O) : WR ro P n (.seq x y) Q L R O := by
 intro a w hf hs
 refine wpIn_seq (wpIn_mono (h a w hf hs) fun e a' w' hq => ?_)
 cases e with
 | normal => obtain ⟨L', R', O', hk, hf', hs'⟩ := hq; exact hk a' w' hf' hs'
 | exit id => exact hq
 | goto l => exact hq
 | ret => exact hq
 | panic c => exact hq
 | outgrown => exact hq
theorem WR.skip (h : Q .normal L R O) : WR ro P n .skip Q L R O := fun _ _ hf hs => wpIn_skip (lift_normal h hf hs)
theorem WR.exit {id : Nat} (h : Q (.exit id) L R O) : WR ro P n (.exit id) Q L R O := fun _ _ hf hs => wpIn_exit ⟨_, _, _, h, hf, hs⟩
theorem WR.retO {O' : List Own} (hF : FinO n.ds O O') (h : Q .ret L R O') : WR ro P n .ret Q L R O := fun _ _ hf hs => wpIn_ret ⟨_, _, _, h, hf.own, by rw [hf.defers]; exact hF.fin hs⟩
theorem WR.ret (h : Q .ret L R O) (hF : FinO n.ds O O := by exact FinO.nil) : WR ro P n .ret Q L R O := WR.retO hF h
theorem WR.block {id : Nat} {c : Code} (h : WR ro P n c (blockQ id Q) L R O) : WR ro P n (.block id c) Q L R O := by
 intro a w hf hs
 refine wpIn_block (wpIn_mono (h a w hf hs) fun e a' w' hq => ?_)
 cases e with
 | normal => exact hq
 | exit id' =>
   obtain ⟨L', R', O', hk, hf', hs'⟩ := hq
   by_cases e : id' = id
   · subst e
     simp only [blockQ, Nat.beq_refl] at hk
     simp only [Exit.inBlock, if_true]
     exact ⟨_, _, _, hk, hf', hs'⟩
   · simp only [blockQ, show Nat.beq id' id = false from by rw [← Bool.not_eq_true, Nat.beq_eq]; exact e] at hk
     simp only [Exit.inBlock, e, if_false]
     exact ⟨_, _, _, hk, hf', hs'⟩
 | goto l => exact hq
 | ret => exact hq
 | panic c => exact hq
 | outgrown => exact hq
theorem WR.cond {c : Operand} {x y : Code} {b : Bool} (hc : ev L c = some (.bool b)) (ht : b = true → WR ro P n x Q L R O) (hf : b = false → WR ro P n y Q L R O) : WR ro P n (.cond c x y) Q L R O := by
 intro a w hfr hs
 exact wpIn_cond_split (hfr.ev hc) (fun h => ht h a w hfr hs) (fun h => hf h a w hfr hs)
theorem WR.ite {c : Operand} {x y : Code} {p : Prop} [Decidable p] (hc : ev L c = some (.bool (decide p))) (ht : p → WR ro P n x Q L R O) (hf : ¬ p → WR ro P n y Q L R O) : WR ro P n (.cond c x y) Q L R O :=
 WR.cond hc (fun h => ht (of_decide_eq_true h)) (fun h => hf (of_decide_eq_false h))
theorem WR.no {c : Operand} {x y : Code} (hc : ev L c = some (.bool false)) (hf : WR ro P n y Q L R O) : WR ro P n (.cond c x y) Q L R O :=
 WR.cond hc (fun h => by cases h) (fun _ => hf)
theorem WR.frame {c : Code} {L' : Env} (hs : Sub L' L) (k : WR ro P n c Q L' R O) : WR ro P n c Q L R O := fun a w hf h => k a w (hf.sub hs) h
theorem WR.pick {c : Code} (ks : List Nat) {L' : Env} (hp : Pick L ks L') (k : WR ro P n c Q L' R O) : WR ro P n c Q L R O := WR.frame hp.sub k
theorem WR.heap {c : Code} {R' : List RO} {O' : List Own} (hs : ∀ w, Sat R O w → Sat R' O' w) (k : WR ro P n c Q L R' O') : WR ro P n c Q L R O := fun a w hf h => k a w hf (hs w h)
theorem WR.say {c : Code} (t : Nat) {v u : Value} (ht : Env.find L t = some v) (e : v = u) (k : WR ro P n c Q ((t, u) :: L) R O) : WR ro P n c Q L R O :=
 fun a w hf hs => k a w (hf.known ht e) hs
theorem WR.loop {c : Code} {α : Type} (LF : α → Env) (RF : α → List RO) (OF : α → List Own) (I : α → Prop) (μ : α → Nat) (x0 : α) (h0 : I x0) (hL : Sub (LF x0) L) (hS : ∀ w, Sat R O w → Sat (RF x0) (OF x0) w)
 (round : ∀ x, I x → WR ro P n c (loopQ LF RF OF I μ (μ x) Q) (LF x) (RF x) (OF x)) : WR ro P n (.loop c) Q L R O := by
 intro a0 w0 hf0 hs0
 have hst : ∀ a w, (∃ x, I x ∧ Fr n (LF x) a ∧ Sat (RF x) (OF x) w) → ∃ x, (I x ∧ Fr n (LF x) a ∧ Sat (RF x) (OF x) w) ∧ ∀ y, I y → Fr n (LF y) a → Sat (RF y) (OF y) w → μ x ≤ μ y := fun a w ⟨x, hx⟩ => by
  have : ∀ m x, μ x ≤ m → (I x ∧ Fr n (LF x) a ∧ Sat (RF x) (OF x) w) → ∃ x, (I x ∧ Fr n (LF x) a ∧ Sat (RF x) (OF x) w) ∧ ∀ y, I y → Fr n (LF y) a → Sat (RF y) (OF y) w → μ x ≤ μ y := by
   intro m
   induction m with
   | zero => exact fun x hm hx => ⟨x, hx, fun y _ _ _ => by omega⟩
   | succ m ih =>
     intro x hm hx
     by_cases h : ∃ y, (I y ∧ Fr n (LF y) a ∧ Sat (RF y) (OF y) w) ∧ μ y ≤ m
     · obtain ⟨y, hy, hl⟩ := h; exact ih y hl hy
     · exact ⟨x, hx, fun y h1 h2 h3 => Nat.le_of_not_lt fun hlt => h ⟨y, ⟨h1, h2, h3⟩, by omega⟩⟩
  exact this _ x (Nat.le_refl _) hx
 haveI : ∀ (a : Act) (w : World), Decidable (∃ x, I x ∧ Fr n (LF x) a ∧ Sat (RF x) (OF x) w) := fun _ _ => Classical.propDecidable _
 let M : Act → World → Nat := fun a w => if h : ∃ x, I x ∧ Fr n (LF x) a ∧ Sat (RF x) (OF x) w then μ (hst a w h).choose else 0
 refine wpIn_loop (fun a w => ∃ x, I x ∧ Fr n (LF x) a ∧ Sat (RF x) (OF x) w) M ⟨x0, h0, hf0.sub hL, hS _ hs0⟩ fun a w hI => ?_
 have hM : M a w = μ (hst a w hI).choose := dif_pos hI
 obtain ⟨⟨h1, h2, h3⟩, h4⟩ := (hst a w hI).choose_spec
 refine wpIn_mono (round _ h1 a w h2 h3) fun e a' w' hq => ?_
 cases e with
 | normal =>
   obtain ⟨L', R', O', ⟨y, hy, hlt, hL', hS'⟩, hf', hs'⟩ := hq
   have hJ : ∃ x, I x ∧ Fr n (LF x) a' ∧ Sat (RF x) (OF x) w' := ⟨y, hy, hf'.sub hL', hS' _ hs'⟩
   refine ⟨hJ, ?_⟩
   have hM' : M a' w' = μ (hst a' w' hJ).choose := dif_pos hJ
   rw [hM, hM']
   exact Nat.lt_of_le_of_lt ((hst a' w' hJ).choose_spec.2 y hy (hf'.sub hL') (hS' _ hs')) hlt
 | exit id => exact hq
 | goto l => exact hq
 | ret => exact hq
 | panic c => exact hq
 | outgrown => exact hq
section
variable {c : Code} {α β γ : Type}
theorem WR.loop1 (m : Nat) (ch : α → Env) (OF : α → List Own) (I : α → Prop) (μ : α → Nat) (x0 : α) {pre Lc : Env} (_hs : Split m L pre Lc) (h0 : I x0) (hL : Sub (ch x0 ++ Lc) L) (hS : ∀ w, Sat R O w → Sat R (OF x0) w)
 (round : ∀ x, I x → WR ro P n c (loopQ1 ch Lc (fun _ => R) OF I μ (μ x) Q) (ch x ++ Lc) R (OF x)) : WR ro P n (.loop c) Q L R O :=
 WR.loop (α := α) (fun q => ch q ++ Lc) (fun _ => R) OF I μ x0 h0 hL hS (fun q hq => round q hq)
end
theorem Fun.enterR {f : FuncId} {fn : Func} {n : Nat} {c : Code} {l : List Value} {post : Value → List RO → List Own → Prop} (hf : P.funcs[f]? = some fn) (hb : fn.body = some c) (hn : fn.ntmps = n) (hl : Nat.ble l.length n = true) {L0 : Env} (hL : argsEnv l 0 = L0)
 (h : WR none P ⟨n, []⟩ c (retQ P fn ⟨n, []⟩ post) L0 R O) : Fun P f l.toArray R O post := by
 intro w hs
 refine callsIn_fw.1 (callsIn_of_wp_marks (F := fw none) (n := 0) hf hb trivial ?_)
 have hl' : l.length ≤ n := Nat.le_of_ble_eq_true hl
 refine wpIn_mono (h _ w ⟨?_, rfl, ?_⟩ hs) fun e a' w' hq => ?_
 · simp [hn]; omega
 · intro t v ht
   rw [← hL] at ht
   obtain ⟨_, h2⟩ := argsEnv_find ht
   simp only [Nat.sub_zero] at h2
   have hlt : t < l.length := (List.getElem?_eq_some_iff.1 h2).1
   simp only [Array.getD_eq_getD_getElem?]
   rw [Array.getElem?_append_left (by simpa using hlt)]
   simp [h2]
 · cases e with
   | normal => obtain ⟨L', R', O', ⟨v, hr, hp⟩, hf', hs'⟩ := hq; exact Fin.leaves (f := f) hr hp hf'.own (.inl ⟨hf'.defers, hs'⟩)
   | ret => obtain ⟨L', R', O', ⟨v, hr, hp⟩, hf', hs'⟩ := hq; exact Fin.leaves (f := f) hr hp hf' hs'
   | exit id => obtain ⟨L', R', O', hk, _⟩ := hq; exact hk.elim
   | goto l => obtain ⟨L', R', O', hk, _⟩ := hq; exact hk.elim
   | panic c => exact hq.elim
   | outgrown => exact hq.elim
/-- What one call of yield does. -/
def Yld (P : Program) (l : Nat) (args : List Value) (R : List RO) (O : List Own) (K : Bool → List RO → List Own → Prop) : Prop :=
 ∀ w, Sat R O w → YieldAt (fw none) 0 P l args.toArray w fun e w' => ∃ b R' O', e = .returned (.bool b) ∧ K b R' O' ∧ Sat R' O' w'
theorem WY.yield {l : Nat} {x : Operand} {xs : List Operand} {azs : List Value} {ts : Array TypeId} {d : Nat} (hg : o.guard = none) (ho : o.op = .call { callee := .value x, args := xs.toArray, argTypes := ts })
 (hx : ev L x = some (.func (.yield l) #[] #[])) (has : Evs L xs azs) (hd : o.dst = some d) (hn : Nat.blt d n.n = true)
 (h : Yld P l azs R O (fun b R' O' => WY P n ops Q rest ((d, .bool b) :: L) R' O')) : WY P n ops Q (o :: rest) L R O := by
 intro a w hf hs
 refine wpListIn_plain hg fun K hK => ⟨fun _ _ => trivial, ?_⟩
 have e1 : a.eval x = _ := hf.ev hx
 have e2 := has.eval (ρ := a.eval) (fun x u hx => hf.ev hx)
 obtain ⟨fn, tmps, assign, body, hy, hR⟩ := h w hs
 have hr : (execOp a.eval o).run P w = .ok (.round l fn tmps assign body) w := by
  simp only [execOp, ho, resolve, e1, Deferred.ofValue, List.map_toArray, e2, Sem.run_bind, Sem.run_pure, Result.andThen_ok, invoke]
  simpa using hy
 show o.uponIn _ _ _ _ _ _ ((o.semAt none a.eval).run P w)
 rw [Oper.semAt_none, hr, Oper.uponIn_round]
 refine ⟨fun hx => Bool.noConfusion hx, hR.mono fun e w' hq => ?_⟩
 obtain ⟨b, R', O', he, hk, hs'⟩ := hq
 subst he
 rw [hd]
 exact hK _ _ (hk _ _ (hf.put hn _) hs')
def recC (l : Nat) (n : Sz) (L : Env) (D : Nat) (st : LoopState) (pe : Option Code) (ps : Array Tmp) (assign body : Code) : Own :=
 ⟨[l], fun w => ∃ f tmps, w.heap[l]? = some (.loop { state := st, pending := pe, fn := f, tmps, params := ps, assign, body, defers := D }) ∧ Fr ⟨n.n, []⟩ L { tmps := tmps, defers := [] }⟩
def paramsEnv : List Nat → List Value → Env → Env
 | p :: ps, v :: vs, L => paramsEnv ps vs ((p, v) :: L)
 | _, _, L => L
theorem Fr.params : ∀ (ps : List Nat) (vs : List Value) {L : Env} {m : Nat} {tmps : Array Value}, ps.all (fun p => Nat.blt p m) = true → Fr ⟨m, []⟩ L { tmps := tmps, defers := [] } →
 Fr ⟨m, []⟩ (paramsEnv ps vs L) { tmps := (ps.zip vs).foldl (fun t (p, v) => t.setIfInBounds p v) tmps, defers := [] }
 | [], _, _, _, _, _, h => by simpa [paramsEnv] using h
 | _ :: _, [], _, _, _, _, h => by simpa [paramsEnv] using h
 | p :: ps, v :: vs, L, m, tmps, hp, h => by
   simp only [List.all_cons, Bool.and_eq_true] at hp
   simp only [List.zip_cons_cons, List.foldl_cons, paramsEnv]
   exact Fr.params ps vs hp.2 (h.put hp.1 v)
theorem Sat.loopPut {l : Nat} {n : Sz} {L : Env} {D : Nat} {st st' : LoopState} {pe pe' : Option Code} {ps : Array Tmp} {assign body : Code} {w : World} {f : FuncId} {tmps : Array Value}
 (h : Sat R (recC l n L D st pe ps assign body :: O) w) (hf : Fr ⟨n.n, []⟩ L { tmps := tmps, defers := [] }) :
 Sat R (recC l n L D st' pe' ps assign body :: O) (w.putObj l (.loop { state := st', pending := pe', fn := f, tmps, params := ps, assign, body, defers := D })) := by
 have hlt : l < w.heap.size := h.lt l (by simp [owned, recC])
 refine h.update _ ⟨rfl, rfl, rfl, by simp [World.putObj], fun k _ hn => World.putObj_heap_other (fun e => hn (by rw [e]; exact List.mem_singleton.2 rfl))⟩
  (fun k hk => .inl hk) (fun k hk => by rw [List.mem_singleton.1 hk]; simpa [World.putObj] using hlt) (by simp [recC]) (fun w2 ha _ => ⟨f, tmps, ?_, hf⟩)
 rw [ha.2.2.2.2 l (by simpa [World.putObj] using hlt) (fun hn => hn (by simp [recC]))]
 exact World.putObj_heap_same hlt
/-- How a round may end: off its body's end, or by 'return'. -/
def roundQ (l : Nat) (n : Sz) (L : Env) (D : Nat) (ps : Array Tmp) (assign body : Code) (K : Bool → List RO → List Own → Prop) : Post
 | .normal, _, R, O => ∃ O2, Take (recC l n L D .busy none ps assign body) O O2 ∧ K true R (recC l n L D .ready none ps assign body :: O2)
 | .ret, _, R, O => ∃ O2, Take (recC l n L D .busy none ps assign body) O O2 ∧ K false R (recC l n L D .done (some .ret) ps assign body :: O2)
 | _, _, _, _ => False
def assignQ (l : Nat) (P : Program) (n : Sz) (L : Env) (D : Nat) (ps : Array Tmp) (assign body : Code) (K : Bool → List RO → List Own → Prop) : Post
 | .normal, L', R, O => ∃ O2, Take (recC l n L D .ready none ps assign body) O O2 ∧ WR (some l) P ⟨n.n, []⟩ body (roundQ l n L D ps assign body K) L' R (recC l n L D .busy none ps assign body :: O2)
 | _, _, _, _ => False
theorem assignQ.mk {l : Nat} {Lr L' : Env} {D : Nat} {ps : Array Tmp} {assign body : Code} {K : Bool → List RO → List Own → Prop} {O2 : List Own} (hT : Take (recC l n Lr D .ready none ps assign body) O O2)
 (h : WR (some l) P ⟨n.n, []⟩ body (roundQ l n Lr D ps assign body K) L' R (recC l n Lr D .busy none ps assign body :: O2)) : assignQ l P n Lr D ps assign body K .normal L' R O := ⟨O2, hT, h⟩
theorem roundQ.on {l : Nat} {Lr L' : Env} {D : Nat} {ps : Array Tmp} {assign body : Code} {K : Bool → List RO → List Own → Prop} {O2 : List Own} (hT : Take (recC l n Lr D .busy none ps assign body) O O2)
 (h : K true R (recC l n Lr D .ready none ps assign body :: O2)) : roundQ l n Lr D ps assign body K .normal L' R O := ⟨O2, hT, h⟩
theorem Yld.round {l : Nat} {Lr : Env} {D : Nat} {ps : List Nat} {assign body : Code} {args : List Value} {K : Bool → List RO → List Own → Prop} {L0 : Env}
 (hT : Take (recC l n Lr D .ready none ps.toArray assign body) O O') (hsz : args.length = ps.length) (hps : ps.all (fun p => Nat.blt p n.n) = true) (hL0 : paramsEnv ps args Lr = L0)
 (h : WR (some l) P ⟨n.n, []⟩ assign (assignQ l P n Lr D ps.toArray assign body K) L0 R (recC l n Lr D .ready none ps.toArray assign body :: O')) : Yld P l args R O K := by
 intro w hs
 have hs1 := hs.perm hT.perm
 obtain ⟨f, tmps, hl, hf⟩ := hs1.see List.mem_cons_self
 have hy := run_yield (P := P) (args := args.toArray) hl (by simpa using hsz)
 refine ⟨f, _, assign, body, hy, ?_⟩
 refine roundIn_of_wpIn trivial ?_
 have hzip : (ps.toArray.zip args.toArray).foldl (fun t (p, v) => t.setIfInBounds p v) tmps = (ps.zip args).foldl (fun t (p, v) => t.setIfInBounds p v) tmps := by
  rw [← Array.foldl_toList]; simp
 have hf0 : Fr ⟨n.n, []⟩ L0 { tmps := (ps.toArray.zip args.toArray).foldl (fun t (p, v) => t.setIfInBounds p v) tmps, defers := [] } := by
  rw [hzip, ← hL0]; exact Fr.params ps args hps hf
 refine wpIn_mono (h _ w hf0 hs1) fun e a1 w1 hq => ?_
 cases e with
 | normal =>
   obtain ⟨L1, R1, O1, ⟨O2, hT1, hb⟩, hf1, hs1⟩ := hq
   have hs2 := hs1.perm hT1.perm
   obtain ⟨f1, tmps1, hl1, hfr1⟩ := hs2.see List.mem_cons_self
   refine ⟨_, run_beginRound hl1 rfl, ?_⟩
   refine wpIn_mono (hb a1 _ hf1 (hs2.loopPut hfr1)) fun e a2 w2 hq => ?_
   cases e with
   | normal =>
     obtain ⟨L2, R2, O3, ⟨O4, hT2, hk⟩, _, hs3⟩ := hq
     have hs4 := hs3.perm hT2.perm
     obtain ⟨f2, tmps2, hl2, hfr2⟩ := hs4.see List.mem_cons_self
     exact ⟨_, _, run_endRound none hl2, true, _, _, rfl, hk, hs4.loopPut hfr2⟩
   | ret =>
     obtain ⟨L2, R2, O3, ⟨O4, hT2, hk⟩, hfr, hfin⟩ := hq
     rcases hfin with ⟨_, hs3⟩ | ⟨D', _, hs3⟩
     · have hs4 := hs3.perm hT2.perm
       obtain ⟨f2, tmps2, hl2, hfr2⟩ := hs4.see List.mem_cons_self
       exact ⟨_, _, run_endRound (some .ret) hl2, false, _, _, rfl, hk, hs4.loopPut hfr2⟩
     · have hs4 := hs3.drop.perm hT2.perm
       obtain ⟨f2, tmps2, hl2, hfr2⟩ := hs4.see List.mem_cons_self
       exact ⟨_, _, run_endRound (some .ret) hl2, false, _, _, rfl, hk, hs4.loopPut hfr2⟩
   | exit id => obtain ⟨_, _, _, hk, _⟩ := hq; exact hk.elim
   | goto t => obtain ⟨_, _, _, hk, _⟩ := hq; exact hk.elim
   | panic c => exact hq.elim
   | outgrown => exact hq.elim
 | ret => obtain ⟨_, _, _, hk, _⟩ := hq; exact hk.elim
 | exit id => obtain ⟨_, _, _, hk, _⟩ := hq; exact hk.elim
 | goto t => obtain ⟨_, _, _, hk, _⟩ := hq; exact hk.elim
 | panic c => exact hq.elim
 | outgrown => exact hq.elim
theorem Yld.mono {l : Nat} {args : List Value} {K K' : Bool → List RO → List Own → Prop} (h : Yld P l args R O K) (hk : ∀ b R O, K b R O → K' b R O) : Yld P l args R O K' := fun w hs => by
 obtain ⟨fn, tmps, assign, body, hy, hR⟩ := h w hs
 exact ⟨fn, tmps, assign, body, hy, hR.mono fun e w' ⟨b, R', O', he, hK, hs'⟩ => ⟨b, R', O', he, hk _ _ _ hK, hs'⟩⟩
theorem Yld.heap {l : Nat} {args : List Value} {K : Bool → List RO → List Own → Prop} {R' : List RO} (hs : ∀ w, Sat R O w → Sat R' O' w) (h : Yld P l args R' O' K) : Yld P l args R O K := fun w h0 => h w (hs w h0)
/-- Only a return is taken. -/
def onlyRet (Q : Post) : Post
 | .ret, L, R, O => Q .ret L R O
 | _, _, _, _ => False
theorem onlyRet.mk {Q : Post} (h : Q .ret L R O) : onlyRet Q .ret L R O := h
abbrev markOf (D : Nat) : List Deferred := [{ target := .collected D, args := #[] }]
/-- What the statement asks, with what stands behind it in the function. -/
def RangeOk (P : Program) (n : Sz) (g : Operand) (ps : List Nat) (assign body y : Code) (Q : Post) (L : Env) (R : List RO) (O : List Own) : Prop :=
 ∃ gf lb, ev L g = some (.func (.func gf) #[] (List.toArray lb)) ∧ hasBody P gf = true ∧
  ∀ l D, Fun P gf (.func (.yield l) #[] #[] :: lb).toArray R (recC l n L D .ready none ps.toArray assign body :: dfC D :: O) (fun _ R' O' => ∃ O2, Take (recC l n L D .ready none ps.toArray assign body) O' O2 ∧ WC P ⟨n.n, markOf D⟩ y (onlyRet Q) L R' O2)
theorem RangeOk.mk {g : Operand} {ps : List Nat} {assign body y : Code} {gf : Nat} {lb : List Value} (hg : ev L g = some (.func (.func gf) #[] lb.toArray)) (hb : hasBody P gf = true)
 (h : ∀ l D, Fun P gf (.func (.yield l) #[] #[] :: lb).toArray R (recC l n L D .ready none ps.toArray assign body :: dfC D :: O) (fun _ R' O' => ∃ O2, Take (recC l n L D .ready none ps.toArray assign body) O' O2 ∧ WC P ⟨n.n, markOf D⟩ y (onlyRet Q) L R' O2)) :
 RangeOk P n g ps assign body y Q L R O := ⟨gf, lb, hg, hb, h⟩
theorem RangeOk.core {g : Operand} {ps : List Nat} {assign body y : Code} {id : Nat} {a : Act} {w : World} (hds : n.ds = []) (hr : RangeOk P n g ps assign body y Q L R O) (hf : Fr n L a) (hs : Sat R O w) :
 (Code.block id (.rangeFunc g ps.toArray assign body)).wpIn Fence.wide 0 P (Exit.then (y.wpIn Fence.wide 0 P (lift n Q)) (lift n Q)) a w := by
 obtain ⟨gf, lb, hg, hb, h⟩ := hr
 refine wpIn_block ?_
 refine wpIn_rangeFunc fun fn _ => ?_
 have hsD : Sat R (dfC w.heap.size :: O) (w.alloc (.deferred (some []))) := hs.alloc _ _ rfl (fun w' h _ => h)
 have hsz : (w.alloc (.deferred (some []))).heap.size = w.heap.size + 1 := by simp
 have hfr : Fr ⟨n.n, []⟩ L { tmps := a.tmps, defers := [] } := ⟨hf.size, rfl, fun t v ht => hf.get t v ht⟩
 have hsL : Sat R (recC (w.heap.size + 1) n L w.heap.size .ready none ps.toArray assign body :: dfC w.heap.size :: O) ((w.alloc (.deferred (some []))).alloc (.loop { state := .ready, pending := none, fn, tmps := a.tmps, params := ps.toArray, assign, body, defers := w.heap.size })) :=
  hsD.alloc _ _ (by rw [hsz]; rfl) (fun w' h _ => ⟨fn, a.tmps, by rw [hsz] at h; exact h, hfr⟩)
 have e1 : a.eval g = _ := hf.ev hg
 have hc := h (w.heap.size + 1) w.heap.size _ hsL
 obtain ⟨W1, hW1⟩ : ∃ W1, (w.alloc (.deferred (some []))).alloc (.loop { state := .ready, pending := none, fn, tmps := a.tmps, params := ps.toArray, assign, body, defers := w.heap.size }) = W1 := ⟨_, rfl⟩
 rw [hW1] at hc
 refine ⟨w.heap.size + 1, markOf w.heap.size, W1, { target := .fn (.func gf) lb.toArray, args := #[.func (.yield (w.heap.size + 1)) #[] #[]] }, W1, gf, (.func (.yield (w.heap.size + 1)) #[] #[] :: lb).toArray, W1,
  hW1 ▸ run_enterLoop_outer fn a.tmps ps.toArray assign body, ?_, fun _ _ => trivial, ?_, fun hx => Bool.noConfusion hx, (callsIn_wide (n := 0)).2 (hc.mono ?_)⟩
 · simp only [resolve, e1]
   simp [go_sem, Deferred.ofValue]
 · simp [invoke, go_sem, run_callFunc hb]
 · rintro e w2 ⟨v, R', O', rfl, ⟨O2, hT, hy⟩, hs2⟩
   have hs3 := hs2.perm hT.perm
   obtain ⟨f2, tmps2, hl2, hfr2⟩ := hs3.see List.mem_cons_self
   refine ⟨none, _, run_endLoop hl2 (by simp), ?_⟩
   have hs4 := (hs3.loopPut (st' := .exhausted) (pe' := none) (f := f2) hfr2).drop
   have hf2 : Fr ⟨n.n, markOf w.heap.size⟩ L { a with defers := markOf w.heap.size ++ a.defers } := ⟨hf.size, by show _ ++ a.defers = _; rw [hf.defers, hds]; rfl, fun t v ht => hf.get t v ht⟩
   have hy' := hy _ _ hf2 hs4
   show Code.wpIn Fence.wide 0 P y (lift n Q) _ _
   refine wpIn_wide.2 (wp_mono hy' fun e a' w' hq => ?_)
   cases e with
   | ret => obtain ⟨L', R', O', h1, h2, h3⟩ := hq; exact ⟨L', R', O', h1, h2, h3⟩
   | normal => obtain ⟨_, _, _, hk, _⟩ := hq; exact hk.elim
   | exit id => obtain ⟨_, _, _, hk, _⟩ := hq; exact hk.elim
   | goto t => obtain ⟨_, _, _, hk, _⟩ := hq; exact hk.elim
   | panic c => exact hq.elim
   | outgrown => exact hq.elim
def rangeQ (P : Program) (n : Sz) (g : Operand) (ps : List Nat) (assign body y : Code) (Q : Post) : Post
 | .normal, L, R, O => RangeOk P n g ps assign body y Q L R O
 | e, L, R, O => Q e L R O
theorem rangeQ.normal {g : Operand} {ps : List Nat} {assign body y : Code} (h : RangeOk P n g ps assign body y Q L R O) : rangeQ P n g ps assign body y Q .normal L R O := h
theorem WC.rangeSeq {g : Operand} {ps : List Nat} {assign body x y : Code} {id : Nat} (hds : n.ds = []) (h : WC P n x (rangeQ P n g ps assign body y Q) L R O) :
 WC P n (.seq (.seq x (.block id (.rangeFunc g ps.toArray assign body))) y) Q L R O := by
 intro a w hf hs
 refine wpIn_wide.1 (wpIn_seq (F := Fence.wide) (n := 0) (wpIn_seq (wpIn_wide.2 (wp_mono (h a w hf hs) fun e a' w' hq => ?_))))
 cases e with
 | normal => obtain ⟨L', R', O', hk, hf', hs'⟩ := hq; exact RangeOk.core hds hk hf' hs'
 | exit id => exact hq
 | goto l => exact hq
 | ret => exact hq
 | panic c => exact hq
 | outgrown => exact hq
end
end Go.SL
