/-
  slices.Grow of no slice, slices.Concat: rules and walks.
-/
import Derived.Test.YtpicbbkmcbhnpaaTh2
import Derived.Test.YtpicbbkmcbhnpaaAcc
import Derived.Lib.AppendZerosOnto
namespace Go.SL
open Go
section
variable {P : Program} {n : Nat} {o : Oper} {L : Env} {R : List RO} {O O' : List Own} {K : Env → List RO → List Own → Prop} {t tx e : TypeId} {x y : Operand} {z : Value} {α : Type} {g : α → Value} {bytes : Nat}
theorem Rd.capSl {ad : Option Addr} {m cp : Nat} (ho : o.op = .call { callee := .builtin .cap, args := #[x], argTypes := #[t] }) (hx : ev L x = some (.slice ad m cp)) (hT : P.underlying t = some (.slice e)) : Rd P o L R O (.int .i64 cp) := fun ρ w hρ _ _ => by
  simp [execOp, ho, resolve, invoke, builtin, hρ _ _ hx, Builtin.cap_, run_underlying hT, goInt]
theorem zeroCells_one {v : Value} (hv : v.cells = #[v]) (m : Nat) : (Builtin.zeroCells v.cells m).toList = List.replicate m v := by
  rw [hv]
  simp only [Builtin.zeroCells]
  apply List.ext_getElem
  · simp
  · intro i h1 h2
    simp [Nat.mod_one]
theorem acc_oneV {enc : α → List Value} {xs : List α} {size : Nat} {v : Value} {w : World} (h : (accC e size enc v xs).pred w) : OneV v := by
  rcases h.2 with ⟨rfl, _⟩ | ⟨g, cap, cur, rfl, _⟩ <;> exact OneV.sl
/-- append(nil, make([]T, m)...) -/
theorem OpW.zerosNil {d m : Nat} {kd kn : IntKind} {p : Int} {a0 : α} (ho : o.op = .call { callee := .builtin .append, args := #[x, y], argTypes := #[t, tx] }) (hT : SlT P t e 1 bytes z) (hz : z = g a0) (hzc : (g a0).cells = #[g a0]) (htx : P.underlying tx = some (.int kn))
    (hx : ev L x = some (.slice none 0 0)) (hy : ev L y = some (.int kd p)) (hp : p = (m : Int)) (hm : 0 < m) (hroom : Room m bytes) (hd : o.dst = some d) (hn : Nat.blt d n = true)
    (k : ∀ v', OneV v' → K ((d, v') :: L) R (accC e 1 (one g) v' (List.replicate m a0) :: O)) : OpW P n o L R O K := by
  intro ac w hf hs Q
  obtain ⟨i, hi, hz0, hsize, hby⟩ := hT.info
  subst hby; subst hp
  have hroom1 : m ≤ 9223372036854775807 := hroom.1
  have hr := Lib.run_append_grow_zeros (P := P) w t tx o.type e i z kd kn hT.under htx hi hz0 none 0 0 [] (by simp [Builtin.firstCells]) m hm (by omega) (by omega) (by have := hroom1; omega) (by have := hroom.2; omega) (growslice_fits (by omega) (by simpa using hroom.2))
  simp only [Nat.zero_add] at hr
  have hr' : (execOp ac.eval o).run P w = .ok (.value (.slice (some ⟨w.heap.size, 0, none⟩) m (grownCap w m 0 e))) (w.drew.alloc (.cells (([] : List Value).toArray ++ Builtin.zeroCells z.cells m ++ Builtin.zeroCells z.cells (grownCap w m 0 e - m)) e)) := by
    simp only [execOp, ho, resolve, invoke, builtin, hf.ev hx, hf.ev hy, Sem.run_bind, Sem.run_pure, Result.andThen_ok, List.map_toArray, List.map_cons, List.map_nil, hr]
  unfold Oper.wp
  rw [hr', Oper.upon_value, hd]
  refine ⟨_, _, _, k _ OneV.sl, hf.put hn _, (hs.drew _).alloc _ _ rfl (fun w'' h _ => ?_)⟩
  show w''.ownsRow 0 e 1 _ _ _
  rw [List.length_replicate]
  refine ⟨by rw [flat_one]; simp, .inr ⟨w.heap.size, _, _, rfl, Nat.zero_le _, h, grownCap_ge w m 0 e, grownCap_le_maxLen w m 0 e hroom.1, ?_, ?_⟩⟩
  · have hge := grownCap_ge w m 0 e
    simp only [Array.size_append, List.size_toArray, size_zeroCells, hT.zsize, List.length_nil]
    omega
  · subst hz
    rw [Array.toList_append, Array.toList_append, zeroCells_one hzc, zeroCells_one hzc, flat_one, List.map_replicate]
    simp
end
end Go.SL
namespace Go.Proofs.Ytpicbbkmcbhnpaa
open Go Go.SL
theorem grow_spec {R : List RO} {O : List Own} {POST : Value → List RO → List Own → Prop} {m : Nat} (hm : m ≤ 1099511627776)
    (hk : ∀ v, OneV v → POST v R (accC 9 1 (one vs) v [] :: O)) : Fun Try.prog 39 #[.slice none 0 0, .int .i64 (m : Int)] R O POST := by
  refine Fun.enter (l := [_, _]) Try.func39 rfl Try.ntmps39 rfl (L0 := [(0, _), (1, _)]) rfl ?_
  refine WC.seq ?_
  refine WC.region ?_
  refine WL.rd rfl rfl rfl (Rd.assign rfl rfl) ?_
  refine WL.nil ?_
  refine thenQ.normal ?_
  refine WC.seq ?_
  refine WC.seq ?_
  refine WC.region ?_
  refine WL.rd rfl rfl rfl (Rd.move rfl rfl) ?_
  refine WL.rd rfl rfl rfl (Rd.lss rfl rfl rfl) ?_
  refine WL.nil ?_
  refine thenQ.normal ?_
  first | refine WC.ite rfl (fun hc1 => ?_) (fun hc1 => ?_) | refine WC.cond rfl (fun hc1 => ?_) (fun hc1 => ?_)
  · skip
    omega
  · skip
    refine WC.skip ?_
    refine thenQ.normal ?_
    refine WC.seq ?_
    refine WC.seq ?_
    refine WC.region ?_
    refine WL.rd rfl rfl rfl (Rd.move rfl rfl) ?_
    refine WL.rd rfl rfl rfl (Rd.move rfl rfl) ?_
    refine WL.rd rfl rfl rfl (Rd.capSl rfl rfl Try.underlying22) ?_
    refine WL.rd rfl rfl rfl (Rd.move rfl rfl) ?_
    refine WL.rd rfl rfl rfl ((by first | exact Rd.lenE rfl rfl Try.underlying22 (by repeat (first | assumption | exact List.mem_cons_self | refine List.mem_cons_of_mem _ ?_)) | exact Rd.lenA rfl rfl Try.underlying22 (by repeat (first | assumption | exact List.mem_cons_self | refine List.mem_cons_of_mem _ ?_)) | exact Rd.len rfl rfl Try.underlying22)) ?_
    refine WL.rd rfl rfl rfl (Rd.sub rfl rfl rfl (by omega)) ?_
    refine WL.rd rfl rfl rfl (Rd.sub rfl rfl rfl (by omega)) ?_
    refine WL.rd rfl rfl rfl (Rd.assign rfl rfl) ?_
    refine WL.nil ?_
    refine thenQ.normal ?_
    refine WC.seq ?_
    refine WC.region ?_
    refine WL.rd rfl rfl rfl (Rd.move rfl rfl) ?_
    refine WL.rd rfl rfl rfl (Rd.gtr rfl rfl rfl) ?_
    refine WL.nil ?_
    refine thenQ.normal ?_
    first | refine WC.ite rfl (fun hc2 => ?_) (fun hc2 => ?_) | refine WC.cond rfl (fun hc2 => ?_) (fun hc2 => ?_)
    · skip
      refine WC.heap (fun w h => h.nilE (α := List UInt8) (enc := one vs)) ?_
      refine WC.region ?_
      refine WL.rd rfl rfl rfl (Rd.move rfl rfl) ?_
      refine WL.rd rfl rfl rfl (Rd.move rfl rfl) ?_
      refine WL.rd rfl rfl rfl (Rd.capSl rfl rfl Try.underlying22) ?_
      refine WL.rd rfl rfl rfl (Rd.cut_h (hi := 0) rfl S22 rfl rfl rfl List.mem_cons_self (by simp)) ?_
      refine WL.rd rfl rfl rfl (Rd.move rfl rfl) ?_
      refine WL.op rfl ?_
      refine OpW.zerosNil (g := vs) (m := m) (a0 := []) rfl S22 rfl rfl Try.underlying3 rfl rfl (by omega) (by omega) ⟨by simp only [maxLen, List.length_append, List.length_nil, List.length_cons, List.length_drop, List.length_take, List.length_map]; omega, by first | omega | (simp only [List.length_append, List.length_nil, List.length_cons, List.length_drop, List.length_take, List.length_map]; omega)⟩ rfl rfl ?_; intro v22 hv22
      refine WL.rd rfl rfl rfl (Rd.move rfl rfl) ?_
      refine WL.rd rfl rfl rfl ((by first | exact Rd.lenE rfl rfl Try.underlying22 (by repeat (first | assumption | exact List.mem_cons_self | refine List.mem_cons_of_mem _ ?_)) | exact Rd.lenA rfl rfl Try.underlying22 (by repeat (first | assumption | exact List.mem_cons_self | refine List.mem_cons_of_mem _ ?_)) | exact Rd.len rfl rfl Try.underlying22)) ?_
      refine WL.rd rfl rfl rfl (Rd.cutA_h (hi := 0) rfl S22 rfl rfl rfl List.mem_cons_self (by simp)) ?_
      refine WL.rd rfl rfl rfl (Rd.assign rfl rfl) ?_
      refine WL.nil ?_
      refine thenQ.normal ?_
      refine WC.seq ?_
      refine WC.region ?_
      refine WL.rd rfl rfl rfl (Rd.move rfl rfl) ?_
      refine WL.rd rfl rfl rfl (Rd.assign rfl rfl) ?_
      refine WL.nil ?_
      refine thenQ.normal ?_
      -- ret_1
      refine WC.heap (fun w h => Sat.cutAcc (enc := one vs) (size := 1) (xs := List.replicate m []) (hi := 0) (Take.head _) (fun _ => rfl) (Nat.zero_le _) h) ?_
      refine WC.heap (R' := R) (O' := accC 9 1 (one vs) (subSl v22 1 0 0) [] :: O) (fun w h => OwnL.sat (by repeat (first | exact OwnL.refl | apply OwnL.take (by repeat (first | exact Take.head _ | apply Take.tail)) | apply OwnL.drop)) w (h.thin (SubL.mem (by repeat (first | exact SubL.refl | refine SubL.cons (by repeat (first | assumption | exact List.mem_cons_self | refine List.mem_cons_of_mem _ ?_)) ?_ | refine SubL.skip ?_))))) ?_
      refine WC.knowO (φ := OneV (subSl v22 1 0 0)) List.mem_cons_self (fun w hp => acc_oneV hp) fun hv23 => ?_
      refine WC.ret (Ret.one Try.results39 rfl ?_)
      exact hk _ hv23
    · skip
      refine WC.skip ?_
      refine thenQ.normal ?_
      refine WC.seq ?_
      refine WC.region ?_
      refine WL.rd rfl rfl rfl (Rd.move rfl rfl) ?_
      refine WL.rd rfl rfl rfl (Rd.assign rfl rfl) ?_
      refine WL.nil ?_
      refine thenQ.normal ?_
      -- ret_2
      refine WC.heap (fun w h => h.accNil (α := List UInt8) (e := 9) (size := 1) (enc := one vs)) ?_
      refine WC.ret (Ret.one Try.results39 rfl ?_)
      exact hk _ OneV.sl
theorem flat_next (ll : List (List (List UInt8))) {i : Nat} (h : i < ll.length) : (ll.take (i + 1)).flatten = (ll.take i).flatten ++ ll[i]! := by
  rw [List.take_add_one, get!_of_lt h, List.flatten_append]; simp
theorem flat_le (ll : List (List (List UInt8))) (i : Nat) : (ll.take i).flatten.length ≤ ll.flatten.length := by
  conv => rhs; rw [← List.take_append_drop i ll, List.flatten_append, List.length_append]
  omega
set_option maxHeartbeats 1000000 in
theorem concat_spec {R : List RO} {O : List Own} {POST : Value → List RO → List Own → Prop} {vsl : List Value} {ll : List (List (List UInt8))} {lv : Value} (hl : SlE (one vid) lv vsl ∈ R) (hL : ListsOf vsl ll R)
    (hsz : ll.flatten.length ≤ 1099511627776)
    (hk : ∀ v, OneV v → POST v R (accC 9 1 (one vs) v ll.flatten :: O)) : Fun Try.prog 32 #[lv] R O POST := by
  refine Fun.len hl fun hll => ?_
  obtain ⟨hL1, hL2⟩ := hL
  refine Fun.enter (l := [_]) Try.func32 rfl Try.ntmps32 rfl (L0 := [(0, _)]) rfl ?_
  refine WC.seq ?_
  refine WC.region ?_
  refine WL.rd rfl rfl rfl (Rd.assign rfl rfl) ?_
  refine WL.nil ?_
  refine thenQ.normal ?_
  refine WC.seq ?_
  refine WC.region ?_
  refine WL.rd rfl rfl rfl (Rd.assign rfl rfl) ?_
  refine WL.nil ?_
  refine thenQ.normal ?_
  refine WC.seq ?_
  refine WC.seq ?_
  refine WC.region ?_
  refine WL.rd rfl rfl rfl (Rd.move rfl rfl) ?_
  refine WL.rd rfl rfl rfl ((by first | exact Rd.lenE rfl rfl Try.underlying41 (by repeat (first | assumption | exact List.mem_cons_self | refine List.mem_cons_of_mem _ ?_)) | exact Rd.lenA rfl rfl Try.underlying41 (by repeat (first | assumption | exact List.mem_cons_self | refine List.mem_cons_of_mem _ ?_)) | exact Rd.len rfl rfl Try.underlying41)) ?_
  refine WL.rd rfl rfl rfl (Rd.move rfl rfl) ?_
  refine WL.nil ?_
  refine thenQ.normal ?_
  refine WC.block ?_
  refine WC.pick [11, 3, 0, 9, 10] (by repeat (first | exact Pick.nil | apply Pick.cons rfl)) ?_
  refine WC.loop1o 2 (fun (i : Nat) => [(11, .int .i64 (i : Int)), (3, .int .i64 (((ll.take i).flatten.length : Nat) : Int))]) (fun (i : Nat) => i ≤ vsl.length) (fun (i : Nat) => vsl.length - i) (0) (by repeat (first | exact Split.zero | apply Split.succ)) ?hinv1 (by repeat (first | exact Sub.nil | refine Sub.cons rfl (by first | rfl | (congr 1; omega) | assumption) ?_)) (fun _ h => h) ?_
  case hinv1 =>
    exact Nat.zero_le _
  intro i
  rintro i1
  have hfi := flat_le ll i
  refine WC.seq ?_
  refine WC.region ?_
  refine WL.rd rfl rfl rfl (Rd.lss rfl rfl rfl) ?_
  refine WL.nil ?_
  refine thenQ.normal ?_
  refine WC.seq ?_
  first | refine WC.ite rfl (fun hc1 => ?_) (fun hc1 => ?_) | refine WC.cond rfl (fun hc1 => ?_) (fun hc1 => ?_)
  · skip
    have hfn := congrArg List.length (flat_next ll (i := i) (by omega))
    have hfi1 := flat_le ll (i + 1)
    rw [List.length_append] at hfn
    refine WC.skip ?_
    refine thenQ.normal ?_
    refine WC.seq ?_
    refine WC.block ?_
    refine WC.seq ?_
    refine WC.region ?_
    refine WL.rd rfl rfl rfl ((by first | exact Rd.idx1 (k := i) rfl S41 rfl rfl (by omega) (by repeat (first | assumption | exact List.mem_cons_self | refine List.mem_cons_of_mem _ ?_)) (by first | omega | (simp only [List.length_cons, List.length_nil, List.length_append, List.length_map]; omega)) | exact Rd.idxA1 (k := i) rfl S41 rfl rfl (by omega) (by repeat (first | assumption | exact List.mem_cons_self | refine List.mem_cons_of_mem _ ?_)) (by first | omega | (simp only [List.length_cons, List.length_nil, List.length_append, List.length_map]; omega)) | exact Rd.idxR1 (k := i) rfl S41 rfl rfl (by omega) (by omega))) ?_
    refine WL.rd rfl rfl rfl (Rd.get (xs := vsl) (k := i) rfl C22 rfl hl (get!_of_lt (by omega))) ?_
    refine WL.rd rfl rfl rfl (Rd.assign rfl rfl) ?_
    refine WL.nil ?_
    refine thenQ.normal ?_
    refine WC.seq ?_
    refine WC.region ?_
    refine WL.rd rfl rfl rfl (Rd.move rfl rfl) ?_
    refine WL.rd rfl rfl rfl (Rd.move rfl rfl) ?_
    refine WL.rd rfl rfl rfl (Rd.lenE rfl rfl Try.underlying22 (hL2 i (by omega))) ?_
    refine WL.rd rfl rfl rfl (Rd.add rfl rfl rfl (by omega)) ?_
    refine WL.rd rfl rfl rfl (Rd.assign rfl rfl) ?_
    refine WL.nil ?_
    refine thenQ.normal ?_
    refine WC.seq ?_
    refine WC.region ?_
    refine WL.rd rfl rfl rfl (Rd.move rfl rfl) ?_
    refine WL.rd rfl rfl rfl (Rd.lss rfl rfl rfl) ?_
    refine WL.nil ?_
    refine thenQ.normal ?_
    first | refine WC.ite rfl (fun hc2 => ?_) (fun hc2 => ?_) | refine WC.cond rfl (fun hc2 => ?_) (fun hc2 => ?_)
    · skip
      omega
    · skip
      refine WC.skip ?_
      refine blockQ.normal ?_
      refine thenQ.normal ?_
      refine WC.region ?_
      refine WL.rd rfl rfl rfl (Rd.add rfl rfl rfl (by omega)) ?_
      refine WL.rd rfl rfl rfl (Rd.move rfl rfl) ?_
      refine WL.nil ?_
      -- next1_1
      exact loopQ1.mk (i + 1) (by omega) (by omega) (by repeat (first | exact Sub.nil | refine Sub.cons rfl (by first | rfl | (congr 1; omega) | assumption) ?_)) (fun w h => OwnL.sat (by repeat (first | exact OwnL.refl | apply OwnL.take (by repeat (first | exact Take.head _ | apply Take.tail)) | apply OwnL.drop)) w (h.thin (SubL.mem (by repeat (first | exact SubL.refl | refine SubL.cons (by repeat (first | assumption | exact List.mem_cons_self | refine List.mem_cons_of_mem _ ?_)) ?_ | refine SubL.skip ?_)))))
  · skip
    refine WC.exit ?_
    refine thenQ.exit ?_
    refine loopQ1.exit ?_
    refine blockQ.exit ?_
    refine thenQ.normal ?_
    refine WC.seq ?_
    refine WC.region ?_
    refine WL.rd rfl rfl rfl (Rd.move rfl rfl) ?_
    refine WL.op rfl ?_
    refine OpW.call rfl rfl (by repeat (first | exact Evs.nil | apply Evs.cons rfl)) (by kernel_rfl) rfl rfl rfl ?_
    refine grow_spec (by have := flat_le ll i; omega) ?_; intro v24 hv24
    refine WL.rd rfl rfl rfl (Rd.assign rfl rfl) ?_
    refine WL.nil ?_
    refine thenQ.normal ?_
    refine WC.seq ?_
    refine WC.seq ?_
    refine WC.region ?_
    refine WL.rd rfl rfl rfl (Rd.move rfl rfl) ?_
    refine WL.rd rfl rfl rfl ((by first | exact Rd.lenE rfl rfl Try.underlying41 (by repeat (first | assumption | exact List.mem_cons_self | refine List.mem_cons_of_mem _ ?_)) | exact Rd.lenA rfl rfl Try.underlying41 (by repeat (first | assumption | exact List.mem_cons_self | refine List.mem_cons_of_mem _ ?_)) | exact Rd.len rfl rfl Try.underlying41)) ?_
    refine WL.rd rfl rfl rfl (Rd.move rfl rfl) ?_
    refine WL.nil ?_
    refine thenQ.normal ?_
    refine WC.block ?_
    refine WC.pick [27, 6, 25, 26] (by repeat (first | exact Pick.nil | apply Pick.cons rfl)) ?_
    refine WC.loop2 2 (fun (i : Nat) (u : Value) => [(27, .int .i64 (i : Int)), (6, u)]) (fun (i : Nat) (u : Value) => accC 9 1 (one vs) u (ll.take i).flatten :: O) (fun (i : Nat) (u : Value) => i ≤ vsl.length ∧ OneV u) (fun (i : Nat) (u : Value) => vsl.length - i) (0) (v24) (by repeat (first | exact Split.zero | apply Split.succ)) ?hinv2 (by repeat (first | exact Sub.nil | refine Sub.cons rfl (by first | rfl | (congr 1; omega) | assumption) ?_)) (fun _ h => h) ?_
    case hinv2 =>
      exact ⟨Nat.zero_le _, hv24⟩
    intro i u
    rintro ⟨i1, i2⟩
    refine WC.seq ?_
    refine WC.region ?_
    refine WL.rd rfl rfl rfl (Rd.lss rfl rfl rfl) ?_
    refine WL.nil ?_
    refine thenQ.normal ?_
    refine WC.seq ?_
    first | refine WC.ite rfl (fun hc3 => ?_) (fun hc3 => ?_) | refine WC.cond rfl (fun hc3 => ?_) (fun hc3 => ?_)
    · skip
      have hfn := flat_next ll (i := i) (by omega)
      have hfn2 := congrArg List.length hfn
      have hfi1 := flat_le ll (i + 1)
      rw [List.length_append] at hfn2
      refine WC.skip ?_
      refine thenQ.normal ?_
      refine WC.seq ?_
      refine WC.block ?_
      refine WC.seq ?_
      refine WC.region ?_
      refine WL.rd rfl rfl rfl ((by first | exact Rd.idx1 (k := i) rfl S41 rfl rfl (by omega) (by repeat (first | assumption | exact List.mem_cons_self | refine List.mem_cons_of_mem _ ?_)) (by first | omega | (simp only [List.length_cons, List.length_nil, List.length_append, List.length_map]; omega)) | exact Rd.idxA1 (k := i) rfl S41 rfl rfl (by omega) (by repeat (first | assumption | exact List.mem_cons_self | refine List.mem_cons_of_mem _ ?_)) (by first | omega | (simp only [List.length_cons, List.length_nil, List.length_append, List.length_map]; omega)) | exact Rd.idxR1 (k := i) rfl S41 rfl rfl (by omega) (by omega))) ?_
      refine WL.rd rfl rfl rfl (Rd.get (xs := vsl) (k := i) rfl C22 rfl hl (get!_of_lt (by omega))) ?_
      refine WL.rd rfl rfl rfl (Rd.assign rfl rfl) ?_
      refine WL.nil ?_
      refine thenQ.normal ?_
      refine WC.region ?_
      refine WL.rd rfl rfl rfl (Rd.move rfl rfl) ?_
      refine WL.rd rfl rfl rfl (Rd.move rfl rfl) ?_
      refine WL.op rfl ?_
      refine OpW.appendE rfl S22 Try.underlying22 rfl rfl (by repeat (first | assumption | exact Take.head _ | apply Take.tail)) (hL2 i (by omega)) (fun _ => rfl) (fun _ => rfl) ⟨by simp only [maxLen, List.length_append, List.length_nil, List.length_cons, List.length_drop, List.length_take, List.length_map]; omega, by first | omega | (simp only [List.length_append, List.length_nil, List.length_cons, List.length_drop, List.length_take, List.length_map]; omega)⟩ rfl rfl ?_; intro v33 hv33
      refine WL.rd rfl rfl rfl (Rd.assign rfl rfl) ?_
      refine WL.nil ?_
      refine blockQ.normal ?_
      refine thenQ.normal ?_
      refine WC.region ?_
      refine WL.rd rfl rfl rfl (Rd.add rfl rfl rfl (by omega)) ?_
      refine WL.rd rfl rfl rfl (Rd.move rfl rfl) ?_
      refine WL.nil ?_
      -- next2_1
      exact loopQ2.mk (i + 1) v33 ⟨by omega, hv33⟩ (by omega) (by repeat (first | exact Sub.nil | refine Sub.cons rfl (by first | rfl | (congr 1; omega) | assumption) ?_)) (fun w h => by rw [← hfn] at h; exact h)
    · skip
      refine WC.exit ?_
      refine thenQ.exit ?_
      refine loopQ2.exit ?_
      refine blockQ.exit ?_
      refine thenQ.normal ?_
      refine WC.seq ?_
      refine WC.region ?_
      refine WL.rd rfl rfl rfl (Rd.move rfl rfl) ?_
      refine WL.rd rfl rfl rfl (Rd.assign rfl rfl) ?_
      refine WL.nil ?_
      refine thenQ.normal ?_
      -- ret_1
      refine WC.heap (R' := R) (O' := accC 9 1 (one vs) u ll.flatten :: O) (fun w h => by rw [List.take_of_length_le (by omega)] at h; exact (fun w h => OwnL.sat (by repeat (first | exact OwnL.refl | apply OwnL.take (by repeat (first | exact Take.head _ | apply Take.tail)) | apply OwnL.drop)) w (h.thin (SubL.mem (by repeat (first | exact SubL.refl | refine SubL.cons (by repeat (first | assumption | exact List.mem_cons_self | refine List.mem_cons_of_mem _ ?_)) ?_ | refine SubL.skip ?_))))) w h) ?_
      refine WC.ret (Ret.one Try.results32 rfl ?_)
      exact hk u i2
end Go.Proofs.Ytpicbbkmcbhnpaa
