/-
  Walks of layer 19: short, Apply.
-/
import Derived.Test.YtdcnlfooopjbaaaLd1
namespace Go.Proofs.Ytdcnlfooopjbaaa
open Go Go.SL

set_option maxHeartbeats 400000 in
theorem short_spec {R : List RO} {O : List Own} {POST : Value → List RO → List Own → Prop} {xs : List (List UInt8)} {av : Value} (ha : Strs av xs ∈ R)
    (hk : ∀ v, POST v (Strs v (xs.take 40) :: R) O) : Fun Try.prog 9 #[av] R O POST := by
  refine Fun.len ha fun hla => ?_
  refine Fun.enter (l := [_]) Try.func9 rfl Try.ntmps9 rfl (L0 := [(0, _)]) rfl ?_
  refine WC.seq ?_
  refine WC.region ?_
  refine WL.rd rfl rfl rfl (Rd.assign rfl rfl) ?_
  refine WL.nil ?_
  refine thenQ.normal ?_
  refine WC.seq ?_
  refine WC.region ?_
  refine WL.op rfl ?_
  refine OpW.buildSl (ps := []) rfl S22 (by repeat (first | exact Evs.nil | apply Evs.cons rfl)) rfl rfl (by repeat (first | exact CellsOf.nil | apply CellsOf.cons rfl)) (by kernel_rfl) rfl rfl rfl ?_; intro b3
  refine WL.rd rfl rfl rfl (Rd.move rfl rfl) ?_
  refine WL.rd rfl rfl rfl (Rd.move rfl rfl) ?_
  refine WL.rd rfl rfl rfl ((by first | exact Rd.lenE rfl rfl Try.underlying22 (by repeat (first | assumption | exact List.mem_cons_self | refine List.mem_cons_of_mem _ ?_)) | exact Rd.lenA rfl rfl Try.underlying22 (by repeat (first | assumption | exact List.mem_cons_self | refine List.mem_cons_of_mem _ ?_)) | exact Rd.len rfl rfl Try.underlying22)) ?_
  refine WL.rd rfl rfl rfl (Rd.min2 rfl rfl rfl) ?_
  refine WL.rd rfl rfl rfl (Rd.cut_h (hi := min xs.length 40) rfl S22 rfl rfl (by split <;> omega) (by repeat (first | assumption | exact List.mem_cons_self | refine List.mem_cons_of_mem _ ?_)) (by omega)) ?_
  refine WL.heap (fun w h => h.accRow (α := List UInt8) (enc := one vs) (xs := []) (by repeat (first | assumption | exact Take.head _ | apply Take.tail)) rfl rfl (fun _ => rfl) (Nat.zero_le _)) ?_
  refine WL.heap (fun w h => h.weaken ha (fun w hp => SlE.sub (size := 1) (lo := 0) (hi := min xs.length 40) (fun _ => rfl) (by omega) (by omega) hp)) ?_
  refine WL.op rfl ?_
  refine OpW.appendE (enc := one vs) rfl S22 Try.underlying22 rfl rfl (by repeat (first | assumption | exact Take.head _ | apply Take.tail)) (by repeat (first | assumption | exact List.mem_cons_self | refine List.mem_cons_of_mem _ ?_)) (by intro x; first | rfl | (cases x; rfl) | (rcases x with ⟨_, _, _⟩; rfl) | (rcases x with ⟨_, _, _, _⟩; rfl)) (by intro x; first | rfl | (cases x; rfl) | (rcases x with ⟨_, _, _⟩; rfl) | (rcases x with ⟨_, _, _, _⟩; rfl)) ⟨by simp only [maxLen, List.length_append, List.length_nil, List.length_cons, List.length_drop, List.length_take, List.length_map]; omega, by first | omega | (simp only [List.length_append, List.length_nil, List.length_cons, List.length_drop, List.length_take, List.length_map]; omega)⟩ rfl rfl ?_; intro v9 hv9
  refine WL.heap (fun w h => h.shareA (Take.head _)) ?_
  refine WL.rd rfl rfl rfl (Rd.assign rfl rfl) ?_
  refine WL.nil ?_
  refine thenQ.normal ?_
  -- ret_1
  have e : [] ++ (List.take (min xs.length 40) xs).drop 0 = xs.take 40 := by
    rw [List.nil_append, List.drop_zero, Nat.min_comm, ← List.take_take, List.take_length]
  refine WC.heap (R' := Strs v9 (xs.take 40) :: R) (fun w h => by rw [e] at h; exact h.thin (SubL.mem (by repeat (first | exact SubL.refl | refine SubL.cons (by repeat (first | assumption | exact List.mem_cons_self | refine List.mem_cons_of_mem _ ?_)) ?_ | refine SubL.skip ?_)))) ?_
  refine WC.ret (Ret.one Try.results9 rfl ?_)
  exact hk v9

/-- An edit: its kind, its item. -/
abbrev Ed := Int × List UInt8
def encE : Ed → List Value | (k, s) => [vi k, vs s]
abbrev Eds (v : Value) (l : List Ed) : RO := SlE encE v l

/-- What Apply answers. -/
def applyE : List (List UInt8) → List Ed → List (List UInt8) → List (List UInt8) × Int
  | xs, [], out => if xs.length = 0 then (out, 0) else ([], 4)
  | xs, (op, it) :: r, out =>
    if op = 0 ∨ op = 1 then
      match xs with
      | [] => ([], 13)
      | x :: xs' => if x = it then applyE xs' r (if op = 1 then out else out ++ [it]) else ([], 13)
    else if op = 2 then applyE xs r (out ++ [it]) else ([], 15)
theorem applyE_nil (xs out : List (List UInt8)) : applyE xs [] out = if xs.length = 0 then (out, 0) else ([], 4) := by cases xs <;> rfl
theorem drop_get {α : Type} [Inhabited α] {l : List α} {k : Nat} (h : k < l.length) : l.drop k = l[k]! :: l.drop (k + 1) := by
  rw [List.drop_eq_getElem_cons h]; simp [h]
theorem head_get {l : List (List UInt8)} (h : 0 < l.length) : l = l[0]! :: l.drop 1 := by
  have := drop_get (l := l) (k := 0) h
  simpa using this

set_option maxHeartbeats 1000000 in
theorem apply_spec {R : List RO} {O : List Own} {POST : Value → List RO → List Own → Prop} {xs : List (List UInt8)} {l : List Ed} {av lv : Value} (ha : Strs av xs ∈ R) (hl : Eds lv l ∈ R) (hb : l.length ≤ 4294967296)
    (hk : ∀ v, POST (.tuple #[v, .int .i64 (applyE xs l []).2]) (Strs v (applyE xs l []).1 :: R) O) : Fun Try.prog 10 #[av, lv] R O POST := by
  refine Fun.len ha fun hla => ?_
  refine Fun.enter (l := [_, _]) Try.func10 rfl Try.ntmps10 rfl (L0 := [(0, _), (1, _)]) rfl ?_
  refine WC.seq ?_
  refine WC.region ?_
  refine WL.rd rfl rfl rfl (Rd.assign rfl rfl) ?_
  refine WL.rd rfl rfl rfl (Rd.assign rfl rfl) ?_
  refine WL.nil ?_
  refine thenQ.normal ?_
  refine WC.seq ?_
  refine WC.region ?_
  refine WL.rd rfl rfl rfl (Rd.assign rfl rfl) ?_
  refine WL.nil ?_
  refine thenQ.normal ?_
  refine WC.seq ?_
  refine WC.seq ?_
  refine WC.heap (fun w h => h.accNil (α := List UInt8) (e := 9) (size := 1) (enc := one vs)) ?_
  refine WC.region ?_
  refine WL.rd rfl rfl rfl (Rd.move rfl rfl) ?_
  refine WL.rd rfl rfl rfl ((by first | exact Rd.lenE rfl rfl Try.underlying26 (by repeat (first | assumption | exact List.mem_cons_self | refine List.mem_cons_of_mem _ ?_)) | exact Rd.lenA rfl rfl Try.underlying26 (by repeat (first | assumption | exact List.mem_cons_self | refine List.mem_cons_of_mem _ ?_)) | exact Rd.len rfl rfl Try.underlying26)) ?_
  refine WL.rd rfl rfl rfl (Rd.move rfl rfl) ?_
  refine WL.nil ?_
  refine thenQ.normal ?_
  refine WC.block ?_
  refine WC.pick [11, 0, 6, 9, 10] (by repeat (first | exact Pick.nil | apply Pick.cons rfl)) ?_
  refine WC.loop5r 3 (fun (k : Nat) (rv : Value) (rs : List (List UInt8)) (u : Value) (out : List (List UInt8)) => [(11, .int .i64 k), (0, rv), (6, u)]) (fun (k : Nat) (rv : Value) (rs : List (List UInt8)) (u : Value) (out : List (List UInt8)) => Strs rv rs :: R) (fun (k : Nat) (rv : Value) (rs : List (List UInt8)) (u : Value) (out : List (List UInt8)) => accC 9 1 (one vs) u out :: O) (fun (k : Nat) (rv : Value) (rs : List (List UInt8)) (u : Value) (out : List (List UInt8)) => k ≤ l.length ∧ out.length ≤ k ∧ rs.length ≤ xs.length ∧ applyE rs (l.drop k) out = applyE xs l []) (fun (k : Nat) (rv : Value) (rs : List (List UInt8)) (u : Value) (out : List (List UInt8)) => l.length - k) (0) (av) (xs) (.slice none 0 0) ([]) (by repeat (first | exact Split.zero | apply Split.succ)) ?hinv1 (by repeat (first | exact Sub.nil | refine Sub.cons rfl (by first | rfl | (congr 1; omega) | assumption) ?_)) (fun w h => h.weaken ha (fun _ h => h)) ?_
  case hinv1 =>
    exact ⟨Nat.zero_le _, Nat.le_refl _, Nat.le_refl _, rfl⟩
  intro k rv rs u out
  rintro ⟨h1, h2, h3, h4⟩
  refine WC.seq ?_
  refine WC.region ?_
  refine WL.rd rfl rfl rfl (Rd.lss rfl rfl rfl) ?_
  refine WL.nil ?_
  refine thenQ.normal ?_
  refine WC.seq ?_
  first | refine WC.ite rfl (fun hc1 => ?_) (fun hc1 => ?_) | refine WC.cond rfl (fun hc1 => ?_) (fun hc1 => ?_)
  · skip
    have hd := drop_get (l := l) (k := k) (by omega)
    obtain ⟨⟨op, it⟩, hx⟩ : ∃ x, l[k]! = x := ⟨_, rfl⟩
    have hxk : l[k]? = some (op, it) := by rw [← hx]; exact get!_of_lt (by omega)
    rw [hx] at hd; clear hx
    refine WC.skip ?_
    refine thenQ.normal ?_
    refine WC.seq ?_
    refine WC.block ?_
    refine WC.seq ?_
    refine WC.region ?_
    refine WL.rd rfl rfl rfl ((by first | exact Rd.idx rfl S26 rfl rfl rfl (by repeat (first | assumption | exact List.mem_cons_self | refine List.mem_cons_of_mem _ ?_)) (by first | omega | (simp only [List.length_cons, List.length_nil, List.length_append, List.length_map]; omega)) | exact Rd.idxA rfl S26 rfl rfl rfl (by repeat (first | assumption | exact List.mem_cons_self | refine List.mem_cons_of_mem _ ?_)) (by first | omega | (simp only [List.length_cons, List.length_nil, List.length_append, List.length_map]; omega)) | exact Rd.idxR rfl S26 rfl rfl rfl (by omega))) ?_
    refine WL.rd rfl rfl rfl ((by first | exact Rd.rowS rfl G28 rfl (by repeat (first | assumption | exact List.mem_cons_self | refine List.mem_cons_of_mem _ ?_)) (by repeat (first | exact NF.nil | apply NF.cons)) rfl | exact Rd.getS rfl G28 rfl (by repeat (first | assumption | exact List.mem_cons_self | refine List.mem_cons_of_mem _ ?_)) (by intro x; first | rfl | (cases x; rfl) | (rcases x with ⟨_, _, _⟩; rfl) | (rcases x with ⟨_, _, _, _⟩; rfl)) (by first | assumption | rfl | exact get!_of_lt (by omega)) (by repeat (first | exact NF.nil | apply NF.cons)) | exact Rd.getSA rfl G28 rfl (by repeat (first | assumption | exact List.mem_cons_self | refine List.mem_cons_of_mem _ ?_)) (by intro x; first | rfl | (cases x; rfl) | (rcases x with ⟨_, _, _⟩; rfl) | (rcases x with ⟨_, _, _, _⟩; rfl)) (by first | assumption | rfl | exact get!_of_lt (by omega)) (by repeat (first | exact NF.nil | apply NF.cons)))) ?_
    refine WL.op rfl ?_
    refine OpW.alloc rfl I28 rfl (by repeat (first | exact NF.nil | apply NF.cons)) rfl rfl ?_; intro b8
    refine WL.op rfl ?_
    refine OpW.storeS rfl G28 rfl rfl (by repeat (first | exact NF.nil | apply NF.cons)) (by repeat (first | assumption | exact Take.head _ | apply Take.tail)) rfl rfl (by repeat (first | exact NF.nil | apply NF.cons)) rfl ?_
    refine WL.nil ?_
    refine thenQ.normal ?_
    refine WC.seq ?_
    refine WC.seq ?_
    refine WC.region ?_
    refine WL.rd rfl rfl rfl ((by first | exact Rd.field rfl F28_0 rfl rfl | exact Rd.fieldE rfl F28_0 rfl (by repeat (first | assumption | exact List.mem_cons_self | refine List.mem_cons_of_mem _ ?_)) (by omega) | exact Rd.fieldA rfl F28_0 rfl (by repeat (first | assumption | exact List.mem_cons_self | refine List.mem_cons_of_mem _ ?_)) (by omega))) ?_
    refine WL.rd rfl rfl rfl ((by first | exact Rd.get rfl C3 rfl (by repeat (first | assumption | exact List.mem_cons_self | refine List.mem_cons_of_mem _ ?_)) (by first | assumption | rfl | exact get!_of_lt (by omega)) | exact Rd.getA rfl C3 rfl (by repeat (first | assumption | exact List.mem_cons_self | refine List.mem_cons_of_mem _ ?_)) (by first | assumption | rfl | exact get!_of_lt (by omega)) | exact Rd.row1 rfl C3 rfl (by repeat (first | assumption | exact List.mem_cons_self | refine List.mem_cons_of_mem _ ?_)) (by rfl) | exact Rd.getF rfl C3 rfl (by repeat (first | assumption | exact List.mem_cons_self | refine List.mem_cons_of_mem _ ?_)) (by intro x; first | rfl | (cases x; rfl) | (rcases x with ⟨_, _, _⟩; rfl) | (rcases x with ⟨_, _, _, _⟩; rfl)) rfl (by first | assumption | rfl | exact get!_of_lt (by omega)) (by rfl) | exact Rd.getFA rfl C3 rfl (by repeat (first | assumption | exact List.mem_cons_self | refine List.mem_cons_of_mem _ ?_)) (by intro x; first | rfl | (cases x; rfl) | (rcases x with ⟨_, _, _⟩; rfl) | (rcases x with ⟨_, _, _, _⟩; rfl)) rfl (by first | assumption | rfl | exact get!_of_lt (by omega)) (by rfl))) ?_
    refine WL.nil ?_
    refine thenQ.normal ?_
    refine WC.block ?_
    refine WC.pick [0, 6, 8, 9, 10, 11, 16] (by repeat (first | exact Pick.nil | apply Pick.cons rfl)) ?_
    refine WC.val 17 (.bool (decide (op = 0 ∨ op = 1))) ?_ ?_
    · skip
      refine WC.seq ?_
      refine WC.region ?_
      refine WL.rd rfl rfl rfl (Rd.eql rfl rfl rfl) ?_
      refine WL.rd rfl rfl rfl (Rd.assign rfl rfl) ?_
      refine WL.nil ?_
      refine thenQ.normal ?_
      first | refine WC.ite rfl (fun hc2 => ?_) (fun hc2 => ?_) | refine WC.cond rfl (fun hc2 => ?_) (fun hc2 => ?_)
      · skip
        refine WC.skip ?_
        exact ⟨by repeat (first | exact Sub.nil | refine Sub.cons rfl (by first | rfl | (first | rfl | exact vb (by omega) | exact vb_t (by omega) | exact vb_f (by omega) | (simp [*]; done) | (simp_all; done))) ?_), (fun _ h => h.thin (SubL.mem (by repeat (first | exact SubL.refl | refine SubL.cons (by repeat (first | assumption | exact List.mem_cons_self | refine List.mem_cons_of_mem _ ?_)) ?_ | refine SubL.skip ?_))))⟩
      · skip
        refine WC.region ?_
        refine WL.rd rfl rfl rfl (Rd.eql rfl rfl rfl) ?_
        refine WL.rd rfl rfl rfl (Rd.assign rfl rfl) ?_
        refine WL.nil ?_
        exact ⟨by repeat (first | exact Sub.nil | refine Sub.cons rfl (by first | rfl | (first | rfl | exact vb (by omega) | exact vb_t (by omega) | exact vb_f (by omega) | (simp [*]; done) | (simp_all; done))) ?_), (fun _ h => h.thin (SubL.mem (by repeat (first | exact SubL.refl | refine SubL.cons (by repeat (first | assumption | exact List.mem_cons_self | refine List.mem_cons_of_mem _ ?_)) ?_ | refine SubL.skip ?_))))⟩
    · skip
      first | refine WC.ite rfl (fun hc3 => ?_) (fun hc3 => ?_) | refine WC.cond rfl (fun hc3 => ?_) (fun hc3 => ?_)
      · skip
        refine WC.seq ?_
        refine WC.pick [0, 6, 8, 9, 10, 11] (by repeat (first | exact Pick.nil | apply Pick.cons rfl)) ?_
        refine WC.val 30 (.bool (decide (rs.length = 0 ∨ rs[0]! ≠ it))) ?_ ?_
        · skip
          refine WC.still mixed (by kernel_rfl) ?_
          refine WA.rd rfl rfl rfl (Rd.move rfl rfl) ?_
          refine WA.rd rfl rfl rfl ((by first | exact Rd.lenE rfl rfl Try.underlying22 (by repeat (first | assumption | exact List.mem_cons_self | refine List.mem_cons_of_mem _ ?_)) | exact Rd.lenA rfl rfl Try.underlying22 (by repeat (first | assumption | exact List.mem_cons_self | refine List.mem_cons_of_mem _ ?_)) | exact Rd.len rfl rfl Try.underlying22)) ?_
          refine WA.rd rfl rfl rfl (Rd.eql rfl rfl rfl) ?_
          refine WA.rd rfl rfl rfl (Rd.move rfl rfl) ?_
          refine WA.case 23 rfl (fun hg23 => ?_) (fun hg23 => ?_)
          · skip
            refine WA.no rfl rfl rfl rfl rfl rfl ?_
            refine WA.no rfl rfl rfl rfl rfl rfl ?_
            refine WA.no rfl rfl rfl rfl rfl rfl ?_
            refine WA.no rfl rfl rfl rfl rfl rfl ?_
            refine WA.no rfl rfl rfl rfl rfl rfl ?_
            refine WA.no rfl rfl rfl rfl rfl rfl ?_
            refine WA.rd rfl rfl rfl (Rd.pick_t rfl rfl rfl) ?_
            refine WA.nil ?_
            exact ⟨by repeat (first | exact Sub.nil | refine Sub.cons rfl (by first | rfl | (first | rfl | exact vb (by omega) | exact vb_t (by omega) | exact vb_f (by omega) | (simp [*]; done) | (simp_all; done))) ?_), (fun _ h => h.thin (SubL.mem (by repeat (first | exact SubL.refl | refine SubL.cons (by repeat (first | assumption | exact List.mem_cons_self | refine List.mem_cons_of_mem _ ?_)) ?_ | refine SubL.skip ?_))))⟩
          · skip
            refine WA.rd_yes rfl rfl rfl rfl rfl rfl (Rd.move rfl rfl) ?_
            refine WA.rd_yes rfl rfl rfl rfl rfl rfl ((by first | exact Rd.idx1 (k := 0) rfl S22 rfl rfl rfl (by repeat (first | assumption | exact List.mem_cons_self | refine List.mem_cons_of_mem _ ?_)) (by first | omega | (simp only [List.length_cons, List.length_nil, List.length_append, List.length_map]; omega)) | exact Rd.idxA1 (k := 0) rfl S22 rfl rfl rfl (by repeat (first | assumption | exact List.mem_cons_self | refine List.mem_cons_of_mem _ ?_)) (by first | omega | (simp only [List.length_cons, List.length_nil, List.length_append, List.length_map]; omega)) | exact Rd.idxR1 (k := 0) rfl S22 rfl rfl rfl (by omega))) ?_
            refine WA.rd_yes rfl rfl rfl rfl rfl rfl ((by first | exact Rd.get rfl C9 rfl (by repeat (first | assumption | exact List.mem_cons_self | refine List.mem_cons_of_mem _ ?_)) (by first | assumption | rfl | exact get!_of_lt (by omega)) | exact Rd.getA rfl C9 rfl (by repeat (first | assumption | exact List.mem_cons_self | refine List.mem_cons_of_mem _ ?_)) (by first | assumption | rfl | exact get!_of_lt (by omega)) | exact Rd.row1 rfl C9 rfl (by repeat (first | assumption | exact List.mem_cons_self | refine List.mem_cons_of_mem _ ?_)) (by rfl) | exact Rd.getF rfl C9 rfl (by repeat (first | assumption | exact List.mem_cons_self | refine List.mem_cons_of_mem _ ?_)) (by intro x; first | rfl | (cases x; rfl) | (rcases x with ⟨_, _, _⟩; rfl) | (rcases x with ⟨_, _, _, _⟩; rfl)) rfl (by first | assumption | rfl | exact get!_of_lt (by omega)) (by rfl) | exact Rd.getFA rfl C9 rfl (by repeat (first | assumption | exact List.mem_cons_self | refine List.mem_cons_of_mem _ ?_)) (by intro x; first | rfl | (cases x; rfl) | (rcases x with ⟨_, _, _⟩; rfl) | (rcases x with ⟨_, _, _, _⟩; rfl)) rfl (by first | assumption | rfl | exact get!_of_lt (by omega)) (by rfl))) ?_
            refine WA.rd_yes rfl rfl rfl rfl rfl rfl ((by first | exact Rd.field rfl F28_1 rfl rfl | exact Rd.fieldE rfl F28_1 rfl (by repeat (first | assumption | exact List.mem_cons_self | refine List.mem_cons_of_mem _ ?_)) (by omega) | exact Rd.fieldA rfl F28_1 rfl (by repeat (first | assumption | exact List.mem_cons_self | refine List.mem_cons_of_mem _ ?_)) (by omega))) ?_
            refine WA.rd_yes rfl rfl rfl rfl rfl rfl ((by first | exact Rd.get rfl C9 rfl (by repeat (first | assumption | exact List.mem_cons_self | refine List.mem_cons_of_mem _ ?_)) (by first | assumption | rfl | exact get!_of_lt (by omega)) | exact Rd.getA rfl C9 rfl (by repeat (first | assumption | exact List.mem_cons_self | refine List.mem_cons_of_mem _ ?_)) (by first | assumption | rfl | exact get!_of_lt (by omega)) | exact Rd.row1 rfl C9 rfl (by repeat (first | assumption | exact List.mem_cons_self | refine List.mem_cons_of_mem _ ?_)) (by rfl) | exact Rd.getF rfl C9 rfl (by repeat (first | assumption | exact List.mem_cons_self | refine List.mem_cons_of_mem _ ?_)) (by intro x; first | rfl | (cases x; rfl) | (rcases x with ⟨_, _, _⟩; rfl) | (rcases x with ⟨_, _, _, _⟩; rfl)) rfl (by first | assumption | rfl | exact get!_of_lt (by omega)) (by rfl) | exact Rd.getFA rfl C9 rfl (by repeat (first | assumption | exact List.mem_cons_self | refine List.mem_cons_of_mem _ ?_)) (by intro x; first | rfl | (cases x; rfl) | (rcases x with ⟨_, _, _⟩; rfl) | (rcases x with ⟨_, _, _, _⟩; rfl)) rfl (by first | assumption | rfl | exact get!_of_lt (by omega)) (by rfl))) ?_
            refine WA.rd_yes rfl rfl rfl rfl rfl rfl (Rd.sneq rfl rfl rfl) ?_
            refine WA.rd rfl rfl rfl (Rd.pick_f rfl rfl rfl) ?_
            refine WA.nil ?_
            exact ⟨by repeat (first | exact Sub.nil | refine Sub.cons rfl (by first | rfl | (first | rfl | exact vb (by omega) | exact vb_t (by omega) | exact vb_f (by omega) | (simp [*]; done) | (simp_all; done))) ?_), (fun _ h => h.thin (SubL.mem (by repeat (first | exact SubL.refl | refine SubL.cons (by repeat (first | assumption | exact List.mem_cons_self | refine List.mem_cons_of_mem _ ?_)) ?_ | refine SubL.skip ?_))))⟩
        · skip
          first | refine WC.ite rfl (fun hc4 => ?_) (fun hc4 => ?_) | refine WC.cond rfl (fun hc4 => ?_) (fun hc4 => ?_)
          · skip
            refine WC.seq ?_
            refine WC.region ?_
            refine WL.rd rfl rfl rfl (Rd.assign rfl rfl) ?_
            refine WL.rd rfl rfl rfl (Rd.assign rfl rfl) ?_
            refine WL.nil ?_
            refine thenQ.normal ?_
            -- ret_1
            have e : applyE xs l [] = ([], 13) := by
              rw [← h4, hd]
              cases rs with
              | nil => simp [applyE, hc3]
              | cons r rs => have : r ≠ it := by simpa using hc4
                             simp [applyE, hc3, this]
            refine WC.heap (R' := Strs (.slice none 0 0) ([] : List (List UInt8)) :: R) (O' := O) (fun w h => ((fun w h => OwnL.sat (by repeat (first | exact OwnL.refl | apply OwnL.take (by repeat (first | exact Take.head _ | apply Take.tail)) | apply OwnL.drop)) w (h.thin (SubL.mem (by repeat (first | exact SubL.refl | refine SubL.cons (by repeat (first | assumption | exact List.mem_cons_self | refine List.mem_cons_of_mem _ ?_)) ?_ | refine SubL.skip ?_))))) w h : Sat R O w).nilE) ?_
            refine WC.ret (Ret.two Try.results10 rfl rfl ?_)
            have h := hk (.slice none 0 0); rwa [e] at h
          · skip
            obtain ⟨hr1, hr2⟩ := not_or.1 hc4
            have hr3 : rs = it :: rs.drop 1 := by have := head_get (l := rs) (by omega); rwa [Decidable.not_not.1 hr2] at this
            refine WC.skip ?_
            refine thenQ.normal ?_
            refine WC.region ?_
            refine WL.rd rfl rfl rfl (Rd.move rfl rfl) ?_
            refine WL.rd rfl rfl rfl (Rd.cut_l (lo := 1) rfl S22 rfl rfl rfl (by repeat (first | assumption | exact List.mem_cons_self | refine List.mem_cons_of_mem _ ?_)) (by omega)) ?_
            refine WL.heap (fun w h => h.weaken (List.mem_cons_self) (fun w hp => SlE.subl (size := 1) (lo := 1) (fun _ => rfl) (by omega) hp)) ?_
            refine WL.rd rfl rfl rfl (Rd.assign rfl rfl) ?_
            refine WL.nil ?_
            refine blockQ.normal ?_
            refine thenQ.normal ?_
            refine WC.seq ?_
            refine WC.region ?_
            refine WL.rd rfl rfl rfl ((by first | exact Rd.field rfl F28_0 rfl rfl | exact Rd.fieldE rfl F28_0 rfl (by repeat (first | assumption | exact List.mem_cons_self | refine List.mem_cons_of_mem _ ?_)) (by omega) | exact Rd.fieldA rfl F28_0 rfl (by repeat (first | assumption | exact List.mem_cons_self | refine List.mem_cons_of_mem _ ?_)) (by omega))) ?_
            refine WL.rd rfl rfl rfl ((by first | exact Rd.get rfl C3 rfl (by repeat (first | assumption | exact List.mem_cons_self | refine List.mem_cons_of_mem _ ?_)) (by first | assumption | rfl | exact get!_of_lt (by omega)) | exact Rd.getA rfl C3 rfl (by repeat (first | assumption | exact List.mem_cons_self | refine List.mem_cons_of_mem _ ?_)) (by first | assumption | rfl | exact get!_of_lt (by omega)) | exact Rd.row1 rfl C3 rfl (by repeat (first | assumption | exact List.mem_cons_self | refine List.mem_cons_of_mem _ ?_)) (by rfl) | exact Rd.getF rfl C3 rfl (by repeat (first | assumption | exact List.mem_cons_self | refine List.mem_cons_of_mem _ ?_)) (by intro x; first | rfl | (cases x; rfl) | (rcases x with ⟨_, _, _⟩; rfl) | (rcases x with ⟨_, _, _, _⟩; rfl)) rfl (by first | assumption | rfl | exact get!_of_lt (by omega)) (by rfl) | exact Rd.getFA rfl C3 rfl (by repeat (first | assumption | exact List.mem_cons_self | refine List.mem_cons_of_mem _ ?_)) (by intro x; first | rfl | (cases x; rfl) | (rcases x with ⟨_, _, _⟩; rfl) | (rcases x with ⟨_, _, _, _⟩; rfl)) rfl (by first | assumption | rfl | exact get!_of_lt (by omega)) (by rfl))) ?_
            refine WL.rd rfl rfl rfl (Rd.neq rfl rfl rfl) ?_
            refine WL.nil ?_
            refine thenQ.normal ?_
            first | refine WC.ite rfl (fun hc6 => ?_) (fun hc6 => ?_) | refine WC.cond rfl (fun hc6 => ?_) (fun hc6 => ?_)
            · skip
              have h0 : op = 0 := by omega
              subst h0
              refine WC.region ?_
              refine WL.rd rfl rfl rfl (Rd.move rfl rfl) ?_
              refine WL.rd rfl rfl rfl ((by first | exact Rd.field rfl F28_1 rfl rfl | exact Rd.fieldE rfl F28_1 rfl (by repeat (first | assumption | exact List.mem_cons_self | refine List.mem_cons_of_mem _ ?_)) (by omega) | exact Rd.fieldA rfl F28_1 rfl (by repeat (first | assumption | exact List.mem_cons_self | refine List.mem_cons_of_mem _ ?_)) (by omega))) ?_
              refine WL.rd rfl rfl rfl ((by first | exact Rd.get rfl C9 rfl (by repeat (first | assumption | exact List.mem_cons_self | refine List.mem_cons_of_mem _ ?_)) (by first | assumption | rfl | exact get!_of_lt (by omega)) | exact Rd.getA rfl C9 rfl (by repeat (first | assumption | exact List.mem_cons_self | refine List.mem_cons_of_mem _ ?_)) (by first | assumption | rfl | exact get!_of_lt (by omega)) | exact Rd.row1 rfl C9 rfl (by repeat (first | assumption | exact List.mem_cons_self | refine List.mem_cons_of_mem _ ?_)) (by rfl) | exact Rd.getF rfl C9 rfl (by repeat (first | assumption | exact List.mem_cons_self | refine List.mem_cons_of_mem _ ?_)) (by intro x; first | rfl | (cases x; rfl) | (rcases x with ⟨_, _, _⟩; rfl) | (rcases x with ⟨_, _, _, _⟩; rfl)) rfl (by first | assumption | rfl | exact get!_of_lt (by omega)) (by rfl) | exact Rd.getFA rfl C9 rfl (by repeat (first | assumption | exact List.mem_cons_self | refine List.mem_cons_of_mem _ ?_)) (by intro x; first | rfl | (cases x; rfl) | (rcases x with ⟨_, _, _⟩; rfl) | (rcases x with ⟨_, _, _, _⟩; rfl)) rfl (by first | assumption | rfl | exact get!_of_lt (by omega)) (by rfl))) ?_
              refine WL.op rfl ?_
              refine OpW.buildSl (ps := [(0, _)]) rfl S22 (by repeat (first | exact Evs.nil | apply Evs.cons rfl)) rfl rfl (by repeat (first | exact CellsOf.nil | apply CellsOf.cons rfl)) (by kernel_rfl) rfl rfl rfl ?_; intro b41
              refine WL.op rfl ?_
              refine OpW.appendRow (enc := one vs) rfl S22 rfl rfl (by repeat (first | assumption | exact Take.head _ | apply Take.tail)) (by repeat (first | assumption | exact Take.head _ | apply Take.tail)) [_] rfl (by rfl) rfl (by intro x; first | rfl | (cases x; rfl) | (rcases x with ⟨_, _, _⟩; rfl) | (rcases x with ⟨_, _, _, _⟩; rfl)) (by intro x; first | rfl | (cases x; rfl) | (rcases x with ⟨_, _, _⟩; rfl) | (rcases x with ⟨_, _, _, _⟩; rfl)) ⟨by simp only [maxLen, List.length_append, List.length_nil, List.length_cons, List.length_drop, List.length_take, List.length_map]; omega, by first | omega | (simp only [List.length_append, List.length_nil, List.length_cons, List.length_drop, List.length_take, List.length_map]; omega)⟩ rfl rfl ?_; intro v42 hv42
              refine WL.rd rfl rfl rfl (Rd.assign rfl rfl) ?_
              refine WL.nil ?_
              refine blockQ.normal ?_
              refine thenQ.normal ?_
              refine WC.region ?_
              refine WL.rd rfl rfl rfl (Rd.add rfl rfl rfl (by omega)) ?_
              refine WL.rd rfl rfl rfl (Rd.move rfl rfl) ?_
              refine WL.nil ?_
              -- next1_1
              have e : applyE (rs.drop 1) (l.drop (k + 1)) (out ++ [it]) = applyE xs l [] := by
                rw [← h4, hd]; conv => rhs; rw [hr3]
                simp [applyE]
              exact loopQ5.mk (k + 1) _ (rs.drop 1) v42 (out ++ [it]) ⟨by omega, by simp; omega, by simp; omega, e⟩ (by first | omega | (dsimp only; omega)) (by repeat (first | exact Sub.nil | refine Sub.cons rfl (by first | rfl | (congr 1; omega) | assumption) ?_)) (fun w h => OwnL.sat (by repeat (first | exact OwnL.refl | apply OwnL.take (by repeat (first | exact Take.head _ | apply Take.tail)) | apply OwnL.drop)) w (h.thin (SubL.mem (by repeat (first | exact SubL.refl | refine SubL.cons (by repeat (first | assumption | exact List.mem_cons_self | refine List.mem_cons_of_mem _ ?_)) ?_ | refine SubL.skip ?_)))))
            · skip
              have h0 : op = 1 := by omega
              subst h0
              refine WC.skip ?_
              refine blockQ.normal ?_
              refine thenQ.normal ?_
              refine WC.region ?_
              refine WL.rd rfl rfl rfl (Rd.add rfl rfl rfl (by omega)) ?_
              refine WL.rd rfl rfl rfl (Rd.move rfl rfl) ?_
              refine WL.nil ?_
              -- next1_2
              have e : applyE (rs.drop 1) (l.drop (k + 1)) out = applyE xs l [] := by
                rw [← h4, hd]; conv => rhs; rw [hr3]
                simp [applyE]
              exact loopQ5.mk (k + 1) _ (rs.drop 1) u out ⟨by omega, by omega, by simp; omega, e⟩ (by first | omega | (dsimp only; omega)) (by repeat (first | exact Sub.nil | refine Sub.cons rfl (by first | rfl | (congr 1; omega) | assumption) ?_)) (fun w h => OwnL.sat (by repeat (first | exact OwnL.refl | apply OwnL.take (by repeat (first | exact Take.head _ | apply Take.tail)) | apply OwnL.drop)) w (h.thin (SubL.mem (by repeat (first | exact SubL.refl | refine SubL.cons (by repeat (first | assumption | exact List.mem_cons_self | refine List.mem_cons_of_mem _ ?_)) ?_ | refine SubL.skip ?_)))))
      · skip
        refine WC.seq ?_
        refine WC.region ?_
        refine WL.rd rfl rfl rfl (Rd.eql rfl rfl rfl) ?_
        refine WL.rd rfl rfl rfl (Rd.assign rfl rfl) ?_
        refine WL.nil ?_
        refine thenQ.normal ?_
        first | refine WC.ite rfl (fun hc5 => ?_) (fun hc5 => ?_) | refine WC.cond rfl (fun hc5 => ?_) (fun hc5 => ?_)
        · skip
          subst hc5
          refine WC.skip ?_
          refine blockQ.normal ?_
          refine thenQ.normal ?_
          refine WC.seq ?_
          refine WC.region ?_
          refine WL.rd rfl rfl rfl ((by first | exact Rd.field rfl F28_0 rfl rfl | exact Rd.fieldE rfl F28_0 rfl (by repeat (first | assumption | exact List.mem_cons_self | refine List.mem_cons_of_mem _ ?_)) (by omega) | exact Rd.fieldA rfl F28_0 rfl (by repeat (first | assumption | exact List.mem_cons_self | refine List.mem_cons_of_mem _ ?_)) (by omega))) ?_
          refine WL.rd rfl rfl rfl ((by first | exact Rd.get rfl C3 rfl (by repeat (first | assumption | exact List.mem_cons_self | refine List.mem_cons_of_mem _ ?_)) (by first | assumption | rfl | exact get!_of_lt (by omega)) | exact Rd.getA rfl C3 rfl (by repeat (first | assumption | exact List.mem_cons_self | refine List.mem_cons_of_mem _ ?_)) (by first | assumption | rfl | exact get!_of_lt (by omega)) | exact Rd.row1 rfl C3 rfl (by repeat (first | assumption | exact List.mem_cons_self | refine List.mem_cons_of_mem _ ?_)) (by rfl) | exact Rd.getF rfl C3 rfl (by repeat (first | assumption | exact List.mem_cons_self | refine List.mem_cons_of_mem _ ?_)) (by intro x; first | rfl | (cases x; rfl) | (rcases x with ⟨_, _, _⟩; rfl) | (rcases x with ⟨_, _, _, _⟩; rfl)) rfl (by first | assumption | rfl | exact get!_of_lt (by omega)) (by rfl) | exact Rd.getFA rfl C3 rfl (by repeat (first | assumption | exact List.mem_cons_self | refine List.mem_cons_of_mem _ ?_)) (by intro x; first | rfl | (cases x; rfl) | (rcases x with ⟨_, _, _⟩; rfl) | (rcases x with ⟨_, _, _, _⟩; rfl)) rfl (by first | assumption | rfl | exact get!_of_lt (by omega)) (by rfl))) ?_
          refine WL.rd rfl rfl rfl (Rd.neq rfl rfl rfl) ?_
          refine WL.nil ?_
          refine thenQ.normal ?_
          first | refine WC.ite rfl (fun hc6 => ?_) (fun hc6 => ?_) | refine WC.cond rfl (fun hc6 => ?_) (fun hc6 => ?_)
          · skip
            refine WC.region ?_
            refine WL.rd rfl rfl rfl (Rd.move rfl rfl) ?_
            refine WL.rd rfl rfl rfl ((by first | exact Rd.field rfl F28_1 rfl rfl | exact Rd.fieldE rfl F28_1 rfl (by repeat (first | assumption | exact List.mem_cons_self | refine List.mem_cons_of_mem _ ?_)) (by omega) | exact Rd.fieldA rfl F28_1 rfl (by repeat (first | assumption | exact List.mem_cons_self | refine List.mem_cons_of_mem _ ?_)) (by omega))) ?_
            refine WL.rd rfl rfl rfl ((by first | exact Rd.get rfl C9 rfl (by repeat (first | assumption | exact List.mem_cons_self | refine List.mem_cons_of_mem _ ?_)) (by first | assumption | rfl | exact get!_of_lt (by omega)) | exact Rd.getA rfl C9 rfl (by repeat (first | assumption | exact List.mem_cons_self | refine List.mem_cons_of_mem _ ?_)) (by first | assumption | rfl | exact get!_of_lt (by omega)) | exact Rd.row1 rfl C9 rfl (by repeat (first | assumption | exact List.mem_cons_self | refine List.mem_cons_of_mem _ ?_)) (by rfl) | exact Rd.getF rfl C9 rfl (by repeat (first | assumption | exact List.mem_cons_self | refine List.mem_cons_of_mem _ ?_)) (by intro x; first | rfl | (cases x; rfl) | (rcases x with ⟨_, _, _⟩; rfl) | (rcases x with ⟨_, _, _, _⟩; rfl)) rfl (by first | assumption | rfl | exact get!_of_lt (by omega)) (by rfl) | exact Rd.getFA rfl C9 rfl (by repeat (first | assumption | exact List.mem_cons_self | refine List.mem_cons_of_mem _ ?_)) (by intro x; first | rfl | (cases x; rfl) | (rcases x with ⟨_, _, _⟩; rfl) | (rcases x with ⟨_, _, _, _⟩; rfl)) rfl (by first | assumption | rfl | exact get!_of_lt (by omega)) (by rfl))) ?_
            refine WL.op rfl ?_
            refine OpW.buildSl (ps := [(0, _)]) rfl S22 (by repeat (first | exact Evs.nil | apply Evs.cons rfl)) rfl rfl (by repeat (first | exact CellsOf.nil | apply CellsOf.cons rfl)) (by kernel_rfl) rfl rfl rfl ?_; intro b41
            refine WL.op rfl ?_
            refine OpW.appendRow (enc := one vs) rfl S22 rfl rfl (by repeat (first | assumption | exact Take.head _ | apply Take.tail)) (by repeat (first | assumption | exact Take.head _ | apply Take.tail)) [_] rfl (by rfl) rfl (by intro x; first | rfl | (cases x; rfl) | (rcases x with ⟨_, _, _⟩; rfl) | (rcases x with ⟨_, _, _, _⟩; rfl)) (by intro x; first | rfl | (cases x; rfl) | (rcases x with ⟨_, _, _⟩; rfl) | (rcases x with ⟨_, _, _, _⟩; rfl)) ⟨by simp only [maxLen, List.length_append, List.length_nil, List.length_cons, List.length_drop, List.length_take, List.length_map]; omega, by first | omega | (simp only [List.length_append, List.length_nil, List.length_cons, List.length_drop, List.length_take, List.length_map]; omega)⟩ rfl rfl ?_; intro v42 hv42
            refine WL.rd rfl rfl rfl (Rd.assign rfl rfl) ?_
            refine WL.nil ?_
            refine blockQ.normal ?_
            refine thenQ.normal ?_
            refine WC.region ?_
            refine WL.rd rfl rfl rfl (Rd.add rfl rfl rfl (by omega)) ?_
            refine WL.rd rfl rfl rfl (Rd.move rfl rfl) ?_
            refine WL.nil ?_
            -- next1_3
            have e : applyE rs (l.drop (k + 1)) (out ++ [it]) = applyE xs l [] := by
              rw [← h4, hd]; simp [applyE]
            exact loopQ5.mk (k + 1) _ rs v42 (out ++ [it]) ⟨by omega, by simp; omega, by omega, e⟩ (by first | omega | (dsimp only; omega)) (by repeat (first | exact Sub.nil | refine Sub.cons rfl (by first | rfl | (congr 1; omega) | assumption) ?_)) (fun w h => OwnL.sat (by repeat (first | exact OwnL.refl | apply OwnL.take (by repeat (first | exact Take.head _ | apply Take.tail)) | apply OwnL.drop)) w (h.thin (SubL.mem (by repeat (first | exact SubL.refl | refine SubL.cons (by repeat (first | assumption | exact List.mem_cons_self | refine List.mem_cons_of_mem _ ?_)) ?_ | refine SubL.skip ?_)))))
          · skip
            exfalso; omega
        · skip
          refine WC.seq ?_
          refine WC.region ?_
          refine WL.rd rfl rfl rfl (Rd.assign rfl rfl) ?_
          refine WL.rd rfl rfl rfl (Rd.assign rfl rfl) ?_
          refine WL.nil ?_
          refine thenQ.normal ?_
          -- ret_2
          have e : applyE xs l [] = ([], 15) := by
            rw [← h4, hd]; simp [applyE, hc3, hc5]
          refine WC.heap (R' := Strs (.slice none 0 0) ([] : List (List UInt8)) :: R) (O' := O) (fun w h => ((fun w h => OwnL.sat (by repeat (first | exact OwnL.refl | apply OwnL.take (by repeat (first | exact Take.head _ | apply Take.tail)) | apply OwnL.drop)) w (h.thin (SubL.mem (by repeat (first | exact SubL.refl | refine SubL.cons (by repeat (first | assumption | exact List.mem_cons_self | refine List.mem_cons_of_mem _ ?_)) ?_ | refine SubL.skip ?_))))) w h : Sat R O w).nilE) ?_
          refine WC.ret (Ret.two Try.results10 rfl rfl ?_)
          have h := hk (.slice none 0 0); rwa [e] at h
  · skip
    refine WC.exit ?_
    refine thenQ.exit ?_
    refine loopQ5.exit ?_
    refine blockQ.exit ?_
    refine thenQ.normal ?_
    refine WC.seq ?_
    refine WC.seq ?_
    refine WC.region ?_
    refine WL.rd rfl rfl rfl (Rd.move rfl rfl) ?_
    refine WL.rd rfl rfl rfl ((by first | exact Rd.lenE rfl rfl Try.underlying22 (by repeat (first | assumption | exact List.mem_cons_self | refine List.mem_cons_of_mem _ ?_)) | exact Rd.lenA rfl rfl Try.underlying22 (by repeat (first | assumption | exact List.mem_cons_self | refine List.mem_cons_of_mem _ ?_)) | exact Rd.len rfl rfl Try.underlying22)) ?_
    refine WL.rd rfl rfl rfl (Rd.gtr rfl rfl rfl) ?_
    refine WL.nil ?_
    refine thenQ.normal ?_
    first | refine WC.ite rfl (fun hc7 => ?_) (fun hc7 => ?_) | refine WC.cond rfl (fun hc7 => ?_) (fun hc7 => ?_)
    · skip
      refine WC.seq ?_
      refine WC.region ?_
      refine WL.rd rfl rfl rfl (Rd.assign rfl rfl) ?_
      refine WL.rd rfl rfl rfl (Rd.assign rfl rfl) ?_
      refine WL.nil ?_
      refine thenQ.normal ?_
      -- ret_3
      have e : applyE xs l [] = ([], 4) := by
        rw [← h4, List.drop_of_length_le (by omega), applyE_nil, if_neg (by omega)]
      refine WC.heap (R' := Strs (.slice none 0 0) ([] : List (List UInt8)) :: R) (O' := O) (fun w h => ((fun w h => OwnL.sat (by repeat (first | exact OwnL.refl | apply OwnL.take (by repeat (first | exact Take.head _ | apply Take.tail)) | apply OwnL.drop)) w (h.thin (SubL.mem (by repeat (first | exact SubL.refl | refine SubL.cons (by repeat (first | assumption | exact List.mem_cons_self | refine List.mem_cons_of_mem _ ?_)) ?_ | refine SubL.skip ?_))))) w h : Sat R O w).nilE) ?_
      refine WC.ret (Ret.two Try.results10 rfl rfl ?_)
      have h := hk (.slice none 0 0); rwa [e] at h
    · skip
      refine WC.skip ?_
      refine thenQ.normal ?_
      refine WC.seq ?_
      refine WC.region ?_
      refine WL.rd rfl rfl rfl (Rd.move rfl rfl) ?_
      refine WL.rd rfl rfl rfl (Rd.assign rfl rfl) ?_
      refine WL.rd rfl rfl rfl (Rd.assign rfl rfl) ?_
      refine WL.nil ?_
      refine thenQ.normal ?_
      -- ret_4
      have e : applyE xs l [] = (out, 0) := by
        rw [← h4, List.drop_of_length_le (by omega), applyE_nil, if_pos (by omega)]
      refine WC.heap (R' := Strs u out :: R) (O' := O) (fun w h => (h.shareA (Take.head _)).thin (SubL.mem (by repeat (first | exact SubL.refl | refine SubL.cons (by repeat (first | assumption | exact List.mem_cons_self | refine List.mem_cons_of_mem _ ?_)) ?_ | refine SubL.skip ?_)))) ?_
      refine WC.ret (Ret.two Try.results10 rfl rfl ?_)
      have h := hk u; rwa [e] at h
end Go.Proofs.Ytdcnlfooopjbaaa
