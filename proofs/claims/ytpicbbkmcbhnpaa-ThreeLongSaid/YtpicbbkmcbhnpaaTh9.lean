/-
  Layer 21: a piece of the three lists.
-/
import Derived.Test.YtpicbbkmcbhnpaaTh8
namespace Go.Proofs.Ytpicbbkmcbhnpaa
open Go Go.SL

/-- A value of one cell. -/
def V1 := { v : Value // v.oneCell' = true }
instance : Inhabited V1 := ⟨⟨.bool false, rfl⟩⟩
def encH (x : V1 × V1 × V1) : List Value := [x.1.1, x.2.1.1, x.2.2.1]
theorem encH_one (x : V1 × V1 × V1) : ((encH x).all Value.oneCell') = true := by
  have h1 := x.1.2
  have h2 := x.2.1.2
  have h3 := x.2.2.2
  simp [encH, h1, h2, h3]
abbrev Hl := List (List UInt8) × List (List UInt8) × List (List UInt8)
/-- Hunks' slices, and what they hold. -/
def HunksR (vsl : List (V1 × V1 × V1)) (hl : List Hl) : RO := fun w => vsl.length = hl.length ∧ ∀ j, j < hl.length → SlE (one vs) vsl[j]!.1.1 hl[j]!.1 w ∧ SlE (one vs) vsl[j]!.2.1.1 hl[j]!.2.1 w ∧ SlE (one vs) vsl[j]!.2.2.1 hl[j]!.2.2 w
theorem HunksR.nil {w : World} : HunksR [] [] w := ⟨rfl, fun _ h => absurd h (Nat.not_lt_zero _)⟩
theorem snoc_at {α : Type} [Inhabited α] (l : List α) (a : α) : (l ++ [a])[l.length]! = a := by simp
theorem snoc_before {α : Type} [Inhabited α] (l : List α) (a : α) {j : Nat} (h : j < l.length) : (l ++ [a])[j]! = l[j]! := by
  rw [getElem!_pos (l ++ [a]) j (by simp; omega), getElem!_pos l j h, List.getElem_append_left h]
theorem HunksR.snoc {vsl : List (V1 × V1 × V1)} {hl : List Hl} {u1 u2 u3 : V1} {b o t : List (List UInt8)} {w : World} (h : HunksR vsl hl w) (h1 : SlE (one vs) u1.1 b w) (h2 : SlE (one vs) u2.1 o w) (h3 : SlE (one vs) u3.1 t w) : HunksR (vsl ++ [(u1, u2, u3)]) (hl ++ [(b, o, t)]) w := by
  refine ⟨by simp [h.1], fun j hj => ?_⟩
  simp only [List.length_append, List.length_cons, List.length_nil] at hj
  rcases Nat.lt_or_ge j hl.length with hlt | hge
  · rw [snoc_before hl _ hlt, snoc_before vsl _ (by rw [h.1]; exact hlt)]
    exact h.2 j hlt
  · obtain rfl : j = hl.length := by omega
    rw [snoc_at]
    rw [← h.1, snoc_at]
    exact ⟨h1, h2, h3⟩
def pieceBad (b o t : List (List UInt8)) : List Hl := if (oneE b o t).isSome then [] else [(b, o, t)]
theorem oneE_len {b o t r : List (List UInt8)} (h : oneE b o t = some r) : r = o ∨ r = t := by
  unfold oneE at h
  split at h
  · exact .inl (by simpa using h.symm)
  · split at h
    · exact .inr (by simpa using h.symm)
    · cases h
theorem oneD_len (b o t : List (List UInt8)) : ((oneE b o t).getD []).length ≤ o.length + t.length := by
  cases h : oneE b o t with
  | none => simp
  | some r => rcases oneE_len h with rfl | rfl <;> simp
abbrev vn (n : Nat) : Value := .int .i64 n
set_option maxHeartbeats 4000000 in
theorem piece_spec {R : List RO} {O : List Own} {POST : Value → List RO → List Own → Prop} {base ours theirs out : List (List UInt8)} {bv ov tv u hv : Value} {bm i0 j0 k0 i j k : Nat} {vsl : List (V1 × V1 × V1)} {hl : List Hl}
    (hb : SlE (one vs) bv base ∈ R) (ho : SlE (one vs) ov ours ∈ R) (ht : SlE (one vs) tv theirs ∈ R) (hH : HunksR vsl hl ∈ R)
    (hi0 : i0 ≤ i) (hi : i ≤ base.length) (hj0 : j0 ≤ j) (hj : j ≤ ours.length) (hk0 : k0 ≤ k) (hkl : k ≤ theirs.length)
    (lb : base.length ≤ 65536) (lo : ours.length ≤ 65536) (lt : theirs.length ≤ 65536) (lout : out.length ≤ 4294967296) (lh : hl.length ≤ 65536)
    (hk : ∀ u' hv' vsl', POST (.tuple #[]) (HunksR vsl' (hl ++ pieceBad ((base.take i).drop i0) ((ours.take j).drop j0) ((theirs.take k).drop k0)) :: R)
      (rowC bm 62 [bv, ov, tv, vn i0, vn j0, vn k0, u', hv'] :: accC 9 1 (one vs) u' (out ++ (oneE ((base.take i).drop i0) ((ours.take j).drop j0) ((theirs.take k).drop k0)).getD []) :: accC 39 3 encH hv' vsl' :: O)) :
    Fun Try.prog 26 #[.pointer (some ⟨bm, 0, none⟩), .int .i64 (i : Int), .int .i64 (j : Int), .int .i64 (k : Int)] R
      (rowC bm 62 [bv, ov, tv, vn i0, vn j0, vn k0, u, hv] :: accC 9 1 (one vs) u out :: accC 39 3 encH hv vsl :: O) POST := by
  refine Fun.know (φ := vsl.length = hl.length) hH (fun w h => h.1) fun hvl => ?_
  refine Fun.enter (l := [_, _, _, _]) Try.func26 rfl Try.ntmps26 rfl (L0 := [(0, _), (1, _), (2, _), (3, _)]) rfl ?_
  refine WC.seq ?_
  refine WC.still mixed (by kernel_rfl) ?_
  refine WA.rd rfl rfl rfl (Rd.move rfl rfl) ?_
  refine WA.rd rfl rfl rfl (Rd.nilc rfl rfl) ?_
  refine WA.rd rfl rfl rfl ((by first | exact Rd.field rfl F62_0 rfl rfl | exact Rd.fieldE rfl F62_0 rfl (by repeat (first | assumption | exact List.mem_cons_self | refine List.mem_cons_of_mem _ ?_)) (by omega) | exact Rd.fieldA rfl F62_0 rfl (by repeat (first | assumption | exact List.mem_cons_self | refine List.mem_cons_of_mem _ ?_)) (by omega))) ?_
  refine WA.rd rfl rfl rfl (Rd.row1 (off := 0) rfl C22 rfl List.mem_cons_self rfl) ?_
  refine WA.rd rfl rfl rfl (Rd.move rfl rfl) ?_
  refine WA.rd rfl rfl rfl (Rd.nilc rfl rfl) ?_
  refine WA.rd rfl rfl rfl ((by first | exact Rd.field rfl F62_3 rfl rfl | exact Rd.fieldE rfl F62_3 rfl (by repeat (first | assumption | exact List.mem_cons_self | refine List.mem_cons_of_mem _ ?_)) (by omega) | exact Rd.fieldA rfl F62_3 rfl (by repeat (first | assumption | exact List.mem_cons_self | refine List.mem_cons_of_mem _ ?_)) (by omega))) ?_
  refine WA.rd rfl rfl rfl ((by first | exact Rd.idxArr1 (k := 0) rfl A60 rfl rfl rfl (by first | omega | (dsimp only; omega)) | exact Rd.idxArr (k := 0) rfl A60 rfl rfl rfl (by first | omega | (dsimp only; omega)) rfl)) ?_
  refine WA.rd rfl rfl rfl (Rd.row1 (off := 3) rfl C3 rfl List.mem_cons_self rfl) ?_
  refine WA.rd rfl rfl rfl (Rd.move rfl rfl) ?_
  refine WA.rd rfl rfl rfl (Rd.cut_lh (lo := i0) (hi := i) rfl S22 rfl rfl rfl rfl rfl hb (by omega) (by omega)) ?_
  refine WA.rd rfl rfl rfl (Rd.move rfl rfl) ?_
  refine WA.rd rfl rfl rfl (Rd.nilc rfl rfl) ?_
  refine WA.rd rfl rfl rfl ((by first | exact Rd.field rfl F62_1 rfl rfl | exact Rd.fieldE rfl F62_1 rfl (by repeat (first | assumption | exact List.mem_cons_self | refine List.mem_cons_of_mem _ ?_)) (by omega) | exact Rd.fieldA rfl F62_1 rfl (by repeat (first | assumption | exact List.mem_cons_self | refine List.mem_cons_of_mem _ ?_)) (by omega))) ?_
  refine WA.rd rfl rfl rfl (Rd.row1 (off := 1) rfl C22 rfl List.mem_cons_self rfl) ?_
  refine WA.rd rfl rfl rfl (Rd.move rfl rfl) ?_
  refine WA.rd rfl rfl rfl (Rd.nilc rfl rfl) ?_
  refine WA.rd rfl rfl rfl ((by first | exact Rd.field rfl F62_3 rfl rfl | exact Rd.fieldE rfl F62_3 rfl (by repeat (first | assumption | exact List.mem_cons_self | refine List.mem_cons_of_mem _ ?_)) (by omega) | exact Rd.fieldA rfl F62_3 rfl (by repeat (first | assumption | exact List.mem_cons_self | refine List.mem_cons_of_mem _ ?_)) (by omega))) ?_
  refine WA.rd rfl rfl rfl ((by first | exact Rd.idxArr1 (k := 1) rfl A60 rfl rfl rfl (by first | omega | (dsimp only; omega)) | exact Rd.idxArr (k := 1) rfl A60 rfl rfl rfl (by first | omega | (dsimp only; omega)) rfl)) ?_
  refine WA.rd rfl rfl rfl (Rd.row1 (off := 4) rfl C3 rfl List.mem_cons_self rfl) ?_
  refine WA.rd rfl rfl rfl (Rd.move rfl rfl) ?_
  refine WA.rd rfl rfl rfl (Rd.cut_lh (lo := j0) (hi := j) rfl S22 rfl rfl rfl rfl rfl ho (by omega) (by omega)) ?_
  refine WA.rd rfl rfl rfl (Rd.move rfl rfl) ?_
  refine WA.rd rfl rfl rfl (Rd.nilc rfl rfl) ?_
  refine WA.rd rfl rfl rfl ((by first | exact Rd.field rfl F62_2 rfl rfl | exact Rd.fieldE rfl F62_2 rfl (by repeat (first | assumption | exact List.mem_cons_self | refine List.mem_cons_of_mem _ ?_)) (by omega) | exact Rd.fieldA rfl F62_2 rfl (by repeat (first | assumption | exact List.mem_cons_self | refine List.mem_cons_of_mem _ ?_)) (by omega))) ?_
  refine WA.rd rfl rfl rfl (Rd.row1 (off := 2) rfl C22 rfl List.mem_cons_self rfl) ?_
  refine WA.rd rfl rfl rfl (Rd.move rfl rfl) ?_
  refine WA.rd rfl rfl rfl (Rd.nilc rfl rfl) ?_
  refine WA.rd rfl rfl rfl ((by first | exact Rd.field rfl F62_3 rfl rfl | exact Rd.fieldE rfl F62_3 rfl (by repeat (first | assumption | exact List.mem_cons_self | refine List.mem_cons_of_mem _ ?_)) (by omega) | exact Rd.fieldA rfl F62_3 rfl (by repeat (first | assumption | exact List.mem_cons_self | refine List.mem_cons_of_mem _ ?_)) (by omega))) ?_
  refine WA.rd rfl rfl rfl ((by first | exact Rd.idxArr1 (k := 2) rfl A60 rfl rfl rfl (by first | omega | (dsimp only; omega)) | exact Rd.idxArr (k := 2) rfl A60 rfl rfl rfl (by first | omega | (dsimp only; omega)) rfl)) ?_
  refine WA.rd rfl rfl rfl (Rd.row1 (off := 5) rfl C3 rfl List.mem_cons_self rfl) ?_
  refine WA.rd rfl rfl rfl (Rd.move rfl rfl) ?_
  refine WA.rd rfl rfl rfl (Rd.cut_lh (lo := k0) (hi := k) rfl S22 rfl rfl rfl rfl rfl ht (by omega) (by omega)) ?_
  refine WA.rd rfl rfl rfl (Rd.assign rfl rfl) ?_
  refine WA.rd rfl rfl rfl (Rd.assign rfl rfl) ?_
  refine WA.rd rfl rfl rfl (Rd.assign rfl rfl) ?_
  refine WA.nil ?_
  refine thenQ.normal ?_
  refine WC.seq ?_
  obtain ⟨B, hB⟩ : ∃ B, B = (base.take i).drop i0 := ⟨_, rfl⟩
  obtain ⟨T1, hT1⟩ : ∃ B, B = (ours.take j).drop j0 := ⟨_, rfl⟩
  obtain ⟨T2, hT2⟩ : ∃ B, B = (theirs.take k).drop k0 := ⟨_, rfl⟩
  have lB : B.length ≤ 65536 := by rw [hB]; simp; omega
  have lT1 : T1.length ≤ 65536 := by rw [hT1]; simp; omega
  have lT2 : T2.length ≤ 65536 := by rw [hT2]; simp; omega
  have lOne := oneD_len B T1 T2
  rw [← hB, ← hT1, ← hT2] at hk
  refine WC.heap (R' := SlE (one vs) (subSl bv 1 i0 i) B :: SlE (one vs) (subSl ov 1 j0 j) T1 :: SlE (one vs) (subSl tv 1 k0 k) T2 :: R) (fun w h => by
    have h1 := h.weaken ht (fun w hp => SlE.sub (size := 1) (lo := k0) (hi := k) (fun _ => rfl) (by omega) (by omega) hp)
    have h2 := h1.weaken (List.mem_cons_of_mem _ ho) (fun w hp => SlE.sub (size := 1) (lo := j0) (hi := j) (fun _ => rfl) (by omega) (by omega) hp)
    have h3 := h2.weaken (List.mem_cons_of_mem _ (List.mem_cons_of_mem _ hb)) (fun w hp => SlE.sub (size := 1) (lo := i0) (hi := i) (fun _ => rfl) (by omega) (by omega) hp)
    rw [← hB, ← hT1, ← hT2] at h3
    exact h3) ?_
  refine WC.pick [0, 8, 9, 10] (by repeat (first | exact Pick.nil | apply Pick.cons rfl)) ?_
  generalize subSl bv 1 i0 i = sb
  generalize subSl ov 1 j0 j = so
  generalize subSl tv 1 k0 k = st
  refine WC.region ?_
  refine WL.rd rfl rfl rfl (Rd.move rfl rfl) ?_
  refine WL.rd rfl rfl rfl (Rd.move rfl rfl) ?_
  refine WL.rd rfl rfl rfl (Rd.move rfl rfl) ?_
  refine WL.op rfl ?_
  refine OpW.call rfl rfl (by repeat (first | exact Evs.nil | apply Evs.cons rfl)) (by kernel_rfl) rfl rfl rfl ?_
  refine one2_spec (base := B) (ours := T1) (theirs := T2) (by repeat (first | assumption | exact List.mem_cons_self | refine List.mem_cons_of_mem _ ?_)) (by repeat (first | assumption | exact List.mem_cons_self | refine List.mem_cons_of_mem _ ?_)) (by repeat (first | assumption | exact List.mem_cons_self | refine List.mem_cons_of_mem _ ?_)) (by omega) (by omega) ?_; intro v50 hv50
  refine WL.heap (fun w h => Sat.shareA (Take.head _) h) ?_
  refine WL.rd rfl rfl rfl (Rd.move rfl rfl) ?_
  refine WL.rd rfl rfl rfl (Rd.extract rfl rfl rfl) ?_
  refine WL.rd rfl rfl rfl (Rd.extract rfl rfl rfl) ?_
  refine WL.rd rfl rfl rfl (Rd.assign rfl rfl) ?_
  refine WL.rd rfl rfl rfl (Rd.assign rfl rfl) ?_
  refine WL.nil ?_
  refine thenQ.normal ?_
  refine WC.seq ?_
  refine WC.seq ?_
  refine WC.region ?_
  refine WL.rd rfl rfl rfl (Rd.move rfl rfl) ?_
  refine WL.rd rfl rfl rfl ((by first | exact Rd.notd rfl rfl | exact Rd.not rfl rfl)) ?_
  refine WL.nil ?_
  refine thenQ.normal ?_
  first | refine WC.ite rfl (fun hc1 => ?_) (fun hc1 => ?_) | refine WC.cond rfl (fun hc1 => ?_) (fun hc1 => ?_)
  · skip
    have hne : pieceBad B T1 T2 = [(B, T1, T2)] := by unfold pieceBad; rw [if_neg (by simpa using hc1)]
    rw [hne] at hk
    refine WC.drawn (O) 17 rfl mixed ?_
    refine WD.take 0 rfl (by kernel_rfl) (Held.mk' (by repeat (first | exact SubL.refl | refine SubL.cons (by repeat (first | assumption | exact List.mem_cons_self | refine List.mem_cons_of_mem _ ?_)) ?_ | refine SubL.skip ?_)) (by repeat (first | exact OwnL.refl | apply OwnL.take (by repeat (first | exact Take.head _ | apply Take.tail)) | apply OwnL.drop))) rfl rfl rfl (Rd.move rfl rfl) ?_
    refine WD.take 1 rfl (by kernel_rfl) (Held.mk' (by repeat (first | exact SubL.refl | refine SubL.cons (by repeat (first | assumption | exact List.mem_cons_self | refine List.mem_cons_of_mem _ ?_)) ?_ | refine SubL.skip ?_)) (by repeat (first | exact OwnL.refl | apply OwnL.take (by repeat (first | exact Take.head _ | apply Take.tail)) | apply OwnL.drop))) rfl rfl rfl (Rd.move rfl rfl) ?_
    refine WD.take 2 rfl (by kernel_rfl) (Held.mk' (by repeat (first | exact SubL.refl | refine SubL.cons (by repeat (first | assumption | exact List.mem_cons_self | refine List.mem_cons_of_mem _ ?_)) ?_ | refine SubL.skip ?_)) (by repeat (first | exact OwnL.refl | apply OwnL.take (by repeat (first | exact Take.head _ | apply Take.tail)) | apply OwnL.drop))) rfl rfl rfl (Rd.nilc rfl rfl) ?_
    refine WD.take 3 rfl (by kernel_rfl) (Held.mk' (by repeat (first | exact SubL.refl | refine SubL.cons (by repeat (first | assumption | exact List.mem_cons_self | refine List.mem_cons_of_mem _ ?_)) ?_ | refine SubL.skip ?_)) (by repeat (first | exact OwnL.refl | apply OwnL.take (by repeat (first | exact Take.head _ | apply Take.tail)) | apply OwnL.drop))) rfl rfl rfl ((by first | exact Rd.field rfl F62_5 rfl rfl | exact Rd.fieldE rfl F62_5 rfl (by repeat (first | assumption | exact List.mem_cons_self | refine List.mem_cons_of_mem _ ?_)) (by omega) | exact Rd.fieldA rfl F62_5 rfl (by repeat (first | assumption | exact List.mem_cons_self | refine List.mem_cons_of_mem _ ?_)) (by omega))) ?_
    refine WD.take 5 rfl (by kernel_rfl) (Held.mk' (by repeat (first | exact SubL.refl | refine SubL.cons (by repeat (first | assumption | exact List.mem_cons_self | refine List.mem_cons_of_mem _ ?_)) ?_ | refine SubL.skip ?_)) (by repeat (first | exact OwnL.refl | apply OwnL.take (by repeat (first | exact Take.head _ | apply Take.tail)) | apply OwnL.drop))) rfl rfl rfl (Rd.move rfl rfl) ?_
    refine WD.take 7 rfl (by kernel_rfl) (Held.mk' (by repeat (first | exact SubL.refl | refine SubL.cons (by repeat (first | assumption | exact List.mem_cons_self | refine List.mem_cons_of_mem _ ?_)) ?_ | refine SubL.skip ?_)) (by repeat (first | exact OwnL.refl | apply OwnL.take (by repeat (first | exact Take.head _ | apply Take.tail)) | apply OwnL.drop))) rfl rfl rfl (Rd.move rfl rfl) ?_
    refine WD.take 9 rfl (by kernel_rfl) (Held.mk' (by repeat (first | exact SubL.refl | refine SubL.cons (by repeat (first | assumption | exact List.mem_cons_self | refine List.mem_cons_of_mem _ ?_)) ?_ | refine SubL.skip ?_)) (by repeat (first | exact OwnL.refl | apply OwnL.take (by repeat (first | exact Take.head _ | apply Take.tail)) | apply OwnL.drop))) rfl rfl rfl (Rd.move rfl rfl) ?_
    refine WD.two 4 6 rfl rfl (by kernel_rfl) rfl rfl ?_ ?_
    · skip
      refine OpW.rd rfl rfl (Rd.row1 (off := 7) rfl C32 rfl (by repeat (first | assumption | exact List.mem_cons_self | refine List.mem_cons_of_mem _ ?_)) rfl) ?_
      refine ⟨(Held.mk' (by repeat (first | exact SubL.refl | refine SubL.cons (by repeat (first | assumption | exact List.mem_cons_self | refine List.mem_cons_of_mem _ ?_)) ?_ | refine SubL.skip ?_)) (by repeat (first | exact OwnL.refl | apply OwnL.take (by repeat (first | exact Take.head _ | apply Take.tail)) | apply OwnL.drop))), ?_⟩
      refine WD.one 6 rfl (by kernel_rfl) rfl ?_
      refine OpW.call rfl rfl (by repeat (first | exact Evs.nil | apply Evs.cons rfl)) (by kernel_rfl) rfl rfl rfl ?_
      refine clone_spec (xs := B) (by repeat (first | assumption | exact List.mem_cons_self | refine List.mem_cons_of_mem _ ?_)) (by omega) ?_; intro v61 hv61
      refine ⟨(Held.mk' (by repeat (first | exact SubL.refl | refine SubL.cons (by repeat (first | assumption | exact List.mem_cons_self | refine List.mem_cons_of_mem _ ?_)) ?_ | refine SubL.skip ?_)) (by repeat (first | exact OwnL.refl | apply OwnL.take (by repeat (first | exact Take.head _ | apply Take.tail)) | apply OwnL.drop))), ?_⟩
      refine WD.one 8 rfl (by kernel_rfl) rfl ?_
      refine OpW.call rfl rfl (by repeat (first | exact Evs.nil | apply Evs.cons rfl)) (by kernel_rfl) rfl rfl rfl ?_
      refine clone_spec (xs := T1) (by repeat (first | assumption | exact List.mem_cons_self | refine List.mem_cons_of_mem _ ?_)) (by omega) ?_; intro v63 hv63
      refine ⟨(Held.mk' (by repeat (first | exact SubL.refl | refine SubL.cons (by repeat (first | assumption | exact List.mem_cons_self | refine List.mem_cons_of_mem _ ?_)) ?_ | refine SubL.skip ?_)) (by repeat (first | exact OwnL.refl | apply OwnL.take (by repeat (first | exact Take.head _ | apply Take.tail)) | apply OwnL.drop))), ?_⟩
      refine WD.one 10 rfl (by kernel_rfl) rfl ?_
      refine OpW.call rfl rfl (by repeat (first | exact Evs.nil | apply Evs.cons rfl)) (by kernel_rfl) rfl rfl rfl ?_
      refine clone_spec (xs := T2) (by repeat (first | assumption | exact List.mem_cons_self | refine List.mem_cons_of_mem _ ?_)) (by omega) ?_; intro v65 hv65
      refine ⟨(Held.mk' (by repeat (first | exact SubL.refl | refine SubL.cons (by repeat (first | assumption | exact List.mem_cons_self | refine List.mem_cons_of_mem _ ?_)) ?_ | refine SubL.skip ?_)) (by repeat (first | exact OwnL.refl | apply OwnL.take (by repeat (first | exact Take.head _ | apply Take.tail)) | apply OwnL.drop))), ?_⟩
      refine WD.take 11 rfl (by kernel_rfl) (Held.mk' (by repeat (first | exact SubL.refl | refine SubL.cons (by repeat (first | assumption | exact List.mem_cons_self | refine List.mem_cons_of_mem _ ?_)) ?_ | refine SubL.skip ?_)) (by repeat (first | exact OwnL.refl | apply OwnL.take (by repeat (first | exact Take.head _ | apply Take.tail)) | apply OwnL.drop))) rfl rfl rfl (Rd.buildN (ps := [(0, _), (1, _), (2, _)]) (cells := [v61, v63, v65]) rfl Bs39 I39 rfl (by repeat (first | exact Evs.nil | apply Evs.cons rfl)) (CellsOf.cons hv61.cells (CellsOf.cons hv63.cells (CellsOf.cons hv65.cells CellsOf.nil))) (NFo.mk (by repeat (first | exact NF.nil | apply NF.cons)))) ?_
      refine WD.one 12 rfl (by kernel_rfl) rfl ?_
      refine OpW.buildSl (ps := [(0, _)]) rfl S32 (by repeat (first | exact Evs.nil | apply Evs.cons rfl)) rfl rfl (by repeat (first | exact CellsOf.nil | apply CellsOf.cons rfl)) (by kernel_rfl) rfl rfl rfl ?_; intro b67
      refine ⟨(Held.mk' (by repeat (first | exact SubL.refl | refine SubL.cons (by repeat (first | assumption | exact List.mem_cons_self | refine List.mem_cons_of_mem _ ?_)) ?_ | refine SubL.skip ?_)) (by repeat (first | exact OwnL.refl | apply OwnL.take (by repeat (first | exact Take.head _ | apply Take.tail)) | apply OwnL.drop))), ?_⟩
      refine WD.one 13 rfl (by kernel_rfl) rfl ?_
      refine OpW.appendRow (enc := encH) rfl S32 rfl rfl (by repeat (first | assumption | exact Take.head _ | apply Take.tail)) (by repeat (first | assumption | exact Take.head _ | apply Take.tail)) [(⟨v61, hv61.one⟩, ⟨v63, hv63.one⟩, ⟨v65, hv65.one⟩)] rfl (by rfl) rfl (fun _ => rfl) encH_one ⟨by simp only [maxLen, List.length_append, List.length_nil, List.length_cons, List.length_drop, List.length_take, List.length_map]; omega, by first | omega | (simp only [List.length_append, List.length_nil, List.length_cons, List.length_drop, List.length_take, List.length_map]; omega)⟩ rfl rfl ?_; intro v68 hv68
      refine ⟨(Held.mk' (by repeat (first | exact SubL.refl | refine SubL.cons (by repeat (first | assumption | exact List.mem_cons_self | refine List.mem_cons_of_mem _ ?_)) ?_ | refine SubL.skip ?_)) (by repeat (first | exact OwnL.refl | apply OwnL.take (by repeat (first | exact Take.head _ | apply Take.tail)) | apply OwnL.drop))), ?_⟩
      refine WD.take 14 rfl (by kernel_rfl) (Held.mk' (by repeat (first | exact SubL.refl | refine SubL.cons (by repeat (first | assumption | exact List.mem_cons_self | refine List.mem_cons_of_mem _ ?_)) ?_ | refine SubL.skip ?_)) (by repeat (first | exact OwnL.refl | apply OwnL.take (by repeat (first | exact Take.head _ | apply Take.tail)) | apply OwnL.drop))) rfl rfl rfl (Rd.nilc rfl rfl) ?_
      refine WD.take 15 rfl (by kernel_rfl) (Held.mk' (by repeat (first | exact SubL.refl | refine SubL.cons (by repeat (first | assumption | exact List.mem_cons_self | refine List.mem_cons_of_mem _ ?_)) ?_ | refine SubL.skip ?_)) (by repeat (first | exact OwnL.refl | apply OwnL.take (by repeat (first | exact Take.head _ | apply Take.tail)) | apply OwnL.drop))) rfl rfl rfl ((by first | exact Rd.field rfl F62_5 rfl rfl | exact Rd.fieldE rfl F62_5 rfl (by repeat (first | assumption | exact List.mem_cons_self | refine List.mem_cons_of_mem _ ?_)) (by omega) | exact Rd.fieldA rfl F62_5 rfl (by repeat (first | assumption | exact List.mem_cons_self | refine List.mem_cons_of_mem _ ?_)) (by omega))) ?_
      refine WD.one 16 rfl (by kernel_rfl) rfl ?_
      refine OpW.store1 rfl Z32 rfl rfl (by first | exact ⟨rfl, rfl⟩ | assumption) (by repeat (first | assumption | exact Take.head _ | apply Take.tail)) (by first | (simp; done) | omega | exact of_decide_eq_true rfl | (simp only [List.length_append, List.length_replicate, List.length_map, List.length_set]; omega)) rfl ?_
      refine ⟨(Held.mk' (by repeat (first | exact SubL.refl | refine SubL.cons (by repeat (first | assumption | exact List.mem_cons_self | refine List.mem_cons_of_mem _ ?_)) ?_ | refine SubL.skip ?_)) (by repeat (first | exact OwnL.refl | apply OwnL.take (by repeat (first | exact Take.head _ | apply Take.tail)) | apply OwnL.drop))), ?_⟩
      refine WD.done (by kernel_rfl) ?_
      refine thenQ.normal ?_
      refine WC.region ?_
      refine WL.rd rfl rfl rfl (Rd.move rfl rfl) ?_
      refine WL.rd rfl rfl rfl (Rd.move rfl rfl) ?_
      refine WL.rd rfl rfl rfl (Rd.nilc rfl rfl) ?_
      refine WL.rd rfl rfl rfl ((by first | exact Rd.field rfl F62_4 rfl rfl | exact Rd.fieldE rfl F62_4 rfl (by repeat (first | assumption | exact List.mem_cons_self | refine List.mem_cons_of_mem _ ?_)) (by omega) | exact Rd.fieldA rfl F62_4 rfl (by repeat (first | assumption | exact List.mem_cons_self | refine List.mem_cons_of_mem _ ?_)) (by omega))) ?_
      refine WL.rd rfl rfl rfl (Rd.row1 (off := 6) rfl C22 rfl (by repeat (first | assumption | exact List.mem_cons_self | refine List.mem_cons_of_mem _ ?_)) rfl) ?_
      refine WL.rd rfl rfl rfl (Rd.move rfl rfl) ?_
      refine WL.op rfl ?_
      refine OpW.appendE (enc := one vs) rfl S22 Try.underlying22 rfl rfl (by repeat (first | assumption | exact Take.head _ | apply Take.tail)) (by repeat (first | assumption | exact List.mem_cons_self | refine List.mem_cons_of_mem _ ?_)) (by intro x; first | rfl | (cases x; rfl) | (rcases x with ⟨_, _, _⟩; rfl) | (rcases x with ⟨_, _, _, _⟩; rfl)) (by intro x; first | rfl | (cases x; rfl) | (rcases x with ⟨_, _, _⟩; rfl) | (rcases x with ⟨_, _, _, _⟩; rfl)) ⟨by simp only [maxLen, List.length_append, List.length_nil, List.length_cons, List.length_drop, List.length_take, List.length_map]; omega, by first | omega | (simp only [List.length_append, List.length_nil, List.length_cons, List.length_drop, List.length_take, List.length_map]; omega)⟩ rfl rfl ?_; intro v77 hv77
      refine WL.rd rfl rfl rfl (Rd.nilc rfl rfl) ?_
      refine WL.rd rfl rfl rfl ((by first | exact Rd.field rfl F62_4 rfl rfl | exact Rd.fieldE rfl F62_4 rfl (by repeat (first | assumption | exact List.mem_cons_self | refine List.mem_cons_of_mem _ ?_)) (by omega) | exact Rd.fieldA rfl F62_4 rfl (by repeat (first | assumption | exact List.mem_cons_self | refine List.mem_cons_of_mem _ ?_)) (by omega))) ?_
      refine WL.op rfl ?_
      refine OpW.store1 rfl Z22 rfl rfl (by first | exact ⟨rfl, rfl⟩ | assumption) (by repeat (first | assumption | exact Take.head _ | apply Take.tail)) (by first | (simp; done) | omega | exact of_decide_eq_true rfl | (simp only [List.length_append, List.length_replicate, List.length_map, List.length_set]; omega)) rfl ?_
      first
        | refine WL.heap (R' := HunksR (vsl ++ [(⟨v61, hv61.one⟩, ⟨v63, hv63.one⟩, ⟨v65, hv65.one⟩)]) (hl ++ [(B, T1, T2)]) :: R) (O' := rowC bm 62 [bv, ov, tv, vn i0, vn j0, vn k0, v77, v68] :: accC 9 1 (one vs) v77 (out ++ (oneE B T1 T2).getD []) :: accC 39 3 encH v68 (vsl ++ [(⟨v61, hv61.one⟩, ⟨v63, hv63.one⟩, ⟨v65, hv65.one⟩)]) :: O) (fun w h => by
            have g1 := Sat.shareA (e := 9) (size := 1) (enc := one vs) (v := v61) (xs := B) (by repeat (first | assumption | exact Take.head _ | apply Take.tail)) h
            have g2 := Sat.shareA (e := 9) (size := 1) (enc := one vs) (v := v63) (xs := T1) (by repeat (first | assumption | exact Take.head _ | apply Take.tail)) g1
            have g3 := Sat.shareA (e := 9) (size := 1) (enc := one vs) (v := v65) (xs := T2) (by repeat (first | assumption | exact Take.head _ | apply Take.tail)) g2
            have g4 := g3.derive (q := HunksR (vsl ++ [(⟨v61, hv61.one⟩, ⟨v63, hv63.one⟩, ⟨v65, hv65.one⟩)]) (hl ++ [(B, T1, T2)])) (fun w hR => HunksR.snoc (hR (HunksR vsl hl) (by repeat (first | assumption | exact List.mem_cons_self | refine List.mem_cons_of_mem _ ?_))) (hR (SlE (one vs) v61 B) (by repeat (first | assumption | exact List.mem_cons_self | refine List.mem_cons_of_mem _ ?_))) (hR (SlE (one vs) v63 T1) (by repeat (first | assumption | exact List.mem_cons_self | refine List.mem_cons_of_mem _ ?_))) (hR (SlE (one vs) v65 T2) (by repeat (first | assumption | exact List.mem_cons_self | refine List.mem_cons_of_mem _ ?_))))
            exact (fun w h => OwnL.sat (by repeat (first | exact OwnL.refl | apply OwnL.take (by repeat (first | exact Take.head _ | apply Take.tail)) | apply OwnL.drop)) w (h.thin (SubL.mem (by repeat (first | exact SubL.refl | refine SubL.cons (by repeat (first | assumption | exact List.mem_cons_self | refine List.mem_cons_of_mem _ ?_)) ?_ | refine SubL.skip ?_))))) w g4) ?_
        | refine WL.heap (R' := HunksR vsl hl :: R) (O' := rowC bm 62 [bv, ov, tv, vn i0, vn j0, vn k0, v77, hv] :: accC 9 1 (one vs) v77 (out ++ (oneE B T1 T2).getD []) :: accC 39 3 encH hv vsl :: O) (fun w h => OwnL.sat (by repeat (first | exact OwnL.refl | apply OwnL.take (by repeat (first | exact Take.head _ | apply Take.tail)) | apply OwnL.drop)) w (h.thin (SubL.mem (by repeat (first | exact SubL.refl | refine SubL.cons (by repeat (first | assumption | exact List.mem_cons_self | refine List.mem_cons_of_mem _ ?_)) ?_ | refine SubL.skip ?_))))) ?_
      refine WL.nil ?_
      -- ret_1
      refine Ret.normal (Ret.zero Try.results26 ?_)
      exact hk _ _ _
    · skip
      refine OpW.call rfl rfl (by repeat (first | exact Evs.nil | apply Evs.cons rfl)) (by kernel_rfl) rfl rfl rfl ?_
      refine clone_spec (xs := B) (by repeat (first | assumption | exact List.mem_cons_self | refine List.mem_cons_of_mem _ ?_)) (by omega) ?_; intro v61 hv61
      refine ⟨(Held.mk' (by repeat (first | exact SubL.refl | refine SubL.cons (by repeat (first | assumption | exact List.mem_cons_self | refine List.mem_cons_of_mem _ ?_)) ?_ | refine SubL.skip ?_)) (by repeat (first | exact OwnL.refl | apply OwnL.take (by repeat (first | exact Take.head _ | apply Take.tail)) | apply OwnL.drop))), ?_⟩
      refine WD.two 4 8 rfl rfl (by kernel_rfl) rfl rfl ?_ ?_
      · skip
        refine OpW.rd rfl rfl (Rd.row1 (off := 7) rfl C32 rfl (by repeat (first | assumption | exact List.mem_cons_self | refine List.mem_cons_of_mem _ ?_)) rfl) ?_
        refine ⟨(Held.mk' (by repeat (first | exact SubL.refl | refine SubL.cons (by repeat (first | assumption | exact List.mem_cons_self | refine List.mem_cons_of_mem _ ?_)) ?_ | refine SubL.skip ?_)) (by repeat (first | exact OwnL.refl | apply OwnL.take (by repeat (first | exact Take.head _ | apply Take.tail)) | apply OwnL.drop))), ?_⟩
        refine WD.one 8 rfl (by kernel_rfl) rfl ?_
        refine OpW.call rfl rfl (by repeat (first | exact Evs.nil | apply Evs.cons rfl)) (by kernel_rfl) rfl rfl rfl ?_
        refine clone_spec (xs := T1) (by repeat (first | assumption | exact List.mem_cons_self | refine List.mem_cons_of_mem _ ?_)) (by omega) ?_; intro v63 hv63
        refine ⟨(Held.mk' (by repeat (first | exact SubL.refl | refine SubL.cons (by repeat (first | assumption | exact List.mem_cons_self | refine List.mem_cons_of_mem _ ?_)) ?_ | refine SubL.skip ?_)) (by repeat (first | exact OwnL.refl | apply OwnL.take (by repeat (first | exact Take.head _ | apply Take.tail)) | apply OwnL.drop))), ?_⟩
        refine WD.one 10 rfl (by kernel_rfl) rfl ?_
        refine OpW.call rfl rfl (by repeat (first | exact Evs.nil | apply Evs.cons rfl)) (by kernel_rfl) rfl rfl rfl ?_
        refine clone_spec (xs := T2) (by repeat (first | assumption | exact List.mem_cons_self | refine List.mem_cons_of_mem _ ?_)) (by omega) ?_; intro v65 hv65
        refine ⟨(Held.mk' (by repeat (first | exact SubL.refl | refine SubL.cons (by repeat (first | assumption | exact List.mem_cons_self | refine List.mem_cons_of_mem _ ?_)) ?_ | refine SubL.skip ?_)) (by repeat (first | exact OwnL.refl | apply OwnL.take (by repeat (first | exact Take.head _ | apply Take.tail)) | apply OwnL.drop))), ?_⟩
        refine WD.take 11 rfl (by kernel_rfl) (Held.mk' (by repeat (first | exact SubL.refl | refine SubL.cons (by repeat (first | assumption | exact List.mem_cons_self | refine List.mem_cons_of_mem _ ?_)) ?_ | refine SubL.skip ?_)) (by repeat (first | exact OwnL.refl | apply OwnL.take (by repeat (first | exact Take.head _ | apply Take.tail)) | apply OwnL.drop))) rfl rfl rfl (Rd.buildN (ps := [(0, _), (1, _), (2, _)]) (cells := [v61, v63, v65]) rfl Bs39 I39 rfl (by repeat (first | exact Evs.nil | apply Evs.cons rfl)) (CellsOf.cons hv61.cells (CellsOf.cons hv63.cells (CellsOf.cons hv65.cells CellsOf.nil))) (NFo.mk (by repeat (first | exact NF.nil | apply NF.cons)))) ?_
        refine WD.one 12 rfl (by kernel_rfl) rfl ?_
        refine OpW.buildSl (ps := [(0, _)]) rfl S32 (by repeat (first | exact Evs.nil | apply Evs.cons rfl)) rfl rfl (by repeat (first | exact CellsOf.nil | apply CellsOf.cons rfl)) (by kernel_rfl) rfl rfl rfl ?_; intro b67
        refine ⟨(Held.mk' (by repeat (first | exact SubL.refl | refine SubL.cons (by repeat (first | assumption | exact List.mem_cons_self | refine List.mem_cons_of_mem _ ?_)) ?_ | refine SubL.skip ?_)) (by repeat (first | exact OwnL.refl | apply OwnL.take (by repeat (first | exact Take.head _ | apply Take.tail)) | apply OwnL.drop))), ?_⟩
        refine WD.one 13 rfl (by kernel_rfl) rfl ?_
        refine OpW.appendRow (enc := encH) rfl S32 rfl rfl (by repeat (first | assumption | exact Take.head _ | apply Take.tail)) (by repeat (first | assumption | exact Take.head _ | apply Take.tail)) [(⟨v61, hv61.one⟩, ⟨v63, hv63.one⟩, ⟨v65, hv65.one⟩)] rfl (by rfl) rfl (fun _ => rfl) encH_one ⟨by simp only [maxLen, List.length_append, List.length_nil, List.length_cons, List.length_drop, List.length_take, List.length_map]; omega, by first | omega | (simp only [List.length_append, List.length_nil, List.length_cons, List.length_drop, List.length_take, List.length_map]; omega)⟩ rfl rfl ?_; intro v68 hv68
        refine ⟨(Held.mk' (by repeat (first | exact SubL.refl | refine SubL.cons (by repeat (first | assumption | exact List.mem_cons_self | refine List.mem_cons_of_mem _ ?_)) ?_ | refine SubL.skip ?_)) (by repeat (first | exact OwnL.refl | apply OwnL.take (by repeat (first | exact Take.head _ | apply Take.tail)) | apply OwnL.drop))), ?_⟩
        refine WD.take 14 rfl (by kernel_rfl) (Held.mk' (by repeat (first | exact SubL.refl | refine SubL.cons (by repeat (first | assumption | exact List.mem_cons_self | refine List.mem_cons_of_mem _ ?_)) ?_ | refine SubL.skip ?_)) (by repeat (first | exact OwnL.refl | apply OwnL.take (by repeat (first | exact Take.head _ | apply Take.tail)) | apply OwnL.drop))) rfl rfl rfl (Rd.nilc rfl rfl) ?_
        refine WD.take 15 rfl (by kernel_rfl) (Held.mk' (by repeat (first | exact SubL.refl | refine SubL.cons (by repeat (first | assumption | exact List.mem_cons_self | refine List.mem_cons_of_mem _ ?_)) ?_ | refine SubL.skip ?_)) (by repeat (first | exact OwnL.refl | apply OwnL.take (by repeat (first | exact Take.head _ | apply Take.tail)) | apply OwnL.drop))) rfl rfl rfl ((by first | exact Rd.field rfl F62_5 rfl rfl | exact Rd.fieldE rfl F62_5 rfl (by repeat (first | assumption | exact List.mem_cons_self | refine List.mem_cons_of_mem _ ?_)) (by omega) | exact Rd.fieldA rfl F62_5 rfl (by repeat (first | assumption | exact List.mem_cons_self | refine List.mem_cons_of_mem _ ?_)) (by omega))) ?_
        refine WD.one 16 rfl (by kernel_rfl) rfl ?_
        refine OpW.store1 rfl Z32 rfl rfl (by first | exact ⟨rfl, rfl⟩ | assumption) (by repeat (first | assumption | exact Take.head _ | apply Take.tail)) (by first | (simp; done) | omega | exact of_decide_eq_true rfl | (simp only [List.length_append, List.length_replicate, List.length_map, List.length_set]; omega)) rfl ?_
        refine ⟨(Held.mk' (by repeat (first | exact SubL.refl | refine SubL.cons (by repeat (first | assumption | exact List.mem_cons_self | refine List.mem_cons_of_mem _ ?_)) ?_ | refine SubL.skip ?_)) (by repeat (first | exact OwnL.refl | apply OwnL.take (by repeat (first | exact Take.head _ | apply Take.tail)) | apply OwnL.drop))), ?_⟩
        refine WD.done (by kernel_rfl) ?_
        refine thenQ.normal ?_
        refine WC.region ?_
        refine WL.rd rfl rfl rfl (Rd.move rfl rfl) ?_
        refine WL.rd rfl rfl rfl (Rd.move rfl rfl) ?_
        refine WL.rd rfl rfl rfl (Rd.nilc rfl rfl) ?_
        refine WL.rd rfl rfl rfl ((by first | exact Rd.field rfl F62_4 rfl rfl | exact Rd.fieldE rfl F62_4 rfl (by repeat (first | assumption | exact List.mem_cons_self | refine List.mem_cons_of_mem _ ?_)) (by omega) | exact Rd.fieldA rfl F62_4 rfl (by repeat (first | assumption | exact List.mem_cons_self | refine List.mem_cons_of_mem _ ?_)) (by omega))) ?_
        refine WL.rd rfl rfl rfl (Rd.row1 (off := 6) rfl C22 rfl (by repeat (first | assumption | exact List.mem_cons_self | refine List.mem_cons_of_mem _ ?_)) rfl) ?_
        refine WL.rd rfl rfl rfl (Rd.move rfl rfl) ?_
        refine WL.op rfl ?_
        refine OpW.appendE (enc := one vs) rfl S22 Try.underlying22 rfl rfl (by repeat (first | assumption | exact Take.head _ | apply Take.tail)) (by repeat (first | assumption | exact List.mem_cons_self | refine List.mem_cons_of_mem _ ?_)) (by intro x; first | rfl | (cases x; rfl) | (rcases x with ⟨_, _, _⟩; rfl) | (rcases x with ⟨_, _, _, _⟩; rfl)) (by intro x; first | rfl | (cases x; rfl) | (rcases x with ⟨_, _, _⟩; rfl) | (rcases x with ⟨_, _, _, _⟩; rfl)) ⟨by simp only [maxLen, List.length_append, List.length_nil, List.length_cons, List.length_drop, List.length_take, List.length_map]; omega, by first | omega | (simp only [List.length_append, List.length_nil, List.length_cons, List.length_drop, List.length_take, List.length_map]; omega)⟩ rfl rfl ?_; intro v77 hv77
        refine WL.rd rfl rfl rfl (Rd.nilc rfl rfl) ?_
        refine WL.rd rfl rfl rfl ((by first | exact Rd.field rfl F62_4 rfl rfl | exact Rd.fieldE rfl F62_4 rfl (by repeat (first | assumption | exact List.mem_cons_self | refine List.mem_cons_of_mem _ ?_)) (by omega) | exact Rd.fieldA rfl F62_4 rfl (by repeat (first | assumption | exact List.mem_cons_self | refine List.mem_cons_of_mem _ ?_)) (by omega))) ?_
        refine WL.op rfl ?_
        refine OpW.store1 rfl Z22 rfl rfl (by first | exact ⟨rfl, rfl⟩ | assumption) (by repeat (first | assumption | exact Take.head _ | apply Take.tail)) (by first | (simp; done) | omega | exact of_decide_eq_true rfl | (simp only [List.length_append, List.length_replicate, List.length_map, List.length_set]; omega)) rfl ?_
        first
          | refine WL.heap (R' := HunksR (vsl ++ [(⟨v61, hv61.one⟩, ⟨v63, hv63.one⟩, ⟨v65, hv65.one⟩)]) (hl ++ [(B, T1, T2)]) :: R) (O' := rowC bm 62 [bv, ov, tv, vn i0, vn j0, vn k0, v77, v68] :: accC 9 1 (one vs) v77 (out ++ (oneE B T1 T2).getD []) :: accC 39 3 encH v68 (vsl ++ [(⟨v61, hv61.one⟩, ⟨v63, hv63.one⟩, ⟨v65, hv65.one⟩)]) :: O) (fun w h => by
              have g1 := Sat.shareA (e := 9) (size := 1) (enc := one vs) (v := v61) (xs := B) (by repeat (first | assumption | exact Take.head _ | apply Take.tail)) h
              have g2 := Sat.shareA (e := 9) (size := 1) (enc := one vs) (v := v63) (xs := T1) (by repeat (first | assumption | exact Take.head _ | apply Take.tail)) g1
              have g3 := Sat.shareA (e := 9) (size := 1) (enc := one vs) (v := v65) (xs := T2) (by repeat (first | assumption | exact Take.head _ | apply Take.tail)) g2
              have g4 := g3.derive (q := HunksR (vsl ++ [(⟨v61, hv61.one⟩, ⟨v63, hv63.one⟩, ⟨v65, hv65.one⟩)]) (hl ++ [(B, T1, T2)])) (fun w hR => HunksR.snoc (hR (HunksR vsl hl) (by repeat (first | assumption | exact List.mem_cons_self | refine List.mem_cons_of_mem _ ?_))) (hR (SlE (one vs) v61 B) (by repeat (first | assumption | exact List.mem_cons_self | refine List.mem_cons_of_mem _ ?_))) (hR (SlE (one vs) v63 T1) (by repeat (first | assumption | exact List.mem_cons_self | refine List.mem_cons_of_mem _ ?_))) (hR (SlE (one vs) v65 T2) (by repeat (first | assumption | exact List.mem_cons_self | refine List.mem_cons_of_mem _ ?_))))
              exact (fun w h => OwnL.sat (by repeat (first | exact OwnL.refl | apply OwnL.take (by repeat (first | exact Take.head _ | apply Take.tail)) | apply OwnL.drop)) w (h.thin (SubL.mem (by repeat (first | exact SubL.refl | refine SubL.cons (by repeat (first | assumption | exact List.mem_cons_self | refine List.mem_cons_of_mem _ ?_)) ?_ | refine SubL.skip ?_))))) w g4) ?_
          | refine WL.heap (R' := HunksR vsl hl :: R) (O' := rowC bm 62 [bv, ov, tv, vn i0, vn j0, vn k0, v77, hv] :: accC 9 1 (one vs) v77 (out ++ (oneE B T1 T2).getD []) :: accC 39 3 encH hv vsl :: O) (fun w h => OwnL.sat (by repeat (first | exact OwnL.refl | apply OwnL.take (by repeat (first | exact Take.head _ | apply Take.tail)) | apply OwnL.drop)) w (h.thin (SubL.mem (by repeat (first | exact SubL.refl | refine SubL.cons (by repeat (first | assumption | exact List.mem_cons_self | refine List.mem_cons_of_mem _ ?_)) ?_ | refine SubL.skip ?_))))) ?_
        refine WL.nil ?_
        -- ret_2
        refine Ret.normal (Ret.zero Try.results26 ?_)
        exact hk _ _ _
      · skip
        refine OpW.call rfl rfl (by repeat (first | exact Evs.nil | apply Evs.cons rfl)) (by kernel_rfl) rfl rfl rfl ?_
        refine clone_spec (xs := T1) (by repeat (first | assumption | exact List.mem_cons_self | refine List.mem_cons_of_mem _ ?_)) (by omega) ?_; intro v63 hv63
        refine ⟨(Held.mk' (by repeat (first | exact SubL.refl | refine SubL.cons (by repeat (first | assumption | exact List.mem_cons_self | refine List.mem_cons_of_mem _ ?_)) ?_ | refine SubL.skip ?_)) (by repeat (first | exact OwnL.refl | apply OwnL.take (by repeat (first | exact Take.head _ | apply Take.tail)) | apply OwnL.drop))), ?_⟩
        refine WD.two 4 10 rfl rfl (by kernel_rfl) rfl rfl ?_ ?_
        · skip
          refine OpW.rd rfl rfl (Rd.row1 (off := 7) rfl C32 rfl (by repeat (first | assumption | exact List.mem_cons_self | refine List.mem_cons_of_mem _ ?_)) rfl) ?_
          refine ⟨(Held.mk' (by repeat (first | exact SubL.refl | refine SubL.cons (by repeat (first | assumption | exact List.mem_cons_self | refine List.mem_cons_of_mem _ ?_)) ?_ | refine SubL.skip ?_)) (by repeat (first | exact OwnL.refl | apply OwnL.take (by repeat (first | exact Take.head _ | apply Take.tail)) | apply OwnL.drop))), ?_⟩
          refine WD.one 10 rfl (by kernel_rfl) rfl ?_
          refine OpW.call rfl rfl (by repeat (first | exact Evs.nil | apply Evs.cons rfl)) (by kernel_rfl) rfl rfl rfl ?_
          refine clone_spec (xs := T2) (by repeat (first | assumption | exact List.mem_cons_self | refine List.mem_cons_of_mem _ ?_)) (by omega) ?_; intro v65 hv65
          refine ⟨(Held.mk' (by repeat (first | exact SubL.refl | refine SubL.cons (by repeat (first | assumption | exact List.mem_cons_self | refine List.mem_cons_of_mem _ ?_)) ?_ | refine SubL.skip ?_)) (by repeat (first | exact OwnL.refl | apply OwnL.take (by repeat (first | exact Take.head _ | apply Take.tail)) | apply OwnL.drop))), ?_⟩
          refine WD.take 11 rfl (by kernel_rfl) (Held.mk' (by repeat (first | exact SubL.refl | refine SubL.cons (by repeat (first | assumption | exact List.mem_cons_self | refine List.mem_cons_of_mem _ ?_)) ?_ | refine SubL.skip ?_)) (by repeat (first | exact OwnL.refl | apply OwnL.take (by repeat (first | exact Take.head _ | apply Take.tail)) | apply OwnL.drop))) rfl rfl rfl (Rd.buildN (ps := [(0, _), (1, _), (2, _)]) (cells := [v61, v63, v65]) rfl Bs39 I39 rfl (by repeat (first | exact Evs.nil | apply Evs.cons rfl)) (CellsOf.cons hv61.cells (CellsOf.cons hv63.cells (CellsOf.cons hv65.cells CellsOf.nil))) (NFo.mk (by repeat (first | exact NF.nil | apply NF.cons)))) ?_
          refine WD.one 12 rfl (by kernel_rfl) rfl ?_
          refine OpW.buildSl (ps := [(0, _)]) rfl S32 (by repeat (first | exact Evs.nil | apply Evs.cons rfl)) rfl rfl (by repeat (first | exact CellsOf.nil | apply CellsOf.cons rfl)) (by kernel_rfl) rfl rfl rfl ?_; intro b67
          refine ⟨(Held.mk' (by repeat (first | exact SubL.refl | refine SubL.cons (by repeat (first | assumption | exact List.mem_cons_self | refine List.mem_cons_of_mem _ ?_)) ?_ | refine SubL.skip ?_)) (by repeat (first | exact OwnL.refl | apply OwnL.take (by repeat (first | exact Take.head _ | apply Take.tail)) | apply OwnL.drop))), ?_⟩
          refine WD.one 13 rfl (by kernel_rfl) rfl ?_
          refine OpW.appendRow (enc := encH) rfl S32 rfl rfl (by repeat (first | assumption | exact Take.head _ | apply Take.tail)) (by repeat (first | assumption | exact Take.head _ | apply Take.tail)) [(⟨v61, hv61.one⟩, ⟨v63, hv63.one⟩, ⟨v65, hv65.one⟩)] rfl (by rfl) rfl (fun _ => rfl) encH_one ⟨by simp only [maxLen, List.length_append, List.length_nil, List.length_cons, List.length_drop, List.length_take, List.length_map]; omega, by first | omega | (simp only [List.length_append, List.length_nil, List.length_cons, List.length_drop, List.length_take, List.length_map]; omega)⟩ rfl rfl ?_; intro v68 hv68
          refine ⟨(Held.mk' (by repeat (first | exact SubL.refl | refine SubL.cons (by repeat (first | assumption | exact List.mem_cons_self | refine List.mem_cons_of_mem _ ?_)) ?_ | refine SubL.skip ?_)) (by repeat (first | exact OwnL.refl | apply OwnL.take (by repeat (first | exact Take.head _ | apply Take.tail)) | apply OwnL.drop))), ?_⟩
          refine WD.take 14 rfl (by kernel_rfl) (Held.mk' (by repeat (first | exact SubL.refl | refine SubL.cons (by repeat (first | assumption | exact List.mem_cons_self | refine List.mem_cons_of_mem _ ?_)) ?_ | refine SubL.skip ?_)) (by repeat (first | exact OwnL.refl | apply OwnL.take (by repeat (first | exact Take.head _ | apply Take.tail)) | apply OwnL.drop))) rfl rfl rfl (Rd.nilc rfl rfl) ?_
          refine WD.take 15 rfl (by kernel_rfl) (Held.mk' (by repeat (first | exact SubL.refl | refine SubL.cons (by repeat (first | assumption | exact List.mem_cons_self | refine List.mem_cons_of_mem _ ?_)) ?_ | refine SubL.skip ?_)) (by repeat (first | exact OwnL.refl | apply OwnL.take (by repeat (first | exact Take.head _ | apply Take.tail)) | apply OwnL.drop))) rfl rfl rfl ((by first | exact Rd.field rfl F62_5 rfl rfl | exact Rd.fieldE rfl F62_5 rfl (by repeat (first | assumption | exact List.mem_cons_self | refine List.mem_cons_of_mem _ ?_)) (by omega) | exact Rd.fieldA rfl F62_5 rfl (by repeat (first | assumption | exact List.mem_cons_self | refine List.mem_cons_of_mem _ ?_)) (by omega))) ?_
          refine WD.one 16 rfl (by kernel_rfl) rfl ?_
          refine OpW.store1 rfl Z32 rfl rfl (by first | exact ⟨rfl, rfl⟩ | assumption) (by repeat (first | assumption | exact Take.head _ | apply Take.tail)) (by first | (simp; done) | omega | exact of_decide_eq_true rfl | (simp only [List.length_append, List.length_replicate, List.length_map, List.length_set]; omega)) rfl ?_
          refine ⟨(Held.mk' (by repeat (first | exact SubL.refl | refine SubL.cons (by repeat (first | assumption | exact List.mem_cons_self | refine List.mem_cons_of_mem _ ?_)) ?_ | refine SubL.skip ?_)) (by repeat (first | exact OwnL.refl | apply OwnL.take (by repeat (first | exact Take.head _ | apply Take.tail)) | apply OwnL.drop))), ?_⟩
          refine WD.done (by kernel_rfl) ?_
          refine thenQ.normal ?_
          refine WC.region ?_
          refine WL.rd rfl rfl rfl (Rd.move rfl rfl) ?_
          refine WL.rd rfl rfl rfl (Rd.move rfl rfl) ?_
          refine WL.rd rfl rfl rfl (Rd.nilc rfl rfl) ?_
          refine WL.rd rfl rfl rfl ((by first | exact Rd.field rfl F62_4 rfl rfl | exact Rd.fieldE rfl F62_4 rfl (by repeat (first | assumption | exact List.mem_cons_self | refine List.mem_cons_of_mem _ ?_)) (by omega) | exact Rd.fieldA rfl F62_4 rfl (by repeat (first | assumption | exact List.mem_cons_self | refine List.mem_cons_of_mem _ ?_)) (by omega))) ?_
          refine WL.rd rfl rfl rfl (Rd.row1 (off := 6) rfl C22 rfl (by repeat (first | assumption | exact List.mem_cons_self | refine List.mem_cons_of_mem _ ?_)) rfl) ?_
          refine WL.rd rfl rfl rfl (Rd.move rfl rfl) ?_
          refine WL.op rfl ?_
          refine OpW.appendE (enc := one vs) rfl S22 Try.underlying22 rfl rfl (by repeat (first | assumption | exact Take.head _ | apply Take.tail)) (by repeat (first | assumption | exact List.mem_cons_self | refine List.mem_cons_of_mem _ ?_)) (by intro x; first | rfl | (cases x; rfl) | (rcases x with ⟨_, _, _⟩; rfl) | (rcases x with ⟨_, _, _, _⟩; rfl)) (by intro x; first | rfl | (cases x; rfl) | (rcases x with ⟨_, _, _⟩; rfl) | (rcases x with ⟨_, _, _, _⟩; rfl)) ⟨by simp only [maxLen, List.length_append, List.length_nil, List.length_cons, List.length_drop, List.length_take, List.length_map]; omega, by first | omega | (simp only [List.length_append, List.length_nil, List.length_cons, List.length_drop, List.length_take, List.length_map]; omega)⟩ rfl rfl ?_; intro v77 hv77
          refine WL.rd rfl rfl rfl (Rd.nilc rfl rfl) ?_
          refine WL.rd rfl rfl rfl ((by first | exact Rd.field rfl F62_4 rfl rfl | exact Rd.fieldE rfl F62_4 rfl (by repeat (first | assumption | exact List.mem_cons_self | refine List.mem_cons_of_mem _ ?_)) (by omega) | exact Rd.fieldA rfl F62_4 rfl (by repeat (first | assumption | exact List.mem_cons_self | refine List.mem_cons_of_mem _ ?_)) (by omega))) ?_
          refine WL.op rfl ?_
          refine OpW.store1 rfl Z22 rfl rfl (by first | exact ⟨rfl, rfl⟩ | assumption) (by repeat (first | assumption | exact Take.head _ | apply Take.tail)) (by first | (simp; done) | omega | exact of_decide_eq_true rfl | (simp only [List.length_append, List.length_replicate, List.length_map, List.length_set]; omega)) rfl ?_
          first
            | refine WL.heap (R' := HunksR (vsl ++ [(⟨v61, hv61.one⟩, ⟨v63, hv63.one⟩, ⟨v65, hv65.one⟩)]) (hl ++ [(B, T1, T2)]) :: R) (O' := rowC bm 62 [bv, ov, tv, vn i0, vn j0, vn k0, v77, v68] :: accC 9 1 (one vs) v77 (out ++ (oneE B T1 T2).getD []) :: accC 39 3 encH v68 (vsl ++ [(⟨v61, hv61.one⟩, ⟨v63, hv63.one⟩, ⟨v65, hv65.one⟩)]) :: O) (fun w h => by
                have g1 := Sat.shareA (e := 9) (size := 1) (enc := one vs) (v := v61) (xs := B) (by repeat (first | assumption | exact Take.head _ | apply Take.tail)) h
                have g2 := Sat.shareA (e := 9) (size := 1) (enc := one vs) (v := v63) (xs := T1) (by repeat (first | assumption | exact Take.head _ | apply Take.tail)) g1
                have g3 := Sat.shareA (e := 9) (size := 1) (enc := one vs) (v := v65) (xs := T2) (by repeat (first | assumption | exact Take.head _ | apply Take.tail)) g2
                have g4 := g3.derive (q := HunksR (vsl ++ [(⟨v61, hv61.one⟩, ⟨v63, hv63.one⟩, ⟨v65, hv65.one⟩)]) (hl ++ [(B, T1, T2)])) (fun w hR => HunksR.snoc (hR (HunksR vsl hl) (by repeat (first | assumption | exact List.mem_cons_self | refine List.mem_cons_of_mem _ ?_))) (hR (SlE (one vs) v61 B) (by repeat (first | assumption | exact List.mem_cons_self | refine List.mem_cons_of_mem _ ?_))) (hR (SlE (one vs) v63 T1) (by repeat (first | assumption | exact List.mem_cons_self | refine List.mem_cons_of_mem _ ?_))) (hR (SlE (one vs) v65 T2) (by repeat (first | assumption | exact List.mem_cons_self | refine List.mem_cons_of_mem _ ?_))))
                exact (fun w h => OwnL.sat (by repeat (first | exact OwnL.refl | apply OwnL.take (by repeat (first | exact Take.head _ | apply Take.tail)) | apply OwnL.drop)) w (h.thin (SubL.mem (by repeat (first | exact SubL.refl | refine SubL.cons (by repeat (first | assumption | exact List.mem_cons_self | refine List.mem_cons_of_mem _ ?_)) ?_ | refine SubL.skip ?_))))) w g4) ?_
            | refine WL.heap (R' := HunksR vsl hl :: R) (O' := rowC bm 62 [bv, ov, tv, vn i0, vn j0, vn k0, v77, hv] :: accC 9 1 (one vs) v77 (out ++ (oneE B T1 T2).getD []) :: accC 39 3 encH hv vsl :: O) (fun w h => OwnL.sat (by repeat (first | exact OwnL.refl | apply OwnL.take (by repeat (first | exact Take.head _ | apply Take.tail)) | apply OwnL.drop)) w (h.thin (SubL.mem (by repeat (first | exact SubL.refl | refine SubL.cons (by repeat (first | assumption | exact List.mem_cons_self | refine List.mem_cons_of_mem _ ?_)) ?_ | refine SubL.skip ?_))))) ?_
          refine WL.nil ?_
          -- ret_3
          refine Ret.normal (Ret.zero Try.results26 ?_)
          exact hk _ _ _
        · skip
          refine OpW.call rfl rfl (by repeat (first | exact Evs.nil | apply Evs.cons rfl)) (by kernel_rfl) rfl rfl rfl ?_
          refine clone_spec (xs := T2) (by repeat (first | assumption | exact List.mem_cons_self | refine List.mem_cons_of_mem _ ?_)) (by omega) ?_; intro v65 hv65
          refine ⟨(Held.mk' (by repeat (first | exact SubL.refl | refine SubL.cons (by repeat (first | assumption | exact List.mem_cons_self | refine List.mem_cons_of_mem _ ?_)) ?_ | refine SubL.skip ?_)) (by repeat (first | exact OwnL.refl | apply OwnL.take (by repeat (first | exact Take.head _ | apply Take.tail)) | apply OwnL.drop))), ?_⟩
          refine WD.take 11 rfl (by kernel_rfl) (Held.mk' (by repeat (first | exact SubL.refl | refine SubL.cons (by repeat (first | assumption | exact List.mem_cons_self | refine List.mem_cons_of_mem _ ?_)) ?_ | refine SubL.skip ?_)) (by repeat (first | exact OwnL.refl | apply OwnL.take (by repeat (first | exact Take.head _ | apply Take.tail)) | apply OwnL.drop))) rfl rfl rfl (Rd.buildN (ps := [(0, _), (1, _), (2, _)]) (cells := [v61, v63, v65]) rfl Bs39 I39 rfl (by repeat (first | exact Evs.nil | apply Evs.cons rfl)) (CellsOf.cons hv61.cells (CellsOf.cons hv63.cells (CellsOf.cons hv65.cells CellsOf.nil))) (NFo.mk (by repeat (first | exact NF.nil | apply NF.cons)))) ?_
          refine WD.two 4 12 rfl rfl (by kernel_rfl) rfl rfl ?_ ?_
          · skip
            refine OpW.rd rfl rfl (Rd.row1 (off := 7) rfl C32 rfl (by repeat (first | assumption | exact List.mem_cons_self | refine List.mem_cons_of_mem _ ?_)) rfl) ?_
            refine ⟨(Held.mk' (by repeat (first | exact SubL.refl | refine SubL.cons (by repeat (first | assumption | exact List.mem_cons_self | refine List.mem_cons_of_mem _ ?_)) ?_ | refine SubL.skip ?_)) (by repeat (first | exact OwnL.refl | apply OwnL.take (by repeat (first | exact Take.head _ | apply Take.tail)) | apply OwnL.drop))), ?_⟩
            refine WD.one 12 rfl (by kernel_rfl) rfl ?_
            refine OpW.buildSl (ps := [(0, _)]) rfl S32 (by repeat (first | exact Evs.nil | apply Evs.cons rfl)) rfl rfl (by repeat (first | exact CellsOf.nil | apply CellsOf.cons rfl)) (by kernel_rfl) rfl rfl rfl ?_; intro b67
            refine ⟨(Held.mk' (by repeat (first | exact SubL.refl | refine SubL.cons (by repeat (first | assumption | exact List.mem_cons_self | refine List.mem_cons_of_mem _ ?_)) ?_ | refine SubL.skip ?_)) (by repeat (first | exact OwnL.refl | apply OwnL.take (by repeat (first | exact Take.head _ | apply Take.tail)) | apply OwnL.drop))), ?_⟩
            refine WD.one 13 rfl (by kernel_rfl) rfl ?_
            refine OpW.appendRow (enc := encH) rfl S32 rfl rfl (by repeat (first | assumption | exact Take.head _ | apply Take.tail)) (by repeat (first | assumption | exact Take.head _ | apply Take.tail)) [(⟨v61, hv61.one⟩, ⟨v63, hv63.one⟩, ⟨v65, hv65.one⟩)] rfl (by rfl) rfl (fun _ => rfl) encH_one ⟨by simp only [maxLen, List.length_append, List.length_nil, List.length_cons, List.length_drop, List.length_take, List.length_map]; omega, by first | omega | (simp only [List.length_append, List.length_nil, List.length_cons, List.length_drop, List.length_take, List.length_map]; omega)⟩ rfl rfl ?_; intro v68 hv68
            refine ⟨(Held.mk' (by repeat (first | exact SubL.refl | refine SubL.cons (by repeat (first | assumption | exact List.mem_cons_self | refine List.mem_cons_of_mem _ ?_)) ?_ | refine SubL.skip ?_)) (by repeat (first | exact OwnL.refl | apply OwnL.take (by repeat (first | exact Take.head _ | apply Take.tail)) | apply OwnL.drop))), ?_⟩
            refine WD.take 14 rfl (by kernel_rfl) (Held.mk' (by repeat (first | exact SubL.refl | refine SubL.cons (by repeat (first | assumption | exact List.mem_cons_self | refine List.mem_cons_of_mem _ ?_)) ?_ | refine SubL.skip ?_)) (by repeat (first | exact OwnL.refl | apply OwnL.take (by repeat (first | exact Take.head _ | apply Take.tail)) | apply OwnL.drop))) rfl rfl rfl (Rd.nilc rfl rfl) ?_
            refine WD.take 15 rfl (by kernel_rfl) (Held.mk' (by repeat (first | exact SubL.refl | refine SubL.cons (by repeat (first | assumption | exact List.mem_cons_self | refine List.mem_cons_of_mem _ ?_)) ?_ | refine SubL.skip ?_)) (by repeat (first | exact OwnL.refl | apply OwnL.take (by repeat (first | exact Take.head _ | apply Take.tail)) | apply OwnL.drop))) rfl rfl rfl ((by first | exact Rd.field rfl F62_5 rfl rfl | exact Rd.fieldE rfl F62_5 rfl (by repeat (first | assumption | exact List.mem_cons_self | refine List.mem_cons_of_mem _ ?_)) (by omega) | exact Rd.fieldA rfl F62_5 rfl (by repeat (first | assumption | exact List.mem_cons_self | refine List.mem_cons_of_mem _ ?_)) (by omega))) ?_
            refine WD.one 16 rfl (by kernel_rfl) rfl ?_
            refine OpW.store1 rfl Z32 rfl rfl (by first | exact ⟨rfl, rfl⟩ | assumption) (by repeat (first | assumption | exact Take.head _ | apply Take.tail)) (by first | (simp; done) | omega | exact of_decide_eq_true rfl | (simp only [List.length_append, List.length_replicate, List.length_map, List.length_set]; omega)) rfl ?_
            refine ⟨(Held.mk' (by repeat (first | exact SubL.refl | refine SubL.cons (by repeat (first | assumption | exact List.mem_cons_self | refine List.mem_cons_of_mem _ ?_)) ?_ | refine SubL.skip ?_)) (by repeat (first | exact OwnL.refl | apply OwnL.take (by repeat (first | exact Take.head _ | apply Take.tail)) | apply OwnL.drop))), ?_⟩
            refine WD.done (by kernel_rfl) ?_
            refine thenQ.normal ?_
            refine WC.region ?_
            refine WL.rd rfl rfl rfl (Rd.move rfl rfl) ?_
            refine WL.rd rfl rfl rfl (Rd.move rfl rfl) ?_
            refine WL.rd rfl rfl rfl (Rd.nilc rfl rfl) ?_
            refine WL.rd rfl rfl rfl ((by first | exact Rd.field rfl F62_4 rfl rfl | exact Rd.fieldE rfl F62_4 rfl (by repeat (first | assumption | exact List.mem_cons_self | refine List.mem_cons_of_mem _ ?_)) (by omega) | exact Rd.fieldA rfl F62_4 rfl (by repeat (first | assumption | exact List.mem_cons_self | refine List.mem_cons_of_mem _ ?_)) (by omega))) ?_
            refine WL.rd rfl rfl rfl (Rd.row1 (off := 6) rfl C22 rfl (by repeat (first | assumption | exact List.mem_cons_self | refine List.mem_cons_of_mem _ ?_)) rfl) ?_
            refine WL.rd rfl rfl rfl (Rd.move rfl rfl) ?_
            refine WL.op rfl ?_
            refine OpW.appendE (enc := one vs) rfl S22 Try.underlying22 rfl rfl (by repeat (first | assumption | exact Take.head _ | apply Take.tail)) (by repeat (first | assumption | exact List.mem_cons_self | refine List.mem_cons_of_mem _ ?_)) (by intro x; first | rfl | (cases x; rfl) | (rcases x with ⟨_, _, _⟩; rfl) | (rcases x with ⟨_, _, _, _⟩; rfl)) (by intro x; first | rfl | (cases x; rfl) | (rcases x with ⟨_, _, _⟩; rfl) | (rcases x with ⟨_, _, _, _⟩; rfl)) ⟨by simp only [maxLen, List.length_append, List.length_nil, List.length_cons, List.length_drop, List.length_take, List.length_map]; omega, by first | omega | (simp only [List.length_append, List.length_nil, List.length_cons, List.length_drop, List.length_take, List.length_map]; omega)⟩ rfl rfl ?_; intro v77 hv77
            refine WL.rd rfl rfl rfl (Rd.nilc rfl rfl) ?_
            refine WL.rd rfl rfl rfl ((by first | exact Rd.field rfl F62_4 rfl rfl | exact Rd.fieldE rfl F62_4 rfl (by repeat (first | assumption | exact List.mem_cons_self | refine List.mem_cons_of_mem _ ?_)) (by omega) | exact Rd.fieldA rfl F62_4 rfl (by repeat (first | assumption | exact List.mem_cons_self | refine List.mem_cons_of_mem _ ?_)) (by omega))) ?_
            refine WL.op rfl ?_
            refine OpW.store1 rfl Z22 rfl rfl (by first | exact ⟨rfl, rfl⟩ | assumption) (by repeat (first | assumption | exact Take.head _ | apply Take.tail)) (by first | (simp; done) | omega | exact of_decide_eq_true rfl | (simp only [List.length_append, List.length_replicate, List.length_map, List.length_set]; omega)) rfl ?_
            first
              | refine WL.heap (R' := HunksR (vsl ++ [(⟨v61, hv61.one⟩, ⟨v63, hv63.one⟩, ⟨v65, hv65.one⟩)]) (hl ++ [(B, T1, T2)]) :: R) (O' := rowC bm 62 [bv, ov, tv, vn i0, vn j0, vn k0, v77, v68] :: accC 9 1 (one vs) v77 (out ++ (oneE B T1 T2).getD []) :: accC 39 3 encH v68 (vsl ++ [(⟨v61, hv61.one⟩, ⟨v63, hv63.one⟩, ⟨v65, hv65.one⟩)]) :: O) (fun w h => by
                  have g1 := Sat.shareA (e := 9) (size := 1) (enc := one vs) (v := v61) (xs := B) (by repeat (first | assumption | exact Take.head _ | apply Take.tail)) h
                  have g2 := Sat.shareA (e := 9) (size := 1) (enc := one vs) (v := v63) (xs := T1) (by repeat (first | assumption | exact Take.head _ | apply Take.tail)) g1
                  have g3 := Sat.shareA (e := 9) (size := 1) (enc := one vs) (v := v65) (xs := T2) (by repeat (first | assumption | exact Take.head _ | apply Take.tail)) g2
                  have g4 := g3.derive (q := HunksR (vsl ++ [(⟨v61, hv61.one⟩, ⟨v63, hv63.one⟩, ⟨v65, hv65.one⟩)]) (hl ++ [(B, T1, T2)])) (fun w hR => HunksR.snoc (hR (HunksR vsl hl) (by repeat (first | assumption | exact List.mem_cons_self | refine List.mem_cons_of_mem _ ?_))) (hR (SlE (one vs) v61 B) (by repeat (first | assumption | exact List.mem_cons_self | refine List.mem_cons_of_mem _ ?_))) (hR (SlE (one vs) v63 T1) (by repeat (first | assumption | exact List.mem_cons_self | refine List.mem_cons_of_mem _ ?_))) (hR (SlE (one vs) v65 T2) (by repeat (first | assumption | exact List.mem_cons_self | refine List.mem_cons_of_mem _ ?_))))
                  exact (fun w h => OwnL.sat (by repeat (first | exact OwnL.refl | apply OwnL.take (by repeat (first | exact Take.head _ | apply Take.tail)) | apply OwnL.drop)) w (h.thin (SubL.mem (by repeat (first | exact SubL.refl | refine SubL.cons (by repeat (first | assumption | exact List.mem_cons_self | refine List.mem_cons_of_mem _ ?_)) ?_ | refine SubL.skip ?_))))) w g4) ?_
              | refine WL.heap (R' := HunksR vsl hl :: R) (O' := rowC bm 62 [bv, ov, tv, vn i0, vn j0, vn k0, v77, hv] :: accC 9 1 (one vs) v77 (out ++ (oneE B T1 T2).getD []) :: accC 39 3 encH hv vsl :: O) (fun w h => OwnL.sat (by repeat (first | exact OwnL.refl | apply OwnL.take (by repeat (first | exact Take.head _ | apply Take.tail)) | apply OwnL.drop)) w (h.thin (SubL.mem (by repeat (first | exact SubL.refl | refine SubL.cons (by repeat (first | assumption | exact List.mem_cons_self | refine List.mem_cons_of_mem _ ?_)) ?_ | refine SubL.skip ?_))))) ?_
            refine WL.nil ?_
            -- ret_4
            refine Ret.normal (Ret.zero Try.results26 ?_)
            exact hk _ _ _
          · skip
            refine OpW.buildSl (ps := [(0, _)]) rfl S32 (by repeat (first | exact Evs.nil | apply Evs.cons rfl)) rfl rfl (by repeat (first | exact CellsOf.nil | apply CellsOf.cons rfl)) (by kernel_rfl) rfl rfl rfl ?_; intro b67
            refine ⟨(Held.mk' (by repeat (first | exact SubL.refl | refine SubL.cons (by repeat (first | assumption | exact List.mem_cons_self | refine List.mem_cons_of_mem _ ?_)) ?_ | refine SubL.skip ?_)) (by repeat (first | exact OwnL.refl | apply OwnL.take (by repeat (first | exact Take.head _ | apply Take.tail)) | apply OwnL.drop))), ?_⟩
            refine WD.one 4 rfl (by kernel_rfl) rfl ?_
            refine OpW.rd rfl rfl (Rd.row1 (off := 7) rfl C32 rfl (by repeat (first | assumption | exact List.mem_cons_self | refine List.mem_cons_of_mem _ ?_)) rfl) ?_
            refine ⟨(Held.mk' (by repeat (first | exact SubL.refl | refine SubL.cons (by repeat (first | assumption | exact List.mem_cons_self | refine List.mem_cons_of_mem _ ?_)) ?_ | refine SubL.skip ?_)) (by repeat (first | exact OwnL.refl | apply OwnL.take (by repeat (first | exact Take.head _ | apply Take.tail)) | apply OwnL.drop))), ?_⟩
            refine WD.one 13 rfl (by kernel_rfl) rfl ?_
            refine OpW.appendRow (enc := encH) rfl S32 rfl rfl (by repeat (first | assumption | exact Take.head _ | apply Take.tail)) (by repeat (first | assumption | exact Take.head _ | apply Take.tail)) [(⟨v61, hv61.one⟩, ⟨v63, hv63.one⟩, ⟨v65, hv65.one⟩)] rfl (by rfl) rfl (fun _ => rfl) encH_one ⟨by simp only [maxLen, List.length_append, List.length_nil, List.length_cons, List.length_drop, List.length_take, List.length_map]; omega, by first | omega | (simp only [List.length_append, List.length_nil, List.length_cons, List.length_drop, List.length_take, List.length_map]; omega)⟩ rfl rfl ?_; intro v68 hv68
            refine ⟨(Held.mk' (by repeat (first | exact SubL.refl | refine SubL.cons (by repeat (first | assumption | exact List.mem_cons_self | refine List.mem_cons_of_mem _ ?_)) ?_ | refine SubL.skip ?_)) (by repeat (first | exact OwnL.refl | apply OwnL.take (by repeat (first | exact Take.head _ | apply Take.tail)) | apply OwnL.drop))), ?_⟩
            refine WD.take 14 rfl (by kernel_rfl) (Held.mk' (by repeat (first | exact SubL.refl | refine SubL.cons (by repeat (first | assumption | exact List.mem_cons_self | refine List.mem_cons_of_mem _ ?_)) ?_ | refine SubL.skip ?_)) (by repeat (first | exact OwnL.refl | apply OwnL.take (by repeat (first | exact Take.head _ | apply Take.tail)) | apply OwnL.drop))) rfl rfl rfl (Rd.nilc rfl rfl) ?_
            refine WD.take 15 rfl (by kernel_rfl) (Held.mk' (by repeat (first | exact SubL.refl | refine SubL.cons (by repeat (first | assumption | exact List.mem_cons_self | refine List.mem_cons_of_mem _ ?_)) ?_ | refine SubL.skip ?_)) (by repeat (first | exact OwnL.refl | apply OwnL.take (by repeat (first | exact Take.head _ | apply Take.tail)) | apply OwnL.drop))) rfl rfl rfl ((by first | exact Rd.field rfl F62_5 rfl rfl | exact Rd.fieldE rfl F62_5 rfl (by repeat (first | assumption | exact List.mem_cons_self | refine List.mem_cons_of_mem _ ?_)) (by omega) | exact Rd.fieldA rfl F62_5 rfl (by repeat (first | assumption | exact List.mem_cons_self | refine List.mem_cons_of_mem _ ?_)) (by omega))) ?_
            refine WD.one 16 rfl (by kernel_rfl) rfl ?_
            refine OpW.store1 rfl Z32 rfl rfl (by first | exact ⟨rfl, rfl⟩ | assumption) (by repeat (first | assumption | exact Take.head _ | apply Take.tail)) (by first | (simp; done) | omega | exact of_decide_eq_true rfl | (simp only [List.length_append, List.length_replicate, List.length_map, List.length_set]; omega)) rfl ?_
            refine ⟨(Held.mk' (by repeat (first | exact SubL.refl | refine SubL.cons (by repeat (first | assumption | exact List.mem_cons_self | refine List.mem_cons_of_mem _ ?_)) ?_ | refine SubL.skip ?_)) (by repeat (first | exact OwnL.refl | apply OwnL.take (by repeat (first | exact Take.head _ | apply Take.tail)) | apply OwnL.drop))), ?_⟩
            refine WD.done (by kernel_rfl) ?_
            refine thenQ.normal ?_
            refine WC.region ?_
            refine WL.rd rfl rfl rfl (Rd.move rfl rfl) ?_
            refine WL.rd rfl rfl rfl (Rd.move rfl rfl) ?_
            refine WL.rd rfl rfl rfl (Rd.nilc rfl rfl) ?_
            refine WL.rd rfl rfl rfl ((by first | exact Rd.field rfl F62_4 rfl rfl | exact Rd.fieldE rfl F62_4 rfl (by repeat (first | assumption | exact List.mem_cons_self | refine List.mem_cons_of_mem _ ?_)) (by omega) | exact Rd.fieldA rfl F62_4 rfl (by repeat (first | assumption | exact List.mem_cons_self | refine List.mem_cons_of_mem _ ?_)) (by omega))) ?_
            refine WL.rd rfl rfl rfl (Rd.row1 (off := 6) rfl C22 rfl (by repeat (first | assumption | exact List.mem_cons_self | refine List.mem_cons_of_mem _ ?_)) rfl) ?_
            refine WL.rd rfl rfl rfl (Rd.move rfl rfl) ?_
            refine WL.op rfl ?_
            refine OpW.appendE (enc := one vs) rfl S22 Try.underlying22 rfl rfl (by repeat (first | assumption | exact Take.head _ | apply Take.tail)) (by repeat (first | assumption | exact List.mem_cons_self | refine List.mem_cons_of_mem _ ?_)) (by intro x; first | rfl | (cases x; rfl) | (rcases x with ⟨_, _, _⟩; rfl) | (rcases x with ⟨_, _, _, _⟩; rfl)) (by intro x; first | rfl | (cases x; rfl) | (rcases x with ⟨_, _, _⟩; rfl) | (rcases x with ⟨_, _, _, _⟩; rfl)) ⟨by simp only [maxLen, List.length_append, List.length_nil, List.length_cons, List.length_drop, List.length_take, List.length_map]; omega, by first | omega | (simp only [List.length_append, List.length_nil, List.length_cons, List.length_drop, List.length_take, List.length_map]; omega)⟩ rfl rfl ?_; intro v77 hv77
            refine WL.rd rfl rfl rfl (Rd.nilc rfl rfl) ?_
            refine WL.rd rfl rfl rfl ((by first | exact Rd.field rfl F62_4 rfl rfl | exact Rd.fieldE rfl F62_4 rfl (by repeat (first | assumption | exact List.mem_cons_self | refine List.mem_cons_of_mem _ ?_)) (by omega) | exact Rd.fieldA rfl F62_4 rfl (by repeat (first | assumption | exact List.mem_cons_self | refine List.mem_cons_of_mem _ ?_)) (by omega))) ?_
            refine WL.op rfl ?_
            refine OpW.store1 rfl Z22 rfl rfl (by first | exact ⟨rfl, rfl⟩ | assumption) (by repeat (first | assumption | exact Take.head _ | apply Take.tail)) (by first | (simp; done) | omega | exact of_decide_eq_true rfl | (simp only [List.length_append, List.length_replicate, List.length_map, List.length_set]; omega)) rfl ?_
            first
              | refine WL.heap (R' := HunksR (vsl ++ [(⟨v61, hv61.one⟩, ⟨v63, hv63.one⟩, ⟨v65, hv65.one⟩)]) (hl ++ [(B, T1, T2)]) :: R) (O' := rowC bm 62 [bv, ov, tv, vn i0, vn j0, vn k0, v77, v68] :: accC 9 1 (one vs) v77 (out ++ (oneE B T1 T2).getD []) :: accC 39 3 encH v68 (vsl ++ [(⟨v61, hv61.one⟩, ⟨v63, hv63.one⟩, ⟨v65, hv65.one⟩)]) :: O) (fun w h => by
                  have g1 := Sat.shareA (e := 9) (size := 1) (enc := one vs) (v := v61) (xs := B) (by repeat (first | assumption | exact Take.head _ | apply Take.tail)) h
                  have g2 := Sat.shareA (e := 9) (size := 1) (enc := one vs) (v := v63) (xs := T1) (by repeat (first | assumption | exact Take.head _ | apply Take.tail)) g1
                  have g3 := Sat.shareA (e := 9) (size := 1) (enc := one vs) (v := v65) (xs := T2) (by repeat (first | assumption | exact Take.head _ | apply Take.tail)) g2
                  have g4 := g3.derive (q := HunksR (vsl ++ [(⟨v61, hv61.one⟩, ⟨v63, hv63.one⟩, ⟨v65, hv65.one⟩)]) (hl ++ [(B, T1, T2)])) (fun w hR => HunksR.snoc (hR (HunksR vsl hl) (by repeat (first | assumption | exact List.mem_cons_self | refine List.mem_cons_of_mem _ ?_))) (hR (SlE (one vs) v61 B) (by repeat (first | assumption | exact List.mem_cons_self | refine List.mem_cons_of_mem _ ?_))) (hR (SlE (one vs) v63 T1) (by repeat (first | assumption | exact List.mem_cons_self | refine List.mem_cons_of_mem _ ?_))) (hR (SlE (one vs) v65 T2) (by repeat (first | assumption | exact List.mem_cons_self | refine List.mem_cons_of_mem _ ?_))))
                  exact (fun w h => OwnL.sat (by repeat (first | exact OwnL.refl | apply OwnL.take (by repeat (first | exact Take.head _ | apply Take.tail)) | apply OwnL.drop)) w (h.thin (SubL.mem (by repeat (first | exact SubL.refl | refine SubL.cons (by repeat (first | assumption | exact List.mem_cons_self | refine List.mem_cons_of_mem _ ?_)) ?_ | refine SubL.skip ?_))))) w g4) ?_
              | refine WL.heap (R' := HunksR vsl hl :: R) (O' := rowC bm 62 [bv, ov, tv, vn i0, vn j0, vn k0, v77, hv] :: accC 9 1 (one vs) v77 (out ++ (oneE B T1 T2).getD []) :: accC 39 3 encH hv vsl :: O) (fun w h => OwnL.sat (by repeat (first | exact OwnL.refl | apply OwnL.take (by repeat (first | exact Take.head _ | apply Take.tail)) | apply OwnL.drop)) w (h.thin (SubL.mem (by repeat (first | exact SubL.refl | refine SubL.cons (by repeat (first | assumption | exact List.mem_cons_self | refine List.mem_cons_of_mem _ ?_)) ?_ | refine SubL.skip ?_))))) ?_
            refine WL.nil ?_
            -- ret_5
            refine Ret.normal (Ret.zero Try.results26 ?_)
            exact hk _ _ _
  · skip
    have hno : pieceBad B T1 T2 = [] := by unfold pieceBad; rw [if_pos (by simpa using hc1)]
    rw [hno, List.append_nil] at hk
    refine WC.skip ?_
    refine thenQ.normal ?_
    refine WC.region ?_
    refine WL.rd rfl rfl rfl (Rd.move rfl rfl) ?_
    refine WL.rd rfl rfl rfl (Rd.move rfl rfl) ?_
    refine WL.rd rfl rfl rfl (Rd.nilc rfl rfl) ?_
    refine WL.rd rfl rfl rfl ((by first | exact Rd.field rfl F62_4 rfl rfl | exact Rd.fieldE rfl F62_4 rfl (by repeat (first | assumption | exact List.mem_cons_self | refine List.mem_cons_of_mem _ ?_)) (by omega) | exact Rd.fieldA rfl F62_4 rfl (by repeat (first | assumption | exact List.mem_cons_self | refine List.mem_cons_of_mem _ ?_)) (by omega))) ?_
    refine WL.rd rfl rfl rfl (Rd.row1 (off := 6) rfl C22 rfl (by repeat (first | assumption | exact List.mem_cons_self | refine List.mem_cons_of_mem _ ?_)) rfl) ?_
    refine WL.rd rfl rfl rfl (Rd.move rfl rfl) ?_
    refine WL.op rfl ?_
    refine OpW.appendE (enc := one vs) rfl S22 Try.underlying22 rfl rfl (by repeat (first | assumption | exact Take.head _ | apply Take.tail)) (by repeat (first | assumption | exact List.mem_cons_self | refine List.mem_cons_of_mem _ ?_)) (by intro x; first | rfl | (cases x; rfl) | (rcases x with ⟨_, _, _⟩; rfl) | (rcases x with ⟨_, _, _, _⟩; rfl)) (by intro x; first | rfl | (cases x; rfl) | (rcases x with ⟨_, _, _⟩; rfl) | (rcases x with ⟨_, _, _, _⟩; rfl)) ⟨by simp only [maxLen, List.length_append, List.length_nil, List.length_cons, List.length_drop, List.length_take, List.length_map]; omega, by first | omega | (simp only [List.length_append, List.length_nil, List.length_cons, List.length_drop, List.length_take, List.length_map]; omega)⟩ rfl rfl ?_; intro v77 hv77
    refine WL.rd rfl rfl rfl (Rd.nilc rfl rfl) ?_
    refine WL.rd rfl rfl rfl ((by first | exact Rd.field rfl F62_4 rfl rfl | exact Rd.fieldE rfl F62_4 rfl (by repeat (first | assumption | exact List.mem_cons_self | refine List.mem_cons_of_mem _ ?_)) (by omega) | exact Rd.fieldA rfl F62_4 rfl (by repeat (first | assumption | exact List.mem_cons_self | refine List.mem_cons_of_mem _ ?_)) (by omega))) ?_
    refine WL.op rfl ?_
    refine OpW.store1 rfl Z22 rfl rfl (by first | exact ⟨rfl, rfl⟩ | assumption) (by repeat (first | assumption | exact Take.head _ | apply Take.tail)) (by first | (simp; done) | omega | exact of_decide_eq_true rfl | (simp only [List.length_append, List.length_replicate, List.length_map, List.length_set]; omega)) rfl ?_
    first
      | refine WL.heap (R' := HunksR (vsl ++ [(⟨v61, hv61.one⟩, ⟨v63, hv63.one⟩, ⟨v65, hv65.one⟩)]) (hl ++ [(B, T1, T2)]) :: R) (O' := rowC bm 62 [bv, ov, tv, vn i0, vn j0, vn k0, v77, v68] :: accC 9 1 (one vs) v77 (out ++ (oneE B T1 T2).getD []) :: accC 39 3 encH v68 (vsl ++ [(⟨v61, hv61.one⟩, ⟨v63, hv63.one⟩, ⟨v65, hv65.one⟩)]) :: O) (fun w h => by
          have g1 := Sat.shareA (e := 9) (size := 1) (enc := one vs) (v := v61) (xs := B) (by repeat (first | assumption | exact Take.head _ | apply Take.tail)) h
          have g2 := Sat.shareA (e := 9) (size := 1) (enc := one vs) (v := v63) (xs := T1) (by repeat (first | assumption | exact Take.head _ | apply Take.tail)) g1
          have g3 := Sat.shareA (e := 9) (size := 1) (enc := one vs) (v := v65) (xs := T2) (by repeat (first | assumption | exact Take.head _ | apply Take.tail)) g2
          have g4 := g3.derive (q := HunksR (vsl ++ [(⟨v61, hv61.one⟩, ⟨v63, hv63.one⟩, ⟨v65, hv65.one⟩)]) (hl ++ [(B, T1, T2)])) (fun w hR => HunksR.snoc (hR (HunksR vsl hl) (by repeat (first | assumption | exact List.mem_cons_self | refine List.mem_cons_of_mem _ ?_))) (hR (SlE (one vs) v61 B) (by repeat (first | assumption | exact List.mem_cons_self | refine List.mem_cons_of_mem _ ?_))) (hR (SlE (one vs) v63 T1) (by repeat (first | assumption | exact List.mem_cons_self | refine List.mem_cons_of_mem _ ?_))) (hR (SlE (one vs) v65 T2) (by repeat (first | assumption | exact List.mem_cons_self | refine List.mem_cons_of_mem _ ?_))))
          exact (fun w h => OwnL.sat (by repeat (first | exact OwnL.refl | apply OwnL.take (by repeat (first | exact Take.head _ | apply Take.tail)) | apply OwnL.drop)) w (h.thin (SubL.mem (by repeat (first | exact SubL.refl | refine SubL.cons (by repeat (first | assumption | exact List.mem_cons_self | refine List.mem_cons_of_mem _ ?_)) ?_ | refine SubL.skip ?_))))) w g4) ?_
      | refine WL.heap (R' := HunksR vsl hl :: R) (O' := rowC bm 62 [bv, ov, tv, vn i0, vn j0, vn k0, v77, hv] :: accC 9 1 (one vs) v77 (out ++ (oneE B T1 T2).getD []) :: accC 39 3 encH hv vsl :: O) (fun w h => OwnL.sat (by repeat (first | exact OwnL.refl | apply OwnL.take (by repeat (first | exact Take.head _ | apply Take.tail)) | apply OwnL.drop)) w (h.thin (SubL.mem (by repeat (first | exact SubL.refl | refine SubL.cons (by repeat (first | assumption | exact List.mem_cons_self | refine List.mem_cons_of_mem _ ?_)) ?_ | refine SubL.skip ?_))))) ?_
    refine WL.nil ?_
    -- ret_6
    refine Ret.normal (Ret.zero Try.results26 ?_)
    exact hk _ _ _
end Go.Proofs.Ytpicbbkmcbhnpaa
