/-
  Layer 20: two sides' changes come together.
-/
import Derived.Test.YtbbeifdmgmadiaaKd5
namespace Go.Proofs.Ytbbeifdmgmadiaa
open Go Go.SL
/-- Both sides changed the key, otherwise. -/
def Clash (u v w : List It) (k : List UInt8) : Prop := says v k ≠ says w k ∧ says w k ≠ says u k ∧ says v k ≠ says u k
instance (u v w : List It) (k : List UInt8) : Decidable (Clash u v w k) := by unfold Clash; infer_instance
def mval (u v w : List It) (k : List UInt8) : Sd := if says v k = says w k ∨ says w k = says u k then says v k else says w k
def mbad (u v w : List It) (ks : List (List UInt8)) : List Cf := ks.filterMap fun k => if Clash u v w k then some ⟨k, says u k, says v k, says w k⟩ else none
theorem mbad_snoc (u v w : List It) {ks : List (List UInt8)} {i : Nat} (h : i < ks.length) : mbad u v w (ks.take (i + 1)) = mbad u v w (ks.take i) ++ (if Clash u v w ks[i]! then [⟨ks[i]!, says u ks[i]!, says v ks[i]!, says w ks[i]!⟩] else []) := by
  rw [take_snoc h, mbad, mbad, List.filterMap_append]
  congr 1
  generalize ks[i]! = k
  rw [List.filterMap_cons]
  by_cases e : Clash u v w k
  · rw [if_pos e, if_pos e]; rfl
  · rw [if_neg e, if_neg e]; rfl
theorem mbad_len (u v w : List It) (ks : List (List UInt8)) : (mbad u v w ks).length ≤ ks.length := List.length_filterMap_le _ _
theorem mbad_nil {u v w : List It} {ks : List (List UInt8)} (h : mbad u v w ks = []) : ∀ k ∈ ks, ¬ Clash u v w k := fun k hk hc => by
  have := List.filterMap_eq_nil_iff.1 h k hk
  rw [if_pos hc] at this; cases this
/-- What has been laid out so far. -/
structure Mrg (u v w : List It) (m : GoMap (List UInt8) Sd) (kl : List (List UInt8)) : Prop where
  ks : ∀ k, k ∈ m.ks ↔ k ∈ kl ∧ ¬ Clash u v w k
  sd : ∀ k ∈ m.ks, sdOf m k = mval u v w k
  len : m.l.length ≤ kl.length
theorem Mrg.start (u v w : List It) : Mrg u v w GoMap.empty [] := ⟨fun k => by simp [GoMap.ks, GoMap.empty], fun k hk => by simp [GoMap.ks, GoMap.empty] at hk, Nat.le_refl _⟩
theorem Mrg.put {u v w : List It} {m : GoMap (List UInt8) Sd} {ks : List (List UInt8)} (h : Mrg u v w m ks) {k : List UInt8} {s : Sd} (hc : ¬ Clash u v w k) (hs : s = mval u v w k) : Mrg u v w (m.set k s) (ks ++ [k]) := by
  have hm : ∀ k', k' ∈ (m.set k s).ks ↔ k' = k ∨ k' ∈ m.ks := fun k' => by
    rw [GoMap.mem_ks, GoMap.get_set]
    by_cases e : k' = k
    · rw [if_pos e]; simp [e]
    · rw [if_neg e, ← GoMap.mem_ks]; simp [e]
  refine ⟨fun k' => ?_, fun k' hk' => ?_, ?_⟩
  · rw [hm, h.ks k', List.mem_append, List.mem_singleton]
    constructor
    · rintro (e | ⟨h1, h2⟩)
      · exact ⟨.inr e, by rw [e]; exact hc⟩
      · exact ⟨.inl h1, h2⟩
    · rintro ⟨h1 | h1, h2⟩
      · exact .inr ⟨h1, h2⟩
      · exact .inl h1
  · rw [sdOf, GoMap.get_set]
    by_cases e : k' = k
    · rw [if_pos e, e]; exact hs
    · rw [if_neg e, ← sdOf]
      exact h.sd k' (((hm k').1 hk').resolve_left e)
  · have := GoMap.set_len_le m k s
    have := h.len
    simp only [List.length_append, List.length_singleton]; omega
theorem Mrg.pass {u v w : List It} {m : GoMap (List UInt8) Sd} {ks : List (List UInt8)} (h : Mrg u v w m ks) {k : List UInt8} (hc : Clash u v w k) : Mrg u v w m (ks ++ [k]) := by
  refine ⟨fun k' => ?_, h.sd, ?_⟩
  · rw [h.ks k', List.mem_append, List.mem_singleton]
    constructor
    · rintro ⟨h1, h2⟩; exact ⟨.inl h1, h2⟩
    · rintro ⟨h1 | h1, h2⟩
      · exact ⟨h1, h2⟩
      · exact absurd (by rw [h1]; exact hc) h2
  · have := h.len
    simp only [List.length_append, List.length_singleton]; omega
theorem itemsL_congr {f g : List UInt8 → Sd} {ks : List (List UInt8)} (h : ∀ k ∈ ks, f k = g k) : itemsL f ks = itemsL g ks := by
  induction ks with
  | nil => rfl
  | cons a r ih =>
    have h1 := ih fun k hk => h k (List.mem_cons_of_mem _ hk)
    unfold itemsL at h1 ⊢
    rw [List.filterMap_cons, List.filterMap_cons, h a List.mem_cons_self, h1]
section
variable {R : List RO} {O O' : List Own} {POST : Value → List RO → List Own → Prop}
set_option maxRecDepth 20000 in
set_option maxHeartbeats 4000000 in
theorem merge_spec {u v w : List It} {uv vv wv : Value} (hu : SlE encI uv u ∈ R) (hv : SlE encI vv v ∈ R) (hw : SlE encI wv w ∈ R) (hKu : KL u) (hKv : KL v) (hKw : KL w)
    (hkO : ¬ (RightP u ∧ RightP v ∧ RightP w) → POST (.tuple #[.slice none 0 0, .slice none 0 0, .int .i64 12]) R O)
    (hkB : RightP u → RightP v → RightP w → ∀ x ks, KsOf ks [u, v, w] → mbad u v w ks ≠ [] → POST (.tuple #[.slice none 0 0, x, .int .i64 0]) R (accC 40 7 encF x (mbad u v w ks) :: O))
    (hk : RightP u → RightP v → RightP w → ∀ x ks, KsOf ks [u, v, w] → mbad u v w ks = [] → POST (.tuple #[x, .slice none 0 0, .int .i64 0]) R (accC 45 2 encI x (itemsL (mval u v w) ks) :: O)) :
    Fun Try.prog 10 #[uv, vv, wv] R O POST := by
  refine Fun.oneV hu fun huv => ?_
  refine Fun.oneV hv fun hvv => ?_
  refine Fun.oneV hw fun hwv => ?_
  refine Fun.enter (l := [_, _, _]) Try.func10 rfl Try.ntmps10 rfl (L0 := [(0, _), (1, _), (2, _)]) rfl ?_
  refine WC.seq ?_
  refine WC.region ?_
  refine WL.rd rfl rfl rfl (Rd.assign rfl rfl) ?_
  refine WL.rd rfl rfl rfl (Rd.assign rfl rfl) ?_
  refine WL.rd rfl rfl rfl (Rd.assign rfl rfl) ?_
  refine WL.nil ?_
  refine thenQ.normal ?_
  refine WC.seq ?_
  refine WC.pick [0, 1, 2] (by repeat (first | exact Pick.nil | apply Pick.cons rfl)) ?_
  refine WC.val 31 (.bool (decide (¬ (RightP u ∧ RightP v ∧ RightP w)))) ?_ ?_
  · skip
    refine WC.region ?_
    refine WL.rd rfl rfl rfl (Rd.move rfl rfl) ?_
    refine WL.op rfl ?_
    refine OpW.call rfl rfl (by repeat (first | exact Evs.nil | apply Evs.cons rfl)) (by kernel_rfl) rfl rfl rfl ?_
    refine right_spec hu ?_
    refine WL.rd rfl rfl rfl ((by first | exact Rd.notd rfl rfl | exact Rd.not rfl rfl)) ?_
    refine WL.rd rfl rfl rfl (Rd.move rfl rfl) ?_
    refine WL.case 22 rfl (fun hg22 => ?_) (fun hg22 => ?_)
    · skip
      refine WL.no rfl rfl rfl rfl rfl rfl ?_
      refine WL.no rfl rfl rfl rfl rfl rfl ?_
      refine WL.no rfl rfl rfl rfl rfl rfl ?_
      refine WL.rd rfl rfl rfl (Rd.pick_t rfl rfl rfl) ?_
      refine WL.rd rfl rfl rfl (Rd.move rfl rfl) ?_
      refine WL.no rfl rfl rfl rfl rfl rfl ?_
      refine WL.no rfl rfl rfl rfl rfl rfl ?_
      refine WL.no rfl rfl rfl rfl rfl rfl ?_
      refine WL.rd rfl rfl rfl (Rd.pick_t rfl rfl rfl) ?_
      refine WL.nil ?_
      exact ⟨by repeat (first | exact Sub.nil | refine Sub.cons rfl (by first | rfl | (first | exact vb_t (fun h => hg22 h.1) | exact vb_t (fun h => hg27 h.2.1) | exact vb ⟨fun h h2 => h h2.2.2, fun h h2 => h ⟨Decidable.not_not.1 hg22, Decidable.not_not.1 hg27, h2⟩⟩)) ?_), by first | exact (fun _ h => h.thin (SubL.mem (by repeat (first | exact SubL.refl | refine SubL.cons (by repeat (first | assumption | exact mS | apply mT)) ?_ | refine SubL.skip ?_)))) | exact (fun w h => OwnL.sat (by repeat (first | exact OwnL.refl | apply OwnL.take (by repeat (first | exact Take.head _ | apply Take.tail)) | apply OwnL.drop)) w (h.thin (SubL.mem (by repeat (first | exact SubL.refl | refine SubL.cons (by repeat (first | assumption | exact mS | apply mT)) ?_ | refine SubL.skip ?_)))))⟩
    · skip
      refine WL.rd_yes rfl rfl rfl rfl rfl rfl (Rd.move rfl rfl) ?_
      refine WL.op_yes rfl rfl rfl rfl ?_
      refine OpW.call rfl rfl (by repeat (first | exact Evs.nil | apply Evs.cons rfl)) (by kernel_rfl) rfl rfl rfl ?_
      refine right_spec hv ?_
      refine WL.rd_yes rfl rfl rfl rfl rfl rfl ((by first | exact Rd.notd rfl rfl | exact Rd.not rfl rfl)) ?_
      refine WL.rd rfl rfl rfl (Rd.pick_f rfl rfl rfl) ?_
      refine WL.rd rfl rfl rfl (Rd.move rfl rfl) ?_
      refine WL.case 27 rfl (fun hg27 => ?_) (fun hg27 => ?_)
      · skip
        refine WL.no rfl rfl rfl rfl rfl rfl ?_
        refine WL.no rfl rfl rfl rfl rfl rfl ?_
        refine WL.no rfl rfl rfl rfl rfl rfl ?_
        refine WL.rd rfl rfl rfl (Rd.pick_t rfl rfl rfl) ?_
        refine WL.nil ?_
        exact ⟨by repeat (first | exact Sub.nil | refine Sub.cons rfl (by first | rfl | (first | exact vb_t (fun h => hg22 h.1) | exact vb_t (fun h => hg27 h.2.1) | exact vb ⟨fun h h2 => h h2.2.2, fun h h2 => h ⟨Decidable.not_not.1 hg22, Decidable.not_not.1 hg27, h2⟩⟩)) ?_), by first | exact (fun _ h => h.thin (SubL.mem (by repeat (first | exact SubL.refl | refine SubL.cons (by repeat (first | assumption | exact mS | apply mT)) ?_ | refine SubL.skip ?_)))) | exact (fun w h => OwnL.sat (by repeat (first | exact OwnL.refl | apply OwnL.take (by repeat (first | exact Take.head _ | apply Take.tail)) | apply OwnL.drop)) w (h.thin (SubL.mem (by repeat (first | exact SubL.refl | refine SubL.cons (by repeat (first | assumption | exact mS | apply mT)) ?_ | refine SubL.skip ?_)))))⟩
      · skip
        refine WL.rd_yes rfl rfl rfl rfl rfl rfl (Rd.move rfl rfl) ?_
        refine WL.op_yes rfl rfl rfl rfl ?_
        refine OpW.call rfl rfl (by repeat (first | exact Evs.nil | apply Evs.cons rfl)) (by kernel_rfl) rfl rfl rfl ?_
        refine right_spec hw ?_
        refine WL.rd_yes rfl rfl rfl rfl rfl rfl ((by first | exact Rd.notd rfl rfl | exact Rd.not rfl rfl)) ?_
        refine WL.rd rfl rfl rfl (Rd.pick_f rfl rfl rfl) ?_
        refine WL.nil ?_
        exact ⟨by repeat (first | exact Sub.nil | refine Sub.cons rfl (by first | rfl | (first | exact vb_t (fun h => hg22 h.1) | exact vb_t (fun h => hg27 h.2.1) | exact vb ⟨fun h h2 => h h2.2.2, fun h h2 => h ⟨Decidable.not_not.1 hg22, Decidable.not_not.1 hg27, h2⟩⟩)) ?_), by first | exact (fun _ h => h.thin (SubL.mem (by repeat (first | exact SubL.refl | refine SubL.cons (by repeat (first | assumption | exact mS | apply mT)) ?_ | refine SubL.skip ?_)))) | exact (fun w h => OwnL.sat (by repeat (first | exact OwnL.refl | apply OwnL.take (by repeat (first | exact Take.head _ | apply Take.tail)) | apply OwnL.drop)) w (h.thin (SubL.mem (by repeat (first | exact SubL.refl | refine SubL.cons (by repeat (first | assumption | exact mS | apply mT)) ?_ | refine SubL.skip ?_)))))⟩
  · skip
    first | refine WC.ite rfl (fun hc1 => ?_) (fun hc1 => ?_) | refine WC.cond rfl (fun hc1 => ?_) (fun hc1 => ?_)
    · skip
      refine WC.seq ?_
      refine WC.region ?_
      refine WL.rd rfl rfl rfl (Rd.assign rfl rfl) ?_
      refine WL.rd rfl rfl rfl (Rd.assign rfl rfl) ?_
      refine WL.rd rfl rfl rfl (Rd.assign rfl rfl) ?_
      refine WL.nil ?_
      refine thenQ.normal ?_
      refine WC.ret (Ret.three Try.results10 rfl rfl rfl ?_)
      exact hkO hc1
    · skip
      obtain ⟨hru, hrv, hrw⟩ := Decidable.not_not.1 hc1
      refine WC.skip ?_
      refine thenQ.normal ?_
      refine WC.seq ?_
      refine WC.region ?_
      refine WL.rd rfl rfl rfl (Rd.move rfl rfl) ?_
      refine WL.op rfl ?_
      refine OpW.call rfl rfl (by repeat (first | exact Evs.nil | apply Evs.cons rfl)) (by kernel_rfl) rfl rfl rfl ?_
      refine of_spec hu hru.nodup ?_; intro b33 m33 h33
      refine WL.rd rfl rfl rfl (Rd.move rfl rfl) ?_
      refine WL.op rfl ?_
      refine OpW.call rfl rfl (by repeat (first | exact Evs.nil | apply Evs.cons rfl)) (by kernel_rfl) rfl rfl rfl ?_
      refine of_spec hv hrv.nodup ?_; intro b35 m35 h35
      refine WL.rd rfl rfl rfl (Rd.move rfl rfl) ?_
      refine WL.op rfl ?_
      refine OpW.call rfl rfl (by repeat (first | exact Evs.nil | apply Evs.cons rfl)) (by kernel_rfl) rfl rfl rfl ?_
      refine of_spec hw hrw.nodup ?_; intro b37 m37 h37
      refine WL.heap (R' := mapP vs sdv b33 m33 :: mapP vs sdv b35 m35 :: mapP vs sdv b37 m37 :: R) (O' := O) (fun w h => (((h.shareM (Take.head _)).shareM (Take.head _)).shareM (Take.head _))) ?_
      refine WL.rd rfl rfl rfl (Rd.assign rfl rfl) ?_
      refine WL.rd rfl rfl rfl (Rd.assign rfl rfl) ?_
      refine WL.rd rfl rfl rfl (Rd.assign rfl rfl) ?_
      refine WL.nil ?_
      refine thenQ.normal ?_
      refine WC.seq ?_
      refine WC.region ?_
      refine WL.op rfl ?_
      refine OpW.makeMap vs sdv rfl rfl rfl ?_; intro b38
      refine WL.rd rfl rfl rfl (Rd.assign rfl rfl) ?_
      refine WL.nil ?_
      refine thenQ.normal ?_
      refine WC.seq ?_
      refine WC.region ?_
      refine WL.rd rfl rfl rfl (Rd.assign rfl rfl) ?_
      refine WL.nil ?_
      refine thenQ.normal ?_
      refine WC.seq ?_
      refine WC.seq ?_
      refine WC.region ?_
      refine WL.rd rfl rfl rfl (Rd.move rfl rfl) ?_
      refine WL.rd rfl rfl rfl (Rd.move rfl rfl) ?_
      refine WL.rd rfl rfl rfl (Rd.move rfl rfl) ?_
      refine WL.op rfl ?_
      refine OpW.buildSl (ps := [(0, _), (1, _), (2, _)]) (cells := [uv, vv, wv]) rfl S68 (by repeat (first | exact Evs.nil | apply Evs.cons rfl)) rfl rfl (CellsOf.cons huv.cells (CellsOf.cons hvv.cells (CellsOf.cons hwv.cells CellsOf.nil))) rfl rfl rfl rfl ?_; intro b42
      refine WL.heap (R' := SlE (one vid) (.slice (some ⟨b42, 0, none⟩) 3 3) [uv, vv, wv] :: mapP vs sdv b33 m33 :: mapP vs sdv b35 m35 :: mapP vs sdv b37 m37 :: R) (O' := mapC vs sdv b38 GoMap.empty :: O) (fun w h => h.shareRow (e := 24) (enc := one vid) (cells := [uv, vv, wv]) (Take.head _) rfl rfl (by decide)) ?_
      refine WL.op rfl ?_
      refine OpW.call rfl rfl (by repeat (first | exact Evs.nil | apply Evs.cons rfl)) (by kernel_rfl) rfl rfl rfl ?_
      refine keys_spec (ll := [u, v, w]) (List.mem_cons_self) (ListsOf.three (List.mem_cons_of_mem _ (List.mem_cons_of_mem _ (List.mem_cons_of_mem _ (List.mem_cons_of_mem _ hu)))) (List.mem_cons_of_mem _ (List.mem_cons_of_mem _ (List.mem_cons_of_mem _ (List.mem_cons_of_mem _ hv)))) (List.mem_cons_of_mem _ (List.mem_cons_of_mem _ (List.mem_cons_of_mem _ (List.mem_cons_of_mem _ hw))))) (fun j hj => ?_) (fun j hj => ?_) (Nat.le_refl 3) ?_
      · match j, hj with
        | 0, _ => exact hru.nodup
        | 1, _ => exact hrv.nodup
        | 2, _ => exact hrw.nodup
      · match j, hj with
        | 0, _ => exact hKu
        | 1, _ => exact hKv
        | 2, _ => exact hKw
      intro v43 ks hks hk3
      refine WL.heap (R' := mapP vs sdv b33 m33 :: mapP vs sdv b35 m35 :: mapP vs sdv b37 m37 :: R) (O' := accC 40 7 encF (.slice none 0 0) [] :: mapC vs sdv b38 GoMap.empty :: accC 9 1 (one vs) v43 ks :: O) (fun w h => Sat.accNil (by revert w; exact (fun w h => OwnL.sat (by repeat (first | exact OwnL.refl | apply OwnL.take (by repeat (first | exact Take.head _ | apply Take.tail)) | apply OwnL.drop)) w (h.thin (SubL.mem (by repeat (first | exact SubL.refl | refine SubL.cons (by repeat (first | assumption | exact mS | apply mT)) ?_ | refine SubL.skip ?_))))))) ?_
      refine WL.rd rfl rfl rfl ((by first | exact Rd.lenE rfl rfl Try.underlying33 (by repeat (first | assumption | exact mS | apply mT)) | exact Rd.lenA rfl rfl Try.underlying33 (by repeat (first | assumption | exact mS | apply mT)) | exact Rd.len rfl rfl Try.underlying33)) ?_
      refine WL.rd rfl rfl rfl (Rd.move rfl rfl) ?_
      refine WL.nil ?_
      refine thenQ.normal ?_
      refine WC.block ?_
      refine WC.pick [13, 45, 9, 10, 11, 12, 43, 44] (by repeat (first | exact Pick.nil | apply Pick.cons rfl)) ?_
      refine WC.loop3 2 (fun (i : Nat) (x : Value) (m : GoMap (List UInt8) Sd) => [(13, x), (45, .int .i64 (i : Int))]) (fun (i : Nat) (x : Value) (m : GoMap (List UInt8) Sd) => accC 40 7 encF x (mbad u v w (ks.take i)) :: mapC vs sdv b38 m :: accC 9 1 (one vs) v43 ks :: O) (fun (i : Nat) (x : Value) (m : GoMap (List UInt8) Sd) => i ≤ ks.length ∧ Mrg u v w m (ks.take i)) (fun (i : Nat) (x : Value) (m : GoMap (List UInt8) Sd) => ks.length - i) (0) (.slice none 0 0) (GoMap.empty) (by repeat (first | exact Split.zero | apply Split.succ)) ?hinv1 (by repeat (first | exact Sub.nil | refine Sub.cons rfl (by first | rfl | (congr 1; omega) | assumption) ?_)) (fun _ h => h) ?_
      case hinv1 =>
        exact ⟨Nat.zero_le _, Mrg.start u v w⟩
      intro i x m
      rintro ⟨i1, i2⟩
      refine WC.seq ?_
      refine WC.region ?_
      refine WL.rd rfl rfl rfl (Rd.lss rfl rfl rfl) ?_
      refine WL.nil ?_
      refine thenQ.normal ?_
      refine WC.seq ?_
      first | refine WC.ite rfl (fun hc2 => ?_) (fun hc2 => ?_) | refine WC.cond rfl (fun hc2 => ?_) (fun hc2 => ?_)
      · skip
        refine WC.skip ?_
        refine thenQ.normal ?_
        refine WC.seq ?_
        refine WC.block ?_
        refine WC.seq ?_
        refine WC.region ?_
        refine WL.rd rfl rfl rfl ((by first | exact Rd.idx1 (k := i) rfl S33 rfl rfl (by omega) (by repeat (first | assumption | exact mS | apply mT)) (by first | omega | (simp only [List.length_cons, List.length_nil, List.length_append, List.length_map]; omega)) | exact Rd.idxA1 (k := i) rfl S33 rfl rfl (by omega) (by repeat (first | assumption | exact mS | apply mT)) (by first | omega | (simp only [List.length_cons, List.length_nil, List.length_append, List.length_map]; omega)) | exact Rd.idxR1 (k := i) rfl S33 rfl rfl (by omega) (by omega))) ?_
        refine WL.rd rfl rfl rfl ((by first | exact Rd.get rfl C9 rfl (by repeat (first | assumption | exact mS | apply mT)) (by first | assumption | rfl | exact get!_of_lt (by omega)) | exact Rd.getA rfl C9 rfl (by repeat (first | assumption | exact mS | apply mT)) (by first | assumption | rfl | exact get!_of_lt (by omega)) | exact Rd.row1 rfl C9 rfl (by repeat (first | assumption | exact mS | apply mT)) (by rfl) | exact Rd.getF rfl C9 rfl (by repeat (first | assumption | exact mS | apply mT)) (by intro x; first | rfl | (cases x; rfl) | (rcases x with ⟨_, _, _⟩; rfl) | (rcases x with ⟨_, _, _, _⟩; rfl)) rfl (by first | assumption | rfl | exact get!_of_lt (by omega)) (by rfl) | exact Rd.getFA rfl C9 rfl (by repeat (first | assumption | exact mS | apply mT)) (by intro x; first | rfl | (cases x; rfl) | (rcases x with ⟨_, _, _⟩; rfl) | (rcases x with ⟨_, _, _, _⟩; rfl)) rfl (by first | assumption | rfl | exact get!_of_lt (by omega)) (by rfl))) ?_
        refine WL.rd rfl rfl rfl (Rd.assign rfl rfl) ?_
        refine WL.nil ?_
        refine thenQ.normal ?_
        refine WC.cut (α := Nat × Nat × Nat) (fun q => [(9, .map (some b33)), (10, .map (some b35)), (11, .map (some b37)), (12, .map (some b38)), (13, x), (15, vs ks[i]!), (16, .pointer (some ⟨q.1, 0, none⟩)), (17, .pointer (some ⟨q.2.1, 0, none⟩)), (18, .pointer (some ⟨q.2.2, 0, none⟩)), (43, v43), (44, .int .i64 ks.length), (45, .int .i64 i)]) (fun _ => mapP vs sdv b33 m33 :: mapP vs sdv b35 m35 :: mapP vs sdv b37 m37 :: R) (fun q => rowC q.1 38 [vs (says u ks[i]!).1, .bool (says u ks[i]!).2] :: rowC q.2.1 38 [vs (says v ks[i]!).1, .bool (says v ks[i]!).2] :: rowC q.2.2 38 [vs (says w ks[i]!).1, .bool (says w ks[i]!).2] :: accC 40 7 encF x (mbad u v w (ks.take i)) :: mapC vs sdv b38 m :: accC 9 1 (one vs) v43 ks :: O) (fun _ => True) ?_ ?_
        · skip
          refine WC.drawnA 15 rfl mixed ?_
          refine WD.take 0 rfl (by kernel_rfl) Held.all rfl rfl rfl (Rd.move rfl rfl) ?_
          refine WD.take 1 rfl (by kernel_rfl) Held.all rfl rfl rfl (Rd.move rfl rfl) ?_
          refine WD.take 2 rfl (by kernel_rfl) Held.all rfl rfl rfl ((by first | exact Rd.lookup M61 K9 rfl rfl rfl (by repeat (first | assumption | exact mS | apply mT)) (by rfl) | exact Rd.lookupR M61 K9 rfl rfl rfl (by repeat (first | assumption | exact mS | apply mT)) (by rfl))) ?_
          refine WD.say 51 (u := sdv (says u ks[i]!)) rfl (h33.v _) ?_
          refine WD.take 3 rfl (by kernel_rfl) Held.all rfl rfl rfl (Rd.move rfl rfl) ?_
          refine WD.take 4 rfl (by kernel_rfl) Held.all rfl rfl rfl (Rd.move rfl rfl) ?_
          refine WD.take 5 rfl (by kernel_rfl) Held.all rfl rfl rfl ((by first | exact Rd.lookup M61 K9 rfl rfl rfl (by repeat (first | assumption | exact mS | apply mT)) (by rfl) | exact Rd.lookupR M61 K9 rfl rfl rfl (by repeat (first | assumption | exact mS | apply mT)) (by rfl))) ?_
          refine WD.say 54 (u := sdv (says v ks[i]!)) rfl (h35.v _) ?_
          refine WD.take 6 rfl (by kernel_rfl) Held.all rfl rfl rfl (Rd.move rfl rfl) ?_
          refine WD.take 7 rfl (by kernel_rfl) Held.all rfl rfl rfl (Rd.move rfl rfl) ?_
          refine WD.take 8 rfl (by kernel_rfl) Held.all rfl rfl rfl ((by first | exact Rd.lookup M61 K9 rfl rfl rfl (by repeat (first | assumption | exact mS | apply mT)) (by rfl) | exact Rd.lookupR M61 K9 rfl rfl rfl (by repeat (first | assumption | exact mS | apply mT)) (by rfl))) ?_
          refine WD.say 57 (u := sdv (says w ks[i]!)) rfl (h37.v _) ?_
          refine WD.some [9, 10, 11] (by kernel_rfl) (by simp) ?_
          intro i hi; simp only [List.mem_cons, List.not_mem_nil, or_false] at hi; rcases hi with rfl | rfl | rfl
          · refine ⟨_, rfl, rfl, ?_⟩
            refine OpW.alloc rfl I38 rfl (by repeat (first | exact NF.nil | apply NF.cons)) rfl rfl ?_; intro b16
            refine ⟨(Held.mk' (by repeat (first | exact SubL.refl | refine SubL.cons (by repeat (first | assumption | exact mS | apply mT)) ?_ | refine SubL.skip ?_)) (by repeat (first | exact OwnL.refl | apply OwnL.take (by repeat (first | exact Take.head _ | apply Take.tail)) | apply OwnL.drop))), ?_⟩
            refine WD.two 10 11 rfl rfl (by kernel_rfl) rfl rfl ?_ ?_
            · skip
              refine OpW.alloc rfl I38 rfl (by repeat (first | exact NF.nil | apply NF.cons)) rfl rfl ?_; intro b17
              refine ⟨(Held.mk' (by repeat (first | exact SubL.refl | refine SubL.cons (by repeat (first | assumption | exact mS | apply mT)) ?_ | refine SubL.skip ?_)) (by repeat (first | exact OwnL.refl | apply OwnL.take (by repeat (first | exact Take.head _ | apply Take.tail)) | apply OwnL.drop))), ?_⟩
              refine WD.one 11 rfl (by kernel_rfl) rfl ?_
              refine OpW.alloc rfl I38 rfl (by repeat (first | exact NF.nil | apply NF.cons)) rfl rfl ?_; intro b18
              refine ⟨(Held.mk' (by repeat (first | exact SubL.refl | refine SubL.cons (by repeat (first | assumption | exact mS | apply mT)) ?_ | refine SubL.skip ?_)) (by repeat (first | exact OwnL.refl | apply OwnL.take (by repeat (first | exact Take.head _ | apply Take.tail)) | apply OwnL.drop))), ?_⟩
              refine WD.one 12 rfl (by kernel_rfl) rfl ?_
              refine OpW.storeS rfl G38 rfl rfl (by repeat (first | exact NF.nil | apply NF.cons)) (by repeat (first | assumption | exact Take.head _ | apply Take.tail)) rfl rfl (by repeat (first | exact NF.nil | apply NF.cons)) rfl ?_
              refine ⟨(Held.mk' (by repeat (first | exact SubL.refl | refine SubL.cons (by repeat (first | assumption | exact mS | apply mT)) ?_ | refine SubL.skip ?_)) (by repeat (first | exact OwnL.refl | apply OwnL.take (by repeat (first | exact Take.head _ | apply Take.tail)) | apply OwnL.drop))), ?_⟩
              refine WD.one 13 rfl (by kernel_rfl) rfl ?_
              refine OpW.storeS rfl G38 rfl rfl (by repeat (first | exact NF.nil | apply NF.cons)) (by repeat (first | assumption | exact Take.head _ | apply Take.tail)) rfl rfl (by repeat (first | exact NF.nil | apply NF.cons)) rfl ?_
              refine ⟨(Held.mk' (by repeat (first | exact SubL.refl | refine SubL.cons (by repeat (first | assumption | exact mS | apply mT)) ?_ | refine SubL.skip ?_)) (by repeat (first | exact OwnL.refl | apply OwnL.take (by repeat (first | exact Take.head _ | apply Take.tail)) | apply OwnL.drop))), ?_⟩
              refine WD.one 14 rfl (by kernel_rfl) rfl ?_
              refine OpW.storeS rfl G38 rfl rfl (by repeat (first | exact NF.nil | apply NF.cons)) (by repeat (first | assumption | exact Take.head _ | apply Take.tail)) rfl rfl (by repeat (first | exact NF.nil | apply NF.cons)) rfl ?_
              refine ⟨(Held.mk' (by repeat (first | exact SubL.refl | refine SubL.cons (by repeat (first | assumption | exact mS | apply mT)) ?_ | refine SubL.skip ?_)) (by repeat (first | exact OwnL.refl | apply OwnL.take (by repeat (first | exact Take.head _ | apply Take.tail)) | apply OwnL.drop))), ?_⟩
              refine WD.done (by kernel_rfl) ?_
              exact ⟨(b16, b17, b18), trivial, (by repeat (first | exact Sub.nil | refine Sub.cons rfl (by first | rfl | (congr 1; omega) | assumption) ?_)), (fun w h => OwnL.sat (by repeat (first | exact OwnL.refl | apply OwnL.take (by repeat (first | exact Take.head _ | apply Take.tail)) | apply OwnL.drop)) w (h.thin (SubL.mem (by repeat (first | exact SubL.refl | refine SubL.cons (by repeat (first | assumption | exact mS | apply mT)) ?_ | refine SubL.skip ?_)))))⟩
            · skip
              refine OpW.alloc rfl I38 rfl (by repeat (first | exact NF.nil | apply NF.cons)) rfl rfl ?_; intro b18
              refine ⟨(Held.mk' (by repeat (first | exact SubL.refl | refine SubL.cons (by repeat (first | assumption | exact mS | apply mT)) ?_ | refine SubL.skip ?_)) (by repeat (first | exact OwnL.refl | apply OwnL.take (by repeat (first | exact Take.head _ | apply Take.tail)) | apply OwnL.drop))), ?_⟩
              refine WD.one 10 rfl (by kernel_rfl) rfl ?_
              refine OpW.alloc rfl I38 rfl (by repeat (first | exact NF.nil | apply NF.cons)) rfl rfl ?_; intro b17
              refine ⟨(Held.mk' (by repeat (first | exact SubL.refl | refine SubL.cons (by repeat (first | assumption | exact mS | apply mT)) ?_ | refine SubL.skip ?_)) (by repeat (first | exact OwnL.refl | apply OwnL.take (by repeat (first | exact Take.head _ | apply Take.tail)) | apply OwnL.drop))), ?_⟩
              refine WD.one 12 rfl (by kernel_rfl) rfl ?_
              refine OpW.storeS rfl G38 rfl rfl (by repeat (first | exact NF.nil | apply NF.cons)) (by repeat (first | assumption | exact Take.head _ | apply Take.tail)) rfl rfl (by repeat (first | exact NF.nil | apply NF.cons)) rfl ?_
              refine ⟨(Held.mk' (by repeat (first | exact SubL.refl | refine SubL.cons (by repeat (first | assumption | exact mS | apply mT)) ?_ | refine SubL.skip ?_)) (by repeat (first | exact OwnL.refl | apply OwnL.take (by repeat (first | exact Take.head _ | apply Take.tail)) | apply OwnL.drop))), ?_⟩
              refine WD.one 13 rfl (by kernel_rfl) rfl ?_
              refine OpW.storeS rfl G38 rfl rfl (by repeat (first | exact NF.nil | apply NF.cons)) (by repeat (first | assumption | exact Take.head _ | apply Take.tail)) rfl rfl (by repeat (first | exact NF.nil | apply NF.cons)) rfl ?_
              refine ⟨(Held.mk' (by repeat (first | exact SubL.refl | refine SubL.cons (by repeat (first | assumption | exact mS | apply mT)) ?_ | refine SubL.skip ?_)) (by repeat (first | exact OwnL.refl | apply OwnL.take (by repeat (first | exact Take.head _ | apply Take.tail)) | apply OwnL.drop))), ?_⟩
              refine WD.one 14 rfl (by kernel_rfl) rfl ?_
              refine OpW.storeS rfl G38 rfl rfl (by repeat (first | exact NF.nil | apply NF.cons)) (by repeat (first | assumption | exact Take.head _ | apply Take.tail)) rfl rfl (by repeat (first | exact NF.nil | apply NF.cons)) rfl ?_
              refine ⟨(Held.mk' (by repeat (first | exact SubL.refl | refine SubL.cons (by repeat (first | assumption | exact mS | apply mT)) ?_ | refine SubL.skip ?_)) (by repeat (first | exact OwnL.refl | apply OwnL.take (by repeat (first | exact Take.head _ | apply Take.tail)) | apply OwnL.drop))), ?_⟩
              refine WD.done (by kernel_rfl) ?_
              exact ⟨(b16, b17, b18), trivial, (by repeat (first | exact Sub.nil | refine Sub.cons rfl (by first | rfl | (congr 1; omega) | assumption) ?_)), (fun w h => OwnL.sat (by repeat (first | exact OwnL.refl | apply OwnL.take (by repeat (first | exact Take.head _ | apply Take.tail)) | apply OwnL.drop)) w (h.thin (SubL.mem (by repeat (first | exact SubL.refl | refine SubL.cons (by repeat (first | assumption | exact mS | apply mT)) ?_ | refine SubL.skip ?_)))))⟩
          · refine ⟨_, rfl, rfl, ?_⟩
            refine OpW.alloc rfl I38 rfl (by repeat (first | exact NF.nil | apply NF.cons)) rfl rfl ?_; intro b17
            refine ⟨(Held.mk' (by repeat (first | exact SubL.refl | refine SubL.cons (by repeat (first | assumption | exact mS | apply mT)) ?_ | refine SubL.skip ?_)) (by repeat (first | exact OwnL.refl | apply OwnL.take (by repeat (first | exact Take.head _ | apply Take.tail)) | apply OwnL.drop))), ?_⟩
            refine WD.two 9 11 rfl rfl (by kernel_rfl) rfl rfl ?_ ?_
            · skip
              refine OpW.alloc rfl I38 rfl (by repeat (first | exact NF.nil | apply NF.cons)) rfl rfl ?_; intro b16
              refine ⟨(Held.mk' (by repeat (first | exact SubL.refl | refine SubL.cons (by repeat (first | assumption | exact mS | apply mT)) ?_ | refine SubL.skip ?_)) (by repeat (first | exact OwnL.refl | apply OwnL.take (by repeat (first | exact Take.head _ | apply Take.tail)) | apply OwnL.drop))), ?_⟩
              refine WD.one 11 rfl (by kernel_rfl) rfl ?_
              refine OpW.alloc rfl I38 rfl (by repeat (first | exact NF.nil | apply NF.cons)) rfl rfl ?_; intro b18
              refine ⟨(Held.mk' (by repeat (first | exact SubL.refl | refine SubL.cons (by repeat (first | assumption | exact mS | apply mT)) ?_ | refine SubL.skip ?_)) (by repeat (first | exact OwnL.refl | apply OwnL.take (by repeat (first | exact Take.head _ | apply Take.tail)) | apply OwnL.drop))), ?_⟩
              refine WD.one 12 rfl (by kernel_rfl) rfl ?_
              refine OpW.storeS rfl G38 rfl rfl (by repeat (first | exact NF.nil | apply NF.cons)) (by repeat (first | assumption | exact Take.head _ | apply Take.tail)) rfl rfl (by repeat (first | exact NF.nil | apply NF.cons)) rfl ?_
              refine ⟨(Held.mk' (by repeat (first | exact SubL.refl | refine SubL.cons (by repeat (first | assumption | exact mS | apply mT)) ?_ | refine SubL.skip ?_)) (by repeat (first | exact OwnL.refl | apply OwnL.take (by repeat (first | exact Take.head _ | apply Take.tail)) | apply OwnL.drop))), ?_⟩
              refine WD.one 13 rfl (by kernel_rfl) rfl ?_
              refine OpW.storeS rfl G38 rfl rfl (by repeat (first | exact NF.nil | apply NF.cons)) (by repeat (first | assumption | exact Take.head _ | apply Take.tail)) rfl rfl (by repeat (first | exact NF.nil | apply NF.cons)) rfl ?_
              refine ⟨(Held.mk' (by repeat (first | exact SubL.refl | refine SubL.cons (by repeat (first | assumption | exact mS | apply mT)) ?_ | refine SubL.skip ?_)) (by repeat (first | exact OwnL.refl | apply OwnL.take (by repeat (first | exact Take.head _ | apply Take.tail)) | apply OwnL.drop))), ?_⟩
              refine WD.one 14 rfl (by kernel_rfl) rfl ?_
              refine OpW.storeS rfl G38 rfl rfl (by repeat (first | exact NF.nil | apply NF.cons)) (by repeat (first | assumption | exact Take.head _ | apply Take.tail)) rfl rfl (by repeat (first | exact NF.nil | apply NF.cons)) rfl ?_
              refine ⟨(Held.mk' (by repeat (first | exact SubL.refl | refine SubL.cons (by repeat (first | assumption | exact mS | apply mT)) ?_ | refine SubL.skip ?_)) (by repeat (first | exact OwnL.refl | apply OwnL.take (by repeat (first | exact Take.head _ | apply Take.tail)) | apply OwnL.drop))), ?_⟩
              refine WD.done (by kernel_rfl) ?_
              exact ⟨(b16, b17, b18), trivial, (by repeat (first | exact Sub.nil | refine Sub.cons rfl (by first | rfl | (congr 1; omega) | assumption) ?_)), (fun w h => OwnL.sat (by repeat (first | exact OwnL.refl | apply OwnL.take (by repeat (first | exact Take.head _ | apply Take.tail)) | apply OwnL.drop)) w (h.thin (SubL.mem (by repeat (first | exact SubL.refl | refine SubL.cons (by repeat (first | assumption | exact mS | apply mT)) ?_ | refine SubL.skip ?_)))))⟩
            · skip
              refine OpW.alloc rfl I38 rfl (by repeat (first | exact NF.nil | apply NF.cons)) rfl rfl ?_; intro b18
              refine ⟨(Held.mk' (by repeat (first | exact SubL.refl | refine SubL.cons (by repeat (first | assumption | exact mS | apply mT)) ?_ | refine SubL.skip ?_)) (by repeat (first | exact OwnL.refl | apply OwnL.take (by repeat (first | exact Take.head _ | apply Take.tail)) | apply OwnL.drop))), ?_⟩
              refine WD.one 9 rfl (by kernel_rfl) rfl ?_
              refine OpW.alloc rfl I38 rfl (by repeat (first | exact NF.nil | apply NF.cons)) rfl rfl ?_; intro b16
              refine ⟨(Held.mk' (by repeat (first | exact SubL.refl | refine SubL.cons (by repeat (first | assumption | exact mS | apply mT)) ?_ | refine SubL.skip ?_)) (by repeat (first | exact OwnL.refl | apply OwnL.take (by repeat (first | exact Take.head _ | apply Take.tail)) | apply OwnL.drop))), ?_⟩
              refine WD.one 12 rfl (by kernel_rfl) rfl ?_
              refine OpW.storeS rfl G38 rfl rfl (by repeat (first | exact NF.nil | apply NF.cons)) (by repeat (first | assumption | exact Take.head _ | apply Take.tail)) rfl rfl (by repeat (first | exact NF.nil | apply NF.cons)) rfl ?_
              refine ⟨(Held.mk' (by repeat (first | exact SubL.refl | refine SubL.cons (by repeat (first | assumption | exact mS | apply mT)) ?_ | refine SubL.skip ?_)) (by repeat (first | exact OwnL.refl | apply OwnL.take (by repeat (first | exact Take.head _ | apply Take.tail)) | apply OwnL.drop))), ?_⟩
              refine WD.one 13 rfl (by kernel_rfl) rfl ?_
              refine OpW.storeS rfl G38 rfl rfl (by repeat (first | exact NF.nil | apply NF.cons)) (by repeat (first | assumption | exact Take.head _ | apply Take.tail)) rfl rfl (by repeat (first | exact NF.nil | apply NF.cons)) rfl ?_
              refine ⟨(Held.mk' (by repeat (first | exact SubL.refl | refine SubL.cons (by repeat (first | assumption | exact mS | apply mT)) ?_ | refine SubL.skip ?_)) (by repeat (first | exact OwnL.refl | apply OwnL.take (by repeat (first | exact Take.head _ | apply Take.tail)) | apply OwnL.drop))), ?_⟩
              refine WD.one 14 rfl (by kernel_rfl) rfl ?_
              refine OpW.storeS rfl G38 rfl rfl (by repeat (first | exact NF.nil | apply NF.cons)) (by repeat (first | assumption | exact Take.head _ | apply Take.tail)) rfl rfl (by repeat (first | exact NF.nil | apply NF.cons)) rfl ?_
              refine ⟨(Held.mk' (by repeat (first | exact SubL.refl | refine SubL.cons (by repeat (first | assumption | exact mS | apply mT)) ?_ | refine SubL.skip ?_)) (by repeat (first | exact OwnL.refl | apply OwnL.take (by repeat (first | exact Take.head _ | apply Take.tail)) | apply OwnL.drop))), ?_⟩
              refine WD.done (by kernel_rfl) ?_
              exact ⟨(b16, b17, b18), trivial, (by repeat (first | exact Sub.nil | refine Sub.cons rfl (by first | rfl | (congr 1; omega) | assumption) ?_)), (fun w h => OwnL.sat (by repeat (first | exact OwnL.refl | apply OwnL.take (by repeat (first | exact Take.head _ | apply Take.tail)) | apply OwnL.drop)) w (h.thin (SubL.mem (by repeat (first | exact SubL.refl | refine SubL.cons (by repeat (first | assumption | exact mS | apply mT)) ?_ | refine SubL.skip ?_)))))⟩
          · refine ⟨_, rfl, rfl, ?_⟩
            refine OpW.alloc rfl I38 rfl (by repeat (first | exact NF.nil | apply NF.cons)) rfl rfl ?_; intro b18
            refine ⟨(Held.mk' (by repeat (first | exact SubL.refl | refine SubL.cons (by repeat (first | assumption | exact mS | apply mT)) ?_ | refine SubL.skip ?_)) (by repeat (first | exact OwnL.refl | apply OwnL.take (by repeat (first | exact Take.head _ | apply Take.tail)) | apply OwnL.drop))), ?_⟩
            refine WD.two 9 10 rfl rfl (by kernel_rfl) rfl rfl ?_ ?_
            · skip
              refine OpW.alloc rfl I38 rfl (by repeat (first | exact NF.nil | apply NF.cons)) rfl rfl ?_; intro b16
              refine ⟨(Held.mk' (by repeat (first | exact SubL.refl | refine SubL.cons (by repeat (first | assumption | exact mS | apply mT)) ?_ | refine SubL.skip ?_)) (by repeat (first | exact OwnL.refl | apply OwnL.take (by repeat (first | exact Take.head _ | apply Take.tail)) | apply OwnL.drop))), ?_⟩
              refine WD.one 10 rfl (by kernel_rfl) rfl ?_
              refine OpW.alloc rfl I38 rfl (by repeat (first | exact NF.nil | apply NF.cons)) rfl rfl ?_; intro b17
              refine ⟨(Held.mk' (by repeat (first | exact SubL.refl | refine SubL.cons (by repeat (first | assumption | exact mS | apply mT)) ?_ | refine SubL.skip ?_)) (by repeat (first | exact OwnL.refl | apply OwnL.take (by repeat (first | exact Take.head _ | apply Take.tail)) | apply OwnL.drop))), ?_⟩
              refine WD.one 12 rfl (by kernel_rfl) rfl ?_
              refine OpW.storeS rfl G38 rfl rfl (by repeat (first | exact NF.nil | apply NF.cons)) (by repeat (first | assumption | exact Take.head _ | apply Take.tail)) rfl rfl (by repeat (first | exact NF.nil | apply NF.cons)) rfl ?_
              refine ⟨(Held.mk' (by repeat (first | exact SubL.refl | refine SubL.cons (by repeat (first | assumption | exact mS | apply mT)) ?_ | refine SubL.skip ?_)) (by repeat (first | exact OwnL.refl | apply OwnL.take (by repeat (first | exact Take.head _ | apply Take.tail)) | apply OwnL.drop))), ?_⟩
              refine WD.one 13 rfl (by kernel_rfl) rfl ?_
              refine OpW.storeS rfl G38 rfl rfl (by repeat (first | exact NF.nil | apply NF.cons)) (by repeat (first | assumption | exact Take.head _ | apply Take.tail)) rfl rfl (by repeat (first | exact NF.nil | apply NF.cons)) rfl ?_
              refine ⟨(Held.mk' (by repeat (first | exact SubL.refl | refine SubL.cons (by repeat (first | assumption | exact mS | apply mT)) ?_ | refine SubL.skip ?_)) (by repeat (first | exact OwnL.refl | apply OwnL.take (by repeat (first | exact Take.head _ | apply Take.tail)) | apply OwnL.drop))), ?_⟩
              refine WD.one 14 rfl (by kernel_rfl) rfl ?_
              refine OpW.storeS rfl G38 rfl rfl (by repeat (first | exact NF.nil | apply NF.cons)) (by repeat (first | assumption | exact Take.head _ | apply Take.tail)) rfl rfl (by repeat (first | exact NF.nil | apply NF.cons)) rfl ?_
              refine ⟨(Held.mk' (by repeat (first | exact SubL.refl | refine SubL.cons (by repeat (first | assumption | exact mS | apply mT)) ?_ | refine SubL.skip ?_)) (by repeat (first | exact OwnL.refl | apply OwnL.take (by repeat (first | exact Take.head _ | apply Take.tail)) | apply OwnL.drop))), ?_⟩
              refine WD.done (by kernel_rfl) ?_
              exact ⟨(b16, b17, b18), trivial, (by repeat (first | exact Sub.nil | refine Sub.cons rfl (by first | rfl | (congr 1; omega) | assumption) ?_)), (fun w h => OwnL.sat (by repeat (first | exact OwnL.refl | apply OwnL.take (by repeat (first | exact Take.head _ | apply Take.tail)) | apply OwnL.drop)) w (h.thin (SubL.mem (by repeat (first | exact SubL.refl | refine SubL.cons (by repeat (first | assumption | exact mS | apply mT)) ?_ | refine SubL.skip ?_)))))⟩
            · skip
              refine OpW.alloc rfl I38 rfl (by repeat (first | exact NF.nil | apply NF.cons)) rfl rfl ?_; intro b17
              refine ⟨(Held.mk' (by repeat (first | exact SubL.refl | refine SubL.cons (by repeat (first | assumption | exact mS | apply mT)) ?_ | refine SubL.skip ?_)) (by repeat (first | exact OwnL.refl | apply OwnL.take (by repeat (first | exact Take.head _ | apply Take.tail)) | apply OwnL.drop))), ?_⟩
              refine WD.one 9 rfl (by kernel_rfl) rfl ?_
              refine OpW.alloc rfl I38 rfl (by repeat (first | exact NF.nil | apply NF.cons)) rfl rfl ?_; intro b16
              refine ⟨(Held.mk' (by repeat (first | exact SubL.refl | refine SubL.cons (by repeat (first | assumption | exact mS | apply mT)) ?_ | refine SubL.skip ?_)) (by repeat (first | exact OwnL.refl | apply OwnL.take (by repeat (first | exact Take.head _ | apply Take.tail)) | apply OwnL.drop))), ?_⟩
              refine WD.one 12 rfl (by kernel_rfl) rfl ?_
              refine OpW.storeS rfl G38 rfl rfl (by repeat (first | exact NF.nil | apply NF.cons)) (by repeat (first | assumption | exact Take.head _ | apply Take.tail)) rfl rfl (by repeat (first | exact NF.nil | apply NF.cons)) rfl ?_
              refine ⟨(Held.mk' (by repeat (first | exact SubL.refl | refine SubL.cons (by repeat (first | assumption | exact mS | apply mT)) ?_ | refine SubL.skip ?_)) (by repeat (first | exact OwnL.refl | apply OwnL.take (by repeat (first | exact Take.head _ | apply Take.tail)) | apply OwnL.drop))), ?_⟩
              refine WD.one 13 rfl (by kernel_rfl) rfl ?_
              refine OpW.storeS rfl G38 rfl rfl (by repeat (first | exact NF.nil | apply NF.cons)) (by repeat (first | assumption | exact Take.head _ | apply Take.tail)) rfl rfl (by repeat (first | exact NF.nil | apply NF.cons)) rfl ?_
              refine ⟨(Held.mk' (by repeat (first | exact SubL.refl | refine SubL.cons (by repeat (first | assumption | exact mS | apply mT)) ?_ | refine SubL.skip ?_)) (by repeat (first | exact OwnL.refl | apply OwnL.take (by repeat (first | exact Take.head _ | apply Take.tail)) | apply OwnL.drop))), ?_⟩
              refine WD.one 14 rfl (by kernel_rfl) rfl ?_
              refine OpW.storeS rfl G38 rfl rfl (by repeat (first | exact NF.nil | apply NF.cons)) (by repeat (first | assumption | exact Take.head _ | apply Take.tail)) rfl rfl (by repeat (first | exact NF.nil | apply NF.cons)) rfl ?_
              refine ⟨(Held.mk' (by repeat (first | exact SubL.refl | refine SubL.cons (by repeat (first | assumption | exact mS | apply mT)) ?_ | refine SubL.skip ?_)) (by repeat (first | exact OwnL.refl | apply OwnL.take (by repeat (first | exact Take.head _ | apply Take.tail)) | apply OwnL.drop))), ?_⟩
              refine WD.done (by kernel_rfl) ?_
              exact ⟨(b16, b17, b18), trivial, (by repeat (first | exact Sub.nil | refine Sub.cons rfl (by first | rfl | (congr 1; omega) | assumption) ?_)), (fun w h => OwnL.sat (by repeat (first | exact OwnL.refl | apply OwnL.take (by repeat (first | exact Take.head _ | apply Take.tail)) | apply OwnL.drop)) w (h.thin (SubL.mem (by repeat (first | exact SubL.refl | refine SubL.cons (by repeat (first | assumption | exact mS | apply mT)) ?_ | refine SubL.skip ?_)))))⟩
        · skip
          rintro ⟨b16, b17, b18⟩ -
          refine WC.block ?_
          refine WC.pick [9, 10, 11, 12, 13, 15, 16, 17, 18, 43, 44, 45] (by repeat (first | exact Pick.nil | apply Pick.cons rfl)) ?_
          refine WC.val 66 (.bool (decide (says v ks[i]! = says w ks[i]! ∨ says w ks[i]! = says u ks[i]!))) ?_ ?_
          · skip
            refine WC.seq ?_
            refine WC.region ?_
            refine WL.rd rfl rfl rfl ((by first | exact Rd.rowS rfl G38 rfl (by repeat (first | assumption | exact mS | apply mT)) (by repeat (first | exact NF.nil | apply NF.cons)) rfl | exact Rd.getS rfl G38 rfl (by repeat (first | assumption | exact mS | apply mT)) (by intro x; first | rfl | (cases x; rfl) | (rcases x with ⟨_, _, _⟩; rfl) | (rcases x with ⟨_, _, _, _⟩; rfl)) (by first | assumption | rfl | exact get!_of_lt (by omega)) (by repeat (first | exact NF.nil | apply NF.cons)) | exact Rd.getSA rfl G38 rfl (by repeat (first | assumption | exact mS | apply mT)) (by intro x; first | rfl | (cases x; rfl) | (rcases x with ⟨_, _, _⟩; rfl) | (rcases x with ⟨_, _, _, _⟩; rfl)) (by first | assumption | rfl | exact get!_of_lt (by omega)) (by repeat (first | exact NF.nil | apply NF.cons)))) ?_
            refine WL.rd rfl rfl rfl ((by first | exact Rd.rowS rfl G38 rfl (by repeat (first | assumption | exact mS | apply mT)) (by repeat (first | exact NF.nil | apply NF.cons)) rfl | exact Rd.getS rfl G38 rfl (by repeat (first | assumption | exact mS | apply mT)) (by intro x; first | rfl | (cases x; rfl) | (rcases x with ⟨_, _, _⟩; rfl) | (rcases x with ⟨_, _, _, _⟩; rfl)) (by first | assumption | rfl | exact get!_of_lt (by omega)) (by repeat (first | exact NF.nil | apply NF.cons)) | exact Rd.getSA rfl G38 rfl (by repeat (first | assumption | exact mS | apply mT)) (by intro x; first | rfl | (cases x; rfl) | (rcases x with ⟨_, _, _⟩; rfl) | (rcases x with ⟨_, _, _, _⟩; rfl)) (by first | assumption | rfl | exact get!_of_lt (by omega)) (by repeat (first | exact NF.nil | apply NF.cons)))) ?_
            refine WL.rd rfl rfl rfl (Rd.aeql rfl rfl rfl (EqSd (says v ks[i]!) (says w ks[i]!))) ?_
            refine WL.rd rfl rfl rfl (Rd.assign rfl rfl) ?_
            refine WL.nil ?_
            refine thenQ.normal ?_
            first | refine WC.ite rfl (fun hc3 => ?_) (fun hc3 => ?_) | refine WC.cond rfl (fun hc3 => ?_) (fun hc3 => ?_)
            · skip
              refine WC.skip ?_
              exact ⟨by repeat (first | exact Sub.nil | refine Sub.cons rfl (by first | rfl | (first | exact vb ⟨fun h => .inl h, fun _ => hc3⟩ | exact vb ⟨fun h => .inr h, fun h => h.resolve_left hc3⟩)) ?_), by first | exact (fun _ h => h.thin (SubL.mem (by repeat (first | exact SubL.refl | refine SubL.cons (by repeat (first | assumption | exact mS | apply mT)) ?_ | refine SubL.skip ?_)))) | exact (fun w h => OwnL.sat (by repeat (first | exact OwnL.refl | apply OwnL.take (by repeat (first | exact Take.head _ | apply Take.tail)) | apply OwnL.drop)) w (h.thin (SubL.mem (by repeat (first | exact SubL.refl | refine SubL.cons (by repeat (first | assumption | exact mS | apply mT)) ?_ | refine SubL.skip ?_)))))⟩
            · skip
              refine WC.region ?_
              refine WL.rd rfl rfl rfl ((by first | exact Rd.rowS rfl G38 rfl (by repeat (first | assumption | exact mS | apply mT)) (by repeat (first | exact NF.nil | apply NF.cons)) rfl | exact Rd.getS rfl G38 rfl (by repeat (first | assumption | exact mS | apply mT)) (by intro x; first | rfl | (cases x; rfl) | (rcases x with ⟨_, _, _⟩; rfl) | (rcases x with ⟨_, _, _, _⟩; rfl)) (by first | assumption | rfl | exact get!_of_lt (by omega)) (by repeat (first | exact NF.nil | apply NF.cons)) | exact Rd.getSA rfl G38 rfl (by repeat (first | assumption | exact mS | apply mT)) (by intro x; first | rfl | (cases x; rfl) | (rcases x with ⟨_, _, _⟩; rfl) | (rcases x with ⟨_, _, _, _⟩; rfl)) (by first | assumption | rfl | exact get!_of_lt (by omega)) (by repeat (first | exact NF.nil | apply NF.cons)))) ?_
              refine WL.rd rfl rfl rfl ((by first | exact Rd.rowS rfl G38 rfl (by repeat (first | assumption | exact mS | apply mT)) (by repeat (first | exact NF.nil | apply NF.cons)) rfl | exact Rd.getS rfl G38 rfl (by repeat (first | assumption | exact mS | apply mT)) (by intro x; first | rfl | (cases x; rfl) | (rcases x with ⟨_, _, _⟩; rfl) | (rcases x with ⟨_, _, _, _⟩; rfl)) (by first | assumption | rfl | exact get!_of_lt (by omega)) (by repeat (first | exact NF.nil | apply NF.cons)) | exact Rd.getSA rfl G38 rfl (by repeat (first | assumption | exact mS | apply mT)) (by intro x; first | rfl | (cases x; rfl) | (rcases x with ⟨_, _, _⟩; rfl) | (rcases x with ⟨_, _, _, _⟩; rfl)) (by first | assumption | rfl | exact get!_of_lt (by omega)) (by repeat (first | exact NF.nil | apply NF.cons)))) ?_
              refine WL.rd rfl rfl rfl (Rd.aeql rfl rfl rfl (EqSd (says w ks[i]!) (says u ks[i]!))) ?_
              refine WL.rd rfl rfl rfl (Rd.assign rfl rfl) ?_
              refine WL.nil ?_
              exact ⟨by repeat (first | exact Sub.nil | refine Sub.cons rfl (by first | rfl | (first | exact vb ⟨fun h => .inl h, fun _ => hc3⟩ | exact vb ⟨fun h => .inr h, fun h => h.resolve_left hc3⟩)) ?_), by first | exact (fun _ h => h.thin (SubL.mem (by repeat (first | exact SubL.refl | refine SubL.cons (by repeat (first | assumption | exact mS | apply mT)) ?_ | refine SubL.skip ?_)))) | exact (fun w h => OwnL.sat (by repeat (first | exact OwnL.refl | apply OwnL.take (by repeat (first | exact Take.head _ | apply Take.tail)) | apply OwnL.drop)) w (h.thin (SubL.mem (by repeat (first | exact SubL.refl | refine SubL.cons (by repeat (first | assumption | exact mS | apply mT)) ?_ | refine SubL.skip ?_)))))⟩
          · skip
            first | refine WC.ite rfl (fun hc4 => ?_) (fun hc4 => ?_) | refine WC.cond rfl (fun hc4 => ?_) (fun hc4 => ?_)
            · skip
              have hcl : ¬ Clash u v w ks[i]! := fun h => hc4.elim h.1 h.2.1
              refine WC.region ?_
              refine WL.rd rfl rfl rfl (Rd.move rfl rfl) ?_
              refine WL.rd rfl rfl rfl (Rd.move rfl rfl) ?_
              refine WL.rd rfl rfl rfl ((by first | exact Rd.rowS rfl G38 rfl (by repeat (first | assumption | exact mS | apply mT)) (by repeat (first | exact NF.nil | apply NF.cons)) rfl | exact Rd.getS rfl G38 rfl (by repeat (first | assumption | exact mS | apply mT)) (by intro x; first | rfl | (cases x; rfl) | (rcases x with ⟨_, _, _⟩; rfl) | (rcases x with ⟨_, _, _, _⟩; rfl)) (by first | assumption | rfl | exact get!_of_lt (by omega)) (by repeat (first | exact NF.nil | apply NF.cons)) | exact Rd.getSA rfl G38 rfl (by repeat (first | assumption | exact mS | apply mT)) (by intro x; first | rfl | (cases x; rfl) | (rcases x with ⟨_, _, _⟩; rfl) | (rcases x with ⟨_, _, _, _⟩; rfl)) (by first | assumption | rfl | exact get!_of_lt (by omega)) (by repeat (first | exact NF.nil | apply NF.cons)))) ?_
              refine WL.op rfl ?_
              refine OpW.mapUpdate (venc := sdv) (v := says v ks[i]!) M61 K9 rfl rfl rfl rfl (by repeat (first | assumption | exact Take.head _ | apply Take.tail)) (by rfl) (by rfl) rfl ?_
              refine WL.nil ?_
              refine blockQ.normal ?_
              refine blockQ.normal ?_
              refine thenQ.normal ?_
              refine WC.region ?_
              refine WL.rd rfl rfl rfl (Rd.add rfl rfl rfl (by omega)) ?_
              refine WL.rd rfl rfl rfl (Rd.move rfl rfl) ?_
              refine WL.nil ?_
              exact loopQ3.mk (i + 1) x (m.set ks[i]! (says v ks[i]!)) ⟨by omega, by rw [take_snoc (by omega)]; exact i2.put hcl (by rw [mval, if_pos hc4])⟩ (by omega) (by repeat (first | exact Sub.nil | refine Sub.cons rfl (by first | rfl | (congr 1; omega) | assumption) ?_)) (by rw [mbad_snoc _ _ _ (by omega), if_neg hcl, List.append_nil]; exact (fun w h => OwnL.sat (by repeat (first | exact OwnL.refl | apply OwnL.take (by repeat (first | exact Take.head _ | apply Take.tail)) | apply OwnL.drop)) w (h.thin (SubL.mem (by repeat (first | exact SubL.refl | refine SubL.cons (by repeat (first | assumption | exact mS | apply mT)) ?_ | refine SubL.skip ?_))))))
            · skip
              refine WC.seq ?_
              refine WC.region ?_
              refine WL.rd rfl rfl rfl ((by first | exact Rd.rowS rfl G38 rfl (by repeat (first | assumption | exact mS | apply mT)) (by repeat (first | exact NF.nil | apply NF.cons)) rfl | exact Rd.getS rfl G38 rfl (by repeat (first | assumption | exact mS | apply mT)) (by intro x; first | rfl | (cases x; rfl) | (rcases x with ⟨_, _, _⟩; rfl) | (rcases x with ⟨_, _, _, _⟩; rfl)) (by first | assumption | rfl | exact get!_of_lt (by omega)) (by repeat (first | exact NF.nil | apply NF.cons)) | exact Rd.getSA rfl G38 rfl (by repeat (first | assumption | exact mS | apply mT)) (by intro x; first | rfl | (cases x; rfl) | (rcases x with ⟨_, _, _⟩; rfl) | (rcases x with ⟨_, _, _, _⟩; rfl)) (by first | assumption | rfl | exact get!_of_lt (by omega)) (by repeat (first | exact NF.nil | apply NF.cons)))) ?_
              refine WL.rd rfl rfl rfl ((by first | exact Rd.rowS rfl G38 rfl (by repeat (first | assumption | exact mS | apply mT)) (by repeat (first | exact NF.nil | apply NF.cons)) rfl | exact Rd.getS rfl G38 rfl (by repeat (first | assumption | exact mS | apply mT)) (by intro x; first | rfl | (cases x; rfl) | (rcases x with ⟨_, _, _⟩; rfl) | (rcases x with ⟨_, _, _, _⟩; rfl)) (by first | assumption | rfl | exact get!_of_lt (by omega)) (by repeat (first | exact NF.nil | apply NF.cons)) | exact Rd.getSA rfl G38 rfl (by repeat (first | assumption | exact mS | apply mT)) (by intro x; first | rfl | (cases x; rfl) | (rcases x with ⟨_, _, _⟩; rfl) | (rcases x with ⟨_, _, _, _⟩; rfl)) (by first | assumption | rfl | exact get!_of_lt (by omega)) (by repeat (first | exact NF.nil | apply NF.cons)))) ?_
              refine WL.rd rfl rfl rfl (Rd.aeql rfl rfl rfl (EqSd (says v ks[i]!) (says u ks[i]!))) ?_
              refine WL.rd rfl rfl rfl (Rd.assign rfl rfl) ?_
              refine WL.nil ?_
              refine thenQ.normal ?_
              first | refine WC.ite rfl (fun hc5 => ?_) (fun hc5 => ?_) | refine WC.cond rfl (fun hc5 => ?_) (fun hc5 => ?_)
              · skip
                have hcl : ¬ Clash u v w ks[i]! := fun h => h.2.2 hc5
                refine WC.region ?_
                refine WL.rd rfl rfl rfl (Rd.move rfl rfl) ?_
                refine WL.rd rfl rfl rfl (Rd.move rfl rfl) ?_
                refine WL.rd rfl rfl rfl ((by first | exact Rd.rowS rfl G38 rfl (by repeat (first | assumption | exact mS | apply mT)) (by repeat (first | exact NF.nil | apply NF.cons)) rfl | exact Rd.getS rfl G38 rfl (by repeat (first | assumption | exact mS | apply mT)) (by intro x; first | rfl | (cases x; rfl) | (rcases x with ⟨_, _, _⟩; rfl) | (rcases x with ⟨_, _, _, _⟩; rfl)) (by first | assumption | rfl | exact get!_of_lt (by omega)) (by repeat (first | exact NF.nil | apply NF.cons)) | exact Rd.getSA rfl G38 rfl (by repeat (first | assumption | exact mS | apply mT)) (by intro x; first | rfl | (cases x; rfl) | (rcases x with ⟨_, _, _⟩; rfl) | (rcases x with ⟨_, _, _, _⟩; rfl)) (by first | assumption | rfl | exact get!_of_lt (by omega)) (by repeat (first | exact NF.nil | apply NF.cons)))) ?_
                refine WL.op rfl ?_
                refine OpW.mapUpdate (venc := sdv) (v := says w ks[i]!) M61 K9 rfl rfl rfl rfl (by repeat (first | assumption | exact Take.head _ | apply Take.tail)) (by rfl) (by rfl) rfl ?_
                refine WL.nil ?_
                refine blockQ.normal ?_
                refine blockQ.normal ?_
                refine thenQ.normal ?_
                refine WC.region ?_
                refine WL.rd rfl rfl rfl (Rd.add rfl rfl rfl (by omega)) ?_
                refine WL.rd rfl rfl rfl (Rd.move rfl rfl) ?_
                refine WL.nil ?_
                exact loopQ3.mk (i + 1) x (m.set ks[i]! (says w ks[i]!)) ⟨by omega, by rw [take_snoc (by omega)]; exact i2.put hcl (by rw [mval, if_neg hc4])⟩ (by omega) (by repeat (first | exact Sub.nil | refine Sub.cons rfl (by first | rfl | (congr 1; omega) | assumption) ?_)) (by rw [mbad_snoc _ _ _ (by omega), if_neg hcl, List.append_nil]; exact (fun w h => OwnL.sat (by repeat (first | exact OwnL.refl | apply OwnL.take (by repeat (first | exact Take.head _ | apply Take.tail)) | apply OwnL.drop)) w (h.thin (SubL.mem (by repeat (first | exact SubL.refl | refine SubL.cons (by repeat (first | assumption | exact mS | apply mT)) ?_ | refine SubL.skip ?_))))))
              · skip
                have hcl : Clash u v w ks[i]! := ⟨fun h => hc4 (.inl h), fun h => hc4 (.inr h), hc5⟩
                refine WC.region ?_
                refine WL.rd rfl rfl rfl (Rd.move rfl rfl) ?_
                refine WL.rd rfl rfl rfl (Rd.move rfl rfl) ?_
                refine WL.rd rfl rfl rfl ((by first | exact Rd.rowS rfl G38 rfl (by repeat (first | assumption | exact mS | apply mT)) (by repeat (first | exact NF.nil | apply NF.cons)) rfl | exact Rd.getS rfl G38 rfl (by repeat (first | assumption | exact mS | apply mT)) (by intro x; first | rfl | (cases x; rfl) | (rcases x with ⟨_, _, _⟩; rfl) | (rcases x with ⟨_, _, _, _⟩; rfl)) (by first | assumption | rfl | exact get!_of_lt (by omega)) (by repeat (first | exact NF.nil | apply NF.cons)) | exact Rd.getSA rfl G38 rfl (by repeat (first | assumption | exact mS | apply mT)) (by intro x; first | rfl | (cases x; rfl) | (rcases x with ⟨_, _, _⟩; rfl) | (rcases x with ⟨_, _, _, _⟩; rfl)) (by first | assumption | rfl | exact get!_of_lt (by omega)) (by repeat (first | exact NF.nil | apply NF.cons)))) ?_
                refine WL.rd rfl rfl rfl ((by first | exact Rd.rowS rfl G38 rfl (by repeat (first | assumption | exact mS | apply mT)) (by repeat (first | exact NF.nil | apply NF.cons)) rfl | exact Rd.getS rfl G38 rfl (by repeat (first | assumption | exact mS | apply mT)) (by intro x; first | rfl | (cases x; rfl) | (rcases x with ⟨_, _, _⟩; rfl) | (rcases x with ⟨_, _, _, _⟩; rfl)) (by first | assumption | rfl | exact get!_of_lt (by omega)) (by repeat (first | exact NF.nil | apply NF.cons)) | exact Rd.getSA rfl G38 rfl (by repeat (first | assumption | exact mS | apply mT)) (by intro x; first | rfl | (cases x; rfl) | (rcases x with ⟨_, _, _⟩; rfl) | (rcases x with ⟨_, _, _, _⟩; rfl)) (by first | assumption | rfl | exact get!_of_lt (by omega)) (by repeat (first | exact NF.nil | apply NF.cons)))) ?_
                refine WL.rd rfl rfl rfl ((by first | exact Rd.rowS rfl G38 rfl (by repeat (first | assumption | exact mS | apply mT)) (by repeat (first | exact NF.nil | apply NF.cons)) rfl | exact Rd.getS rfl G38 rfl (by repeat (first | assumption | exact mS | apply mT)) (by intro x; first | rfl | (cases x; rfl) | (rcases x with ⟨_, _, _⟩; rfl) | (rcases x with ⟨_, _, _, _⟩; rfl)) (by first | assumption | rfl | exact get!_of_lt (by omega)) (by repeat (first | exact NF.nil | apply NF.cons)) | exact Rd.getSA rfl G38 rfl (by repeat (first | assumption | exact mS | apply mT)) (by intro x; first | rfl | (cases x; rfl) | (rcases x with ⟨_, _, _⟩; rfl) | (rcases x with ⟨_, _, _, _⟩; rfl)) (by first | assumption | rfl | exact get!_of_lt (by omega)) (by repeat (first | exact NF.nil | apply NF.cons)))) ?_
                refine WL.rd rfl rfl rfl (Rd.buildN (ps := [(0, _), (1, _), (2, _), (3, _)]) rfl Bs40 I40 rfl (by repeat (first | exact Evs.nil | apply Evs.cons rfl)) (by repeat (first | exact CellsOf.nil | apply CellsOf.cons rfl)) (by apply NFo.mk; repeat (first | exact NF.nil | apply NF.cons))) ?_
                refine WL.op rfl ?_
                refine OpW.buildSl (ps := [(0, _)]) rfl S28 (by repeat (first | exact Evs.nil | apply Evs.cons rfl)) rfl rfl (by repeat (first | exact CellsOf.nil | apply CellsOf.cons rfl)) (by kernel_rfl) rfl rfl rfl ?_; intro b64
                have hil := mbad_len u v w (ks.take i); rw [List.length_take] at hil
                refine WL.op rfl ?_
                refine OpW.appendRow (enc := encF) rfl S28 rfl rfl (by repeat (first | assumption | exact Take.head _ | apply Take.tail)) (by repeat (first | assumption | exact Take.head _ | apply Take.tail)) [⟨ks[i]!, says u ks[i]!, says v ks[i]!, says w ks[i]!⟩] rfl (by rfl) rfl (by intro x; first | rfl | (cases x; rfl) | (rcases x with ⟨_, _, _⟩; rfl) | (rcases x with ⟨_, _, _, _⟩; rfl)) (by intro x; first | rfl | (cases x; rfl) | (rcases x with ⟨_, _, _⟩; rfl) | (rcases x with ⟨_, _, _, _⟩; rfl)) ⟨by simp only [maxLen, List.length_append, List.length_nil, List.length_cons, List.length_drop, List.length_take, List.length_map]; omega, by first | omega | (simp only [List.length_append, List.length_nil, List.length_cons, List.length_drop, List.length_take, List.length_map]; omega)⟩ rfl rfl ?_; intro v65 hv65
                refine WL.rd rfl rfl rfl (Rd.assign rfl rfl) ?_
                refine WL.nil ?_
                refine blockQ.normal ?_
                refine blockQ.normal ?_
                refine thenQ.normal ?_
                refine WC.region ?_
                refine WL.rd rfl rfl rfl (Rd.add rfl rfl rfl (by omega)) ?_
                refine WL.rd rfl rfl rfl (Rd.move rfl rfl) ?_
                refine WL.nil ?_
                exact loopQ3.mk (i + 1) v65 m ⟨by omega, by rw [take_snoc (by omega)]; exact i2.pass hcl⟩ (by omega) (by repeat (first | exact Sub.nil | refine Sub.cons rfl (by first | rfl | (congr 1; omega) | assumption) ?_)) (by rw [mbad_snoc _ _ _ (by omega), if_pos hcl]; exact (fun w h => OwnL.sat (by repeat (first | exact OwnL.refl | apply OwnL.take (by repeat (first | exact Take.head _ | apply Take.tail)) | apply OwnL.drop)) w (h.thin (SubL.mem (by repeat (first | exact SubL.refl | refine SubL.cons (by repeat (first | assumption | exact mS | apply mT)) ?_ | refine SubL.skip ?_))))))
      · skip
        rw [List.take_of_length_le (by omega)] at i2
        rw [List.take_of_length_le (by omega)]
        refine WC.exit ?_
        refine thenQ.exit ?_
        refine loopQ3.exit ?_
        refine blockQ.exit ?_
        refine thenQ.normal ?_
        refine WC.seq ?_
        refine WC.seq ?_
        refine WC.region ?_
        refine WL.rd rfl rfl rfl (Rd.move rfl rfl) ?_
        refine WL.rd rfl rfl rfl ((by first | exact Rd.lenE rfl rfl Try.underlying28 (by repeat (first | assumption | exact mS | apply mT)) | exact Rd.lenA rfl rfl Try.underlying28 (by repeat (first | assumption | exact mS | apply mT)) | exact Rd.len rfl rfl Try.underlying28)) ?_
        refine WL.rd rfl rfl rfl (Rd.gtr rfl rfl rfl) ?_
        refine WL.nil ?_
        refine thenQ.normal ?_
        first | refine WC.ite rfl (fun hc6 => ?_) (fun hc6 => ?_) | refine WC.cond rfl (fun hc6 => ?_) (fun hc6 => ?_)
        · skip
          refine WC.heap (R' := R) (O' := accC 40 7 encF x (mbad u v w ks) :: O) (fun w h => OwnL.sat (by repeat (first | exact OwnL.refl | apply OwnL.take (by repeat (first | exact Take.head _ | apply Take.tail)) | apply OwnL.drop)) w (h.thin (SubL.mem (by repeat (first | exact SubL.refl | refine SubL.cons (by repeat (first | assumption | exact mS | apply mT)) ?_ | refine SubL.skip ?_))))) ?_
          refine WC.seq ?_
          refine WC.region ?_
          refine WL.rd rfl rfl rfl (Rd.move rfl rfl) ?_
          refine WL.rd rfl rfl rfl (Rd.assign rfl rfl) ?_
          refine WL.rd rfl rfl rfl (Rd.assign rfl rfl) ?_
          refine WL.rd rfl rfl rfl (Rd.assign rfl rfl) ?_
          refine WL.nil ?_
          refine thenQ.normal ?_
          refine WC.ret (Ret.three Try.results10 rfl rfl rfl ?_)
          exact hkB hru hrv hrw x ks hks (fun e => by rw [e] at hc6; exact absurd hc6 (by decide))
        · skip
          have hnb : mbad u v w ks = [] := by
            cases e : mbad u v w ks with
            | nil => rfl
            | cons a r => rw [e] at hc6; exact absurd (by simp only [List.length_cons]; omega) hc6
          refine WC.heap (R' := mapP vs sdv b38 m :: R) (O' := O) (fun w h => Sat.shareM (Take.head _) (by revert w; exact (fun w h => OwnL.sat (by repeat (first | exact OwnL.refl | apply OwnL.take (by repeat (first | exact Take.head _ | apply Take.tail)) | apply OwnL.drop)) w (h.thin (SubL.mem (by repeat (first | exact SubL.refl | refine SubL.cons (by repeat (first | assumption | exact mS | apply mT)) ?_ | refine SubL.skip ?_))))))) ?_
          refine WC.skip ?_
          refine thenQ.normal ?_
          refine WC.seq ?_
          refine WC.region ?_
          refine WL.rd rfl rfl rfl (Rd.move rfl rfl) ?_
          refine WL.op rfl ?_
          refine OpW.call rfl rfl (by repeat (first | exact Evs.nil | apply Evs.cons rfl)) (by kernel_rfl) rfl rfl rfl ?_
          refine items_spec (m := m) List.mem_cons_self (by have := i2.len; omega) (fun k hk' => ?_) ?_
          · have h1 := (hks.2 k).1 ((i2.ks k).1 hk').1
            simp only [keysIn, List.flatMap_cons, List.flatMap_nil, List.append_nil, List.mem_append] at h1
            rcases h1 with h1 | h1 | h1 <;> obtain ⟨y, hy, rfl⟩ := List.mem_map.1 h1
            · exact hKu.2 y hy
            · exact hKv.2 y hy
            · exact hKw.2 y hy
          intro v89 ks' hka hkm
          refine WL.heap (R' := R) (O' := accC 45 2 encI v89 (itemsL (sdOf m) ks') :: O) (fun w h => OwnL.sat (by repeat (first | exact OwnL.refl | apply OwnL.take (by repeat (first | exact Take.head _ | apply Take.tail)) | apply OwnL.drop)) w (h.thin (SubL.mem (by repeat (first | exact SubL.refl | refine SubL.cons (by repeat (first | assumption | exact mS | apply mT)) ?_ | refine SubL.skip ?_))))) ?_
          refine WL.rd rfl rfl rfl (Rd.assign rfl rfl) ?_
          refine WL.rd rfl rfl rfl (Rd.assign rfl rfl) ?_
          refine WL.rd rfl rfl rfl (Rd.assign rfl rfl) ?_
          refine WL.nil ?_
          refine thenQ.normal ?_
          refine WC.ret (Ret.three Try.results10 rfl rfl rfl ?_)
          have e1 : ks' = ks := Asc.uniq hka hks.1 fun k => by rw [hkm k, i2.ks k]; exact ⟨fun h => h.1, fun h => ⟨h, mbad_nil hnb k h⟩⟩
          subst e1
          rw [itemsL_congr (g := mval u v w) fun k hk' => i2.sd k ((hkm k).1 hk')]
          exact hk hru hrv hrw v89 ks' hks hnb
end
end Go.Proofs.Ytbbeifdmgmadiaa
