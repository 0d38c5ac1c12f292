/-
  Layer 13: Make; speaks.
-/
import Derived.Test.YtnpnjebogmfdkaaDe5
namespace Go.Proofs.Ytnpnjebogmfdkaa
open Go Go.SL

def partOf (base target : List UInt8) : Prop := ∃ i, i + target.length ≤ base.length ∧ target = (base.take (i + target.length)).drop i
/-- What is made. -/
structure Made (base target d : List UInt8) : Prop where
  right : Right base target d
  len : d.length ≤ (putE base.length).length + (putE target.length).length + if target = [] then 0 else 1 + (putE target.length).length + target.length
  part : 16 ≤ base.length → 16 ≤ target.length → partOf base target → d.length ≤ 25
theorem index_part {base target : List UInt8} (h : 0 ≤ Lib.index base target) : ∃ i : Nat, Lib.index base target = i ∧ i + target.length ≤ base.length ∧ target = (base.take (i + target.length)).drop i := by
  have hr := Lib.index_room base target h
  rcases Lib.index_spec base target with ⟨h1, _⟩ | ⟨i, h1, h2, h3, _⟩
  · omega
  · refine ⟨i, h1, by omega, ?_⟩
    unfold Lib.occAt at h3
    rw [List.isPrefixOf_iff_prefix] at h3
    have := List.prefix_iff_eq_take.1 h3
    rw [List.drop_take]
    rw [Nat.add_sub_cancel_left]
    exact this
theorem part_index {base target : List UInt8} (h : partOf base target) : 0 ≤ Lib.index base target := by
  obtain ⟨i, h1, h2⟩ := h
  rcases Lib.index_spec base target with ⟨_, h4⟩ | ⟨j, h3, _⟩
  · exfalso
    have := h4 i (by omega)
    unfold Lib.occAt at this
    rw [← Bool.not_eq_true, List.isPrefixOf_iff_prefix] at this
    apply this
    rw [List.prefix_iff_eq_take]
    rw [List.drop_take, Nat.add_sub_cancel_left] at h2
    exact h2
  · omega
theorem plain_made {base target : List UInt8} (ht : target.length ≤ 262208) (hp : ¬ (16 ≤ base.length ∧ 16 ≤ target.length ∧ partOf base target)) : Made base target (putE base.length ++ putE target.length ++ sayE target 0 target.length []) := by
  have he := say_enc (base := base) (target := target) (out := []) (done := 0) (to := target.length) (Enc.nil base) (Nat.le_refl _) ht (Nat.zero_le _)
  rw [List.take_length] at he
  refine ⟨⟨_, List.append_assoc _ _ _, he⟩, ?_, fun h1 h2 h3 => absurd ⟨h1, h2, h3⟩ hp⟩
  rw [List.length_append, List.length_append, say_len (Nat.le_refl _) ht (Nat.zero_le _)]
  by_cases h : target = []
  · subst h; simp
  · have : 0 < target.length := List.length_pos_iff.2 h
    rw [if_neg h, if_pos this]; simp
theorem copy_made {base target : List UInt8} {i : Nat} (hb : base.length ≤ 262208) (ht : target.length ≤ 262208) (h16 : 16 ≤ target.length) (h1 : i + target.length ≤ base.length) (h2 : target = (base.take (i + target.length)).drop i) : Made base target (putE base.length ++ putE target.length ++ [1] ++ putE i ++ putE target.length) := by
  have ho := ord_copy (base := base) (f := i) (n := target.length) (by omega) h1 hb
  rw [← h2] at ho
  have he := (Enc.nil base).add ho
  rw [List.nil_append, List.nil_append] at he
  have e : putE base.length ++ putE target.length ++ [1] ++ putE i ++ putE target.length = putE base.length ++ (putE target.length ++ (1 :: (putE i ++ putE target.length))) := by simp
  have p1 := putE_le (n := base.length) hb
  have p2 := putE_le (n := target.length) ht
  have p3 := putE_le (n := i) (by omega)
  have hne : target ≠ [] := fun h => by rw [h] at h16; simp at h16
  refine ⟨⟨_, e, he⟩, ?_, fun _ _ _ => ?_⟩
  · rw [e, if_neg hne]; simp only [List.length_append, List.length_cons]; omega
  · rw [e]; simp only [List.length_append, List.length_cons]; omega
theorem other_made {base target o d2 : List UInt8} (he : Enc base o target) (h2 : Made base target d2) (hl : (putE base.length ++ putE target.length ++ o).length < d2.length) : Made base target (putE base.length ++ putE target.length ++ o) :=
  ⟨⟨o, List.append_assoc _ _ _, he⟩, by have := h2.len; omega, fun a b c => by have := h2.part a b c; omega⟩
section
variable {R : List RO} {O : List Own} {POST : Value → List RO → List Own → Prop}
theorem make_long {base target : List UInt8} (h : 262208 < base.length ∨ 262208 < target.length) (hk : POST (vs []) R O) : Fun Try.prog 9 #[vs base, vs target] R O POST := by
  refine Fun.enter (l := [_, _]) Try.func9 rfl Try.ntmps9 rfl (L0 := [(0, _), (1, _)]) rfl ?_
  refine WC.seq ?_
  refine WC.region ?_
  refine WL.rd rfl rfl rfl (Rd.assign rfl rfl) ?_
  refine WL.nil ?_
  refine thenQ.normal ?_
  refine WC.seq ?_
  refine WC.pick [0, 1] (by repeat (first | exact Pick.nil | apply Pick.cons rfl)) ?_
  refine WC.val 24 (.bool (decide (262208 < base.length ∨ 262208 < target.length))) ?_ ?_
  · skip
    refine WC.region ?_
    refine WL.rd rfl rfl rfl (Rd.move rfl rfl) ?_
    refine WL.rd rfl rfl rfl (Rd.slen (ts := #[]) (ty := 0) rfl rfl Try.underlying9) ?_
    refine WL.rd rfl rfl rfl (Rd.gtr rfl rfl rfl) ?_
    refine WL.rd rfl rfl rfl (Rd.move rfl rfl) ?_
    refine WL.case 20 rfl (fun hg20 => ?_) (fun hg20 => ?_)
    · skip
      refine WL.no rfl rfl rfl rfl rfl rfl ?_
      refine WL.no rfl rfl rfl rfl rfl rfl ?_
      refine WL.no rfl rfl rfl rfl rfl rfl ?_
      refine WL.rd rfl rfl rfl (Rd.pick_t rfl rfl rfl) ?_
      refine WL.nil ?_
      exact ⟨by repeat (first | exact Sub.nil | refine Sub.cons rfl (by first | rfl | (first | exact vb_t (.inl (by omega)) | exact vb ⟨fun h => .inr (by omega), fun h => by omega⟩)) ?_), by first | exact (fun _ h => h.thin (SubL.mem (by repeat (first | exact SubL.refl | refine SubL.cons (by repeat (first | assumption | exact List.mem_cons_self | refine List.mem_cons_of_mem _ ?_)) ?_ | refine SubL.skip ?_)))) | exact (fun w h => OwnL.sat (by repeat (first | exact OwnL.refl | apply OwnL.take (by repeat (first | exact Take.head _ | apply Take.tail)) | apply OwnL.drop)) w (h.thin (SubL.mem (by repeat (first | exact SubL.refl | refine SubL.cons (by repeat (first | assumption | exact List.mem_cons_self | refine List.mem_cons_of_mem _ ?_)) ?_ | refine SubL.skip ?_)))))⟩
    · skip
      refine WL.rd_yes rfl rfl rfl rfl rfl rfl (Rd.move rfl rfl) ?_
      refine WL.rd_yes rfl rfl rfl rfl rfl rfl (Rd.slen (ts := #[]) (ty := 0) rfl rfl Try.underlying9) ?_
      refine WL.rd_yes rfl rfl rfl rfl rfl rfl (Rd.gtr rfl rfl rfl) ?_
      refine WL.rd rfl rfl rfl (Rd.pick_f rfl rfl rfl) ?_
      refine WL.nil ?_
      exact ⟨by repeat (first | exact Sub.nil | refine Sub.cons rfl (by first | rfl | (first | exact vb_t (.inl (by omega)) | exact vb ⟨fun h => .inr (by omega), fun h => by omega⟩)) ?_), by first | exact (fun _ h => h.thin (SubL.mem (by repeat (first | exact SubL.refl | refine SubL.cons (by repeat (first | assumption | exact List.mem_cons_self | refine List.mem_cons_of_mem _ ?_)) ?_ | refine SubL.skip ?_)))) | exact (fun w h => OwnL.sat (by repeat (first | exact OwnL.refl | apply OwnL.take (by repeat (first | exact Take.head _ | apply Take.tail)) | apply OwnL.drop)) w (h.thin (SubL.mem (by repeat (first | exact SubL.refl | refine SubL.cons (by repeat (first | assumption | exact List.mem_cons_self | refine List.mem_cons_of_mem _ ?_)) ?_ | refine SubL.skip ?_)))))⟩
  · skip
    first | refine WC.ite rfl (fun hc1 => ?_) (fun hc1 => ?_) | refine WC.cond rfl (fun hc1 => ?_) (fun hc1 => ?_)
    · skip
      refine WC.seq ?_
      refine WC.region ?_
      refine WL.rd rfl rfl rfl (Rd.assign rfl rfl) ?_
      refine WL.nil ?_
      refine thenQ.normal ?_
      -- ret_1
      refine WC.ret (Ret.one Try.results9 rfl ?_)
      exact hk
    · skip
      exact absurd h hc1
set_option maxHeartbeats 4000000 in
set_option maxRecDepth 20000 in
theorem make_spec {base target : List UInt8} (hg : anyInt 0 ∈ R) (hb : base.length ≤ 262208) (ht : target.length ≤ 262208) (hk : ∀ d, Made base target d → d.length ≤ 300000 → POST (vs d) R O) : Fun Try.prog 9 #[vs base, vs target] R O POST := by
  have p1 := putE_le (n := base.length) hb
  have p2 := putE_le (n := target.length) ht
  have hsl := say_len (target := target) (out := []) (done := 0) (to := target.length) (Nat.le_refl _) ht (Nat.zero_le _)
  have hsl2 : (sayE target 0 target.length []).length ≤ 262300 := by rw [hsl]; split <;> simp <;> omega
  have hfin : ∀ d, Made base target d → POST (vs d) R O := fun d hd => hk d hd (by
    have := hd.len
    split at this <;> omega)
  refine Fun.enter (l := [_, _]) Try.func9 rfl Try.ntmps9 rfl (L0 := [(0, _), (1, _)]) rfl ?_
  refine WC.seq ?_
  refine WC.region ?_
  refine WL.rd rfl rfl rfl (Rd.assign rfl rfl) ?_
  refine WL.nil ?_
  refine thenQ.normal ?_
  refine WC.seq ?_
  refine WC.pick [0, 1] (by repeat (first | exact Pick.nil | apply Pick.cons rfl)) ?_
  refine WC.val 24 (.bool (decide (262208 < base.length ∨ 262208 < target.length))) ?_ ?_
  · skip
    refine WC.region ?_
    refine WL.rd rfl rfl rfl (Rd.move rfl rfl) ?_
    refine WL.rd rfl rfl rfl (Rd.slen (ts := #[]) (ty := 0) rfl rfl Try.underlying9) ?_
    refine WL.rd rfl rfl rfl (Rd.gtr rfl rfl rfl) ?_
    refine WL.rd rfl rfl rfl (Rd.move rfl rfl) ?_
    refine WL.case 20 rfl (fun hg20 => ?_) (fun hg20 => ?_)
    · skip
      refine WL.no rfl rfl rfl rfl rfl rfl ?_
      refine WL.no rfl rfl rfl rfl rfl rfl ?_
      refine WL.no rfl rfl rfl rfl rfl rfl ?_
      refine WL.rd rfl rfl rfl (Rd.pick_t rfl rfl rfl) ?_
      refine WL.nil ?_
      exact ⟨by repeat (first | exact Sub.nil | refine Sub.cons rfl (by first | rfl | (first | exact vb_t (.inl (by omega)) | exact vb ⟨fun h => .inr (by omega), fun h => by omega⟩)) ?_), by first | exact (fun _ h => h.thin (SubL.mem (by repeat (first | exact SubL.refl | refine SubL.cons (by repeat (first | assumption | exact List.mem_cons_self | refine List.mem_cons_of_mem _ ?_)) ?_ | refine SubL.skip ?_)))) | exact (fun w h => OwnL.sat (by repeat (first | exact OwnL.refl | apply OwnL.take (by repeat (first | exact Take.head _ | apply Take.tail)) | apply OwnL.drop)) w (h.thin (SubL.mem (by repeat (first | exact SubL.refl | refine SubL.cons (by repeat (first | assumption | exact List.mem_cons_self | refine List.mem_cons_of_mem _ ?_)) ?_ | refine SubL.skip ?_)))))⟩
    · skip
      refine WL.rd_yes rfl rfl rfl rfl rfl rfl (Rd.move rfl rfl) ?_
      refine WL.rd_yes rfl rfl rfl rfl rfl rfl (Rd.slen (ts := #[]) (ty := 0) rfl rfl Try.underlying9) ?_
      refine WL.rd_yes rfl rfl rfl rfl rfl rfl (Rd.gtr rfl rfl rfl) ?_
      refine WL.rd rfl rfl rfl (Rd.pick_f rfl rfl rfl) ?_
      refine WL.nil ?_
      exact ⟨by repeat (first | exact Sub.nil | refine Sub.cons rfl (by first | rfl | (first | exact vb_t (.inl (by omega)) | exact vb ⟨fun h => .inr (by omega), fun h => by omega⟩)) ?_), by first | exact (fun _ h => h.thin (SubL.mem (by repeat (first | exact SubL.refl | refine SubL.cons (by repeat (first | assumption | exact List.mem_cons_self | refine List.mem_cons_of_mem _ ?_)) ?_ | refine SubL.skip ?_)))) | exact (fun w h => OwnL.sat (by repeat (first | exact OwnL.refl | apply OwnL.take (by repeat (first | exact Take.head _ | apply Take.tail)) | apply OwnL.drop)) w (h.thin (SubL.mem (by repeat (first | exact SubL.refl | refine SubL.cons (by repeat (first | assumption | exact List.mem_cons_self | refine List.mem_cons_of_mem _ ?_)) ?_ | refine SubL.skip ?_)))))⟩
  · skip
    first | refine WC.ite rfl (fun hc1 => ?_) (fun hc1 => ?_) | refine WC.cond rfl (fun hc1 => ?_) (fun hc1 => ?_)
    · skip
      exfalso; omega
    · skip
      refine WC.skip ?_
      refine thenQ.normal ?_
      refine WC.seq ?_
      refine WC.region ?_
      refine WL.rd rfl rfl rfl (Rd.move rfl rfl) ?_
      refine WL.rd rfl rfl rfl (Rd.slen (ts := #[]) (ty := 0) rfl rfl Try.underlying9) ?_
      refine WL.op rfl ?_
      refine OpW.call rfl rfl (by repeat (first | exact Evs.nil | apply Evs.cons rfl)) (by kernel_rfl) rfl rfl rfl ?_
      refine put_spec ?_; rw [putI_nat' (by omega)]
      refine WL.rd rfl rfl rfl (Rd.move rfl rfl) ?_
      refine WL.rd rfl rfl rfl (Rd.slen (ts := #[]) (ty := 0) rfl rfl Try.underlying9) ?_
      refine WL.op rfl ?_
      refine OpW.call rfl rfl (by repeat (first | exact Evs.nil | apply Evs.cons rfl)) (by kernel_rfl) rfl rfl rfl ?_
      refine put_spec ?_; rw [putI_nat' (by omega)]
      refine WL.rd rfl rfl rfl (Rd.scat rfl rfl rfl (by omega)) ?_
      refine WL.rd rfl rfl rfl (Rd.assign rfl rfl) ?_
      refine WL.nil ?_
      refine thenQ.normal ?_
      refine WC.seq ?_
      refine WC.region ?_
      refine WL.rd rfl rfl rfl (Rd.move rfl rfl) ?_
      refine WL.rd rfl rfl rfl (Rd.buildN (ps := [(1, _)]) rfl Bs45 I45 rfl (by repeat (first | exact Evs.nil | apply Evs.cons rfl)) (by repeat (first | exact CellsOf.nil | apply CellsOf.cons rfl)) (by apply NFo.mk; repeat (first | exact NF.nil | apply NF.cons))) ?_
      refine WL.op rfl ?_
      refine OpW.box rfl rfl (by repeat (first | exact NF.nil | apply NF.cons)) rfl rfl ?_; intro b34
      refine WL.rd rfl rfl rfl (Rd.assign rfl rfl) ?_
      refine WL.nil ?_
      refine thenQ.normal ?_
      refine WC.seq ?_
      refine WC.region ?_
      refine WL.rd rfl rfl rfl (Rd.move rfl rfl) ?_
      refine WL.rd rfl rfl rfl (Rd.move rfl rfl) ?_
      refine WL.rd rfl rfl rfl (Rd.slen (ts := #[]) (ty := 0) rfl rfl Try.underlying9) ?_
      refine WL.heap (fun w h => h.accNil (α := UInt8) (e := 5) (size := 1) (enc := one vy)) ?_
      refine WL.op rfl ?_
      refine OpW.call rfl rfl (by repeat (first | exact Evs.nil | apply Evs.cons rfl)) (by kernel_rfl) rfl rfl rfl ?_
      refine Fun.heap (R' := R) (O' := mkr b34 [] target (.map none) (.pointer none) (.slice none 0 0) 0 :: accC 5 1 (one vy) (.slice none 0 0) [] :: O) (fun w h => OwnL.sat (by repeat (first | exact OwnL.refl | apply OwnL.take (by repeat (first | exact Take.head _ | apply Take.tail)) | apply OwnL.drop)) w (h.thin (SubL.mem (by repeat (first | exact SubL.refl | refine SubL.cons (by repeat (first | assumption | exact List.mem_cons_self | refine List.mem_cons_of_mem _ ?_)) ?_ | refine SubL.skip ?_))))) ?_
      refine say_spec (to := target.length) (out := []) (.inl rfl) OneV.sl ht (Nat.le_refl _) (by simp) ?_; intro p38 v38 hp38 hv38
      refine WL.nil ?_
      refine thenQ.normal ?_
      refine WC.seq ?_
      refine WC.region ?_
      refine WL.rd rfl rfl rfl (Rd.move rfl rfl) ?_
      refine WL.rd rfl rfl rfl (Rd.move rfl rfl) ?_
      refine WL.rd rfl rfl rfl (Rd.nilc rfl rfl) ?_
      refine WL.rd rfl rfl rfl ((by first | exact Rd.field rfl F45_3 rfl rfl | exact Rd.fieldE rfl F45_3 rfl (by repeat (first | assumption | exact List.mem_cons_self | refine List.mem_cons_of_mem _ ?_)) (by omega) | exact Rd.fieldA rfl F45_3 rfl (by repeat (first | assumption | exact List.mem_cons_self | refine List.mem_cons_of_mem _ ?_)) (by omega))) ?_
      refine WL.op rfl ?_
      refine OpW.call rfl rfl (by repeat (first | exact Evs.nil | apply Evs.cons rfl)) (by kernel_rfl) rfl rfl rfl ?_
      refine bstr_spec (off := 3) rfl ?_
      refine WL.rd rfl rfl rfl (Rd.scat rfl rfl rfl (by rw [List.length_append]; omega)) ?_
      refine WL.heap (R' := R) (O' := O) (fun w h => OwnL.sat (by repeat (first | exact OwnL.refl | apply OwnL.take (by repeat (first | exact Take.head _ | apply Take.tail)) | apply OwnL.drop)) w (h.thin (SubL.mem (by repeat (first | exact SubL.refl | refine SubL.cons (by repeat (first | assumption | exact List.mem_cons_self | refine List.mem_cons_of_mem _ ?_)) ?_ | refine SubL.skip ?_))))) ?_
      obtain ⟨short, hsh⟩ : ∃ s, s = putE base.length ++ putE target.length ++ sayE target 0 target.length [] := ⟨_, rfl⟩
      rw [← hsh]
      have hsl3 : short.length ≤ 262310 := by rw [hsh, List.length_append, List.length_append]; omega
      refine WL.rd rfl rfl rfl (Rd.assign rfl rfl) ?_
      refine WL.nil ?_
      refine thenQ.normal ?_
      refine WC.seq ?_
      refine WC.pick [0, 1, 5, 7] (by repeat (first | exact Pick.nil | apply Pick.cons rfl)) ?_
      refine WC.val 52 (.bool (decide (base.length < 16 ∨ target.length < 16))) ?_ ?_
      · skip
        refine WC.region ?_
        refine WL.rd rfl rfl rfl (Rd.move rfl rfl) ?_
        refine WL.rd rfl rfl rfl (Rd.slen (ts := #[]) (ty := 0) rfl rfl Try.underlying9) ?_
        refine WL.rd rfl rfl rfl (Rd.lss rfl rfl rfl) ?_
        refine WL.rd rfl rfl rfl (Rd.move rfl rfl) ?_
        refine WL.case 48 rfl (fun hg48 => ?_) (fun hg48 => ?_)
        · skip
          refine WL.no rfl rfl rfl rfl rfl rfl ?_
          refine WL.no rfl rfl rfl rfl rfl rfl ?_
          refine WL.no rfl rfl rfl rfl rfl rfl ?_
          refine WL.rd rfl rfl rfl (Rd.pick_t rfl rfl rfl) ?_
          refine WL.nil ?_
          exact ⟨by repeat (first | exact Sub.nil | refine Sub.cons rfl (by first | rfl | (first | exact vb_t (.inl (by omega)) | exact vb ⟨fun h => .inr (by omega), fun h => by omega⟩)) ?_), by first | exact (fun _ h => h.thin (SubL.mem (by repeat (first | exact SubL.refl | refine SubL.cons (by repeat (first | assumption | exact List.mem_cons_self | refine List.mem_cons_of_mem _ ?_)) ?_ | refine SubL.skip ?_)))) | exact (fun w h => OwnL.sat (by repeat (first | exact OwnL.refl | apply OwnL.take (by repeat (first | exact Take.head _ | apply Take.tail)) | apply OwnL.drop)) w (h.thin (SubL.mem (by repeat (first | exact SubL.refl | refine SubL.cons (by repeat (first | assumption | exact List.mem_cons_self | refine List.mem_cons_of_mem _ ?_)) ?_ | refine SubL.skip ?_)))))⟩
        · skip
          refine WL.rd_yes rfl rfl rfl rfl rfl rfl (Rd.move rfl rfl) ?_
          refine WL.rd_yes rfl rfl rfl rfl rfl rfl (Rd.slen (ts := #[]) (ty := 0) rfl rfl Try.underlying9) ?_
          refine WL.rd_yes rfl rfl rfl rfl rfl rfl (Rd.lss rfl rfl rfl) ?_
          refine WL.rd rfl rfl rfl (Rd.pick_f rfl rfl rfl) ?_
          refine WL.nil ?_
          exact ⟨by repeat (first | exact Sub.nil | refine Sub.cons rfl (by first | rfl | (first | exact vb_t (.inl (by omega)) | exact vb ⟨fun h => .inr (by omega), fun h => by omega⟩)) ?_), by first | exact (fun _ h => h.thin (SubL.mem (by repeat (first | exact SubL.refl | refine SubL.cons (by repeat (first | assumption | exact List.mem_cons_self | refine List.mem_cons_of_mem _ ?_)) ?_ | refine SubL.skip ?_)))) | exact (fun w h => OwnL.sat (by repeat (first | exact OwnL.refl | apply OwnL.take (by repeat (first | exact Take.head _ | apply Take.tail)) | apply OwnL.drop)) w (h.thin (SubL.mem (by repeat (first | exact SubL.refl | refine SubL.cons (by repeat (first | assumption | exact List.mem_cons_self | refine List.mem_cons_of_mem _ ?_)) ?_ | refine SubL.skip ?_)))))⟩
      · skip
        first | refine WC.ite rfl (fun hc2 => ?_) (fun hc2 => ?_) | refine WC.cond rfl (fun hc2 => ?_) (fun hc2 => ?_)
        · skip
          refine WC.seq ?_
          refine WC.region ?_
          refine WL.rd rfl rfl rfl (Rd.move rfl rfl) ?_
          refine WL.rd rfl rfl rfl (Rd.assign rfl rfl) ?_
          refine WL.nil ?_
          refine thenQ.normal ?_
          -- ret_1
          refine WC.heap (R' := R) (O' := O) (fun w h => OwnL.sat (by repeat (first | exact OwnL.refl | apply OwnL.take (by repeat (first | exact Take.head _ | apply Take.tail)) | apply OwnL.drop)) w (h.thin (SubL.mem (by repeat (first | exact SubL.refl | refine SubL.cons (by repeat (first | assumption | exact List.mem_cons_self | refine List.mem_cons_of_mem _ ?_)) ?_ | refine SubL.skip ?_))))) ?_
          refine WC.ret (Ret.one Try.results9 rfl ?_)
          exact hfin _ (by rw [hsh]; exact plain_made ht (fun h => by omega))
        · skip
          refine WC.skip ?_
          refine thenQ.normal ?_
          refine WC.seq ?_
          refine WC.seq ?_
          refine WC.region ?_
          refine WL.rd rfl rfl rfl (Rd.move rfl rfl) ?_
          refine WL.rd rfl rfl rfl (Rd.move rfl rfl) ?_
          refine WL.op rfl ?_
          refine OpW.call rfl rfl (by repeat (first | exact Evs.nil | apply Evs.cons rfl)) (by kernel_rfl) rfl rfl rfl ?_
          refine index_spec hg (by omega) ?_
          refine WL.rd rfl rfl rfl (Rd.assign rfl rfl) ?_
          refine WL.nil ?_
          refine thenQ.normal ?_
          refine WC.seq ?_
          refine WC.region ?_
          refine WL.rd rfl rfl rfl (Rd.move rfl rfl) ?_
          refine WL.rd rfl rfl rfl (Rd.geq rfl rfl rfl) ?_
          refine WL.nil ?_
          refine thenQ.normal ?_
          first | refine WC.ite rfl (fun hc3 => ?_) (fun hc3 => ?_) | refine WC.cond rfl (fun hc3 => ?_) (fun hc3 => ?_)
          · skip
            obtain ⟨i, e1, e2, e3⟩ := index_part hc3
            rw [e1]
            have p3 := putE_le (n := i) (by omega)
            refine WC.seq ?_
            refine WC.region ?_
            refine WL.rd rfl rfl rfl (Rd.move rfl rfl) ?_
            refine WL.rd rfl rfl rfl (Rd.scat rfl rfl rfl (by rw [List.length_append]; show _ + 1 ≤ _; omega)) ?_
            refine WL.rd rfl rfl rfl (Rd.move rfl rfl) ?_
            refine WL.op rfl ?_
            refine OpW.call rfl rfl (by repeat (first | exact Evs.nil | apply Evs.cons rfl)) (by kernel_rfl) rfl rfl rfl ?_
            refine put_spec ?_; rw [putI_nat' (by omega)]
            refine WL.rd rfl rfl rfl (Rd.scat rfl rfl rfl (by rw [List.length_append, List.length_append]; show _ + 1 + _ ≤ _; omega)) ?_
            refine WL.rd rfl rfl rfl (Rd.move rfl rfl) ?_
            refine WL.rd rfl rfl rfl (Rd.slen (ts := #[]) (ty := 0) rfl rfl Try.underlying9) ?_
            refine WL.op rfl ?_
            refine OpW.call rfl rfl (by repeat (first | exact Evs.nil | apply Evs.cons rfl)) (by kernel_rfl) rfl rfl rfl ?_
            refine put_spec ?_; rw [putI_nat' (by omega)]
            refine WL.rd rfl rfl rfl (Rd.scat rfl rfl rfl (by rw [List.length_append, List.length_append, List.length_append]; show _ + 1 + _ + _ ≤ _; omega)) ?_
            refine WL.rd rfl rfl rfl (Rd.assign rfl rfl) ?_
            refine WL.nil ?_
            refine thenQ.normal ?_
            -- ret_2
            refine WC.heap (R' := R) (O' := O) (fun w h => OwnL.sat (by repeat (first | exact OwnL.refl | apply OwnL.take (by repeat (first | exact Take.head _ | apply Take.tail)) | apply OwnL.drop)) w (h.thin (SubL.mem (by repeat (first | exact SubL.refl | refine SubL.cons (by repeat (first | assumption | exact List.mem_cons_self | refine List.mem_cons_of_mem _ ?_)) ?_ | refine SubL.skip ?_))))) ?_
            refine WC.ret (Ret.one Try.results9 rfl ?_)
            exact hfin _ (copy_made hb ht (by omega) e2 e3)
          · skip
            have hnp : ¬ partOf base target := fun h => hc3 (part_index h)
            have hshort : Made base target short := by rw [hsh]; exact plain_made ht (fun h => hnp h.2.2)
            refine WC.skip ?_
            refine thenQ.normal ?_
            refine WC.seq ?_
            refine WC.region ?_
            refine WL.rd rfl rfl rfl (Rd.move rfl rfl) ?_
            refine WL.rd rfl rfl rfl (Rd.move rfl rfl) ?_
            refine WL.op rfl ?_
            refine OpW.makeMap vs vi rfl rfl rfl ?_; intro b70
            refine WL.rd rfl rfl rfl (Rd.buildN (ps := [(0, _), (1, _), (2, _)]) rfl Bs45 I45 rfl (by repeat (first | exact Evs.nil | apply Evs.cons rfl)) (by repeat (first | exact CellsOf.nil | apply CellsOf.cons rfl)) (by apply NFo.mk; repeat (first | exact NF.nil | apply NF.cons))) ?_
            refine WL.op rfl ?_
            refine OpW.box rfl rfl (by repeat (first | exact NF.nil | apply NF.cons)) rfl rfl ?_; intro b72
            refine WL.rd rfl rfl rfl (Rd.assign rfl rfl) ?_
            refine WL.nil ?_
            refine thenQ.normal ?_
            refine WC.seq ?_
            refine WC.region ?_
            refine WL.rd rfl rfl rfl (Rd.move rfl rfl) ?_
            refine WL.op rfl ?_
            refine OpW.call rfl rfl (by repeat (first | exact Evs.nil | apply Evs.cons rfl)) (by kernel_rfl) rfl rfl rfl ?_
            refine Fun.heap (R' := R) (O' := mapC vs vi b70 GoMap.empty :: mkr b72 base target (.map (some b70)) (.pointer none) (.slice none 0 0) 0 :: O) (fun w h => OwnL.sat (by repeat (first | exact OwnL.refl | apply OwnL.take (by repeat (first | exact Take.head _ | apply Take.tail)) | apply OwnL.drop)) w (h.thin (SubL.mem (by repeat (first | exact SubL.refl | refine SubL.cons (by repeat (first | assumption | exact List.mem_cons_self | refine List.mem_cons_of_mem _ ?_)) ?_ | refine SubL.skip ?_))))) ?_
            refine learn_spec hb ?_; intro m hm
            refine WL.nil ?_
            refine thenQ.normal ?_
            refine WC.seq ?_
            refine WC.seq ?_
            refine WC.region ?_
            refine WL.rd rfl rfl rfl (Rd.assign rfl rfl) ?_
            refine WL.nil ?_
            refine thenQ.normal ?_
            refine WC.block ?_
            refine WC.pick [10, 1, 5, 7, 9] (by repeat (first | exact Pick.nil | apply Pick.cons rfl)) ?_
            refine WC.loop5 1 (fun (at_ : Nat) (done : Nat) (out : List UInt8) (p : Value) (v : Value) => [(10, .int .i64 (at_ : Int))]) (fun (at_ : Nat) (done : Nat) (out : List UInt8) (p : Value) (v : Value) => mkr b72 base target (.map (some b70)) p v done :: accC 5 1 (one vy) v out :: mapC vs vi b70 m :: O) (fun (at_ : Nat) (done : Nat) (out : List UInt8) (p : Value) (v : Value) => done ≤ at_ ∧ at_ ≤ target.length ∧ Enc base out (target.take done) ∧ out.length ≤ 8 * done ∧ (p = .pointer none ∨ p = pself b72 3) ∧ OneV v) (fun (at_ : Nat) (done : Nat) (out : List UInt8) (p : Value) (v : Value) => target.length + 1 - at_) (0) (0) ([]) (.pointer none) (.slice none 0 0) (by repeat (first | exact Split.zero | apply Split.succ)) ?hinv1 (by repeat (first | exact Sub.nil | refine Sub.cons rfl (by first | rfl | (congr 1; omega) | assumption) ?_)) (fun w h => by
            have g1 := h.accNil (α := UInt8) (e := 5) (size := 1) (enc := one vy)
            exact (fun w h => OwnL.sat (by repeat (first | exact OwnL.refl | apply OwnL.take (by repeat (first | exact Take.head _ | apply Take.tail)) | apply OwnL.drop)) w (h.thin (SubL.mem (by repeat (first | exact SubL.refl | refine SubL.cons (by repeat (first | assumption | exact List.mem_cons_self | refine List.mem_cons_of_mem _ ?_)) ?_ | refine SubL.skip ?_))))) w g1) ?_
            case hinv1 =>
              exact ⟨Nat.le_refl _, Nat.zero_le _, Enc.nil base, Nat.zero_le _, .inl rfl, OneV.sl⟩
            intro at_ done out p v
            rintro ⟨i1, i2, i3, i4, i5, i6⟩
            refine WC.seq ?_
            refine WC.seq ?_
            refine WC.region ?_
            refine WL.rd rfl rfl rfl (Rd.move rfl rfl) ?_
            refine WL.rd rfl rfl rfl (Rd.add rfl rfl rfl (by omega)) ?_
            refine WL.rd rfl rfl rfl (Rd.move rfl rfl) ?_
            refine WL.rd rfl rfl rfl (Rd.slen (ts := #[]) (ty := 0) rfl rfl Try.underlying9) ?_
            refine WL.rd rfl rfl rfl (Rd.leq rfl rfl rfl) ?_
            refine WL.nil ?_
            refine thenQ.normal ?_
            first | refine WC.ite rfl (fun hc4 => ?_) (fun hc4 => ?_) | refine WC.cond rfl (fun hc4 => ?_) (fun hc4 => ?_)
            · skip
              refine WC.skip ?_
              refine thenQ.normal ?_
              refine WC.block ?_
              refine WC.seq ?_
              refine WC.still mixed (by kernel_rfl) ?_
              refine WA.rd rfl rfl rfl (Rd.move rfl rfl) ?_
              refine WA.rd rfl rfl rfl (Rd.nilc rfl rfl) ?_
              refine WA.rd rfl rfl rfl ((by first | exact Rd.field rfl F45_2 rfl rfl | exact Rd.fieldE rfl F45_2 rfl (by repeat (first | assumption | exact List.mem_cons_self | refine List.mem_cons_of_mem _ ?_)) (by omega) | exact Rd.fieldA rfl F45_2 rfl (by repeat (first | assumption | exact List.mem_cons_self | refine List.mem_cons_of_mem _ ?_)) (by omega))) ?_
              refine WA.rd rfl rfl rfl (Rd.row1 (off := 2) (u := .map (some b70)) rfl C40 rfl List.mem_cons_self rfl) ?_
              refine WA.rd rfl rfl rfl (Rd.move rfl rfl) ?_
              refine WA.rd rfl rfl rfl (Rd.move rfl rfl) ?_
              refine WA.rd rfl rfl rfl (Rd.move rfl rfl) ?_
              refine WA.rd rfl rfl rfl (Rd.add rfl rfl rfl (by omega)) ?_
              refine WA.rd rfl rfl rfl (Rd.scut_lh (lo := at_) (hi := at_ + 16) rfl Try.underlying9 rfl rfl rfl rfl (by omega) (by omega) (by omega)) ?_
              refine WA.rd rfl rfl rfl ((by first | exact Rd.lookup2 M40 K9 rfl rfl rfl (by repeat (first | assumption | exact List.mem_cons_self | refine List.mem_cons_of_mem _ ?_)) (by rfl) | exact Rd.lookup2R M40 K9 rfl rfl rfl (by repeat (first | assumption | exact List.mem_cons_self | refine List.mem_cons_of_mem _ ?_)) (by rfl))) ?_
              refine WA.rd rfl rfl rfl (Rd.move rfl rfl) ?_
              refine WA.rd rfl rfl rfl (Rd.extract rfl rfl rfl) ?_
              refine WA.rd rfl rfl rfl (Rd.extract rfl rfl rfl) ?_
              refine WA.rd rfl rfl rfl (Rd.assign rfl rfl) ?_
              refine WA.rd rfl rfl rfl (Rd.assign rfl rfl) ?_
              refine WA.nil ?_
              refine thenQ.normal ?_
              refine WC.seq ?_
              refine WC.seq ?_
              refine WC.region ?_
              refine WL.rd rfl rfl rfl (Rd.move rfl rfl) ?_
              refine WL.rd rfl rfl rfl ((by first | exact Rd.notd rfl rfl | exact Rd.not rfl rfl)) ?_
              refine WL.nil ?_
              refine thenQ.normal ?_
              first | refine WC.ite rfl (fun hc5 => ?_) (fun hc5 => ?_) | refine WC.cond rfl (fun hc5 => ?_) (fun hc5 => ?_)
              · skip
                refine WC.seq ?_
                refine WC.region ?_
                refine WL.rd rfl rfl rfl (Rd.move rfl rfl) ?_
                refine WL.rd rfl rfl rfl (Rd.add rfl rfl rfl (by omega)) ?_
                refine WL.rd rfl rfl rfl (Rd.assign rfl rfl) ?_
                refine WL.nil ?_
                refine thenQ.normal ?_
                refine WC.exit ?_
                refine thenQ.exit ?_
                refine blockQ.exit ?_
                -- next1_1
                exact loopQ5.mk (at_ + 1) done out p v ⟨by omega, by omega, i3, i4, i5, i6⟩ (by omega) (by repeat (first | exact Sub.nil | refine Sub.cons rfl (by first | rfl | (congr 1; omega) | assumption) ?_)) (fun w h => OwnL.sat (by repeat (first | exact OwnL.refl | apply OwnL.take (by repeat (first | exact Take.head _ | apply Take.tail)) | apply OwnL.drop)) w (h.thin (SubL.mem (by repeat (first | exact SubL.refl | refine SubL.cons (by repeat (first | assumption | exact List.mem_cons_self | refine List.mem_cons_of_mem _ ?_)) ?_ | refine SubL.skip ?_)))))
              · skip
                obtain ⟨w0, hw0⟩ : ∃ w0, w0 = (target.take (at_ + 16)).drop at_ := ⟨_, rfl⟩
                rw [← hw0] at hc5 ⊢
                obtain ⟨i, hi⟩ : ∃ i, m.get w0 = some i := by
                  cases h : m.get w0 with
                  | none => rw [h] at hc5; simp at hc5
                  | some i => exact ⟨i, rfl⟩
                obtain ⟨j, rfl, hj1, hj2⟩ := hm _ _ hi
                refine WC.say 11 (u := .int .i64 (j : Int)) rfl (by rw [hi]; rfl) ?_
                have hsame : Same target base at_ j 16 := ⟨by omega, hj1, by rw [← hw0]; exact hj2⟩
                refine WC.skip ?_
                refine thenQ.normal ?_
                refine WC.seq ?_
                refine WC.region ?_
                refine WL.rd rfl rfl rfl (Rd.move rfl rfl) ?_
                refine WL.rd rfl rfl rfl (Rd.move rfl rfl) ?_
                refine WL.rd rfl rfl rfl (Rd.move rfl rfl) ?_
                refine WL.op rfl ?_
                refine OpW.call rfl rfl (by repeat (first | exact Evs.nil | apply Evs.cons rfl)) (by kernel_rfl) rfl rfl rfl ?_
                refine longest_spec (from_ := j) hb ht hsame i1 ?_; intro a f n l1 l2 l3 l4
                obtain ⟨l5, l6, l7⟩ := l4
                have q1 := putE_le (n := f) (by omega)
                have q2 := putE_le (n := n) (by omega)
                have q3 := say_len (target := target) (out := out) (done := done) (to := a) (by omega) ht l1
                have q4 := putE_le (n := a - done) (by omega)
                have q5 : (sayE target done a out).length ≤ 8 * a := by rw [q3]; split <;> omega
                have hen : Enc base (sayE target done a out ++ (1 :: (putE f ++ putE n))) (target.take (a + n)) := by
                  have h1 := (say_enc i3 (by omega) ht l1).add (ord_copy (base := base) (f := f) (n := n) (by omega) l6 hb)
                  rw [← l7] at h1
                  have e : target.take (a + n) = target.take a ++ (target.take (a + n)).drop a := by
                    have := List.take_append_drop a (target.take (a + n))
                    rw [List.take_take, Nat.min_eq_left (by omega)] at this
                    exact this.symm
                  rw [e]; exact h1
                refine WL.rd rfl rfl rfl (Rd.move rfl rfl) ?_
                refine WL.rd rfl rfl rfl (Rd.extract rfl rfl rfl) ?_
                refine WL.rd rfl rfl rfl (Rd.extract rfl rfl rfl) ?_
                refine WL.rd rfl rfl rfl (Rd.extract rfl rfl rfl) ?_
                refine WL.rd rfl rfl rfl (Rd.assign rfl rfl) ?_
                refine WL.rd rfl rfl rfl (Rd.assign rfl rfl) ?_
                refine WL.rd rfl rfl rfl (Rd.assign rfl rfl) ?_
                refine WL.nil ?_
                refine thenQ.normal ?_
                refine WC.seq ?_
                refine WC.region ?_
                refine WL.rd rfl rfl rfl (Rd.move rfl rfl) ?_
                refine WL.rd rfl rfl rfl (Rd.move rfl rfl) ?_
                refine WL.op rfl ?_
                refine OpW.call rfl rfl (by repeat (first | exact Evs.nil | apply Evs.cons rfl)) (by kernel_rfl) rfl rfl rfl ?_
                refine say_spec (to := a) i5 i6 ht (by omega) (by omega) ?_; intro p1' v1' hp1' hv1'
                refine WL.nil ?_
                refine thenQ.normal ?_
                refine WC.seq ?_
                refine WC.drawn (O) 10 rfl mixed ?_
                refine WD.take 0 rfl (by kernel_rfl) (Held.mk' (by repeat (first | exact SubL.refl | refine SubL.cons (by repeat (first | assumption | exact List.mem_cons_self | refine List.mem_cons_of_mem _ ?_)) ?_ | refine SubL.skip ?_)) (by repeat (first | exact OwnL.refl | apply OwnL.take (by repeat (first | exact Take.head _ | apply Take.tail)) | apply OwnL.drop))) rfl rfl rfl (Rd.move rfl rfl) ?_
                refine WD.take 1 rfl (by kernel_rfl) (Held.mk' (by repeat (first | exact SubL.refl | refine SubL.cons (by repeat (first | assumption | exact List.mem_cons_self | refine List.mem_cons_of_mem _ ?_)) ?_ | refine SubL.skip ?_)) (by repeat (first | exact OwnL.refl | apply OwnL.take (by repeat (first | exact Take.head _ | apply Take.tail)) | apply OwnL.drop))) rfl rfl rfl (Rd.nilc rfl rfl) ?_
                refine WD.take 2 rfl (by kernel_rfl) (Held.mk' (by repeat (first | exact SubL.refl | refine SubL.cons (by repeat (first | assumption | exact List.mem_cons_self | refine List.mem_cons_of_mem _ ?_)) ?_ | refine SubL.skip ?_)) (by repeat (first | exact OwnL.refl | apply OwnL.take (by repeat (first | exact Take.head _ | apply Take.tail)) | apply OwnL.drop))) rfl rfl rfl ((by first | exact Rd.field rfl F45_3 rfl rfl | exact Rd.fieldE rfl F45_3 rfl (by repeat (first | assumption | exact List.mem_cons_self | refine List.mem_cons_of_mem _ ?_)) (by omega) | exact Rd.fieldA rfl F45_3 rfl (by repeat (first | assumption | exact List.mem_cons_self | refine List.mem_cons_of_mem _ ?_)) (by omega))) ?_
                refine WD.take 3 rfl (by kernel_rfl) (Held.mk' (by repeat (first | exact SubL.refl | refine SubL.cons (by repeat (first | assumption | exact List.mem_cons_self | refine List.mem_cons_of_mem _ ?_)) ?_ | refine SubL.skip ?_)) (by repeat (first | exact OwnL.refl | apply OwnL.take (by repeat (first | exact Take.head _ | apply Take.tail)) | apply OwnL.drop))) rfl rfl rfl (Rd.move rfl rfl) ?_
                refine WD.take 6 rfl (by kernel_rfl) (Held.mk' (by repeat (first | exact SubL.refl | refine SubL.cons (by repeat (first | assumption | exact List.mem_cons_self | refine List.mem_cons_of_mem _ ?_)) ?_ | refine SubL.skip ?_)) (by repeat (first | exact OwnL.refl | apply OwnL.take (by repeat (first | exact Take.head _ | apply Take.tail)) | apply OwnL.drop))) rfl rfl rfl (Rd.move rfl rfl) ?_
                refine WD.one 4 rfl (by kernel_rfl) rfl ?_
                refine OpW.call rfl rfl (by repeat (first | exact Evs.nil | apply Evs.cons rfl)) (by kernel_rfl) rfl rfl rfl ?_
                refine put_spec ?_; rw [putI_nat' (by omega)]
                refine ⟨(Held.mk' (by repeat (first | exact SubL.refl | refine SubL.cons (by repeat (first | assumption | exact List.mem_cons_self | refine List.mem_cons_of_mem _ ?_)) ?_ | refine SubL.skip ?_)) (by repeat (first | exact OwnL.refl | apply OwnL.take (by repeat (first | exact Take.head _ | apply Take.tail)) | apply OwnL.drop))), ?_⟩
                refine WD.take 5 rfl (by kernel_rfl) (Held.mk' (by repeat (first | exact SubL.refl | refine SubL.cons (by repeat (first | assumption | exact List.mem_cons_self | refine List.mem_cons_of_mem _ ?_)) ?_ | refine SubL.skip ?_)) (by repeat (first | exact OwnL.refl | apply OwnL.take (by repeat (first | exact Take.head _ | apply Take.tail)) | apply OwnL.drop))) rfl rfl rfl (Rd.scat rfl rfl rfl (by show 1 + _ ≤ _; omega)) ?_
                refine WD.one 7 rfl (by kernel_rfl) rfl ?_
                refine OpW.call rfl rfl (by repeat (first | exact Evs.nil | apply Evs.cons rfl)) (by kernel_rfl) rfl rfl rfl ?_
                refine put_spec ?_; rw [putI_nat' (by omega)]
                refine ⟨(Held.mk' (by repeat (first | exact SubL.refl | refine SubL.cons (by repeat (first | assumption | exact List.mem_cons_self | refine List.mem_cons_of_mem _ ?_)) ?_ | refine SubL.skip ?_)) (by repeat (first | exact OwnL.refl | apply OwnL.take (by repeat (first | exact Take.head _ | apply Take.tail)) | apply OwnL.drop))), ?_⟩
                refine WD.take 8 rfl (by kernel_rfl) (Held.mk' (by repeat (first | exact SubL.refl | refine SubL.cons (by repeat (first | assumption | exact List.mem_cons_self | refine List.mem_cons_of_mem _ ?_)) ?_ | refine SubL.skip ?_)) (by repeat (first | exact OwnL.refl | apply OwnL.take (by repeat (first | exact Take.head _ | apply Take.tail)) | apply OwnL.drop))) rfl rfl rfl (Rd.scat rfl rfl rfl (by rw [List.length_append]; show 1 + _ + _ ≤ _; omega)) ?_
                refine WD.one 9 rfl (by kernel_rfl) rfl ?_
                refine OpW.call rfl rfl (by repeat (first | exact Evs.nil | apply Evs.cons rfl)) (by kernel_rfl) rfl rfl rfl ?_
                refine bws_spec (off := 3) (s := 1 :: (putE f ++ putE n)) hp1' rfl rfl (by kernel_rfl) (by rw [List.length_cons, List.length_append]; omega) ?_; intro v117 hv117
                refine ⟨(Held.mk' (by repeat (first | exact SubL.refl | refine SubL.cons (by repeat (first | assumption | exact List.mem_cons_self | refine List.mem_cons_of_mem _ ?_)) ?_ | refine SubL.skip ?_)) (by repeat (first | exact OwnL.refl | apply OwnL.take (by repeat (first | exact Take.head _ | apply Take.tail)) | apply OwnL.drop))), ?_⟩
                refine WD.done (by kernel_rfl) ?_
                refine thenQ.normal ?_
                refine WC.seq ?_
                refine WC.region ?_
                refine WL.rd rfl rfl rfl (Rd.move rfl rfl) ?_
                refine WL.rd rfl rfl rfl (Rd.move rfl rfl) ?_
                refine WL.rd rfl rfl rfl (Rd.move rfl rfl) ?_
                refine WL.rd rfl rfl rfl (Rd.add rfl rfl rfl (by omega)) ?_
                refine WL.say 121 (u := .int .i64 ((a + n : Nat) : Int)) rfl (by congr 1) ?_
                refine WL.rd rfl rfl rfl (Rd.nilc rfl rfl) ?_
                refine WL.rd rfl rfl rfl ((by first | exact Rd.field rfl F45_4 rfl rfl | exact Rd.fieldE rfl F45_4 rfl (by repeat (first | assumption | exact List.mem_cons_self | refine List.mem_cons_of_mem _ ?_)) (by omega) | exact Rd.fieldA rfl F45_4 rfl (by repeat (first | assumption | exact List.mem_cons_self | refine List.mem_cons_of_mem _ ?_)) (by omega))) ?_
                refine WL.op rfl ?_
                refine OpW.store1 rfl Z3 rfl rfl (by first | exact ⟨rfl, rfl⟩ | assumption) (by repeat (first | assumption | exact Take.head _ | apply Take.tail)) (by first | (simp; done) | omega | exact of_decide_eq_true rfl | (simp only [List.length_append, List.length_replicate, List.length_map, List.length_set]; omega)) rfl ?_
                refine WL.nil ?_
                refine thenQ.normal ?_
                refine WC.region ?_
                refine WL.rd rfl rfl rfl (Rd.move rfl rfl) ?_
                refine WL.rd rfl rfl rfl (Rd.nilc rfl rfl) ?_
                refine WL.rd rfl rfl rfl ((by first | exact Rd.field rfl F45_4 rfl rfl | exact Rd.fieldE rfl F45_4 rfl (by repeat (first | assumption | exact List.mem_cons_self | refine List.mem_cons_of_mem _ ?_)) (by omega) | exact Rd.fieldA rfl F45_4 rfl (by repeat (first | assumption | exact List.mem_cons_self | refine List.mem_cons_of_mem _ ?_)) (by omega))) ?_
                refine WL.rd rfl rfl rfl (Rd.row1 (off := 5) (u := .int .i64 ((a + n : Nat) : Int)) rfl C3 rfl List.mem_cons_self rfl) ?_
                refine WL.rd rfl rfl rfl (Rd.assign rfl rfl) ?_
                refine WL.nil ?_
                refine blockQ.normal ?_
                -- next1_2
                exact loopQ5.mk (a + n) (a + n) (sayE target done a out ++ (1 :: (putE f ++ putE n))) (pself b72 3) v117 ⟨Nat.le_refl _, l5, hen, by rw [List.length_append, List.length_cons, List.length_append]; omega, .inr rfl, hv117⟩ (by omega) (by repeat (first | exact Sub.nil | refine Sub.cons rfl (by first | rfl | (congr 1; omega) | assumption) ?_)) (fun w h => OwnL.sat (by repeat (first | exact OwnL.refl | apply OwnL.take (by repeat (first | exact Take.head _ | apply Take.tail)) | apply OwnL.drop)) w (h.thin (SubL.mem (by repeat (first | exact SubL.refl | refine SubL.cons (by repeat (first | assumption | exact List.mem_cons_self | refine List.mem_cons_of_mem _ ?_)) ?_ | refine SubL.skip ?_)))))
            · skip
              refine WC.exit ?_
              refine thenQ.exit ?_
              refine loopQ5.exit ?_
              refine blockQ.exit ?_
              refine thenQ.normal ?_
              refine WC.seq ?_
              refine WC.region ?_
              refine WL.rd rfl rfl rfl (Rd.move rfl rfl) ?_
              refine WL.rd rfl rfl rfl (Rd.move rfl rfl) ?_
              refine WL.rd rfl rfl rfl (Rd.slen (ts := #[]) (ty := 0) rfl rfl Try.underlying9) ?_
              refine WL.op rfl ?_
              refine OpW.call rfl rfl (by repeat (first | exact Evs.nil | apply Evs.cons rfl)) (by kernel_rfl) rfl rfl rfl ?_
              refine say_spec (to := target.length) i5 i6 ht (Nat.le_refl _) (by omega) ?_; intro p2' v2' hp2' hv2'
              have q3 := say_len (target := target) (out := out) (done := done) (to := target.length) (Nat.le_refl _) ht (by omega)
              have q4 := putE_le (n := target.length - done) (by omega)
              have q5 : (sayE target done target.length out).length ≤ 8 * target.length := by rw [q3]; split <;> omega
              have hen := say_enc i3 (Nat.le_refl _) ht (by omega)
              rw [List.take_length] at hen
              refine WL.nil ?_
              refine thenQ.normal ?_
              refine WC.seq ?_
              refine WC.seq ?_
              refine WC.region ?_
              refine WL.rd rfl rfl rfl (Rd.move rfl rfl) ?_
              refine WL.rd rfl rfl rfl (Rd.move rfl rfl) ?_
              refine WL.rd rfl rfl rfl (Rd.nilc rfl rfl) ?_
              refine WL.rd rfl rfl rfl ((by first | exact Rd.field rfl F45_3 rfl rfl | exact Rd.fieldE rfl F45_3 rfl (by repeat (first | assumption | exact List.mem_cons_self | refine List.mem_cons_of_mem _ ?_)) (by omega) | exact Rd.fieldA rfl F45_3 rfl (by repeat (first | assumption | exact List.mem_cons_self | refine List.mem_cons_of_mem _ ?_)) (by omega))) ?_
              refine WL.op rfl ?_
              refine OpW.call rfl rfl (by repeat (first | exact Evs.nil | apply Evs.cons rfl)) (by kernel_rfl) rfl rfl rfl ?_
              refine bstr_spec (off := 3) rfl ?_
              refine WL.rd rfl rfl rfl (Rd.scat rfl rfl rfl (by rw [List.length_append]; omega)) ?_
              refine WL.rd rfl rfl rfl (Rd.assign rfl rfl) ?_
              refine WL.nil ?_
              refine thenQ.normal ?_
              refine WC.seq ?_
              refine WC.region ?_
              refine WL.rd rfl rfl rfl (Rd.move rfl rfl) ?_
              refine WL.rd rfl rfl rfl (Rd.slen (ts := #[]) (ty := 0) rfl rfl Try.underlying9) ?_
              refine WL.rd rfl rfl rfl (Rd.move rfl rfl) ?_
              refine WL.rd rfl rfl rfl (Rd.slen (ts := #[]) (ty := 0) rfl rfl Try.underlying9) ?_
              refine WL.rd rfl rfl rfl (Rd.lss rfl rfl rfl) ?_
              refine WL.nil ?_
              refine thenQ.normal ?_
              first | refine WC.ite rfl (fun hc6 => ?_) (fun hc6 => ?_) | refine WC.cond rfl (fun hc6 => ?_) (fun hc6 => ?_)
              · skip
                refine WC.seq ?_
                refine WC.region ?_
                refine WL.rd rfl rfl rfl (Rd.move rfl rfl) ?_
                refine WL.rd rfl rfl rfl (Rd.assign rfl rfl) ?_
                refine WL.nil ?_
                refine thenQ.normal ?_
                -- ret_3
                refine WC.heap (R' := R) (O' := O) (fun w h => OwnL.sat (by repeat (first | exact OwnL.refl | apply OwnL.take (by repeat (first | exact Take.head _ | apply Take.tail)) | apply OwnL.drop)) w (h.thin (SubL.mem (by repeat (first | exact SubL.refl | refine SubL.cons (by repeat (first | assumption | exact List.mem_cons_self | refine List.mem_cons_of_mem _ ?_)) ?_ | refine SubL.skip ?_))))) ?_
                refine WC.ret (Ret.one Try.results9 rfl ?_)
                exact hfin _ (other_made hen hshort (by omega))
              · skip
                refine WC.skip ?_
                refine thenQ.normal ?_
                refine WC.seq ?_
                refine WC.region ?_
                refine WL.rd rfl rfl rfl (Rd.move rfl rfl) ?_
                refine WL.rd rfl rfl rfl (Rd.assign rfl rfl) ?_
                refine WL.nil ?_
                refine thenQ.normal ?_
                -- ret_4
                refine WC.heap (R' := R) (O' := O) (fun w h => OwnL.sat (by repeat (first | exact OwnL.refl | apply OwnL.take (by repeat (first | exact Take.head _ | apply Take.tail)) | apply OwnL.drop)) w (h.thin (SubL.mem (by repeat (first | exact SubL.refl | refine SubL.cons (by repeat (first | assumption | exact List.mem_cons_self | refine List.mem_cons_of_mem _ ?_)) ?_ | refine SubL.skip ?_))))) ?_
                refine WC.ret (Ret.one Try.results9 rfl ?_)
                exact hfin _ hshort
theorem sp_a : applyE [97, 98, 99, 100] [4, 5, 1, 0, 2, 0, 1, 120, 1, 2, 2] = ([97, 98, 120, 99, 100], 0) := by decide +kernel
theorem speaks_spec (hg : anyInt 0 ∈ R) (hk : POST (.bool true) R O) : Fun Try.prog 8 #[] R O POST := by
  refine Fun.enter (l := []) Try.func8 rfl Try.ntmps8 rfl (L0 := []) rfl ?_
  refine WC.seq ?_
  refine WC.region ?_
  refine WL.rd rfl rfl rfl (Rd.assign rfl rfl) ?_
  refine WL.nil ?_
  refine thenQ.normal ?_
  refine WC.seq ?_
  refine WC.region ?_
  refine WL.op rfl ?_
  refine OpW.call rfl rfl (by repeat (first | exact Evs.nil | apply Evs.cons rfl)) (by kernel_rfl) rfl rfl rfl ?_
  refine apply_spec (base := [97, 98, 99, 100]) (d := [4, 5, 1, 0, 2, 0, 1, 120, 1, 2, 2]) (by decide) (by decide) ?_; rw [sp_a]
  refine WL.rd rfl rfl rfl (Rd.move rfl rfl) ?_
  refine WL.rd rfl rfl rfl (Rd.extract rfl rfl rfl) ?_
  refine WL.rd rfl rfl rfl (Rd.extract rfl rfl rfl) ?_
  refine WL.rd rfl rfl rfl (Rd.assign rfl rfl) ?_
  refine WL.rd rfl rfl rfl (Rd.assign rfl rfl) ?_
  refine WL.nil ?_
  refine thenQ.normal ?_
  refine WC.seq ?_
  refine WC.region ?_
  refine WL.op rfl ?_
  refine OpW.call rfl rfl (by repeat (first | exact Evs.nil | apply Evs.cons rfl)) (by kernel_rfl) rfl rfl rfl ?_
  refine make_spec (base := [97]) (target := [98]) hg (by decide) (by decide) ?_; intro d10 hd10 hl10
  refine WL.op rfl ?_
  refine OpW.call rfl rfl (by repeat (first | exact Evs.nil | apply Evs.cons rfl)) (by kernel_rfl) rfl rfl rfl ?_
  refine apply_spec (base := [97]) (by decide) (by omega) ?_; rw [hd10.right.apply (by decide) (by decide)]
  refine WL.rd rfl rfl rfl (Rd.move rfl rfl) ?_
  refine WL.rd rfl rfl rfl (Rd.extract rfl rfl rfl) ?_
  refine WL.rd rfl rfl rfl (Rd.extract rfl rfl rfl) ?_
  refine WL.rd rfl rfl rfl (Rd.assign rfl rfl) ?_
  refine WL.rd rfl rfl rfl (Rd.assign rfl rfl) ?_
  refine WL.nil ?_
  refine thenQ.normal ?_
  refine WC.seq ?_
  refine WC.region ?_
  refine WL.rd rfl rfl rfl (Rd.move rfl rfl) ?_
  refine WL.rd rfl rfl rfl (Rd.eql rfl rfl rfl) ?_
  refine WL.rd rfl rfl rfl (Rd.move rfl rfl) ?_
  refine WL.case 16 rfl (fun hg16 => ?_) (fun hg16 => ?_)
  · skip
    refine WL.rd_yes rfl rfl rfl rfl rfl rfl (Rd.move rfl rfl) ?_
    refine WL.rd_yes rfl rfl rfl rfl rfl rfl (Rd.seql rfl rfl rfl) ?_
    refine WL.rd rfl rfl rfl (Rd.pick_t rfl rfl rfl) ?_
    refine WL.rd rfl rfl rfl (Rd.move rfl rfl) ?_
    refine WL.case 20 rfl (fun hg20 => ?_) (fun hg20 => ?_)
    · skip
      refine WL.rd_yes rfl rfl rfl rfl rfl rfl (Rd.move rfl rfl) ?_
      refine WL.rd_yes rfl rfl rfl rfl rfl rfl (Rd.eql rfl rfl rfl) ?_
      refine WL.rd rfl rfl rfl (Rd.pick_t rfl rfl rfl) ?_
      refine WL.rd rfl rfl rfl (Rd.move rfl rfl) ?_
      refine WL.case 24 rfl (fun hg24 => ?_) (fun hg24 => ?_)
      · skip
        refine WL.rd_yes rfl rfl rfl rfl rfl rfl (Rd.move rfl rfl) ?_
        refine WL.rd_yes rfl rfl rfl rfl rfl rfl (Rd.seql rfl rfl rfl) ?_
        refine WL.rd rfl rfl rfl (Rd.pick_t rfl rfl rfl) ?_
        refine WL.rd rfl rfl rfl (Rd.assign rfl rfl) ?_
        refine WL.nil ?_
        refine thenQ.normal ?_
        -- ret_1
        refine WC.ret (Ret.one Try.results8 rfl ?_)
        exact hk
      · skip
        exact absurd rfl hg24
    · skip
      exact absurd rfl hg20
  · skip
    exact absurd rfl hg16
end
end Go.Proofs.Ytnpnjebogmfdkaa
