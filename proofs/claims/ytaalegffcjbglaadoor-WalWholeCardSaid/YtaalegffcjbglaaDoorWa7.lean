/-
  Layer 6: WalScripts.
-/
import Derived.Test.YtaalegffcjbglaaDoorWa6
import Derived.Test.YtaalegffcjbglaaDoorOpw
namespace Go.Proofs.YtaalegffcjbglaaDoor
open Go Go.SL

/-- An act: what, a number, changes, what is kept. -/
abbrev Act := Int × Int × (Value × List Chg) × (Value × List Int)
def encA (a : Act) : List Value := [.int .i64 a.1, .int .i64 a.2.1, a.2.2.1.1, a.2.2.2.1]
def QA (w : World) (a : Act) : Prop := QInt w a.2.1 ∧ SlE encC a.2.2.1.1 a.2.2.1.2 w ∧ SlE (one vi) a.2.2.2.1 a.2.2.2.2 w ∧ a.2.2.2.2.length ≤ 17592186043904
theorem elsC : ElsW Tryd.prog 96 encC (fun _ _ => True) := by
  have h := elsW_struct (m := 2) Tryd.underlying96 (by kernel_rfl) (elsSeq_cons (elsW_int Tryd.underlying3) rfl (by kernel_rfl) (elsSeq_cons (elsW_string Tryd.underlying9) rfl (by kernel_rfl) elsSeq_nil))
  exact elsW_map (fun x => (x.1, x.2.1)) h (fun _ => rfl) (fun _ _ _ => trivial)
theorem elsA : ElsW Tryd.prog 41 encA QA := by
  have hc := elsW_slice Tryd.underlying38 (size := 2) (by kernel_rfl) (by decide) elsC (fun _ => rfl)
  have h4 := elsW_slice Tryd.underlying39 (size := 1) (by kernel_rfl) (by decide) (elsW_int Tryd.underlying3) (fun _ => rfl)
  have h := elsW_struct (m := 4) Tryd.underlying41 (by kernel_rfl) (elsSeq_cons (elsW_int Tryd.underlying3) rfl (by kernel_rfl) (elsSeq_cons (elsW_int Tryd.underlying3) rfl (by kernel_rfl) (elsSeq_cons hc rfl (by kernel_rfl) (elsSeq_cons h4 rfl (by kernel_rfl) elsSeq_nil))))
  refine elsW_map (fun x => (x.1, x.2.1, x.2.2.1, x.2.2.2.1)) h (fun _ => rfl) (fun w a ⟨_, q2, ⟨q3, _⟩, ⟨q4, q5, _⟩, _⟩ => ⟨q2, q3, q4, ?_⟩)
  rw [show Tryd.prog.bytesOf 3 = 8 from by kernel_rfl] at q5
  show a.2.2.2.1.2.length ≤ _
  omega
theorem QA.stable {W : World} {a : Act} (w' : World) (h : QA W a) (ha : Agree (· ∈ owned []) W w') : QA w' a := ⟨h.1, h.2.1.stable w' ha, h.2.2.1.stable w' ha, h.2.2.2⟩
theorem qa_of {acts : List Act} {i : Nat} {w : World} (hi : i < acts.length) (h : AllQ QA acts w) : QA w acts[i]! := by
  rw [getElem!_pos acts i hi]
  exact h _ (List.getElem_mem _)
theorem po_eq {po : Option Nat} {e : Nat} (h : po.isSome = true ↔ e = 0) : (!((po.map fun b => (⟨b, 0, none⟩ : Addr)).isSome == decide ((e : Int) = 0))) = decide False := by
  rw [Option.isSome_map]
  by_cases he : e = 0
  · rw [h.2 he]; simp [he]
  · have : po.isSome = false := by
      cases hp : po.isSome with
      | true => exact absurd (h.1 hp) he
      | false => rfl
    rw [this]; simp [he]
section
variable {R : List RO} {O : List Own} {POST : Value → List RO → List Own → Prop}
set_option maxRecDepth 20000 in
set_option maxHeartbeats 8000000 in
theorem walScripts_spec {a0 f z : Int} {acts : List Act} {sv : Value} (ht : tabR ∈ R) (hs : SlE encA sv acts ∈ R) (hq : AllQ QA acts ∈ R) (hk : POST (.bool true) R O) : Fun Tryd.prog 3 #[.agg #[.int .i64 a0, .int .i64 f, .int .i64 z], sv] R O POST := by
  have hland := land_le .i64 a0 15
  obtain ⟨N, hN⟩ : ∃ N, N = 1 + land .i64 a0 15 := ⟨_, rfl⟩
  have k0 : Dk (newS N) 0 := ⟨DOk.new (by omega), W512.new⟩
  refine Fun.enter (l := [_, _]) Tryd.func3 rfl Tryd.ntmps3 rfl (L0 := [(0, _), (1, _)]) rfl ?_
  refine WC.seq ?_
  refine WC.region ?_
  refine WL.op rfl ?_
  refine OpW.box rfl rfl (by repeat (first | exact NF.nil | apply NF.cons)) rfl rfl ?_; intro b2
  refine WL.rd rfl rfl rfl (Rd.assign rfl rfl) ?_
  refine WL.nil ?_
  refine thenQ.normal ?_
  refine WC.seq ?_
  refine WC.seq ?_
  refine WC.region ?_
  refine WL.op rfl ?_
  refine OpW.call rfl rfl (by repeat (first | exact Evs.nil | apply Evs.cons rfl)) (by kernel_rfl) rfl rfl rfl ?_
  refine speaks_spec ht ?_
  refine WL.say 26 (u := .bool (decide True)) rfl (by simp) ?_
  refine WL.rd rfl rfl rfl ((by first | exact Rd.notd rfl rfl | exact Rd.not rfl rfl)) ?_
  refine WL.nil ?_
  refine thenQ.normal ?_
  first | refine WC.ite rfl (fun hc1 => ?_) (fun hc1 => ?_) | refine WC.cond rfl (fun hc1 => ?_) (fun hc1 => ?_)
  · skip
    exact absurd trivial hc1
  · skip
    refine WC.skip ?_
    refine thenQ.normal ?_
    refine WC.seq ?_
    refine WC.region ?_
    refine WL.rd rfl rfl rfl ((by first | exact Rd.idxArr1 (k := 0) rfl A22 rfl rfl rfl (by first | omega | (dsimp only; omega)) | exact Rd.idxArr (k := 0) rfl A22 rfl rfl rfl (by first | omega | (dsimp only; omega)) rfl)) ?_
    refine WL.rd rfl rfl rfl (Rd.row1 (off := 0) (u := .int .i64 a0) rfl C3 rfl (by repeat (first | assumption | exact List.mem_cons_self | refine List.mem_cons_of_mem _ ?_)) rfl) ?_
    refine WL.rd rfl rfl rfl (Rd.andm (m := 15) rfl rfl rfl rfl (by decide)) ?_
    refine WL.rd rfl rfl rfl (Rd.add rfl rfl rfl (by omega)) ?_
    refine WL.say 31 (u := .int .i64 (N : Int)) rfl (by rw [hN]; congr 1) ?_
    refine WL.rd rfl rfl rfl (Rd.assign rfl rfl) ?_
    refine WL.nil ?_
    refine thenQ.normal ?_
    refine WC.seq ?_
    refine WC.region ?_
    refine WL.rd rfl rfl rfl (Rd.move rfl rfl) ?_
    refine WL.op rfl ?_
    refine OpW.call rfl rfl (by repeat (first | exact Evs.nil | apply Evs.cons rfl)) (by kernel_rfl) rfl rfl rfl ?_
    refine new_spec (fun h => by exfalso; omega) (fun n hn _ _ d V hv => ?_); obtain rfl : n = N := by omega
    refine WL.rd rfl rfl rfl (Rd.move rfl rfl) ?_
    refine WL.rd rfl rfl rfl (Rd.extract rfl rfl rfl) ?_
    refine WL.rd rfl rfl rfl (Rd.extract rfl rfl rfl) ?_
    refine WL.rd rfl rfl rfl (Rd.assign rfl rfl) ?_
    refine WL.rd rfl rfl rfl (Rd.assign rfl rfl) ?_
    refine WL.nil ?_
    refine thenQ.normal ?_
    refine WC.seq ?_
    refine WC.region ?_
    refine WL.rd rfl rfl rfl (Rd.move rfl rfl) ?_
    refine WL.op rfl ?_
    refine OpW.call rfl rfl (by repeat (first | exact Evs.nil | apply Evs.cons rfl)) (by kernel_rfl) rfl rfl rfl ?_
    refine refNew_spec (fun h => by exfalso; omega) (fun n' hn' _ _ w V2 hr => ?_); obtain rfl : n' = n := by omega
    refine WL.rd rfl rfl rfl (Rd.assign rfl rfl) ?_
    refine WL.nil ?_
    refine thenQ.normal ?_
    refine WC.seq ?_
    refine WC.region ?_
    refine WL.rd rfl rfl rfl ((by first | exact Rd.idxArr1 (k := 1) rfl A22 rfl rfl rfl (by first | omega | (dsimp only; omega)) | exact Rd.idxArr (k := 1) rfl A22 rfl rfl rfl (by first | omega | (dsimp only; omega)) rfl)) ?_
    refine WL.rd rfl rfl rfl (Rd.row1 (b := b2) (off := 1) (u := .int .i64 f) rfl C3 rfl (by repeat (first | assumption | exact List.mem_cons_self | refine List.mem_cons_of_mem _ ?_)) rfl) ?_
    refine WL.rd rfl rfl rfl ((by first | exact Rd.idxArr1 (k := 2) rfl A22 rfl rfl rfl (by first | omega | (dsimp only; omega)) | exact Rd.idxArr (k := 2) rfl A22 rfl rfl rfl (by first | omega | (dsimp only; omega)) rfl)) ?_
    refine WL.rd rfl rfl rfl (Rd.row1 (b := b2) (off := 2) (u := .int .i64 z) rfl C3 rfl (by repeat (first | assumption | exact List.mem_cons_self | refine List.mem_cons_of_mem _ ?_)) rfl) ?_
    refine WL.rd rfl rfl rfl (Rd.buildN (ps := [(0, _), (1, _)]) rfl Bs32 I32 rfl (by repeat (first | exact Evs.nil | apply Evs.cons rfl)) (by repeat (first | exact CellsOf.nil | apply CellsOf.cons rfl)) (by apply NFo.mk; repeat (first | exact NF.nil | apply NF.cons))) ?_
    refine WL.op rfl ?_
    refine OpW.alloc rfl I32 rfl (by repeat (first | exact NF.nil | apply NF.cons)) rfl rfl ?_; intro b9
    refine WL.op rfl ?_
    refine OpW.storeS rfl G32 rfl rfl (by repeat (first | exact NF.nil | apply NF.cons)) (by repeat (first | assumption | exact Take.head _ | apply Take.tail)) rfl rfl (by repeat (first | exact NF.nil | apply NF.cons)) rfl ?_
    refine WL.nil ?_
    refine thenQ.normal ?_
    refine WC.seq ?_
    refine WC.region ?_
    refine WL.rd rfl rfl rfl (Rd.move rfl rfl) ?_
    refine WL.rd rfl rfl rfl ((by first | exact Rd.idxArr1 (k := 1) rfl A22 rfl rfl rfl (by first | omega | (dsimp only; omega)) | exact Rd.idxArr (k := 1) rfl A22 rfl rfl rfl (by first | omega | (dsimp only; omega)) rfl)) ?_
    refine WL.rd rfl rfl rfl (Rd.row1 (b := b2) (off := 1) (u := .int .i64 f) rfl C3 rfl (by repeat (first | assumption | exact List.mem_cons_self | refine List.mem_cons_of_mem _ ?_)) rfl) ?_
    refine WL.rd rfl rfl rfl ((by first | exact Rd.idxArr1 (k := 2) rfl A22 rfl rfl rfl (by first | omega | (dsimp only; omega)) | exact Rd.idxArr (k := 2) rfl A22 rfl rfl rfl (by first | omega | (dsimp only; omega)) rfl)) ?_
    refine WL.rd rfl rfl rfl (Rd.row1 (b := b2) (off := 2) (u := .int .i64 z) rfl C3 rfl (by repeat (first | assumption | exact List.mem_cons_self | refine List.mem_cons_of_mem _ ?_)) rfl) ?_
    refine WL.op rfl ?_
    refine OpW.call rfl rfl (by repeat (first | exact Evs.nil | apply Evs.cons rfl)) (by kernel_rfl) rfl rfl rfl ?_
    refine Fun.heap (O' := dO d V (newS n') (rO w V2 (newS n') (rowC b2 22 [.int .i64 a0, .int .i64 f, .int .i64 z] :: rowC b9 32 [.int .i64 f, .int .i64 z] :: O))) (fun w h => OwnL.sat (by repeat (first | exact OwnL.refl | apply OwnL.take (by repeat (first | exact Take.head _ | apply Take.tail)) | apply OwnL.drop)) w (h.thin (SubL.mem (by repeat (first | exact SubL.refl | refine SubL.cons (by repeat (first | assumption | exact List.mem_cons_self | refine List.mem_cons_of_mem _ ?_)) ?_ | refine SubL.skip ?_))))) ?_
    refine walOpen_spec (by repeat (first | assumption | exact List.mem_cons_self | refine List.mem_cons_of_mem _ ?_)) k0 (by omega) hv (by repeat (first | assumption | exact List.mem_cons_self | refine List.mem_cons_of_mem _ ?_)) ?_; intro V1 po hv1 hkv1 hpo
    refine WL.rd rfl rfl rfl (Rd.move rfl rfl) ?_
    refine WL.rd rfl rfl rfl (Rd.extract rfl rfl rfl) ?_
    refine WL.rd rfl rfl rfl (Rd.extract rfl rfl rfl) ?_
    refine WL.rd rfl rfl rfl (Rd.extract rfl rfl rfl) ?_
    refine WL.rd rfl rfl rfl (Rd.assign rfl rfl) ?_
    refine WL.rd rfl rfl rfl (Rd.assign rfl rfl) ?_
    refine WL.rd rfl rfl rfl (Rd.assign rfl rfl) ?_
    refine WL.nil ?_
    refine thenQ.normal ?_
    refine WC.seq ?_
    refine WC.region ?_
    refine WL.rd rfl rfl rfl (Rd.move rfl rfl) ?_
    refine WL.rd rfl rfl rfl (Rd.rowS rfl G32 rfl (by repeat (first | assumption | exact List.mem_cons_self | refine List.mem_cons_of_mem _ ?_)) (by repeat (first | exact NF.nil | apply NF.cons)) rfl) ?_
    refine WL.op rfl ?_
    refine OpW.call rfl rfl (by repeat (first | exact Evs.nil | apply Evs.cons rfl)) (by kernel_rfl) rfl rfl rfl ?_
    refine Fun.heap (O' := rO w V2 (newS n') (dO d V1 (openE (newS n') f z).1 (rowC b2 22 [.int .i64 a0, .int .i64 f, .int .i64 z] :: rowC b9 32 [.int .i64 f, .int .i64 z] :: O))) (fun w h => OwnL.sat (by repeat (first | exact OwnL.refl | apply OwnL.take (by repeat (first | exact Take.head _ | apply Take.tail)) | apply OwnL.drop)) w (h.thin (SubL.mem (by repeat (first | exact SubL.refl | refine SubL.cons (by repeat (first | assumption | exact List.mem_cons_self | refine List.mem_cons_of_mem _ ?_)) ?_ | refine SubL.skip ?_))))) ?_
    refine refOpen_spec k0 (by omega) hr (by repeat (first | assumption | exact List.mem_cons_self | refine List.mem_cons_of_mem _ ?_)) ?_; intro V3 hr3 hkv3
    obtain ⟨k1, klen, kkeep⟩ := open_dk k0 f z
    obtain ⟨p, hp⟩ : ∃ p, p = openE (newS n') f z := ⟨_, rfl⟩
    have hof := open_fits (s := newS n') (f := f) (z := z)
    rw [← hp] at k1 klen kkeep hpo hv1 hof ⊢
    refine WL.rd rfl rfl rfl (Rd.move rfl rfl) ?_
    refine WL.rd rfl rfl rfl (Rd.extract rfl rfl rfl) ?_
    refine WL.rd rfl rfl rfl (Rd.extract rfl rfl rfl) ?_
    refine WL.rd rfl rfl rfl (Rd.assign rfl rfl) ?_
    refine WL.rd rfl rfl rfl (Rd.assign rfl rfl) ?_
    refine WL.nil ?_
    refine thenQ.normal ?_
    refine WC.seq ?_
    refine WC.seq ?_
    refine WC.region ?_
    refine WL.rd rfl rfl rfl (Rd.move rfl rfl) ?_
    refine WL.rd rfl rfl rfl (Rd.move rfl rfl) ?_
    refine WL.rd rfl rfl rfl (Rd.neq rfl rfl rfl) ?_
    refine WL.rd rfl rfl rfl (Rd.move rfl rfl) ?_
    refine WL.case 63 rfl (fun hg63 => ?_) (fun hg63 => ?_)
    · skip
      exact absurd rfl hg63
    · skip
      refine WL.rd_yes rfl rfl rfl rfl rfl rfl (Rd.move rfl rfl) ?_
      refine WL.rd_yes rfl rfl rfl rfl rfl rfl (Rd.move rfl rfl) ?_
      refine WL.rd_yes rfl rfl rfl rfl rfl rfl (Rd.neq rfl rfl rfl) ?_
      refine WL.rd rfl rfl rfl (Rd.pick_f rfl rfl rfl) ?_
      refine WL.rd rfl rfl rfl (Rd.move rfl rfl) ?_
      refine WL.case 68 rfl (fun hg68 => ?_) (fun hg68 => ?_)
      · skip
        exact absurd rfl hg68
      · skip
        refine WL.rd_yes rfl rfl rfl rfl rfl rfl (Rd.move rfl rfl) ?_
        refine WL.rd_yes rfl rfl rfl rfl rfl rfl (Rd.pneqN rfl Tryd.underlying33 rfl rfl) ?_
        refine WL.rd_yes rfl rfl rfl rfl rfl rfl (Rd.move rfl rfl) ?_
        refine WL.rd_yes rfl rfl rfl rfl rfl rfl (Rd.eql rfl rfl rfl) ?_
        refine WL.rd_yes rfl rfl rfl rfl rfl rfl (Rd.bneq rfl rfl rfl Tryd.underlying4) ?_
        refine WL.say 73 (u := .bool (decide False)) rfl (by rw [po_eq hpo]) ?_
        refine WL.rd rfl rfl rfl (Rd.pick_f rfl rfl rfl) ?_
        refine WL.nil ?_
        refine thenQ.normal ?_
        first | refine WC.ite rfl (fun hc2 => ?_) (fun hc2 => ?_) | refine WC.cond rfl (fun hc2 => ?_) (fun hc2 => ?_)
        · skip
          exact hc2.elim
        · skip
          refine WC.skip ?_
          refine thenQ.normal ?_
          refine WC.seq ?_
          refine WC.seq ?_
          refine WC.region ?_
          refine WL.rd rfl rfl rfl (Rd.move rfl rfl) ?_
          refine WL.rd rfl rfl rfl (Rd.peqN rfl Tryd.underlying33 rfl rfl) ?_
          refine WL.nil ?_
          refine thenQ.normal ?_
          first | refine WC.ite rfl (fun hc3 => ?_) (fun hc3 => ?_) | refine WC.cond rfl (fun hc3 => ?_) (fun hc3 => ?_)
          · skip
            refine WC.seq ?_
            refine WC.region ?_
            refine WL.rd rfl rfl rfl (Rd.assign rfl rfl) ?_
            refine WL.nil ?_
            refine thenQ.normal ?_
            -- ret_1
            refine WC.heap (R' := R) (O' := O) (fun w h => OwnL.sat (by repeat (first | exact OwnL.refl | apply OwnL.take (by repeat (first | exact Take.head _ | apply Take.tail)) | apply OwnL.drop)) w (h.thin (SubL.mem (by repeat (first | exact SubL.refl | refine SubL.cons (by repeat (first | assumption | exact List.mem_cons_self | refine List.mem_cons_of_mem _ ?_)) ?_ | refine SubL.skip ?_))))) ?_
            refine WC.ret (Ret.one Tryd.results3 rfl ?_)
            exact hk
          · skip
            obtain ⟨l, rfl⟩ : ∃ l, po = some l := by
              cases po with
              | none => simp at hc3
              | some l => exact ⟨l, rfl⟩
            have hfit0 := hof (hpo.1 rfl)
            obtain ⟨s0, hs0⟩ : ∃ s, s = p.1 := ⟨_, rfl⟩
            rw [← hs0] at k1 klen kkeep hv1 ⊢
            refine WC.heap (R' := SlE (one vi) V1.kv s0.keep :: SlE (one vi) V3.kv s0.keep :: logR l d f z :: R) (O' := dO d V1 s0 (rO w V3 s0 (rowC b2 22 [.int .i64 a0, .int .i64 f, .int .i64 z] :: rowC b9 32 [.int .i64 f, .int .i64 z] :: O))) (fun w' h => by
              have g1 := h.derive (q := logR l d f z) (fun w' hR => hR (logO (some l) d f z) (by repeat (first | assumption | exact List.mem_cons_self | refine List.mem_cons_of_mem _ ?_)) l rfl)
              rw [hkv1, hkv3, kkeep]
              exact (fun w h => OwnL.sat (by repeat (first | exact OwnL.refl | apply OwnL.take (by repeat (first | exact Take.head _ | apply Take.tail)) | apply OwnL.drop)) w (h.thin (SubL.mem (by repeat (first | exact SubL.refl | refine SubL.cons (by repeat (first | assumption | exact List.mem_cons_self | refine List.mem_cons_of_mem _ ?_)) ?_ | refine SubL.skip ?_))))) w' g1) ?_
            refine WC.skip ?_
            refine thenQ.normal ?_
            refine WC.seq ?_
            refine WC.seq ?_
            refine WC.region ?_
            refine WL.rd rfl rfl rfl (Rd.assign rfl rfl) ?_
            refine WL.nil ?_
            refine thenQ.normal ?_
            refine WC.block ?_
            refine WC.pick [15, 1, 2, 6, 8, 9, 10] (by repeat (first | exact Pick.nil | apply Pick.cons rfl)) ?_
            refine WC.loop4r 1 (fun (i : Nat) (s : DSt) (V : DV) (V2 : DV) => [(15, .int .i64 (i : Int))]) (fun (i : Nat) (s : DSt) (V : DV) (V2 : DV) => SlE (one vi) V.kv s.keep :: SlE (one vi) V2.kv s.keep :: logR l d f z :: R) (fun (i : Nat) (s : DSt) (V : DV) (V2 : DV) => dO d V s (rO w V2 s (rowC b2 22 [.int .i64 a0, .int .i64 f, .int .i64 z] :: rowC b9 32 [.int .i64 f, .int .i64 z] :: O))) (fun (i : Nat) (s : DSt) (V : DV) (V2 : DV) => i ≤ 30 ∧ Dk s (400 * i + 400) ∧ VOk V s ∧ ROk V2 ∧ s.lasts.length = (newS n').lasts.length) (fun (i : Nat) (s : DSt) (V : DV) (V2 : DV) => 30 - i) (0) (s0) (V1) (V3) (by repeat (first | exact Split.zero | apply Split.succ)) ?hinv1 (by repeat (first | exact Sub.nil | refine Sub.cons rfl (by first | rfl | (congr 1; omega) | assumption) ?_)) (fun w h => by exact (fun w h => OwnL.sat (by repeat (first | exact OwnL.refl | apply OwnL.take (by repeat (first | exact Take.head _ | apply Take.tail)) | apply OwnL.drop)) w (h.thin (SubL.mem (by repeat (first | exact SubL.refl | refine SubL.cons (by repeat (first | assumption | exact List.mem_cons_self | refine List.mem_cons_of_mem _ ?_)) ?_ | refine SubL.skip ?_))))) w h) ?_
            case hinv1 =>
              exact ⟨Nat.zero_le _, k1.mono (by omega), hv1, hr3, klen⟩
            intro i s V V2
            rintro ⟨i1, dk, hv, hr, hlen⟩
            refine WC.seq ?_
            refine WC.seq ?_
            refine WC.region ?_
            refine WL.rd rfl rfl rfl (Rd.move rfl rfl) ?_
            refine WL.rd rfl rfl rfl (Rd.move rfl rfl) ?_
            refine WL.rd rfl rfl rfl ((by first | exact Rd.lenE rfl rfl Tryd.underlying23 (by repeat (first | assumption | exact List.mem_cons_self | refine List.mem_cons_of_mem _ ?_)) | exact Rd.lenA rfl rfl Tryd.underlying23 (by repeat (first | assumption | exact List.mem_cons_self | refine List.mem_cons_of_mem _ ?_)) | exact Rd.len rfl rfl Tryd.underlying23)) ?_
            refine WL.rd rfl rfl rfl (Rd.lss rfl rfl rfl) ?_
            refine WL.rd rfl rfl rfl (Rd.move rfl rfl) ?_
            refine WL.case 81 rfl (fun hg81 => ?_) (fun hg81 => ?_)
            · skip
              refine WL.rd_yes rfl rfl rfl rfl rfl rfl (Rd.move rfl rfl) ?_
              refine WL.rd_yes rfl rfl rfl rfl rfl rfl (Rd.lss rfl rfl rfl) ?_
              refine WL.rd rfl rfl rfl (Rd.pick_t rfl rfl rfl) ?_
              refine WL.nil ?_
              refine thenQ.normal ?_
              first | refine WC.ite rfl (fun hc4 => ?_) (fun hc4 => ?_) | refine WC.cond rfl (fun hc4 => ?_) (fun hc4 => ?_)
              · skip
                refine WC.skip ?_
                refine thenQ.normal ?_
                refine WC.seq ?_
                refine WC.block ?_
                refine WC.seq ?_
                have hil : i < acts.length := by omega
                have hfit : fitsB s f z = true := by rw [fits_len hlen]; exact hfit0
                refine WC.know (p := AllQ QA acts) (by repeat (first | assumption | exact List.mem_cons_self | refine List.mem_cons_of_mem _ ?_)) (fun w h => ((qa_of hil h).2.2.2 : _ ≤ _)) fun hkl => ?_
                refine WC.know (p := AllQ QA acts) (by repeat (first | assumption | exact List.mem_cons_self | refine List.mem_cons_of_mem _ ?_)) (fun w h => ((qa_of hil h).1 : QInt _ _)) fun hni => ?_
                refine WC.heap (fun w h => h.derive (q := SlE (one vi) acts[i]!.2.2.2.1 acts[i]!.2.2.2.2) (fun w hR => (qa_of hil (hR (AllQ QA acts) (by repeat (first | assumption | exact List.mem_cons_self | refine List.mem_cons_of_mem _ ?_)))).2.2.1)) ?_
                refine WC.heap (fun w h => h.derive (q := SlE encC acts[i]!.2.2.1.1 acts[i]!.2.2.1.2) (fun w hR => (qa_of hil (hR (AllQ QA acts) (by repeat (first | assumption | exact List.mem_cons_self | refine List.mem_cons_of_mem _ ?_)))).2.1)) ?_
                obtain ⟨a, ha⟩ : ∃ a, a = acts[i]! := ⟨_, rfl⟩
                rw [← ha] at hkl hni ⊢
                obtain ⟨aw, an, ⟨clv, cl⟩, ⟨av, ak⟩⟩ := a
                have hal2 : ak.length ≤ 17592186043904 := hkl
                have hal1 : an ≤ 9223372036854775807 := hni.2
                refine WC.know (p := SlE (one vi) av ak) (by repeat (first | assumption | exact List.mem_cons_self | refine List.mem_cons_of_mem _ ?_)) (fun w h => h.oneV) fun hav => ?_
                refine WC.know (p := SlE encC clv cl) (by repeat (first | assumption | exact List.mem_cons_self | refine List.mem_cons_of_mem _ ?_)) (fun w h => h.oneV) fun hcv => ?_
                refine WC.region ?_
                refine WL.rd rfl rfl rfl (Rd.move rfl rfl) ?_
                refine WL.rd rfl rfl rfl (Rd.move rfl rfl) ?_
                refine WL.rd rfl rfl rfl (Rd.idx (k := i) rfl S23 rfl rfl rfl (enc := encA) (xs := acts) (by repeat (first | assumption | exact List.mem_cons_self | refine List.mem_cons_of_mem _ ?_)) (by omega)) ?_
                refine WL.rd rfl rfl rfl (Rd.getS (k := i) (a := (aw, an, (clv, cl), (av, ak))) (cs := [.int .i64 aw, .int .i64 an, clv, av]) (enc := encA) (xs := acts) rfl G41 rfl (by repeat (first | assumption | exact List.mem_cons_self | refine List.mem_cons_of_mem _ ?_)) (fun _ => rfl) (by rw [ha]; exact get!_of_lt (by omega)) (by repeat (first | exact NF.nil | apply NF.cons))) ?_
                refine WL.op rfl ?_
                refine OpW.alloc rfl I41 rfl (by repeat (first | exact NF.nil | apply NF.cons)) rfl rfl ?_; intro b16
                refine WL.op rfl ?_
                refine OpW.storeS rfl G41 rfl rfl (by repeat (first | exact NF.nil | apply NF.cons)) (by repeat (first | assumption | exact Take.head _ | apply Take.tail)) rfl rfl (by repeat (first | exact NF.nil | apply NF.cons)) rfl (h1 := by have h1 := hav.one; have h2 := hcv.one; simp only [List.all_cons, List.all_nil, h1, h2]; rfl) ?_
                refine WL.nil ?_
                refine thenQ.normal ?_
                refine WC.seq ?_
                refine WC.region ?_
                refine WL.rd rfl rfl rfl ((by first | exact Rd.field rfl F41_2 rfl rfl | exact Rd.fieldE rfl F41_2 rfl (by repeat (first | assumption | exact List.mem_cons_self | refine List.mem_cons_of_mem _ ?_)) (by omega) | exact Rd.fieldA rfl F41_2 rfl (by repeat (first | assumption | exact List.mem_cons_self | refine List.mem_cons_of_mem _ ?_)) (by omega))) ?_
                refine WL.rd rfl rfl rfl (Rd.row1 (b := b16) (off := 2) (u := clv) rfl C38 rfl (by repeat (first | assumption | exact List.mem_cons_self | refine List.mem_cons_of_mem _ ?_)) rfl) ?_
                refine WL.op rfl ?_
                refine OpW.call rfl rfl (by repeat (first | exact Evs.nil | apply Evs.cons rfl)) (by kernel_rfl) rfl rfl rfl ?_
                refine changes_spec (l := cl) (by repeat (first | assumption | exact List.mem_cons_self | refine List.mem_cons_of_mem _ ?_)) ?_; intro v17 v18
                refine WL.rd rfl rfl rfl (Rd.move rfl rfl) ?_
                refine WL.rd rfl rfl rfl (Rd.extract rfl rfl rfl) ?_
                refine WL.rd rfl rfl rfl (Rd.extract rfl rfl rfl) ?_
                refine WL.rd rfl rfl rfl (Rd.assign rfl rfl) ?_
                refine WL.rd rfl rfl rfl (Rd.assign rfl rfl) ?_
                refine WL.nil ?_
                refine thenQ.normal ?_
                refine WC.seq ?_
                refine WC.region ?_
                refine WL.op rfl ?_
                refine OpW.buildSl (ps := []) rfl S39 (by repeat (first | exact Evs.nil | apply Evs.cons rfl)) rfl rfl (by repeat (first | exact CellsOf.nil | apply CellsOf.cons rfl)) (by kernel_rfl) rfl rfl rfl ?_; intro b97
                refine WL.heap (fun w h => Sat.accRow (α := Int) (b := b97) (enc := one vi) (xs := []) (by repeat (first | assumption | exact Take.head _ | apply Take.tail)) rfl rfl (fun _ => rfl) (Nat.zero_le _) h) ?_
                refine WL.rd rfl rfl rfl ((by first | exact Rd.field rfl F41_3 rfl rfl | exact Rd.fieldE rfl F41_3 rfl (by repeat (first | assumption | exact List.mem_cons_self | refine List.mem_cons_of_mem _ ?_)) (by omega) | exact Rd.fieldA rfl F41_3 rfl (by repeat (first | assumption | exact List.mem_cons_self | refine List.mem_cons_of_mem _ ?_)) (by omega))) ?_
                refine WL.rd rfl rfl rfl (Rd.row1 (b := b16) (off := 3) (u := av) rfl C39 rfl (by repeat (first | assumption | exact List.mem_cons_self | refine List.mem_cons_of_mem _ ?_)) rfl) ?_
                refine WL.op rfl ?_
                refine OpW.appendE (enc := one vi) (ys := ak) (xs := []) rfl S39 Tryd.underlying39 rfl rfl (by repeat (first | assumption | exact Take.head _ | apply Take.tail)) (by repeat (first | assumption | exact List.mem_cons_self | refine List.mem_cons_of_mem _ ?_)) (by intro x; first | rfl | (cases x; rfl) | (rcases x with ⟨_, _, _⟩; rfl) | (rcases x with ⟨_, _, _, _⟩; rfl)) (by intro x; first | rfl | (cases x; rfl) | (rcases x with ⟨_, _, _⟩; rfl) | (rcases x with ⟨_, _, _, _⟩; rfl)) ⟨by simp only [maxLen, List.length_append, List.length_nil, List.length_cons, List.length_drop, List.length_take, List.length_map]; omega, by first | omega | (simp only [List.length_append, List.length_nil, List.length_cons, List.length_drop, List.length_take, List.length_map]; omega)⟩ rfl rfl ?_; intro v100 hv100
                rw [List.nil_append]
                refine WL.heap (fun w h => Sat.shareA (xs := ak) (by repeat (first | assumption | exact Take.head _ | apply Take.tail)) h) ?_
                refine WL.rd rfl rfl rfl (Rd.assign rfl rfl) ?_
                refine WL.nil ?_
                refine thenQ.normal ?_
                refine WC.cut (α := DSt × DV × DV) (fun _ => [(1, sv), (2, dp b2), (6, dp d), (8, dp w), (9, dp b9), (10, dp l), (15, .int .i64 (i : Int))]) (fun y => SlE (one vi) y.2.1.kv y.1.keep :: SlE (one vi) y.2.2.kv y.1.keep :: logR l d f z :: R) (fun y => dO d y.2.1 y.1 (rO w y.2.2 y.1 (rowC b2 22 [.int .i64 a0, .int .i64 f, .int .i64 z] :: rowC b9 32 [.int .i64 f, .int .i64 z] :: O))) (fun y => Dk y.1 (400 * i + 800) ∧ VOk y.2.1 y.1 ∧ ROk y.2.2 ∧ y.1.lasts.length = (newS n').lasts.length) ?_ ?_
                · skip
                  refine WC.seq ?_
                  refine WC.region ?_
                  refine WL.rd rfl rfl rfl ((by first | exact Rd.field rfl F41_0 rfl rfl | exact Rd.fieldE rfl F41_0 rfl (by repeat (first | assumption | exact List.mem_cons_self | refine List.mem_cons_of_mem _ ?_)) (by omega) | exact Rd.fieldA rfl F41_0 rfl (by repeat (first | assumption | exact List.mem_cons_self | refine List.mem_cons_of_mem _ ?_)) (by omega))) ?_
                  refine WL.rd rfl rfl rfl (Rd.row1 (b := b16) (off := 0) (u := .int .i64 aw) rfl C3 rfl (by repeat (first | assumption | exact List.mem_cons_self | refine List.mem_cons_of_mem _ ?_)) rfl) ?_
                  refine WL.rd rfl rfl rfl (Rd.remI (b := 7) rfl rfl rfl rfl (by decide)) ?_
                  obtain ⟨ht1, ht2⟩ := tmodb aw (m := 7) (by decide)
                  refine WL.rd rfl rfl rfl (Rd.add rfl rfl rfl (by show -9223372036854775808 ≤ aw.tmod ((7 : Nat) : Int) + 7 ∧ aw.tmod ((7 : Nat) : Int) + 7 ≤ 9223372036854775807; omega)) ?_
                  refine WL.rd rfl rfl rfl (Rd.remI (b := 7) rfl rfl rfl rfl (by decide)) ?_
                  obtain ⟨T, hT⟩ : ∃ T, T = (aw.tmod ((7 : Nat) : Int) + 7).tmod ((7 : Nat) : Int) := ⟨_, rfl⟩
                  refine WL.say 105 (u := .int .i64 T) rfl (by rw [hT]) ?_
                  refine WL.rd rfl rfl rfl (Rd.assign rfl rfl) ?_
                  refine WL.nil ?_
                  refine thenQ.normal ?_
                  refine WC.seq ?_
                  refine WC.region ?_
                  refine WL.rd rfl rfl rfl (Rd.move rfl rfl) ?_
                  refine WL.nil ?_
                  refine thenQ.normal ?_
                  refine WC.block ?_
                  refine WC.seq ?_
                  refine WC.seq ?_
                  refine WC.region ?_
                  refine WL.rd rfl rfl rfl (Rd.eql rfl rfl rfl) ?_
                  refine WL.rd rfl rfl rfl (Rd.assign rfl rfl) ?_
                  refine WL.nil ?_
                  refine thenQ.normal ?_
                  first | refine WC.ite rfl (fun hc5 => ?_) (fun hc5 => ?_) | refine WC.cond rfl (fun hc5 => ?_) (fun hc5 => ?_)
                  · skip
                    refine WC.skip ?_
                    refine thenQ.normal ?_
                    first | refine WC.ite rfl (fun hc6 => ?_) (fun hc6 => ?_) | refine WC.cond rfl (fun hc6 => ?_) (fun hc6 => ?_)
                    · skip
                      refine WC.seq ?_
                      refine WC.seq ?_
                      refine WC.region ?_
                      refine WL.rd rfl rfl rfl (Rd.move rfl rfl) ?_
                      refine WL.rd rfl rfl rfl (Rd.eql rfl rfl rfl) ?_
                      refine WL.nil ?_
                      refine thenQ.normal ?_
                      first | refine WC.ite rfl (fun hc7 => ?_) (fun hc7 => ?_) | refine WC.cond rfl (fun hc7 => ?_) (fun hc7 => ?_)
                      · skip
                        exact absurd (hc5.symm.trans hc7) (by decide)
                      · skip
                        refine WC.skip ?_
                        refine thenQ.normal ?_
                        refine WC.seq ?_
                        refine WC.region ?_
                        refine WL.rd rfl rfl rfl (Rd.move rfl rfl) ?_
                        refine WL.rd rfl rfl rfl ((by first | exact Rd.idxArr1 (k := 1) rfl A22 rfl rfl rfl (by first | omega | (dsimp only; omega)) | exact Rd.idxArr (k := 1) rfl A22 rfl rfl rfl (by first | omega | (dsimp only; omega)) rfl)) ?_
                        refine WL.rd rfl rfl rfl (Rd.row1 (b := b2) (off := 1) (u := .int .i64 f) rfl C3 rfl (by repeat (first | assumption | exact List.mem_cons_self | refine List.mem_cons_of_mem _ ?_)) rfl) ?_
                        refine WL.rd rfl rfl rfl ((by first | exact Rd.idxArr1 (k := 2) rfl A22 rfl rfl rfl (by first | omega | (dsimp only; omega)) | exact Rd.idxArr (k := 2) rfl A22 rfl rfl rfl (by first | omega | (dsimp only; omega)) rfl)) ?_
                        refine WL.rd rfl rfl rfl (Rd.row1 (b := b2) (off := 2) (u := .int .i64 z) rfl C3 rfl (by repeat (first | assumption | exact List.mem_cons_self | refine List.mem_cons_of_mem _ ?_)) rfl) ?_
                        refine WL.op rfl ?_
                        refine OpW.call rfl rfl (by repeat (first | exact Evs.nil | apply Evs.cons rfl)) (by kernel_rfl) rfl rfl rfl ?_
                        refine Fun.heap (R' := SlE (one vi) V.kv s.keep :: SlE (one vi) V2.kv s.keep :: logR l d f z :: R) (O' := dO d V s (rO w V2 s (rowC b2 22 [.int .i64 a0, .int .i64 f, .int .i64 z] :: rowC b9 32 [.int .i64 f, .int .i64 z] :: O))) (fun w h => OwnL.sat (by repeat (first | exact OwnL.refl | apply OwnL.take (by repeat (first | exact Take.head _ | apply Take.tail)) | apply OwnL.drop)) w (h.thin (SubL.mem (by repeat (first | exact SubL.refl | refine SubL.cons (by repeat (first | assumption | exact List.mem_cons_self | refine List.mem_cons_of_mem _ ?_)) ?_ | refine SubL.skip ?_))))) ?_
                        refine walOpen_spec (by repeat (first | assumption | exact List.mem_cons_self | refine List.mem_cons_of_mem _ ?_)) dk (by omega) hv (by repeat (first | assumption | exact List.mem_cons_self | refine List.mem_cons_of_mem _ ?_)) ?_; intro V4 po hv4 hkv4 hpo4
                        refine WL.rd rfl rfl rfl (Rd.move rfl rfl) ?_
                        refine WL.rd rfl rfl rfl (Rd.extract rfl rfl rfl) ?_
                        refine WL.rd rfl rfl rfl (Rd.extract rfl rfl rfl) ?_
                        refine WL.rd rfl rfl rfl (Rd.extract rfl rfl rfl) ?_
                        refine WL.rd rfl rfl rfl (Rd.assign rfl rfl) ?_
                        refine WL.rd rfl rfl rfl (Rd.assign rfl rfl) ?_
                        refine WL.rd rfl rfl rfl (Rd.assign rfl rfl) ?_
                        refine WL.nil ?_
                        refine thenQ.normal ?_
                        refine WC.seq ?_
                        refine WC.region ?_
                        refine WL.rd rfl rfl rfl (Rd.move rfl rfl) ?_
                        refine WL.rd rfl rfl rfl (Rd.rowS rfl G32 rfl (by repeat (first | assumption | exact List.mem_cons_self | refine List.mem_cons_of_mem _ ?_)) (by repeat (first | exact NF.nil | apply NF.cons)) rfl) ?_
                        refine WL.op rfl ?_
                        refine OpW.call rfl rfl (by repeat (first | exact Evs.nil | apply Evs.cons rfl)) (by kernel_rfl) rfl rfl rfl ?_
                        refine Fun.heap (O' := rO w V2 s (dO d V4 (openE s f z).1 (rowC b2 22 [.int .i64 a0, .int .i64 f, .int .i64 z] :: rowC b9 32 [.int .i64 f, .int .i64 z] :: O))) (fun w h => OwnL.sat (by repeat (first | exact OwnL.refl | apply OwnL.take (by repeat (first | exact Take.head _ | apply Take.tail)) | apply OwnL.drop)) w (h.thin (SubL.mem (by repeat (first | exact SubL.refl | refine SubL.cons (by repeat (first | assumption | exact List.mem_cons_self | refine List.mem_cons_of_mem _ ?_)) ?_ | refine SubL.skip ?_))))) ?_
                        refine refOpen_spec dk (by omega) hr (by repeat (first | assumption | exact List.mem_cons_self | refine List.mem_cons_of_mem _ ?_)) ?_; intro V5 hr5 hkv5
                        obtain ⟨k4, k4len, k4keep⟩ := open_dk dk f z
                        refine WL.rd rfl rfl rfl (Rd.move rfl rfl) ?_
                        refine WL.rd rfl rfl rfl (Rd.extract rfl rfl rfl) ?_
                        refine WL.rd rfl rfl rfl (Rd.extract rfl rfl rfl) ?_
                        refine WL.rd rfl rfl rfl (Rd.assign rfl rfl) ?_
                        refine WL.rd rfl rfl rfl (Rd.assign rfl rfl) ?_
                        refine WL.nil ?_
                        refine thenQ.normal ?_
                        refine WC.seq ?_
                        refine WC.region ?_
                        refine WL.rd rfl rfl rfl (Rd.move rfl rfl) ?_
                        refine WL.rd rfl rfl rfl (Rd.move rfl rfl) ?_
                        refine WL.rd rfl rfl rfl (Rd.neq rfl rfl rfl) ?_
                        refine WL.rd rfl rfl rfl (Rd.move rfl rfl) ?_
                        refine WL.case 149 rfl (fun hg149 => ?_) (fun hg149 => ?_)
                        · skip
                          exact absurd rfl hg149
                        · skip
                          refine WL.rd_yes rfl rfl rfl rfl rfl rfl (Rd.move rfl rfl) ?_
                          refine WL.rd_yes rfl rfl rfl rfl rfl rfl (Rd.move rfl rfl) ?_
                          refine WL.rd_yes rfl rfl rfl rfl rfl rfl (Rd.neq rfl rfl rfl) ?_
                          refine WL.rd rfl rfl rfl (Rd.pick_f rfl rfl rfl) ?_
                          refine WL.rd rfl rfl rfl (Rd.move rfl rfl) ?_
                          refine WL.case 154 rfl (fun hg154 => ?_) (fun hg154 => ?_)
                          · skip
                            exact absurd rfl hg154
                          · skip
                            refine WL.rd_yes rfl rfl rfl rfl rfl rfl (Rd.move rfl rfl) ?_
                            refine WL.rd_yes rfl rfl rfl rfl rfl rfl (Rd.pneqN rfl Tryd.underlying33 rfl rfl) ?_
                            refine WL.rd_yes rfl rfl rfl rfl rfl rfl (Rd.move rfl rfl) ?_
                            refine WL.rd_yes rfl rfl rfl rfl rfl rfl (Rd.eql rfl rfl rfl) ?_
                            refine WL.rd_yes rfl rfl rfl rfl rfl rfl (Rd.bneq rfl rfl rfl Tryd.underlying4) ?_
                            refine WL.say 159 (u := .bool (decide False)) rfl (by rw [po_eq hpo4]) ?_
                            refine WL.rd rfl rfl rfl (Rd.pick_f rfl rfl rfl) ?_
                            refine WL.nil ?_
                            refine thenQ.normal ?_
                            first | refine WC.ite rfl (fun hc8 => ?_) (fun hc8 => ?_) | refine WC.cond rfl (fun hc8 => ?_) (fun hc8 => ?_)
                            · skip
                              exact hc8.elim
                            · skip
                              refine WC.skip ?_
                              refine blockQ.normal ?_
                              -- kut_c6 1
                              exact ⟨((openE s f z).1, V4, V5), ⟨k4.mono (by omega), hv4, hr5, k4len.trans hlen⟩, (by repeat (first | exact Sub.nil | refine Sub.cons rfl (by first | rfl | (congr 1; omega) | assumption) ?_)), fun w h => by simp only [hkv4, hkv5, k4keep]; exact (fun w h => OwnL.sat (by repeat (first | exact OwnL.refl | apply OwnL.take (by repeat (first | exact Take.head _ | apply Take.tail)) | apply OwnL.drop)) w (h.thin (SubL.mem (by repeat (first | exact SubL.refl | refine SubL.cons (by repeat (first | assumption | exact List.mem_cons_self | refine List.mem_cons_of_mem _ ?_)) ?_ | refine SubL.skip ?_))))) w h⟩
                    · skip
                      exact absurd hc5 hc6
                  · skip
                    refine WC.region ?_
                    refine WL.rd rfl rfl rfl (Rd.eql rfl rfl rfl) ?_
                    refine WL.rd rfl rfl rfl (Rd.assign rfl rfl) ?_
                    refine WL.nil ?_
                    refine thenQ.normal ?_
                    first | refine WC.ite rfl (fun hc6 => ?_) (fun hc6 => ?_) | refine WC.cond rfl (fun hc6 => ?_) (fun hc6 => ?_)
                    · skip
                      refine WC.seq ?_
                      refine WC.seq ?_
                      refine WC.region ?_
                      refine WL.rd rfl rfl rfl (Rd.move rfl rfl) ?_
                      refine WL.rd rfl rfl rfl (Rd.eql rfl rfl rfl) ?_
                      refine WL.nil ?_
                      refine thenQ.normal ?_
                      first | refine WC.ite rfl (fun hc7 => ?_) (fun hc7 => ?_) | refine WC.cond rfl (fun hc7 => ?_) (fun hc7 => ?_)
                      · skip
                        refine WC.seq ?_
                        refine WC.region ?_
                        refine WL.rd rfl rfl rfl (Rd.move rfl rfl) ?_
                        refine WL.rd rfl rfl rfl (Rd.move rfl rfl) ?_
                        refine WL.op rfl ?_
                        refine OpW.call rfl rfl (by repeat (first | exact Evs.nil | apply Evs.cons rfl)) (by kernel_rfl) rfl rfl rfl ?_
                        refine Fun.heap (O' := dO d V s (rO w V2 s (rowC b2 22 [.int .i64 a0, .int .i64 f, .int .i64 z] :: rowC b9 32 [.int .i64 f, .int .i64 z] :: rowC b16 41 [.int .i64 aw, .int .i64 an, clv, av] :: O))) (fun w h => OwnL.sat (by repeat (first | exact OwnL.refl | apply OwnL.take (by repeat (first | exact Take.head _ | apply Take.tail)) | apply OwnL.drop)) w (h.thin (SubL.mem (by repeat (first | exact SubL.refl | refine SubL.cons (by repeat (first | assumption | exact List.mem_cons_self | refine List.mem_cons_of_mem _ ?_)) ?_ | refine SubL.skip ?_))))) ?_
                        refine crash_spec (keep := ak) dk.ok (by omega) hv (by repeat (first | assumption | exact List.mem_cons_self | refine List.mem_cons_of_mem _ ?_)) ?_; intro hv'
                        refine WL.nil ?_
                        refine thenQ.normal ?_
                        refine WC.seq ?_
                        refine WC.region ?_
                        refine WL.rd rfl rfl rfl (Rd.move rfl rfl) ?_
                        refine WL.rd rfl rfl rfl ((by first | exact Rd.field rfl F41_3 rfl rfl | exact Rd.fieldE rfl F41_3 rfl (by repeat (first | assumption | exact List.mem_cons_self | refine List.mem_cons_of_mem _ ?_)) (by omega) | exact Rd.fieldA rfl F41_3 rfl (by repeat (first | assumption | exact List.mem_cons_self | refine List.mem_cons_of_mem _ ?_)) (by omega))) ?_
                        refine WL.rd rfl rfl rfl (Rd.row1 (b := b16) (off := 3) (u := av) rfl C39 rfl (by repeat (first | assumption | exact List.mem_cons_self | refine List.mem_cons_of_mem _ ?_)) rfl) ?_
                        refine WL.op rfl ?_
                        refine OpW.call rfl rfl (by repeat (first | exact Evs.nil | apply Evs.cons rfl)) (by kernel_rfl) rfl rfl rfl ?_
                        refine Fun.heap (O' := rO w V2 s (dO d ⟨V.lv, .slice none 0 0, V.kv, none⟩ (crashS s ak) (rowC b2 22 [.int .i64 a0, .int .i64 f, .int .i64 z] :: rowC b9 32 [.int .i64 f, .int .i64 z] :: O))) (fun w h => OwnL.sat (by repeat (first | exact OwnL.refl | apply OwnL.take (by repeat (first | exact Take.head _ | apply Take.tail)) | apply OwnL.drop)) w (h.thin (SubL.mem (by repeat (first | exact SubL.refl | refine SubL.cons (by repeat (first | assumption | exact List.mem_cons_self | refine List.mem_cons_of_mem _ ?_)) ?_ | refine SubL.skip ?_))))) ?_
                        refine refFail_spec (m := 400 * i + 400) (keep := ak) dk.ok (by omega) hr (by repeat (first | assumption | exact List.mem_cons_self | refine List.mem_cons_of_mem _ ?_)) ?_
                        refine WL.nil ?_
                        refine thenQ.normal ?_
                        refine WC.region ?_
                        refine WL.rd rfl rfl rfl (Rd.move rfl rfl) ?_
                        refine WL.rd rfl rfl rfl (Rd.nilc rfl rfl) ?_
                        refine WL.rd rfl rfl rfl ((by first | exact Rd.field rfl F51_4 rfl rfl | exact Rd.fieldE rfl F51_4 rfl (by repeat (first | assumption | exact List.mem_cons_self | refine List.mem_cons_of_mem _ ?_)) (by omega) | exact Rd.fieldA rfl F51_4 rfl (by repeat (first | assumption | exact List.mem_cons_self | refine List.mem_cons_of_mem _ ?_)) (by omega))) ?_
                        refine WL.op rfl ?_
                        refine OpW.store1 rfl Z4 rfl rfl (by first | exact ⟨rfl, rfl⟩ | assumption) (by repeat (first | assumption | exact Take.head _ | apply Take.tail)) (by first | (simp; done) | omega | exact of_decide_eq_true rfl | (simp only [List.length_append, List.length_replicate, List.length_map, List.length_set]; omega)) rfl ?_
                        have hcl : (crashS s ak).lasts.length = s.lasts.length := failN_len _ _ _ _
                        have dkc : Dk (crashS s ak) (400 * i + 400) := ⟨dk.ok.crash ak, dk.w.crash ak⟩
                        refine WL.heap (R' := SlE (one vi) V.kv (crashS s ak).keep :: SlE (one vi) V2.kv (crashS s ak).keep :: logR l d f z :: R) (O' := dO d ⟨V.lv, .slice none 0 0, V.kv, none⟩ (crashS s ak) (rO w ⟨V2.lv, .slice none 0 0, V2.kv, none⟩ (crashS s ak) (rowC b2 22 [.int .i64 a0, .int .i64 f, .int .i64 z] :: rowC b9 32 [.int .i64 f, .int .i64 z] :: O))) (fun w h => OwnL.sat (by repeat (first | exact OwnL.refl | apply OwnL.take (by repeat (first | exact Take.head _ | apply Take.tail)) | apply OwnL.drop)) w (h.thin (SubL.mem (by repeat (first | exact SubL.refl | refine SubL.cons (by repeat (first | assumption | exact List.mem_cons_self | refine List.mem_cons_of_mem _ ?_)) ?_ | refine SubL.skip ?_))))) ?_
                        refine WL.nil ?_
                        refine thenQ.normal ?_
                        refine WC.seq ?_
                        refine WC.region ?_
                        refine WL.rd rfl rfl rfl (Rd.move rfl rfl) ?_
                        refine WL.rd rfl rfl rfl ((by first | exact Rd.idxArr1 (k := 1) rfl A22 rfl rfl rfl (by first | omega | (dsimp only; omega)) | exact Rd.idxArr (k := 1) rfl A22 rfl rfl rfl (by first | omega | (dsimp only; omega)) rfl)) ?_
                        refine WL.rd rfl rfl rfl (Rd.row1 (b := b2) (off := 1) (u := .int .i64 f) rfl C3 rfl (by repeat (first | assumption | exact List.mem_cons_self | refine List.mem_cons_of_mem _ ?_)) rfl) ?_
                        refine WL.rd rfl rfl rfl ((by first | exact Rd.idxArr1 (k := 2) rfl A22 rfl rfl rfl (by first | omega | (dsimp only; omega)) | exact Rd.idxArr (k := 2) rfl A22 rfl rfl rfl (by first | omega | (dsimp only; omega)) rfl)) ?_
                        refine WL.rd rfl rfl rfl (Rd.row1 (b := b2) (off := 2) (u := .int .i64 z) rfl C3 rfl (by repeat (first | assumption | exact List.mem_cons_self | refine List.mem_cons_of_mem _ ?_)) rfl) ?_
                        refine WL.op rfl ?_
                        refine OpW.call rfl rfl (by repeat (first | exact Evs.nil | apply Evs.cons rfl)) (by kernel_rfl) rfl rfl rfl ?_
                        refine walOpen_spec (by repeat (first | assumption | exact List.mem_cons_self | refine List.mem_cons_of_mem _ ?_)) dkc (by omega) hv' (by repeat (first | assumption | exact List.mem_cons_self | refine List.mem_cons_of_mem _ ?_)) ?_; intro V4 po hv4 hkv4 hpo4
                        refine WL.rd rfl rfl rfl (Rd.move rfl rfl) ?_
                        refine WL.rd rfl rfl rfl (Rd.extract rfl rfl rfl) ?_
                        refine WL.rd rfl rfl rfl (Rd.extract rfl rfl rfl) ?_
                        refine WL.rd rfl rfl rfl (Rd.extract rfl rfl rfl) ?_
                        refine WL.rd rfl rfl rfl (Rd.assign rfl rfl) ?_
                        refine WL.rd rfl rfl rfl (Rd.assign rfl rfl) ?_
                        refine WL.rd rfl rfl rfl (Rd.assign rfl rfl) ?_
                        refine WL.nil ?_
                        refine thenQ.normal ?_
                        refine WC.seq ?_
                        refine WC.region ?_
                        refine WL.rd rfl rfl rfl (Rd.move rfl rfl) ?_
                        refine WL.rd rfl rfl rfl (Rd.rowS rfl G32 rfl (by repeat (first | assumption | exact List.mem_cons_self | refine List.mem_cons_of_mem _ ?_)) (by repeat (first | exact NF.nil | apply NF.cons)) rfl) ?_
                        refine WL.op rfl ?_
                        refine OpW.call rfl rfl (by repeat (first | exact Evs.nil | apply Evs.cons rfl)) (by kernel_rfl) rfl rfl rfl ?_
                        refine Fun.heap (O' := rO w ⟨V2.lv, .slice none 0 0, V2.kv, none⟩ (crashS s ak) (dO d V4 (openE (crashS s ak) f z).1 (rowC b2 22 [.int .i64 a0, .int .i64 f, .int .i64 z] :: rowC b9 32 [.int .i64 f, .int .i64 z] :: O))) (fun w h => OwnL.sat (by repeat (first | exact OwnL.refl | apply OwnL.take (by repeat (first | exact Take.head _ | apply Take.tail)) | apply OwnL.drop)) w (h.thin (SubL.mem (by repeat (first | exact SubL.refl | refine SubL.cons (by repeat (first | assumption | exact List.mem_cons_self | refine List.mem_cons_of_mem _ ?_)) ?_ | refine SubL.skip ?_))))) ?_
                        refine refOpen_spec dkc (by omega) ⟨hr.lv, OneV.sl, hr.kv⟩ (by repeat (first | assumption | exact List.mem_cons_self | refine List.mem_cons_of_mem _ ?_)) ?_; intro V5 hr5 hkv5
                        obtain ⟨k4, k4len, k4keep⟩ := open_dk dkc f z
                        refine WL.rd rfl rfl rfl (Rd.move rfl rfl) ?_
                        refine WL.rd rfl rfl rfl (Rd.extract rfl rfl rfl) ?_
                        refine WL.rd rfl rfl rfl (Rd.extract rfl rfl rfl) ?_
                        refine WL.rd rfl rfl rfl (Rd.assign rfl rfl) ?_
                        refine WL.rd rfl rfl rfl (Rd.assign rfl rfl) ?_
                        refine WL.nil ?_
                        refine thenQ.normal ?_
                        refine WC.seq ?_
                        refine WC.region ?_
                        refine WL.rd rfl rfl rfl (Rd.move rfl rfl) ?_
                        refine WL.rd rfl rfl rfl (Rd.move rfl rfl) ?_
                        refine WL.rd rfl rfl rfl (Rd.neq rfl rfl rfl) ?_
                        refine WL.rd rfl rfl rfl (Rd.move rfl rfl) ?_
                        refine WL.case 149 rfl (fun hg149 => ?_) (fun hg149 => ?_)
                        · skip
                          exact absurd rfl hg149
                        · skip
                          refine WL.rd_yes rfl rfl rfl rfl rfl rfl (Rd.move rfl rfl) ?_
                          refine WL.rd_yes rfl rfl rfl rfl rfl rfl (Rd.move rfl rfl) ?_
                          refine WL.rd_yes rfl rfl rfl rfl rfl rfl (Rd.neq rfl rfl rfl) ?_
                          refine WL.rd rfl rfl rfl (Rd.pick_f rfl rfl rfl) ?_
                          refine WL.rd rfl rfl rfl (Rd.move rfl rfl) ?_
                          refine WL.case 154 rfl (fun hg154 => ?_) (fun hg154 => ?_)
                          · skip
                            exact absurd rfl hg154
                          · skip
                            refine WL.rd_yes rfl rfl rfl rfl rfl rfl (Rd.move rfl rfl) ?_
                            refine WL.rd_yes rfl rfl rfl rfl rfl rfl (Rd.pneqN rfl Tryd.underlying33 rfl rfl) ?_
                            refine WL.rd_yes rfl rfl rfl rfl rfl rfl (Rd.move rfl rfl) ?_
                            refine WL.rd_yes rfl rfl rfl rfl rfl rfl (Rd.eql rfl rfl rfl) ?_
                            refine WL.rd_yes rfl rfl rfl rfl rfl rfl (Rd.bneq rfl rfl rfl Tryd.underlying4) ?_
                            refine WL.say 159 (u := .bool (decide False)) rfl (by rw [po_eq hpo4]) ?_
                            refine WL.rd rfl rfl rfl (Rd.pick_f rfl rfl rfl) ?_
                            refine WL.nil ?_
                            refine thenQ.normal ?_
                            first | refine WC.ite rfl (fun hc8 => ?_) (fun hc8 => ?_) | refine WC.cond rfl (fun hc8 => ?_) (fun hc8 => ?_)
                            · skip
                              exact hc8.elim
                            · skip
                              refine WC.skip ?_
                              refine blockQ.normal ?_
                              -- kut_c6 2
                              exact ⟨((openE (crashS s ak) f z).1, V4, V5), ⟨k4.mono (by omega), hv4, hr5, k4len.trans (hcl.trans hlen)⟩, (by repeat (first | exact Sub.nil | refine Sub.cons rfl (by first | rfl | (congr 1; omega) | assumption) ?_)), fun w h => by simp only [hkv4, hkv5, k4keep]; exact (fun w h => OwnL.sat (by repeat (first | exact OwnL.refl | apply OwnL.take (by repeat (first | exact Take.head _ | apply Take.tail)) | apply OwnL.drop)) w (h.thin (SubL.mem (by repeat (first | exact SubL.refl | refine SubL.cons (by repeat (first | assumption | exact List.mem_cons_self | refine List.mem_cons_of_mem _ ?_)) ?_ | refine SubL.skip ?_))))) w h⟩
                      · skip
                        exact absurd hc6 hc7
                    · skip
                      refine WC.seq ?_
                      refine WC.region ?_
                      refine WL.rd rfl rfl rfl (Rd.eql rfl rfl rfl) ?_
                      refine WL.rd rfl rfl rfl (Rd.assign rfl rfl) ?_
                      refine WL.nil ?_
                      refine thenQ.normal ?_
                      first | refine WC.ite rfl (fun hc9 => ?_) (fun hc9 => ?_) | refine WC.cond rfl (fun hc9 => ?_) (fun hc9 => ?_)
                      · skip
                        refine WC.seq ?_
                        refine WC.region ?_
                        refine WL.rd rfl rfl rfl (Rd.move rfl rfl) ?_
                        refine WL.rd rfl rfl rfl ((by first | exact Rd.field rfl F41_1 rfl rfl | exact Rd.fieldE rfl F41_1 rfl (by repeat (first | assumption | exact List.mem_cons_self | refine List.mem_cons_of_mem _ ?_)) (by omega) | exact Rd.fieldA rfl F41_1 rfl (by repeat (first | assumption | exact List.mem_cons_self | refine List.mem_cons_of_mem _ ?_)) (by omega))) ?_
                        refine WL.rd rfl rfl rfl (Rd.row1 (b := b16) (off := 1) (u := .int .i64 an) rfl C3 rfl (by repeat (first | assumption | exact List.mem_cons_self | refine List.mem_cons_of_mem _ ?_)) rfl) ?_
                        refine WL.rd rfl rfl rfl (Rd.move rfl rfl) ?_
                        refine WL.op rfl ?_
                        refine OpW.call rfl rfl (by repeat (first | exact Evs.nil | apply Evs.cons rfl)) (by kernel_rfl) rfl rfl rfl ?_
                        refine Fun.heap (O' := dO d V s (rO w V2 s (rowC b16 41 [.int .i64 aw, .int .i64 an, clv, av] :: rowC b2 22 [.int .i64 a0, .int .i64 f, .int .i64 z] :: rowC b9 32 [.int .i64 f, .int .i64 z] :: O))) (fun w h => OwnL.sat (by repeat (first | exact OwnL.refl | apply OwnL.take (by repeat (first | exact Take.head _ | apply Take.tail)) | apply OwnL.drop)) w (h.thin (SubL.mem (by repeat (first | exact SubL.refl | refine SubL.cons (by repeat (first | assumption | exact List.mem_cons_self | refine List.mem_cons_of_mem _ ?_)) ?_ | refine SubL.skip ?_))))) ?_
                        refine cut_spec (keep := ak) hv (by repeat (first | assumption | exact List.mem_cons_self | refine List.mem_cons_of_mem _ ?_)) hal2 ?_; intro V' hv'
                        refine WL.nil ?_
                        refine thenQ.normal ?_
                        refine WC.drawn (rowC b16 41 [.int .i64 aw, .int .i64 an, clv, av] :: rowC b2 22 [.int .i64 a0, .int .i64 f, .int .i64 z] :: rowC b9 32 [.int .i64 f, .int .i64 z] :: O) 13 rfl mixed ?_
                        refine WD.take 0 rfl (by kernel_rfl) (Held.mk' (by repeat (first | exact SubL.refl | refine SubL.cons (by repeat (first | assumption | exact List.mem_cons_self | refine List.mem_cons_of_mem _ ?_)) ?_ | refine SubL.skip ?_)) (by repeat (first | exact OwnL.refl | apply OwnL.take (by repeat (first | exact Take.head _ | apply Take.tail)) | apply OwnL.drop))) rfl rfl rfl (Rd.move rfl rfl) ?_
                        refine WD.take 1 rfl (by kernel_rfl) (Held.mk' (by repeat (first | exact SubL.refl | refine SubL.cons (by repeat (first | assumption | exact List.mem_cons_self | refine List.mem_cons_of_mem _ ?_)) ?_ | refine SubL.skip ?_)) (by repeat (first | exact OwnL.refl | apply OwnL.take (by repeat (first | exact Take.head _ | apply Take.tail)) | apply OwnL.drop))) rfl rfl rfl (Rd.move rfl rfl) ?_
                        refine WD.take 2 rfl (by kernel_rfl) (Held.mk' (by repeat (first | exact SubL.refl | refine SubL.cons (by repeat (first | assumption | exact List.mem_cons_self | refine List.mem_cons_of_mem _ ?_)) ?_ | refine SubL.skip ?_)) (by repeat (first | exact OwnL.refl | apply OwnL.take (by repeat (first | exact Take.head _ | apply Take.tail)) | apply OwnL.drop))) rfl rfl rfl ((by first | exact Rd.field rfl F41_1 rfl rfl | exact Rd.fieldE rfl F41_1 rfl (by repeat (first | assumption | exact List.mem_cons_self | refine List.mem_cons_of_mem _ ?_)) (by omega) | exact Rd.fieldA rfl F41_1 rfl (by repeat (first | assumption | exact List.mem_cons_self | refine List.mem_cons_of_mem _ ?_)) (by omega))) ?_
                        refine WD.take 3 rfl (by kernel_rfl) (Held.mk' (by repeat (first | exact SubL.refl | refine SubL.cons (by repeat (first | assumption | exact List.mem_cons_self | refine List.mem_cons_of_mem _ ?_)) ?_ | refine SubL.skip ?_)) (by repeat (first | exact OwnL.refl | apply OwnL.take (by repeat (first | exact Take.head _ | apply Take.tail)) | apply OwnL.drop))) rfl rfl rfl (Rd.row1 (b := b16) (off := 1) (u := .int .i64 an) rfl C3 rfl (by repeat (first | assumption | exact List.mem_cons_self | refine List.mem_cons_of_mem _ ?_)) rfl) ?_
                        refine WD.take 4 rfl (by kernel_rfl) (Held.mk' (by repeat (first | exact SubL.refl | refine SubL.cons (by repeat (first | assumption | exact List.mem_cons_self | refine List.mem_cons_of_mem _ ?_)) ?_ | refine SubL.skip ?_)) (by repeat (first | exact OwnL.refl | apply OwnL.take (by repeat (first | exact Take.head _ | apply Take.tail)) | apply OwnL.drop))) rfl rfl rfl (Rd.max2 rfl rfl rfl) ?_
                        refine WD.say 172 (u := .int .i64 (((max an 1).toNat : Nat) : Int)) rfl (by congr 1; split <;> omega) ?_
                        refine WD.take 5 rfl (by kernel_rfl) (Held.mk' (by repeat (first | exact SubL.refl | refine SubL.cons (by repeat (first | assumption | exact List.mem_cons_self | refine List.mem_cons_of_mem _ ?_)) ?_ | refine SubL.skip ?_)) (by repeat (first | exact OwnL.refl | apply OwnL.take (by repeat (first | exact Take.head _ | apply Take.tail)) | apply OwnL.drop))) rfl rfl rfl ((by first | exact Rd.field rfl F41_3 rfl rfl | exact Rd.fieldE rfl F41_3 rfl (by repeat (first | assumption | exact List.mem_cons_self | refine List.mem_cons_of_mem _ ?_)) (by omega) | exact Rd.fieldA rfl F41_3 rfl (by repeat (first | assumption | exact List.mem_cons_self | refine List.mem_cons_of_mem _ ?_)) (by omega))) ?_
                        refine WD.take 6 rfl (by kernel_rfl) (Held.mk' (by repeat (first | exact SubL.refl | refine SubL.cons (by repeat (first | assumption | exact List.mem_cons_self | refine List.mem_cons_of_mem _ ?_)) ?_ | refine SubL.skip ?_)) (by repeat (first | exact OwnL.refl | apply OwnL.take (by repeat (first | exact Take.head _ | apply Take.tail)) | apply OwnL.drop))) rfl rfl rfl (Rd.row1 (b := b16) (off := 3) (u := av) rfl C39 rfl (by repeat (first | assumption | exact List.mem_cons_self | refine List.mem_cons_of_mem _ ?_)) rfl) ?_
                        refine WD.take 7 rfl (by kernel_rfl) (Held.mk' (by repeat (first | exact SubL.refl | refine SubL.cons (by repeat (first | assumption | exact List.mem_cons_self | refine List.mem_cons_of_mem _ ?_)) ?_ | refine SubL.skip ?_)) (by repeat (first | exact OwnL.refl | apply OwnL.take (by repeat (first | exact Take.head _ | apply Take.tail)) | apply OwnL.drop))) rfl rfl rfl (Rd.nilc rfl rfl) ?_
                        refine WD.take 8 rfl (by kernel_rfl) (Held.mk' (by repeat (first | exact SubL.refl | refine SubL.cons (by repeat (first | assumption | exact List.mem_cons_self | refine List.mem_cons_of_mem _ ?_)) ?_ | refine SubL.skip ?_)) (by repeat (first | exact OwnL.refl | apply OwnL.take (by repeat (first | exact Take.head _ | apply Take.tail)) | apply OwnL.drop))) rfl rfl rfl (Rd.field rfl F51_2 rfl rfl) ?_
                        refine WD.one 9 rfl (by kernel_rfl) rfl ?_
                        refine OpW.store1 rfl Z3 rfl rfl (by first | exact ⟨rfl, rfl⟩ | assumption) (by repeat (first | assumption | exact Take.head _ | apply Take.tail)) (by first | (simp; done) | omega | exact of_decide_eq_true rfl | (simp only [List.length_append, List.length_replicate, List.length_map, List.length_set]; omega)) rfl ?_
                        refine ⟨(Held.mk' (by repeat (first | exact SubL.refl | refine SubL.cons (by repeat (first | assumption | exact List.mem_cons_self | refine List.mem_cons_of_mem _ ?_)) ?_ | refine SubL.skip ?_)) (by repeat (first | exact OwnL.refl | apply OwnL.take (by repeat (first | exact Take.head _ | apply Take.tail)) | apply OwnL.drop))), ?_⟩
                        refine WD.take 10 rfl (by kernel_rfl) (Held.mk' (by repeat (first | exact SubL.refl | refine SubL.cons (by repeat (first | assumption | exact List.mem_cons_self | refine List.mem_cons_of_mem _ ?_)) ?_ | refine SubL.skip ?_)) (by repeat (first | exact OwnL.refl | apply OwnL.take (by repeat (first | exact Take.head _ | apply Take.tail)) | apply OwnL.drop))) rfl rfl rfl (Rd.nilc rfl rfl) ?_
                        refine WD.take 11 rfl (by kernel_rfl) (Held.mk' (by repeat (first | exact SubL.refl | refine SubL.cons (by repeat (first | assumption | exact List.mem_cons_self | refine List.mem_cons_of_mem _ ?_)) ?_ | refine SubL.skip ?_)) (by repeat (first | exact OwnL.refl | apply OwnL.take (by repeat (first | exact Take.head _ | apply Take.tail)) | apply OwnL.drop))) rfl rfl rfl (Rd.field rfl F51_3 rfl rfl) ?_
                        refine WD.one 12 rfl (by kernel_rfl) rfl ?_
                        refine OpW.store1 rfl Z39 rfl rfl (by first | exact ⟨rfl, rfl⟩ | assumption) (by repeat (first | assumption | exact Take.head _ | apply Take.tail)) (by first | (simp; done) | omega | exact of_decide_eq_true rfl | (simp only [List.length_append, List.length_replicate, List.length_map, List.length_set]; omega)) rfl ?_
                        refine ⟨(Held.mk' (by repeat (first | exact SubL.refl | refine SubL.cons (by repeat (first | assumption | exact List.mem_cons_self | refine List.mem_cons_of_mem _ ?_)) ?_ | refine SubL.skip ?_)) (by repeat (first | exact OwnL.refl | apply OwnL.take (by repeat (first | exact Take.head _ | apply Take.tail)) | apply OwnL.drop))), ?_⟩
                        refine WD.done (by kernel_rfl) ?_
                        refine blockQ.normal ?_
                        -- kut_c6 3
                        exact ⟨(cutS s an ak, V', ⟨V2.lv, V2.sv, av, V2.cb⟩), ⟨⟨(dk.ok.cut _ (by omega) _).mono (by omega), dk.w.cut an ak⟩, hv', ⟨hr.lv, hr.sv, hav⟩, hlen⟩, (by repeat (first | exact Sub.nil | refine Sub.cons rfl (by first | rfl | (congr 1; omega) | assumption) ?_)), (fun w h => OwnL.sat (by repeat (first | exact OwnL.refl | apply OwnL.take (by repeat (first | exact Take.head _ | apply Take.tail)) | apply OwnL.drop)) w (h.thin (SubL.mem (by repeat (first | exact SubL.refl | refine SubL.cons (by repeat (first | assumption | exact List.mem_cons_self | refine List.mem_cons_of_mem _ ?_)) ?_ | refine SubL.skip ?_)))))⟩
                      · skip
                        refine WC.seq ?_
                        refine WC.region ?_
                        refine WL.rd rfl rfl rfl (Rd.eql rfl rfl rfl) ?_
                        refine WL.rd rfl rfl rfl (Rd.assign rfl rfl) ?_
                        refine WL.nil ?_
                        refine thenQ.normal ?_
                        first | refine WC.ite rfl (fun hc10 => ?_) (fun hc10 => ?_) | refine WC.cond rfl (fun hc10 => ?_) (fun hc10 => ?_)
                        · skip
                          refine WC.seq ?_
                          refine WC.drawn (O) 26 rfl mixed ?_
                          refine WD.take 0 rfl (by kernel_rfl) (Held.mk' (by repeat (first | exact SubL.refl | refine SubL.cons (by repeat (first | assumption | exact List.mem_cons_self | refine List.mem_cons_of_mem _ ?_)) ?_ | refine SubL.skip ?_)) (by repeat (first | exact OwnL.refl | apply OwnL.take (by repeat (first | exact Take.head _ | apply Take.tail)) | apply OwnL.drop))) rfl rfl rfl (Rd.move rfl rfl) ?_
                          refine WD.take 1 rfl (by kernel_rfl) (Held.mk' (by repeat (first | exact SubL.refl | refine SubL.cons (by repeat (first | assumption | exact List.mem_cons_self | refine List.mem_cons_of_mem _ ?_)) ?_ | refine SubL.skip ?_)) (by repeat (first | exact OwnL.refl | apply OwnL.take (by repeat (first | exact Take.head _ | apply Take.tail)) | apply OwnL.drop))) rfl rfl rfl ((by first | exact Rd.lenE rfl rfl Tryd.underlying42 (by repeat (first | assumption | exact List.mem_cons_self | refine List.mem_cons_of_mem _ ?_)) | exact Rd.lenA rfl rfl Tryd.underlying42 (by repeat (first | assumption | exact List.mem_cons_self | refine List.mem_cons_of_mem _ ?_)) | exact Rd.len rfl rfl Tryd.underlying42)) ?_
                          refine WD.take 2 rfl (by kernel_rfl) (Held.mk' (by repeat (first | exact SubL.refl | refine SubL.cons (by repeat (first | assumption | exact List.mem_cons_self | refine List.mem_cons_of_mem _ ?_)) ?_ | refine SubL.skip ?_)) (by repeat (first | exact OwnL.refl | apply OwnL.take (by repeat (first | exact Take.head _ | apply Take.tail)) | apply OwnL.drop))) rfl rfl rfl (Rd.gtr rfl rfl rfl) ?_
                          refine WD.take 3 rfl (by kernel_rfl) (Held.mk' (by repeat (first | exact SubL.refl | refine SubL.cons (by repeat (first | assumption | exact List.mem_cons_self | refine List.mem_cons_of_mem _ ?_)) ?_ | refine SubL.skip ?_)) (by repeat (first | exact OwnL.refl | apply OwnL.take (by repeat (first | exact Take.head _ | apply Take.tail)) | apply OwnL.drop))) rfl rfl rfl (Rd.move rfl rfl) ?_
                          refine WD.case 184 rfl (fun hg184 => ?_) (fun hg184 => ?_)
                          · skip
                            refine WD.take_yes 4 rfl (by kernel_rfl) (Held.mk' (by repeat (first | exact SubL.refl | refine SubL.cons (by repeat (first | assumption | exact List.mem_cons_self | refine List.mem_cons_of_mem _ ?_)) ?_ | refine SubL.skip ?_)) (by repeat (first | exact OwnL.refl | apply OwnL.take (by repeat (first | exact Take.head _ | apply Take.tail)) | apply OwnL.drop))) rfl rfl rfl rfl rfl rfl (Rd.move rfl rfl) ?_
                            refine WD.take_yes 5 rfl (by kernel_rfl) (Held.mk' (by repeat (first | exact SubL.refl | refine SubL.cons (by repeat (first | assumption | exact List.mem_cons_self | refine List.mem_cons_of_mem _ ?_)) ?_ | refine SubL.skip ?_)) (by repeat (first | exact OwnL.refl | apply OwnL.take (by repeat (first | exact Take.head _ | apply Take.tail)) | apply OwnL.drop))) rfl rfl rfl rfl rfl rfl (Rd.move rfl rfl) ?_
                            refine WD.take_yes 6 rfl (by kernel_rfl) (Held.mk' (by repeat (first | exact SubL.refl | refine SubL.cons (by repeat (first | assumption | exact List.mem_cons_self | refine List.mem_cons_of_mem _ ?_)) ?_ | refine SubL.skip ?_)) (by repeat (first | exact OwnL.refl | apply OwnL.take (by repeat (first | exact Take.head _ | apply Take.tail)) | apply OwnL.drop))) rfl rfl rfl rfl rfl rfl ((by first | exact Rd.idx (k := 0) rfl S42 rfl rfl rfl (by repeat (first | assumption | exact List.mem_cons_self | refine List.mem_cons_of_mem _ ?_)) (by first | omega | (simp only [List.length_cons, List.length_nil, List.length_append, List.length_map]; omega)) | exact Rd.idxA (k := 0) rfl S42 rfl rfl rfl (by repeat (first | assumption | exact List.mem_cons_self | refine List.mem_cons_of_mem _ ?_)) (by first | omega | (simp only [List.length_cons, List.length_nil, List.length_append, List.length_map]; omega)) | exact Rd.idxR (k := 0) rfl S42 rfl rfl rfl (by omega))) ?_
                            refine WD.take_yes 7 rfl (by kernel_rfl) (Held.mk' (by repeat (first | exact SubL.refl | refine SubL.cons (by repeat (first | assumption | exact List.mem_cons_self | refine List.mem_cons_of_mem _ ?_)) ?_ | refine SubL.skip ?_)) (by repeat (first | exact OwnL.refl | apply OwnL.take (by repeat (first | exact Take.head _ | apply Take.tail)) | apply OwnL.drop))) rfl rfl rfl rfl rfl rfl ((by first | exact Rd.field rfl F55_0 rfl rfl | exact Rd.fieldE rfl F55_0 rfl (by repeat (first | assumption | exact List.mem_cons_self | refine List.mem_cons_of_mem _ ?_)) (by omega) | exact Rd.fieldA rfl F55_0 rfl (by repeat (first | assumption | exact List.mem_cons_self | refine List.mem_cons_of_mem _ ?_)) (by omega))) ?_
                            refine WD.take_yes 8 rfl (by kernel_rfl) (Held.mk' (by repeat (first | exact SubL.refl | refine SubL.cons (by repeat (first | assumption | exact List.mem_cons_self | refine List.mem_cons_of_mem _ ?_)) ?_ | refine SubL.skip ?_)) (by repeat (first | exact OwnL.refl | apply OwnL.take (by repeat (first | exact Take.head _ | apply Take.tail)) | apply OwnL.drop))) rfl rfl rfl rfl rfl rfl ((by first | exact Rd.get rfl C3 rfl (by repeat (first | assumption | exact List.mem_cons_self | refine List.mem_cons_of_mem _ ?_)) (by first | assumption | rfl | exact get!_of_lt (by omega)) | exact Rd.getA rfl C3 rfl (by repeat (first | assumption | exact List.mem_cons_self | refine List.mem_cons_of_mem _ ?_)) (by first | assumption | rfl | exact get!_of_lt (by omega)) | exact Rd.row1 rfl C3 rfl (by repeat (first | assumption | exact List.mem_cons_self | refine List.mem_cons_of_mem _ ?_)) (by rfl) | exact Rd.getF rfl C3 rfl (by repeat (first | assumption | exact List.mem_cons_self | refine List.mem_cons_of_mem _ ?_)) (by intro x; first | rfl | (cases x; rfl) | (rcases x with ⟨_, _, _⟩; rfl) | (rcases x with ⟨_, _, _, _⟩; rfl)) rfl (by first | assumption | rfl | exact get!_of_lt (by omega)) (by rfl) | exact Rd.getFA rfl C3 rfl (by repeat (first | assumption | exact List.mem_cons_self | refine List.mem_cons_of_mem _ ?_)) (by intro x; first | rfl | (cases x; rfl) | (rcases x with ⟨_, _, _⟩; rfl) | (rcases x with ⟨_, _, _, _⟩; rfl)) rfl (by first | assumption | rfl | exact get!_of_lt (by omega)) (by rfl))) ?_
                            refine WD.take_yes 9 rfl (by kernel_rfl) (Held.mk' (by repeat (first | exact SubL.refl | refine SubL.cons (by repeat (first | assumption | exact List.mem_cons_self | refine List.mem_cons_of_mem _ ?_)) ?_ | refine SubL.skip ?_)) (by repeat (first | exact OwnL.refl | apply OwnL.take (by repeat (first | exact Take.head _ | apply Take.tail)) | apply OwnL.drop))) rfl rfl rfl rfl rfl rfl (Rd.move rfl rfl) ?_
                            refine WD.take_yes 10 rfl (by kernel_rfl) (Held.mk' (by repeat (first | exact SubL.refl | refine SubL.cons (by repeat (first | assumption | exact List.mem_cons_self | refine List.mem_cons_of_mem _ ?_)) ?_ | refine SubL.skip ?_)) (by repeat (first | exact OwnL.refl | apply OwnL.take (by repeat (first | exact Take.head _ | apply Take.tail)) | apply OwnL.drop))) rfl rfl rfl rfl rfl rfl ((by first | exact Rd.idx (k := 0) rfl S42 rfl rfl rfl (by repeat (first | assumption | exact List.mem_cons_self | refine List.mem_cons_of_mem _ ?_)) (by first | omega | (simp only [List.length_cons, List.length_nil, List.length_append, List.length_map]; omega)) | exact Rd.idxA (k := 0) rfl S42 rfl rfl rfl (by repeat (first | assumption | exact List.mem_cons_self | refine List.mem_cons_of_mem _ ?_)) (by first | omega | (simp only [List.length_cons, List.length_nil, List.length_append, List.length_map]; omega)) | exact Rd.idxR (k := 0) rfl S42 rfl rfl rfl (by omega))) ?_
                            refine WD.take_yes 11 rfl (by kernel_rfl) (Held.mk' (by repeat (first | exact SubL.refl | refine SubL.cons (by repeat (first | assumption | exact List.mem_cons_self | refine List.mem_cons_of_mem _ ?_)) ?_ | refine SubL.skip ?_)) (by repeat (first | exact OwnL.refl | apply OwnL.take (by repeat (first | exact Take.head _ | apply Take.tail)) | apply OwnL.drop))) rfl rfl rfl rfl rfl rfl ((by first | exact Rd.field rfl F55_1 rfl rfl | exact Rd.fieldE rfl F55_1 rfl (by repeat (first | assumption | exact List.mem_cons_self | refine List.mem_cons_of_mem _ ?_)) (by omega) | exact Rd.fieldA rfl F55_1 rfl (by repeat (first | assumption | exact List.mem_cons_self | refine List.mem_cons_of_mem _ ?_)) (by omega))) ?_
                            refine WD.take_yes 12 rfl (by kernel_rfl) (Held.mk' (by repeat (first | exact SubL.refl | refine SubL.cons (by repeat (first | assumption | exact List.mem_cons_self | refine List.mem_cons_of_mem _ ?_)) ?_ | refine SubL.skip ?_)) (by repeat (first | exact OwnL.refl | apply OwnL.take (by repeat (first | exact Take.head _ | apply Take.tail)) | apply OwnL.drop))) rfl rfl rfl rfl rfl rfl ((by first | exact Rd.get rfl C9 rfl (by repeat (first | assumption | exact List.mem_cons_self | refine List.mem_cons_of_mem _ ?_)) (by first | assumption | rfl | exact get!_of_lt (by omega)) | exact Rd.getA rfl C9 rfl (by repeat (first | assumption | exact List.mem_cons_self | refine List.mem_cons_of_mem _ ?_)) (by first | assumption | rfl | exact get!_of_lt (by omega)) | exact Rd.row1 rfl C9 rfl (by repeat (first | assumption | exact List.mem_cons_self | refine List.mem_cons_of_mem _ ?_)) (by rfl) | exact Rd.getF rfl C9 rfl (by repeat (first | assumption | exact List.mem_cons_self | refine List.mem_cons_of_mem _ ?_)) (by intro x; first | rfl | (cases x; rfl) | (rcases x with ⟨_, _, _⟩; rfl) | (rcases x with ⟨_, _, _, _⟩; rfl)) rfl (by first | assumption | rfl | exact get!_of_lt (by omega)) (by rfl) | exact Rd.getFA rfl C9 rfl (by repeat (first | assumption | exact List.mem_cons_self | refine List.mem_cons_of_mem _ ?_)) (by intro x; first | rfl | (cases x; rfl) | (rcases x with ⟨_, _, _⟩; rfl) | (rcases x with ⟨_, _, _, _⟩; rfl)) rfl (by first | assumption | rfl | exact get!_of_lt (by omega)) (by rfl))) ?_
                            refine WD.take_yes 14 rfl (by kernel_rfl) (Held.mk' (by repeat (first | exact SubL.refl | refine SubL.cons (by repeat (first | assumption | exact List.mem_cons_self | refine List.mem_cons_of_mem _ ?_)) ?_ | refine SubL.skip ?_)) (by repeat (first | exact OwnL.refl | apply OwnL.take (by repeat (first | exact Take.head _ | apply Take.tail)) | apply OwnL.drop))) rfl rfl rfl rfl rfl rfl (Rd.move rfl rfl) ?_
                            refine WD.take_yes 15 rfl (by kernel_rfl) (Held.mk' (by repeat (first | exact SubL.refl | refine SubL.cons (by repeat (first | assumption | exact List.mem_cons_self | refine List.mem_cons_of_mem _ ?_)) ?_ | refine SubL.skip ?_)) (by repeat (first | exact OwnL.refl | apply OwnL.take (by repeat (first | exact Take.head _ | apply Take.tail)) | apply OwnL.drop))) rfl rfl rfl rfl rfl rfl (Rd.move rfl rfl) ?_
                            refine WD.take_yes 16 rfl (by kernel_rfl) (Held.mk' (by repeat (first | exact SubL.refl | refine SubL.cons (by repeat (first | assumption | exact List.mem_cons_self | refine List.mem_cons_of_mem _ ?_)) ?_ | refine SubL.skip ?_)) (by repeat (first | exact OwnL.refl | apply OwnL.take (by repeat (first | exact Take.head _ | apply Take.tail)) | apply OwnL.drop))) rfl rfl rfl rfl rfl rfl ((by first | exact Rd.idx (k := 0) rfl S43 rfl rfl rfl (by repeat (first | assumption | exact List.mem_cons_self | refine List.mem_cons_of_mem _ ?_)) (by first | omega | (simp only [List.length_cons, List.length_nil, List.length_append, List.length_map]; omega)) | exact Rd.idxA (k := 0) rfl S43 rfl rfl rfl (by repeat (first | assumption | exact List.mem_cons_self | refine List.mem_cons_of_mem _ ?_)) (by first | omega | (simp only [List.length_cons, List.length_nil, List.length_append, List.length_map]; omega)) | exact Rd.idxR (k := 0) rfl S43 rfl rfl rfl (by omega))) ?_
                            refine WD.take_yes 17 rfl (by kernel_rfl) (Held.mk' (by repeat (first | exact SubL.refl | refine SubL.cons (by repeat (first | assumption | exact List.mem_cons_self | refine List.mem_cons_of_mem _ ?_)) ?_ | refine SubL.skip ?_)) (by repeat (first | exact OwnL.refl | apply OwnL.take (by repeat (first | exact Take.head _ | apply Take.tail)) | apply OwnL.drop))) rfl rfl rfl rfl rfl rfl ((by first | exact Rd.field rfl F57_0 rfl rfl | exact Rd.fieldE rfl F57_0 rfl (by repeat (first | assumption | exact List.mem_cons_self | refine List.mem_cons_of_mem _ ?_)) (by omega) | exact Rd.fieldA rfl F57_0 rfl (by repeat (first | assumption | exact List.mem_cons_self | refine List.mem_cons_of_mem _ ?_)) (by omega))) ?_
                            refine WD.take_yes 18 rfl (by kernel_rfl) (Held.mk' (by repeat (first | exact SubL.refl | refine SubL.cons (by repeat (first | assumption | exact List.mem_cons_self | refine List.mem_cons_of_mem _ ?_)) ?_ | refine SubL.skip ?_)) (by repeat (first | exact OwnL.refl | apply OwnL.take (by repeat (first | exact Take.head _ | apply Take.tail)) | apply OwnL.drop))) rfl rfl rfl rfl rfl rfl ((by first | exact Rd.get rfl C3 rfl (by repeat (first | assumption | exact List.mem_cons_self | refine List.mem_cons_of_mem _ ?_)) (by first | assumption | rfl | exact get!_of_lt (by omega)) | exact Rd.getA rfl C3 rfl (by repeat (first | assumption | exact List.mem_cons_self | refine List.mem_cons_of_mem _ ?_)) (by first | assumption | rfl | exact get!_of_lt (by omega)) | exact Rd.row1 rfl C3 rfl (by repeat (first | assumption | exact List.mem_cons_self | refine List.mem_cons_of_mem _ ?_)) (by rfl) | exact Rd.getF rfl C3 rfl (by repeat (first | assumption | exact List.mem_cons_self | refine List.mem_cons_of_mem _ ?_)) (by intro x; first | rfl | (cases x; rfl) | (rcases x with ⟨_, _, _⟩; rfl) | (rcases x with ⟨_, _, _, _⟩; rfl)) rfl (by first | assumption | rfl | exact get!_of_lt (by omega)) (by rfl) | exact Rd.getFA rfl C3 rfl (by repeat (first | assumption | exact List.mem_cons_self | refine List.mem_cons_of_mem _ ?_)) (by intro x; first | rfl | (cases x; rfl) | (rcases x with ⟨_, _, _⟩; rfl) | (rcases x with ⟨_, _, _, _⟩; rfl)) rfl (by first | assumption | rfl | exact get!_of_lt (by omega)) (by rfl))) ?_
                            refine WD.take_yes 19 rfl (by kernel_rfl) (Held.mk' (by repeat (first | exact SubL.refl | refine SubL.cons (by repeat (first | assumption | exact List.mem_cons_self | refine List.mem_cons_of_mem _ ?_)) ?_ | refine SubL.skip ?_)) (by repeat (first | exact OwnL.refl | apply OwnL.take (by repeat (first | exact Take.head _ | apply Take.tail)) | apply OwnL.drop))) rfl rfl rfl rfl rfl rfl (Rd.move rfl rfl) ?_
                            refine WD.take_yes 20 rfl (by kernel_rfl) (Held.mk' (by repeat (first | exact SubL.refl | refine SubL.cons (by repeat (first | assumption | exact List.mem_cons_self | refine List.mem_cons_of_mem _ ?_)) ?_ | refine SubL.skip ?_)) (by repeat (first | exact OwnL.refl | apply OwnL.take (by repeat (first | exact Take.head _ | apply Take.tail)) | apply OwnL.drop))) rfl rfl rfl rfl rfl rfl ((by first | exact Rd.idx (k := 0) rfl S43 rfl rfl rfl (by repeat (first | assumption | exact List.mem_cons_self | refine List.mem_cons_of_mem _ ?_)) (by first | omega | (simp only [List.length_cons, List.length_nil, List.length_append, List.length_map]; omega)) | exact Rd.idxA (k := 0) rfl S43 rfl rfl rfl (by repeat (first | assumption | exact List.mem_cons_self | refine List.mem_cons_of_mem _ ?_)) (by first | omega | (simp only [List.length_cons, List.length_nil, List.length_append, List.length_map]; omega)) | exact Rd.idxR (k := 0) rfl S43 rfl rfl rfl (by omega))) ?_
                            refine WD.take_yes 21 rfl (by kernel_rfl) (Held.mk' (by repeat (first | exact SubL.refl | refine SubL.cons (by repeat (first | assumption | exact List.mem_cons_self | refine List.mem_cons_of_mem _ ?_)) ?_ | refine SubL.skip ?_)) (by repeat (first | exact OwnL.refl | apply OwnL.take (by repeat (first | exact Take.head _ | apply Take.tail)) | apply OwnL.drop))) rfl rfl rfl rfl rfl rfl ((by first | exact Rd.field rfl F57_1 rfl rfl | exact Rd.fieldE rfl F57_1 rfl (by repeat (first | assumption | exact List.mem_cons_self | refine List.mem_cons_of_mem _ ?_)) (by omega) | exact Rd.fieldA rfl F57_1 rfl (by repeat (first | assumption | exact List.mem_cons_self | refine List.mem_cons_of_mem _ ?_)) (by omega))) ?_
                            refine WD.take_yes 22 rfl (by kernel_rfl) (Held.mk' (by repeat (first | exact SubL.refl | refine SubL.cons (by repeat (first | assumption | exact List.mem_cons_self | refine List.mem_cons_of_mem _ ?_)) ?_ | refine SubL.skip ?_)) (by repeat (first | exact OwnL.refl | apply OwnL.take (by repeat (first | exact Take.head _ | apply Take.tail)) | apply OwnL.drop))) rfl rfl rfl rfl rfl rfl ((by first | exact Rd.get rfl C9 rfl (by repeat (first | assumption | exact List.mem_cons_self | refine List.mem_cons_of_mem _ ?_)) (by first | assumption | rfl | exact get!_of_lt (by omega)) | exact Rd.getA rfl C9 rfl (by repeat (first | assumption | exact List.mem_cons_self | refine List.mem_cons_of_mem _ ?_)) (by first | assumption | rfl | exact get!_of_lt (by omega)) | exact Rd.row1 rfl C9 rfl (by repeat (first | assumption | exact List.mem_cons_self | refine List.mem_cons_of_mem _ ?_)) (by rfl) | exact Rd.getF rfl C9 rfl (by repeat (first | assumption | exact List.mem_cons_self | refine List.mem_cons_of_mem _ ?_)) (by intro x; first | rfl | (cases x; rfl) | (rcases x with ⟨_, _, _⟩; rfl) | (rcases x with ⟨_, _, _, _⟩; rfl)) rfl (by first | assumption | rfl | exact get!_of_lt (by omega)) (by rfl) | exact Rd.getFA rfl C9 rfl (by repeat (first | assumption | exact List.mem_cons_self | refine List.mem_cons_of_mem _ ?_)) (by intro x; first | rfl | (cases x; rfl) | (rcases x with ⟨_, _, _⟩; rfl) | (rcases x with ⟨_, _, _, _⟩; rfl)) rfl (by first | assumption | rfl | exact get!_of_lt (by omega)) (by rfl))) ?_
                            refine WD.one_yes 13 rfl (by kernel_rfl) rfl rfl rfl rfl ?_
                            refine OpW.call rfl rfl (by repeat (first | exact Evs.nil | apply Evs.cons rfl)) (by kernel_rfl) rfl rfl rfl ?_
                            refine Fun.heap (O' := dO d V s (rO w V2 s (rowC b2 22 [.int .i64 a0, .int .i64 f, .int .i64 z] :: rowC b9 32 [.int .i64 f, .int .i64 z] :: O))) (fun w h => OwnL.sat (by repeat (first | exact OwnL.refl | apply OwnL.take (by repeat (first | exact Take.head _ | apply Take.tail)) | apply OwnL.drop)) w (h.thin (SubL.mem (by repeat (first | exact SubL.refl | refine SubL.cons (by repeat (first | assumption | exact List.mem_cons_self | refine List.mem_cons_of_mem _ ?_)) ?_ | refine SubL.skip ?_))))) ?_
                            refine write_spec dk.ok (by omega) hv (by repeat (first | assumption | exact List.mem_cons_self | refine List.mem_cons_of_mem _ ?_)) ?_; intro V4 hv4 hkv4
                            refine ⟨(Held.mk' (by repeat (first | exact SubL.refl | refine SubL.cons (by repeat (first | assumption | exact List.mem_cons_self | refine List.mem_cons_of_mem _ ?_)) ?_ | refine SubL.skip ?_)) (by repeat (first | exact OwnL.refl | apply OwnL.take (by repeat (first | exact Take.head _ | apply Take.tail)) | apply OwnL.drop))), ?_⟩
                            refine WD.one_yes 23 rfl (by kernel_rfl) rfl rfl rfl rfl ?_
                            refine OpW.call rfl rfl (by repeat (first | exact Evs.nil | apply Evs.cons rfl)) (by kernel_rfl) rfl rfl rfl ?_
                            refine Fun.heap (O' := rO w V2 s (dO d V4 (putS s (changesE cl)[0]!.1 (changesE cl)[0]!.2) (rowC b2 22 [.int .i64 a0, .int .i64 f, .int .i64 z] :: rowC b9 32 [.int .i64 f, .int .i64 z] :: O))) (fun w h => OwnL.sat (by repeat (first | exact OwnL.refl | apply OwnL.take (by repeat (first | exact Take.head _ | apply Take.tail)) | apply OwnL.drop)) w (h.thin (SubL.mem (by repeat (first | exact SubL.refl | refine SubL.cons (by repeat (first | assumption | exact List.mem_cons_self | refine List.mem_cons_of_mem _ ?_)) ?_ | refine SubL.skip ?_))))) ?_
                            refine refPut_spec dk.ok (by omega) hr (by repeat (first | assumption | exact List.mem_cons_self | refine List.mem_cons_of_mem _ ?_)) ?_; intro V5 hr5 hkv5
                            refine ⟨(Held.mk' (by repeat (first | exact SubL.refl | refine SubL.cons (by repeat (first | assumption | exact List.mem_cons_self | refine List.mem_cons_of_mem _ ?_)) ?_ | refine SubL.skip ?_)) (by repeat (first | exact OwnL.refl | apply OwnL.take (by repeat (first | exact Take.head _ | apply Take.tail)) | apply OwnL.drop))), ?_⟩
                            refine WD.take_yes 24 rfl (by kernel_rfl) (Held.mk' (by repeat (first | exact SubL.refl | refine SubL.cons (by repeat (first | assumption | exact List.mem_cons_self | refine List.mem_cons_of_mem _ ?_)) ?_ | refine SubL.skip ?_)) (by repeat (first | exact OwnL.refl | apply OwnL.take (by repeat (first | exact Take.head _ | apply Take.tail)) | apply OwnL.drop))) rfl rfl rfl rfl rfl rfl (Rd.neq rfl rfl rfl) ?_
                            refine WD.say 205 (u := .bool (decide False)) rfl (by simp) ?_
                            refine WD.take 25 rfl (by kernel_rfl) (Held.mk' (by repeat (first | exact SubL.refl | refine SubL.cons (by repeat (first | assumption | exact List.mem_cons_self | refine List.mem_cons_of_mem _ ?_)) ?_ | refine SubL.skip ?_)) (by repeat (first | exact OwnL.refl | apply OwnL.take (by repeat (first | exact Take.head _ | apply Take.tail)) | apply OwnL.drop))) rfl rfl rfl (Rd.pick_t rfl rfl rfl) ?_
                            refine WD.done (by kernel_rfl) ?_
                            refine thenQ.normal ?_
                            first | refine WC.ite rfl (fun hc11 => ?_) (fun hc11 => ?_) | refine WC.cond rfl (fun hc11 => ?_) (fun hc11 => ?_)
                            · skip
                              first | exact hc11.elim | exact absurd hc11 (by decide)
                            · skip
                              refine WC.skip ?_
                              refine blockQ.normal ?_
                              -- kut_c6 4
                              exact ⟨(putS s (changesE cl)[0]!.1 (changesE cl)[0]!.2, V4, V5), ⟨(dk.put _ _).mono (by omega), hv4, hr5, (put_lasts _ _ _).trans hlen⟩, (by repeat (first | exact Sub.nil | refine Sub.cons rfl (by first | rfl | (congr 1; omega) | assumption) ?_)), fun w h => by simp only [hkv4, hkv5, put_keepW]; exact (fun w h => OwnL.sat (by repeat (first | exact OwnL.refl | apply OwnL.take (by repeat (first | exact Take.head _ | apply Take.tail)) | apply OwnL.drop)) w (h.thin (SubL.mem (by repeat (first | exact SubL.refl | refine SubL.cons (by repeat (first | assumption | exact List.mem_cons_self | refine List.mem_cons_of_mem _ ?_)) ?_ | refine SubL.skip ?_))))) w h⟩
                          · skip
                            refine WD.take_no 4 rfl (by kernel_rfl) (Held.mk' (by repeat (first | exact SubL.refl | refine SubL.cons (by repeat (first | assumption | exact List.mem_cons_self | refine List.mem_cons_of_mem _ ?_)) ?_ | refine SubL.skip ?_)) (by repeat (first | exact OwnL.refl | apply OwnL.take (by repeat (first | exact Take.head _ | apply Take.tail)) | apply OwnL.drop))) rfl rfl rfl rfl rfl rfl ?_
                            refine WD.take_no 5 rfl (by kernel_rfl) (Held.mk' (by repeat (first | exact SubL.refl | refine SubL.cons (by repeat (first | assumption | exact List.mem_cons_self | refine List.mem_cons_of_mem _ ?_)) ?_ | refine SubL.skip ?_)) (by repeat (first | exact OwnL.refl | apply OwnL.take (by repeat (first | exact Take.head _ | apply Take.tail)) | apply OwnL.drop))) rfl rfl rfl rfl rfl rfl ?_
                            refine WD.take_no 6 rfl (by kernel_rfl) (Held.mk' (by repeat (first | exact SubL.refl | refine SubL.cons (by repeat (first | assumption | exact List.mem_cons_self | refine List.mem_cons_of_mem _ ?_)) ?_ | refine SubL.skip ?_)) (by repeat (first | exact OwnL.refl | apply OwnL.take (by repeat (first | exact Take.head _ | apply Take.tail)) | apply OwnL.drop))) rfl rfl rfl rfl rfl rfl ?_
                            refine WD.take_no 7 rfl (by kernel_rfl) (Held.mk' (by repeat (first | exact SubL.refl | refine SubL.cons (by repeat (first | assumption | exact List.mem_cons_self | refine List.mem_cons_of_mem _ ?_)) ?_ | refine SubL.skip ?_)) (by repeat (first | exact OwnL.refl | apply OwnL.take (by repeat (first | exact Take.head _ | apply Take.tail)) | apply OwnL.drop))) rfl rfl rfl rfl rfl rfl ?_
                            refine WD.take_no 8 rfl (by kernel_rfl) (Held.mk' (by repeat (first | exact SubL.refl | refine SubL.cons (by repeat (first | assumption | exact List.mem_cons_self | refine List.mem_cons_of_mem _ ?_)) ?_ | refine SubL.skip ?_)) (by repeat (first | exact OwnL.refl | apply OwnL.take (by repeat (first | exact Take.head _ | apply Take.tail)) | apply OwnL.drop))) rfl rfl rfl rfl rfl rfl ?_
                            refine WD.take_no 9 rfl (by kernel_rfl) (Held.mk' (by repeat (first | exact SubL.refl | refine SubL.cons (by repeat (first | assumption | exact List.mem_cons_self | refine List.mem_cons_of_mem _ ?_)) ?_ | refine SubL.skip ?_)) (by repeat (first | exact OwnL.refl | apply OwnL.take (by repeat (first | exact Take.head _ | apply Take.tail)) | apply OwnL.drop))) rfl rfl rfl rfl rfl rfl ?_
                            refine WD.take_no 10 rfl (by kernel_rfl) (Held.mk' (by repeat (first | exact SubL.refl | refine SubL.cons (by repeat (first | assumption | exact List.mem_cons_self | refine List.mem_cons_of_mem _ ?_)) ?_ | refine SubL.skip ?_)) (by repeat (first | exact OwnL.refl | apply OwnL.take (by repeat (first | exact Take.head _ | apply Take.tail)) | apply OwnL.drop))) rfl rfl rfl rfl rfl rfl ?_
                            refine WD.take_no 11 rfl (by kernel_rfl) (Held.mk' (by repeat (first | exact SubL.refl | refine SubL.cons (by repeat (first | assumption | exact List.mem_cons_self | refine List.mem_cons_of_mem _ ?_)) ?_ | refine SubL.skip ?_)) (by repeat (first | exact OwnL.refl | apply OwnL.take (by repeat (first | exact Take.head _ | apply Take.tail)) | apply OwnL.drop))) rfl rfl rfl rfl rfl rfl ?_
                            refine WD.take_no 12 rfl (by kernel_rfl) (Held.mk' (by repeat (first | exact SubL.refl | refine SubL.cons (by repeat (first | assumption | exact List.mem_cons_self | refine List.mem_cons_of_mem _ ?_)) ?_ | refine SubL.skip ?_)) (by repeat (first | exact OwnL.refl | apply OwnL.take (by repeat (first | exact Take.head _ | apply Take.tail)) | apply OwnL.drop))) rfl rfl rfl rfl rfl rfl ?_
                            refine WD.take_no 14 rfl (by kernel_rfl) (Held.mk' (by repeat (first | exact SubL.refl | refine SubL.cons (by repeat (first | assumption | exact List.mem_cons_self | refine List.mem_cons_of_mem _ ?_)) ?_ | refine SubL.skip ?_)) (by repeat (first | exact OwnL.refl | apply OwnL.take (by repeat (first | exact Take.head _ | apply Take.tail)) | apply OwnL.drop))) rfl rfl rfl rfl rfl rfl ?_
                            refine WD.take_no 15 rfl (by kernel_rfl) (Held.mk' (by repeat (first | exact SubL.refl | refine SubL.cons (by repeat (first | assumption | exact List.mem_cons_self | refine List.mem_cons_of_mem _ ?_)) ?_ | refine SubL.skip ?_)) (by repeat (first | exact OwnL.refl | apply OwnL.take (by repeat (first | exact Take.head _ | apply Take.tail)) | apply OwnL.drop))) rfl rfl rfl rfl rfl rfl ?_
                            refine WD.take_no 16 rfl (by kernel_rfl) (Held.mk' (by repeat (first | exact SubL.refl | refine SubL.cons (by repeat (first | assumption | exact List.mem_cons_self | refine List.mem_cons_of_mem _ ?_)) ?_ | refine SubL.skip ?_)) (by repeat (first | exact OwnL.refl | apply OwnL.take (by repeat (first | exact Take.head _ | apply Take.tail)) | apply OwnL.drop))) rfl rfl rfl rfl rfl rfl ?_
                            refine WD.take_no 17 rfl (by kernel_rfl) (Held.mk' (by repeat (first | exact SubL.refl | refine SubL.cons (by repeat (first | assumption | exact List.mem_cons_self | refine List.mem_cons_of_mem _ ?_)) ?_ | refine SubL.skip ?_)) (by repeat (first | exact OwnL.refl | apply OwnL.take (by repeat (first | exact Take.head _ | apply Take.tail)) | apply OwnL.drop))) rfl rfl rfl rfl rfl rfl ?_
                            refine WD.take_no 18 rfl (by kernel_rfl) (Held.mk' (by repeat (first | exact SubL.refl | refine SubL.cons (by repeat (first | assumption | exact List.mem_cons_self | refine List.mem_cons_of_mem _ ?_)) ?_ | refine SubL.skip ?_)) (by repeat (first | exact OwnL.refl | apply OwnL.take (by repeat (first | exact Take.head _ | apply Take.tail)) | apply OwnL.drop))) rfl rfl rfl rfl rfl rfl ?_
                            refine WD.take_no 19 rfl (by kernel_rfl) (Held.mk' (by repeat (first | exact SubL.refl | refine SubL.cons (by repeat (first | assumption | exact List.mem_cons_self | refine List.mem_cons_of_mem _ ?_)) ?_ | refine SubL.skip ?_)) (by repeat (first | exact OwnL.refl | apply OwnL.take (by repeat (first | exact Take.head _ | apply Take.tail)) | apply OwnL.drop))) rfl rfl rfl rfl rfl rfl ?_
                            refine WD.take_no 20 rfl (by kernel_rfl) (Held.mk' (by repeat (first | exact SubL.refl | refine SubL.cons (by repeat (first | assumption | exact List.mem_cons_self | refine List.mem_cons_of_mem _ ?_)) ?_ | refine SubL.skip ?_)) (by repeat (first | exact OwnL.refl | apply OwnL.take (by repeat (first | exact Take.head _ | apply Take.tail)) | apply OwnL.drop))) rfl rfl rfl rfl rfl rfl ?_
                            refine WD.take_no 21 rfl (by kernel_rfl) (Held.mk' (by repeat (first | exact SubL.refl | refine SubL.cons (by repeat (first | assumption | exact List.mem_cons_self | refine List.mem_cons_of_mem _ ?_)) ?_ | refine SubL.skip ?_)) (by repeat (first | exact OwnL.refl | apply OwnL.take (by repeat (first | exact Take.head _ | apply Take.tail)) | apply OwnL.drop))) rfl rfl rfl rfl rfl rfl ?_
                            refine WD.take_no 22 rfl (by kernel_rfl) (Held.mk' (by repeat (first | exact SubL.refl | refine SubL.cons (by repeat (first | assumption | exact List.mem_cons_self | refine List.mem_cons_of_mem _ ?_)) ?_ | refine SubL.skip ?_)) (by repeat (first | exact OwnL.refl | apply OwnL.take (by repeat (first | exact Take.head _ | apply Take.tail)) | apply OwnL.drop))) rfl rfl rfl rfl rfl rfl ?_
                            refine WD.take_no 13 rfl (by kernel_rfl) (Held.mk' (by repeat (first | exact SubL.refl | refine SubL.cons (by repeat (first | assumption | exact List.mem_cons_self | refine List.mem_cons_of_mem _ ?_)) ?_ | refine SubL.skip ?_)) (by repeat (first | exact OwnL.refl | apply OwnL.take (by repeat (first | exact Take.head _ | apply Take.tail)) | apply OwnL.drop))) rfl rfl rfl rfl rfl rfl ?_
                            refine WD.take_no 23 rfl (by kernel_rfl) (Held.mk' (by repeat (first | exact SubL.refl | refine SubL.cons (by repeat (first | assumption | exact List.mem_cons_self | refine List.mem_cons_of_mem _ ?_)) ?_ | refine SubL.skip ?_)) (by repeat (first | exact OwnL.refl | apply OwnL.take (by repeat (first | exact Take.head _ | apply Take.tail)) | apply OwnL.drop))) rfl rfl rfl rfl rfl rfl ?_
                            refine WD.take_no 24 rfl (by kernel_rfl) (Held.mk' (by repeat (first | exact SubL.refl | refine SubL.cons (by repeat (first | assumption | exact List.mem_cons_self | refine List.mem_cons_of_mem _ ?_)) ?_ | refine SubL.skip ?_)) (by repeat (first | exact OwnL.refl | apply OwnL.take (by repeat (first | exact Take.head _ | apply Take.tail)) | apply OwnL.drop))) rfl rfl rfl rfl rfl rfl ?_
                            refine WD.take 25 rfl (by kernel_rfl) (Held.mk' (by repeat (first | exact SubL.refl | refine SubL.cons (by repeat (first | assumption | exact List.mem_cons_self | refine List.mem_cons_of_mem _ ?_)) ?_ | refine SubL.skip ?_)) (by repeat (first | exact OwnL.refl | apply OwnL.take (by repeat (first | exact Take.head _ | apply Take.tail)) | apply OwnL.drop))) rfl rfl rfl (Rd.pick_f rfl rfl rfl) ?_
                            refine WD.done (by kernel_rfl) ?_
                            refine thenQ.normal ?_
                            refine WC.no rfl ?_
                            refine WC.skip ?_
                            refine blockQ.normal ?_
                            -- kut_c6 5
                            exact ⟨(s, V, V2), ⟨dk.mono (by omega), hv, hr, hlen⟩, (by repeat (first | exact Sub.nil | refine Sub.cons rfl (by first | rfl | (congr 1; omega) | assumption) ?_)), (fun w h => OwnL.sat (by repeat (first | exact OwnL.refl | apply OwnL.take (by repeat (first | exact Take.head _ | apply Take.tail)) | apply OwnL.drop)) w (h.thin (SubL.mem (by repeat (first | exact SubL.refl | refine SubL.cons (by repeat (first | assumption | exact List.mem_cons_self | refine List.mem_cons_of_mem _ ?_)) ?_ | refine SubL.skip ?_)))))⟩
                        · skip
                          refine WC.seq ?_
                          refine WC.drawn (rowC b9 32 [.int .i64 f, .int .i64 z] :: O) 8 rfl mixed ?_
                          refine WD.take 0 rfl (by kernel_rfl) (Held.mk' (by repeat (first | exact SubL.refl | refine SubL.cons (by repeat (first | assumption | exact List.mem_cons_self | refine List.mem_cons_of_mem _ ?_)) ?_ | refine SubL.skip ?_)) (by repeat (first | exact OwnL.refl | apply OwnL.take (by repeat (first | exact Take.head _ | apply Take.tail)) | apply OwnL.drop))) rfl rfl rfl (Rd.move rfl rfl) ?_
                          refine WD.take 1 rfl (by kernel_rfl) (Held.mk' (by repeat (first | exact SubL.refl | refine SubL.cons (by repeat (first | assumption | exact List.mem_cons_self | refine List.mem_cons_of_mem _ ?_)) ?_ | refine SubL.skip ?_)) (by repeat (first | exact OwnL.refl | apply OwnL.take (by repeat (first | exact Take.head _ | apply Take.tail)) | apply OwnL.drop))) rfl rfl rfl (Rd.move rfl rfl) ?_
                          refine WD.take 3 rfl (by kernel_rfl) (Held.mk' (by repeat (first | exact SubL.refl | refine SubL.cons (by repeat (first | assumption | exact List.mem_cons_self | refine List.mem_cons_of_mem _ ?_)) ?_ | refine SubL.skip ?_)) (by repeat (first | exact OwnL.refl | apply OwnL.take (by repeat (first | exact Take.head _ | apply Take.tail)) | apply OwnL.drop))) rfl rfl rfl (Rd.move rfl rfl) ?_
                          refine WD.take 4 rfl (by kernel_rfl) (Held.mk' (by repeat (first | exact SubL.refl | refine SubL.cons (by repeat (first | assumption | exact List.mem_cons_self | refine List.mem_cons_of_mem _ ?_)) ?_ | refine SubL.skip ?_)) (by repeat (first | exact OwnL.refl | apply OwnL.take (by repeat (first | exact Take.head _ | apply Take.tail)) | apply OwnL.drop))) rfl rfl rfl (Rd.rowS rfl G32 rfl (by repeat (first | assumption | exact List.mem_cons_self | refine List.mem_cons_of_mem _ ?_)) (by repeat (first | exact NF.nil | apply NF.cons)) rfl) ?_
                          refine WD.take 5 rfl (by kernel_rfl) (Held.mk' (by repeat (first | exact SubL.refl | refine SubL.cons (by repeat (first | assumption | exact List.mem_cons_self | refine List.mem_cons_of_mem _ ?_)) ?_ | refine SubL.skip ?_)) (by repeat (first | exact OwnL.refl | apply OwnL.take (by repeat (first | exact Take.head _ | apply Take.tail)) | apply OwnL.drop))) rfl rfl rfl (Rd.move rfl rfl) ?_
                          refine WD.one 2 rfl (by kernel_rfl) rfl ?_
                          refine OpW.call rfl rfl (by repeat (first | exact Evs.nil | apply Evs.cons rfl)) (by kernel_rfl) rfl rfl rfl ?_
                          refine Fun.heap (O' := dO d V s (rO w V2 s (rowC b9 32 [.int .i64 f, .int .i64 z] :: rowC b2 22 [.int .i64 a0, .int .i64 f, .int .i64 z] :: O))) (fun w h => OwnL.sat (by repeat (first | exact OwnL.refl | apply OwnL.take (by repeat (first | exact Take.head _ | apply Take.tail)) | apply OwnL.drop)) w (h.thin (SubL.mem (by repeat (first | exact SubL.refl | refine SubL.cons (by repeat (first | assumption | exact List.mem_cons_self | refine List.mem_cons_of_mem _ ?_)) ?_ | refine SubL.skip ?_))))) ?_
                          refine commit_spec (f := f) (z := z) (x := changesE cl) (by repeat (first | assumption | exact List.mem_cons_self | refine List.mem_cons_of_mem _ ?_)) (by repeat (first | assumption | exact List.mem_cons_self | refine List.mem_cons_of_mem _ ?_)) hfit (by repeat (first | assumption | exact List.mem_cons_self | refine List.mem_cons_of_mem _ ?_)) dk (by omega) hv (by repeat (first | assumption | exact List.mem_cons_self | refine List.mem_cons_of_mem _ ?_)) ?_; intro V4 hv4 hkv4
                          refine ⟨(Held.mk' (by repeat (first | exact SubL.refl | refine SubL.cons (by repeat (first | assumption | exact List.mem_cons_self | refine List.mem_cons_of_mem _ ?_)) ?_ | refine SubL.skip ?_)) (by repeat (first | exact OwnL.refl | apply OwnL.take (by repeat (first | exact Take.head _ | apply Take.tail)) | apply OwnL.drop))), ?_⟩
                          refine WD.one 6 rfl (by kernel_rfl) rfl ?_
                          refine OpW.call rfl rfl (by repeat (first | exact Evs.nil | apply Evs.cons rfl)) (by kernel_rfl) rfl rfl rfl ?_
                          refine Fun.heap (O' := rO w V2 s (dO d V4 (commitE s f z (changesE cl)).1 (rowC b9 32 [.int .i64 f, .int .i64 z] :: rowC b2 22 [.int .i64 a0, .int .i64 f, .int .i64 z] :: O))) (fun w h => OwnL.sat (by repeat (first | exact OwnL.refl | apply OwnL.take (by repeat (first | exact Take.head _ | apply Take.tail)) | apply OwnL.drop)) w (h.thin (SubL.mem (by repeat (first | exact SubL.refl | refine SubL.cons (by repeat (first | assumption | exact List.mem_cons_self | refine List.mem_cons_of_mem _ ?_)) ?_ | refine SubL.skip ?_))))) ?_
                          refine refCommit_spec (f := f) (z := z) (x := changesE cl) hfit (by repeat (first | assumption | exact List.mem_cons_self | refine List.mem_cons_of_mem _ ?_)) dk (by omega) hr (by repeat (first | assumption | exact List.mem_cons_self | refine List.mem_cons_of_mem _ ?_)) ?_; intro V5 hr5 hkv5
                          obtain ⟨k4, k4len, k4keep⟩ := commit_dk dk (f := f) (z := z) (fits_iff hfit).2.2.1 (changesE cl)
                          refine ⟨(Held.mk' (by repeat (first | exact SubL.refl | refine SubL.cons (by repeat (first | assumption | exact List.mem_cons_self | refine List.mem_cons_of_mem _ ?_)) ?_ | refine SubL.skip ?_)) (by repeat (first | exact OwnL.refl | apply OwnL.take (by repeat (first | exact Take.head _ | apply Take.tail)) | apply OwnL.drop))), ?_⟩
                          refine WD.take 7 rfl (by kernel_rfl) (Held.mk' (by repeat (first | exact SubL.refl | refine SubL.cons (by repeat (first | assumption | exact List.mem_cons_self | refine List.mem_cons_of_mem _ ?_)) ?_ | refine SubL.skip ?_)) (by repeat (first | exact OwnL.refl | apply OwnL.take (by repeat (first | exact Take.head _ | apply Take.tail)) | apply OwnL.drop))) rfl rfl rfl (Rd.neq rfl rfl rfl) ?_
                          refine WD.done (by kernel_rfl) ?_
                          refine thenQ.normal ?_
                          first | refine WC.ite rfl (fun hc12 => ?_) (fun hc12 => ?_) | refine WC.cond rfl (fun hc12 => ?_) (fun hc12 => ?_)
                          · skip
                            exact absurd rfl hc12
                          · skip
                            refine WC.skip ?_
                            refine blockQ.normal ?_
                            -- kut_c6 6
                            exact ⟨((commitE s f z (changesE cl)).1, V4, V5), ⟨k4.mono (by omega), hv4, hr5, k4len.trans hlen⟩, (by repeat (first | exact Sub.nil | refine Sub.cons rfl (by first | rfl | (congr 1; omega) | assumption) ?_)), fun w h => by simp only [hkv4, hkv5, k4keep]; exact (fun w h => OwnL.sat (by repeat (first | exact OwnL.refl | apply OwnL.take (by repeat (first | exact Take.head _ | apply Take.tail)) | apply OwnL.drop)) w (h.thin (SubL.mem (by repeat (first | exact SubL.refl | refine SubL.cons (by repeat (first | assumption | exact List.mem_cons_self | refine List.mem_cons_of_mem _ ?_)) ?_ | refine SubL.skip ?_))))) w h⟩
                · skip
                  rintro ⟨s', V', V2'⟩ ⟨dk', hv', hr', hlen'⟩
                  simp only at dk' hv' hr' hlen' ⊢
                  refine WC.seq ?_
                  refine WC.region ?_
                  refine WL.rd rfl rfl rfl (Rd.move rfl rfl) ?_
                  refine WL.rd rfl rfl rfl (Rd.move rfl rfl) ?_
                  refine WL.op rfl ?_
                  refine OpW.call rfl rfl (by repeat (first | exact Evs.nil | apply Evs.cons rfl)) (by kernel_rfl) rfl rfl rfl ?_
                  refine same6_spec (dk'.ok.mono (by omega)) ?_
                  refine WL.say 209 (u := .bool (decide True)) rfl (by simp) ?_
                  refine WL.rd rfl rfl rfl ((by first | exact Rd.notd rfl rfl | exact Rd.not rfl rfl)) ?_
                  refine WL.nil ?_
                  refine thenQ.normal ?_
                  first | refine WC.ite rfl (fun hc13 => ?_) (fun hc13 => ?_) | refine WC.cond rfl (fun hc13 => ?_) (fun hc13 => ?_)
                  · skip
                    exact absurd trivial hc13
                  · skip
                    refine WC.skip ?_
                    refine blockQ.normal ?_
                    refine thenQ.normal ?_
                    refine WC.region ?_
                    refine WL.rd rfl rfl rfl (Rd.move rfl rfl) ?_
                    refine WL.rd rfl rfl rfl (Rd.add rfl rfl rfl (by omega)) ?_
                    refine WL.rd rfl rfl rfl (Rd.assign rfl rfl) ?_
                    refine WL.nil ?_
                    -- next1_1
                    exact loopQ4.mk (i + 1) s' V' V2' ⟨by omega, dk'.mono (by omega), hv', hr', hlen'⟩ (by omega) (by repeat (first | exact Sub.nil | refine Sub.cons rfl (by first | rfl | (congr 1; omega) | assumption) ?_)) (fun w h => OwnL.sat (by repeat (first | exact OwnL.refl | apply OwnL.take (by repeat (first | exact Take.head _ | apply Take.tail)) | apply OwnL.drop)) w (h.thin (SubL.mem (by repeat (first | exact SubL.refl | refine SubL.cons (by repeat (first | assumption | exact List.mem_cons_self | refine List.mem_cons_of_mem _ ?_)) ?_ | refine SubL.skip ?_)))))
              · skip
                refine WC.exit ?_
                refine thenQ.exit ?_
                refine loopQ4.exit ?_
                refine blockQ.exit ?_
                refine thenQ.normal ?_
                refine WC.seq ?_
                refine WC.region ?_
                refine WL.rd rfl rfl rfl (Rd.assign rfl rfl) ?_
                refine WL.nil ?_
                refine thenQ.normal ?_
                -- ret_2
                refine WC.heap (R' := R) (O' := O) (fun w h => OwnL.sat (by repeat (first | exact OwnL.refl | apply OwnL.take (by repeat (first | exact Take.head _ | apply Take.tail)) | apply OwnL.drop)) w (h.thin (SubL.mem (by repeat (first | exact SubL.refl | refine SubL.cons (by repeat (first | assumption | exact List.mem_cons_self | refine List.mem_cons_of_mem _ ?_)) ?_ | refine SubL.skip ?_))))) ?_
                refine WC.ret (Ret.one Tryd.results3 rfl ?_)
                exact hk
            · skip
              refine WL.no rfl rfl rfl rfl rfl rfl ?_
              refine WL.no rfl rfl rfl rfl rfl rfl ?_
              refine WL.rd rfl rfl rfl (Rd.pick_f rfl rfl rfl) ?_
              refine WL.nil ?_
              refine thenQ.normal ?_
              refine WC.no rfl ?_
              refine WC.exit ?_
              refine thenQ.exit ?_
              refine loopQ4.exit ?_
              refine blockQ.exit ?_
              refine thenQ.normal ?_
              refine WC.seq ?_
              refine WC.region ?_
              refine WL.rd rfl rfl rfl (Rd.assign rfl rfl) ?_
              refine WL.nil ?_
              refine thenQ.normal ?_
              -- ret_3
              refine WC.heap (R' := R) (O' := O) (fun w h => OwnL.sat (by repeat (first | exact OwnL.refl | apply OwnL.take (by repeat (first | exact Take.head _ | apply Take.tail)) | apply OwnL.drop)) w (h.thin (SubL.mem (by repeat (first | exact SubL.refl | refine SubL.cons (by repeat (first | assumption | exact List.mem_cons_self | refine List.mem_cons_of_mem _ ?_)) ?_ | refine SubL.skip ?_))))) ?_
              refine WC.ret (Ret.one Tryd.results3 rfl ?_)
              exact hk
end
end Go.Proofs.YtaalegffcjbglaaDoor
