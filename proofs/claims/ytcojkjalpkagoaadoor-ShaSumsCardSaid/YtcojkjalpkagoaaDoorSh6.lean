/-
  Layer 2: the statements on Hashers, parts and digits.
-/
import Derived.Test.YtcojkjalpkagoaaDoorSh5
namespace Go.Proofs.YtcojkjalpkagoaaDoor
open Go Go.SL

def sayMsg : List UInt8 := [97, 98, 99] ++ padE 3 ++ lenE 3
def sayDig : List UInt8 := [186, 120, 22, 191, 143, 1, 207, 234, 65, 65, 64, 222, 93, 174, 34, 35, 176, 3, 97, 163, 150, 23, 122, 156, 180, 16, 255, 97, 242, 0, 21, 173]
theorem say_len : sayMsg.length = 64 := by decide +kernel
theorem say_dig : digestS (nextS first8 sayMsg) = sayDig := by decide +kernel
theorem say_sha : shaE [97, 98, 99] = sayDig := by
  have h : blocks first8 sayMsg = (nextS first8 sayMsg, []) := by
    rw [blocks_ge (by rw [say_len]; decide), List.take_of_length_le (by rw [say_len]; exact Nat.le_refl _), List.drop_of_length_le (by rw [say_len]; exact Nat.le_refl _), blocks_lt (by decide)]
  have e : finS first8 [97, 98, 99] [97, 98, 99].length = nextS first8 sayMsg := by
    show (blocks first8 sayMsg).1 = _
    rw [h]
  exact (congrArg digestS e).trans say_dig
def sayHex : List UInt8 := [98, 97, 55, 56, 49, 54, 98, 102, 56, 102, 48, 49, 99, 102, 101, 97, 52, 49, 52, 49, 52, 48, 100, 101, 53, 100, 97, 101, 50, 50, 50, 51, 98, 48, 48, 51, 54, 49, 97, 51, 57, 54, 49, 55, 55, 97, 57, 99, 98, 52, 49, 48, 102, 102, 54, 49, 102, 50, 48, 48, 49, 53, 97, 100]
theorem say_hex : hexE sayDig = sayHex := by decide +kernel
theorem speaks_spec {R : List RO} {O : List Own} {POST : Value → List RO → List Own → Prop} (hr : rootsR ∈ R) (hk : POST (.bool true) R O) : Fun Tryd.prog 8 #[] R O POST := by
  refine Fun.enter (l := []) Tryd.func8 rfl Tryd.ntmps8 rfl (L0 := []) rfl ?_
  refine WC.seq ?_
  refine WC.region ?_
  refine WL.rd rfl rfl rfl (Rd.assign rfl rfl) ?_
  refine WL.nil ?_
  refine thenQ.normal ?_
  refine WC.seq ?_
  refine WC.region ?_
  refine WL.op rfl ?_
  refine OpW.buildSl (ps := [(0, _), (1, _)]) rfl S30 (by repeat (first | exact Evs.nil | apply Evs.cons rfl)) rfl rfl (by repeat (first | exact CellsOf.nil | apply CellsOf.cons rfl)) (by kernel_rfl) rfl rfl rfl ?_; intro b1
  refine WL.heap (fun w h => h.shareRow (m := 2) (enc := one vs) (xs := [[97], [98, 99]]) (by repeat (first | assumption | exact Take.head _ | apply Take.tail)) rfl rfl (by omega)) ?_
  refine WL.op rfl ?_
  refine OpW.call rfl rfl (by repeat (first | exact Evs.nil | apply Evs.cons rfl)) (by kernel_rfl) rfl rfl rfl ?_
  refine shaSum_spec (l := [[97], [98, 99]]) (by repeat (first | assumption | exact List.mem_cons_self | refine List.mem_cons_of_mem _ ?_)) (by repeat (first | assumption | exact List.mem_cons_self | refine List.mem_cons_of_mem _ ?_)) (by decide) ?_
  rw [show ([[97], [98, 99]] : List (List UInt8)).flatten = [97, 98, 99] from rfl, say_sha]
  refine WL.op rfl ?_
  refine OpW.call rfl rfl (by repeat (first | exact Evs.nil | apply Evs.cons rfl)) (by kernel_rfl) rfl rfl rfl ?_
  refine hex_spec ?_
  rw [say_hex]
  refine WL.rd rfl rfl rfl (Rd.seql rfl rfl rfl) ?_
  refine WL.say 4 (u := .bool true) rfl (congrArg Value.bool (decide_eq_true rfl)) ?_
  refine WL.rd rfl rfl rfl (Rd.assign rfl rfl) ?_
  refine WL.nil ?_
  refine thenQ.normal ?_
  -- ret_1
  refine WC.heap (R' := R) (O' := O) (fun w h => OwnL.sat (by repeat (first | exact OwnL.refl | apply OwnL.take (by repeat (first | exact Take.head _ | apply Take.tail)) | apply OwnL.drop)) w (h.thin (SubL.mem (by repeat (first | exact SubL.refl | refine SubL.cons (by repeat (first | assumption | exact List.mem_cons_self | refine List.mem_cons_of_mem _ ?_)) ?_ | refine SubL.skip ?_))))) ?_
  refine WC.ret (Ret.one Tryd.results8 rfl ?_)
  exact hk
set_option maxHeartbeats 2000000 in
theorem apart_spec {R : List RO} {O : List Own} {POST : Value → List RO → List Own → Prop} {a b c : List UInt8} (hr : rootsR ∈ R) (ha : a.length ≤ 140737488351232) (hb : b.length ≤ 140737488351232) (hc : c.length ≤ 140737488351232) (hk : POST (.bool true) R O) : Fun Tryd.prog 4 #[vs a, vs b, vs c] R O POST := by
  refine Fun.enter (l := [_, _, _]) Tryd.func4 rfl Tryd.ntmps4 rfl (L0 := [(0, _), (1, _), (2, _)]) rfl ?_
  refine WC.seq ?_
  refine WC.region ?_
  refine WL.rd rfl rfl rfl (Rd.assign rfl rfl) ?_
  refine WL.nil ?_
  refine thenQ.normal ?_
  refine WC.seq ?_
  refine WC.seq ?_
  refine WC.region ?_
  refine WL.op rfl ?_
  refine OpW.call rfl rfl (by repeat (first | exact Evs.nil | apply Evs.cons rfl)) (by kernel_rfl) rfl rfl rfl ?_
  refine speaks_spec hr ?_
  refine WL.rd rfl rfl rfl ((by first | exact Rd.notd rfl rfl | exact Rd.not rfl rfl)) ?_
  refine WL.nil ?_
  refine thenQ.normal ?_
  first | refine WC.ite rfl (fun hc1 => ?_) (fun hc1 => ?_) | refine WC.cond rfl (fun hc1 => ?_) (fun hc1 => ?_)
  · skip
    cases hc1
  · skip
    refine WC.skip ?_
    refine thenQ.normal ?_
    refine WC.seq ?_
    refine WC.pick [0, 1, 2] (by repeat (first | exact Pick.nil | apply Pick.cons rfl)) ?_
    refine WC.val 35 (.bool (decide (3000 < a.length + b.length + c.length ∨ 3000 < a.length ∨ 3000 < b.length ∨ 3000 < c.length))) ?_ ?_
    · skip
      refine WC.region ?_
      refine WL.rd rfl rfl rfl (Rd.move rfl rfl) ?_
      refine WL.rd rfl rfl rfl (Rd.slen (ts := #[]) (ty := 0) rfl rfl Tryd.underlying9) ?_
      refine WL.rd rfl rfl rfl (Rd.move rfl rfl) ?_
      refine WL.rd rfl rfl rfl (Rd.slen (ts := #[]) (ty := 0) rfl rfl Tryd.underlying9) ?_
      refine WL.rd rfl rfl rfl (Rd.add rfl rfl rfl (by omega)) ?_
      refine WL.rd rfl rfl rfl (Rd.move rfl rfl) ?_
      refine WL.rd rfl rfl rfl (Rd.slen (ts := #[]) (ty := 0) rfl rfl Tryd.underlying9) ?_
      refine WL.rd rfl rfl rfl (Rd.add rfl rfl rfl (by omega)) ?_
      refine WL.rd rfl rfl rfl (Rd.gtr rfl rfl rfl) ?_
      refine WL.rd rfl rfl rfl (Rd.move rfl rfl) ?_
      refine WL.case 21 rfl (fun hg21 => ?_) (fun hg21 => ?_)
      · skip
        refine WL.no rfl rfl rfl rfl rfl rfl ?_
        refine WL.no rfl rfl rfl rfl rfl rfl ?_
        refine WL.no rfl rfl rfl rfl rfl rfl ?_
        refine WL.rd rfl rfl rfl (Rd.pick_t rfl rfl rfl) ?_
        refine WL.rd rfl rfl rfl (Rd.move rfl rfl) ?_
        refine WL.no rfl rfl rfl rfl rfl rfl ?_
        refine WL.no rfl rfl rfl rfl rfl rfl ?_
        refine WL.no rfl rfl rfl rfl rfl rfl ?_
        refine WL.rd rfl rfl rfl (Rd.pick_t rfl rfl rfl) ?_
        refine WL.rd rfl rfl rfl (Rd.move rfl rfl) ?_
        refine WL.no rfl rfl rfl rfl rfl rfl ?_
        refine WL.no rfl rfl rfl rfl rfl rfl ?_
        refine WL.no rfl rfl rfl rfl rfl rfl ?_
        refine WL.rd rfl rfl rfl (Rd.pick_t rfl rfl rfl) ?_
        refine WL.nil ?_
        exact ⟨by repeat (first | exact Sub.nil | refine Sub.cons rfl (by first | rfl | (first | rfl | exact vb (by omega) | exact vb_t (by omega) | exact vb_f (by omega) | (simp [*]; done) | (simp_all; done))) ?_), by first | exact (fun _ h => h.thin (SubL.mem (by repeat (first | exact SubL.refl | refine SubL.cons (by repeat (first | assumption | exact List.mem_cons_self | refine List.mem_cons_of_mem _ ?_)) ?_ | refine SubL.skip ?_)))) | exact (fun w h => OwnL.sat (by repeat (first | exact OwnL.refl | apply OwnL.take (by repeat (first | exact Take.head _ | apply Take.tail)) | apply OwnL.drop)) w (h.thin (SubL.mem (by repeat (first | exact SubL.refl | refine SubL.cons (by repeat (first | assumption | exact List.mem_cons_self | refine List.mem_cons_of_mem _ ?_)) ?_ | refine SubL.skip ?_)))))⟩
      · skip
        refine WL.rd_yes rfl rfl rfl rfl rfl rfl (Rd.move rfl rfl) ?_
        refine WL.rd_yes rfl rfl rfl rfl rfl rfl (Rd.slen (ts := #[]) (ty := 0) rfl rfl Tryd.underlying9) ?_
        refine WL.rd_yes rfl rfl rfl rfl rfl rfl (Rd.gtr rfl rfl rfl) ?_
        refine WL.rd rfl rfl rfl (Rd.pick_f rfl rfl rfl) ?_
        refine WL.rd rfl rfl rfl (Rd.move rfl rfl) ?_
        refine WL.case 26 rfl (fun hg26 => ?_) (fun hg26 => ?_)
        · skip
          refine WL.no rfl rfl rfl rfl rfl rfl ?_
          refine WL.no rfl rfl rfl rfl rfl rfl ?_
          refine WL.no rfl rfl rfl rfl rfl rfl ?_
          refine WL.rd rfl rfl rfl (Rd.pick_t rfl rfl rfl) ?_
          refine WL.rd rfl rfl rfl (Rd.move rfl rfl) ?_
          refine WL.no rfl rfl rfl rfl rfl rfl ?_
          refine WL.no rfl rfl rfl rfl rfl rfl ?_
          refine WL.no rfl rfl rfl rfl rfl rfl ?_
          refine WL.rd rfl rfl rfl (Rd.pick_t rfl rfl rfl) ?_
          refine WL.nil ?_
          exact ⟨by repeat (first | exact Sub.nil | refine Sub.cons rfl (by first | rfl | (first | rfl | exact vb (by omega) | exact vb_t (by omega) | exact vb_f (by omega) | (simp [*]; done) | (simp_all; done))) ?_), by first | exact (fun _ h => h.thin (SubL.mem (by repeat (first | exact SubL.refl | refine SubL.cons (by repeat (first | assumption | exact List.mem_cons_self | refine List.mem_cons_of_mem _ ?_)) ?_ | refine SubL.skip ?_)))) | exact (fun w h => OwnL.sat (by repeat (first | exact OwnL.refl | apply OwnL.take (by repeat (first | exact Take.head _ | apply Take.tail)) | apply OwnL.drop)) w (h.thin (SubL.mem (by repeat (first | exact SubL.refl | refine SubL.cons (by repeat (first | assumption | exact List.mem_cons_self | refine List.mem_cons_of_mem _ ?_)) ?_ | refine SubL.skip ?_)))))⟩
        · skip
          refine WL.rd_yes rfl rfl rfl rfl rfl rfl (Rd.move rfl rfl) ?_
          refine WL.rd_yes rfl rfl rfl rfl rfl rfl (Rd.slen (ts := #[]) (ty := 0) rfl rfl Tryd.underlying9) ?_
          refine WL.rd_yes rfl rfl rfl rfl rfl rfl (Rd.gtr rfl rfl rfl) ?_
          refine WL.rd rfl rfl rfl (Rd.pick_f rfl rfl rfl) ?_
          refine WL.rd rfl rfl rfl (Rd.move rfl rfl) ?_
          refine WL.case 31 rfl (fun hg31 => ?_) (fun hg31 => ?_)
          · skip
            refine WL.no rfl rfl rfl rfl rfl rfl ?_
            refine WL.no rfl rfl rfl rfl rfl rfl ?_
            refine WL.no rfl rfl rfl rfl rfl rfl ?_
            refine WL.rd rfl rfl rfl (Rd.pick_t rfl rfl rfl) ?_
            refine WL.nil ?_
            exact ⟨by repeat (first | exact Sub.nil | refine Sub.cons rfl (by first | rfl | (first | rfl | exact vb (by omega) | exact vb_t (by omega) | exact vb_f (by omega) | (simp [*]; done) | (simp_all; done))) ?_), by first | exact (fun _ h => h.thin (SubL.mem (by repeat (first | exact SubL.refl | refine SubL.cons (by repeat (first | assumption | exact List.mem_cons_self | refine List.mem_cons_of_mem _ ?_)) ?_ | refine SubL.skip ?_)))) | exact (fun w h => OwnL.sat (by repeat (first | exact OwnL.refl | apply OwnL.take (by repeat (first | exact Take.head _ | apply Take.tail)) | apply OwnL.drop)) w (h.thin (SubL.mem (by repeat (first | exact SubL.refl | refine SubL.cons (by repeat (first | assumption | exact List.mem_cons_self | refine List.mem_cons_of_mem _ ?_)) ?_ | refine SubL.skip ?_)))))⟩
          · skip
            refine WL.rd_yes rfl rfl rfl rfl rfl rfl (Rd.move rfl rfl) ?_
            refine WL.rd_yes rfl rfl rfl rfl rfl rfl (Rd.slen (ts := #[]) (ty := 0) rfl rfl Tryd.underlying9) ?_
            refine WL.rd_yes rfl rfl rfl rfl rfl rfl (Rd.gtr rfl rfl rfl) ?_
            refine WL.rd rfl rfl rfl (Rd.pick_f rfl rfl rfl) ?_
            refine WL.nil ?_
            exact ⟨by repeat (first | exact Sub.nil | refine Sub.cons rfl (by first | rfl | (first | rfl | exact vb (by omega) | exact vb_t (by omega) | exact vb_f (by omega) | (simp [*]; done) | (simp_all; done))) ?_), by first | exact (fun _ h => h.thin (SubL.mem (by repeat (first | exact SubL.refl | refine SubL.cons (by repeat (first | assumption | exact List.mem_cons_self | refine List.mem_cons_of_mem _ ?_)) ?_ | refine SubL.skip ?_)))) | exact (fun w h => OwnL.sat (by repeat (first | exact OwnL.refl | apply OwnL.take (by repeat (first | exact Take.head _ | apply Take.tail)) | apply OwnL.drop)) w (h.thin (SubL.mem (by repeat (first | exact SubL.refl | refine SubL.cons (by repeat (first | assumption | exact List.mem_cons_self | refine List.mem_cons_of_mem _ ?_)) ?_ | refine SubL.skip ?_)))))⟩
    · skip
      first | refine WC.ite rfl (fun hc2 => ?_) (fun hc2 => ?_) | refine WC.cond rfl (fun hc2 => ?_) (fun hc2 => ?_)
      · skip
        refine WC.seq ?_
        refine WC.region ?_
        refine WL.rd rfl rfl rfl (Rd.assign rfl rfl) ?_
        refine WL.nil ?_
        refine thenQ.normal ?_
        -- ret_1
        refine WC.heap (R' := R) (O' := O) (fun w h => OwnL.sat (by repeat (first | exact OwnL.refl | apply OwnL.take (by repeat (first | exact Take.head _ | apply Take.tail)) | apply OwnL.drop)) w (h.thin (SubL.mem (by repeat (first | exact SubL.refl | refine SubL.cons (by repeat (first | assumption | exact List.mem_cons_self | refine List.mem_cons_of_mem _ ?_)) ?_ | refine SubL.skip ?_))))) ?_
        refine WC.ret (Ret.one Tryd.results4 rfl ?_)
        exact hk
      · skip
        refine WC.skip ?_
        refine thenQ.normal ?_
        refine WC.seq ?_
        refine WC.region ?_
        refine WL.op rfl ?_
        refine OpW.alloc rfl I29 rfl (by repeat (first | exact NF.nil | apply NF.cons)) rfl rfl ?_; intro b7
        refine WL.nil ?_
        refine thenQ.normal ?_
        refine WC.seq ?_
        refine WC.region ?_
        refine WL.rd rfl rfl rfl (Rd.move rfl rfl) ?_
        refine WL.op rfl ?_
        refine OpW.call rfl rfl (by repeat (first | exact Evs.nil | apply Evs.cons rfl)) (by kernel_rfl) rfl rfl rfl ?_
        have h0 := HashOf.new ⟨0, 0, 0, 0, 0, 0, 0, 0⟩
        refine hput_spec (v := ⟨0, 0, 0, 0, 0, 0, 0, 0⟩) (g := false) (r := []) (n := 0) hr h0.1 (by omega) (by simp; omega) ?_
        have ha1 := h0.put a
        rw [List.nil_append, Nat.zero_add] at ha1
        rw [Nat.zero_add, List.nil_append]
        generalize blocks (St8.begun ⟨0, 0, 0, 0, 0, 0, 0, 0⟩ false) a = x at ha1 ⊢
        obtain ⟨x, r⟩ := x
        have hrl := ha1.rest
        refine WL.nil ?_
        refine thenQ.normal ?_
        refine WC.seq ?_
        refine WC.region ?_
        refine WL.rd rfl rfl rfl ((by first | exact Rd.rowS rfl G29 rfl (by repeat (first | assumption | exact List.mem_cons_self | refine List.mem_cons_of_mem _ ?_)) (by repeat (first | exact NF.nil | apply NF.cons)) rfl | exact Rd.getS rfl G29 rfl (by repeat (first | assumption | exact List.mem_cons_self | refine List.mem_cons_of_mem _ ?_)) (by intro x; first | rfl | (cases x; rfl) | (rcases x with ⟨_, _, _⟩; rfl) | (rcases x with ⟨_, _, _, _⟩; rfl)) (by first | assumption | rfl | exact get!_of_lt (by omega)) (by repeat (first | exact NF.nil | apply NF.cons)) | exact Rd.getSA rfl G29 rfl (by repeat (first | assumption | exact List.mem_cons_self | refine List.mem_cons_of_mem _ ?_)) (by intro x; first | rfl | (cases x; rfl) | (rcases x with ⟨_, _, _⟩; rfl) | (rcases x with ⟨_, _, _, _⟩; rfl)) (by first | assumption | rfl | exact get!_of_lt (by omega)) (by repeat (first | exact NF.nil | apply NF.cons)))) ?_
        refine WL.op rfl ?_
        refine OpW.alloc rfl I29 rfl (by repeat (first | exact NF.nil | apply NF.cons)) rfl rfl ?_; intro b8
        refine WL.op rfl ?_
        refine OpW.storeS rfl G29 rfl rfl (by repeat (first | exact NF.nil | apply NF.cons)) (by repeat (first | assumption | exact Take.head _ | apply Take.tail)) rfl rfl (by repeat (first | exact NF.nil | apply NF.cons)) rfl ?_
        refine WL.nil ?_
        refine thenQ.normal ?_
        refine WC.seq ?_
        refine WC.region ?_
        refine WL.rd rfl rfl rfl (Rd.move rfl rfl) ?_
        refine WL.op rfl ?_
        refine OpW.call rfl rfl (by repeat (first | exact Evs.nil | apply Evs.cons rfl)) (by kernel_rfl) rfl rfl rfl ?_
        refine Fun.heap (R' := R) (O' := rowC b7 29 (hcell x true r a.length) :: rowC b8 29 (hcell x true r a.length) :: O) (fun w h => OwnL.sat (by repeat (first | exact OwnL.refl | apply OwnL.take (by repeat (first | exact Take.head _ | apply Take.tail)) | apply OwnL.drop)) w (h.thin (SubL.mem (by repeat (first | exact SubL.refl | refine SubL.cons (by repeat (first | assumption | exact List.mem_cons_self | refine List.mem_cons_of_mem _ ?_)) ?_ | refine SubL.skip ?_))))) ?_
        refine hput_spec (v := x) (g := true) (r := r) (n := a.length) hr ha1.1 (by omega) (by simp only at hrl; omega) ?_
        have hb1 := ha1.put b
        generalize blocks (x.begun true) (r ++ b) = y at hb1 ⊢
        obtain ⟨y, s⟩ := y
        refine WL.nil ?_
        refine thenQ.normal ?_
        refine WC.seq ?_
        refine WC.region ?_
        refine WL.rd rfl rfl rfl (Rd.move rfl rfl) ?_
        refine WL.op rfl ?_
        refine OpW.call rfl rfl (by repeat (first | exact Evs.nil | apply Evs.cons rfl)) (by kernel_rfl) rfl rfl rfl ?_
        refine Fun.heap (R' := R) (O' := rowC b8 29 (hcell x true r a.length) :: rowC b7 29 (hcell y true s (a.length + b.length)) :: O) (fun w h => OwnL.sat (by repeat (first | exact OwnL.refl | apply OwnL.take (by repeat (first | exact Take.head _ | apply Take.tail)) | apply OwnL.drop)) w (h.thin (SubL.mem (by repeat (first | exact SubL.refl | refine SubL.cons (by repeat (first | assumption | exact List.mem_cons_self | refine List.mem_cons_of_mem _ ?_)) ?_ | refine SubL.skip ?_))))) ?_
        refine hput_spec (v := x) (g := true) (r := r) (n := a.length) hr ha1.1 (by omega) (by simp only at hrl; omega) ?_
        have hc1 := ha1.put c
        generalize blocks (x.begun true) (r ++ c) = z at hc1 ⊢
        obtain ⟨z, u⟩ := z
        refine WL.nil ?_
        refine thenQ.normal ?_
        refine WC.seq ?_
        refine WC.region ?_
        refine WL.rd rfl rfl rfl (Rd.assign rfl rfl) ?_
        refine WL.nil ?_
        refine thenQ.normal ?_
        refine WC.seq ?_
        refine WC.region ?_
        refine WL.rd rfl rfl rfl (Rd.move rfl rfl) ?_
        refine WL.rd rfl rfl rfl (Rd.move rfl rfl) ?_
        refine WL.op rfl ?_
        refine OpW.call rfl rfl (by repeat (first | exact Evs.nil | apply Evs.cons rfl)) (by kernel_rfl) rfl rfl rfl ?_
        refine put_nil ?_
        refine WL.nil ?_
        refine thenQ.normal ?_
        refine WC.seq ?_
        refine WC.region ?_
        refine WL.op rfl ?_
        refine OpW.call rfl rfl (by repeat (first | exact Evs.nil | apply Evs.cons rfl)) (by kernel_rfl) rfl rfl rfl ?_
        refine Fun.heap (R' := R) (O' := rowC b7 29 (hcell y true s (a.length + b.length)) :: rowC b8 29 (hcell z true u (a.length + c.length)) :: O) (fun w h => OwnL.sat (by repeat (first | exact OwnL.refl | apply OwnL.take (by repeat (first | exact Take.head _ | apply Take.tail)) | apply OwnL.drop)) w (h.thin (SubL.mem (by repeat (first | exact SubL.refl | refine SubL.cons (by repeat (first | assumption | exact List.mem_cons_self | refine List.mem_cons_of_mem _ ?_)) ?_ | refine SubL.skip ?_))))) ?_
        refine hsum_spec (v := y) (g := true) (r := s) (t := a ++ b) hr hb1 (by omega) ?_
        refine WL.rd rfl rfl rfl (Rd.move rfl rfl) ?_
        refine WL.rd rfl rfl rfl (Rd.move rfl rfl) ?_
        refine WL.op rfl ?_
        refine OpW.buildSl (ps := [(0, _), (1, _)]) rfl S30 (by repeat (first | exact Evs.nil | apply Evs.cons rfl)) rfl rfl (by repeat (first | exact CellsOf.nil | apply CellsOf.cons rfl)) (by kernel_rfl) rfl rfl rfl ?_; intro b49
        refine WL.heap (fun w h => h.shareRow (m := 2) (enc := one vs) (xs := [a, b]) (by repeat (first | assumption | exact Take.head _ | apply Take.tail)) rfl rfl (by omega)) ?_
        refine WL.op rfl ?_
        refine OpW.call rfl rfl (by repeat (first | exact Evs.nil | apply Evs.cons rfl)) (by kernel_rfl) rfl rfl rfl ?_
        refine shaSum_spec (l := [a, b]) (by repeat (first | assumption | exact List.mem_cons_self | refine List.mem_cons_of_mem _ ?_)) (by repeat (first | assumption | exact List.mem_cons_self | refine List.mem_cons_of_mem _ ?_)) (by simp; omega) ?_
        rw [show [a, b].flatten = a ++ b from by simp]
        refine WL.rd rfl rfl rfl (Rd.seql rfl rfl rfl) ?_
        refine WL.rd rfl rfl rfl (Rd.move rfl rfl) ?_
        refine WL.case 52 rfl (fun hg52 => ?_) (fun hg52 => ?_)
        · skip
          refine WL.op_yes rfl rfl rfl rfl ?_
          refine OpW.call rfl rfl (by repeat (first | exact Evs.nil | apply Evs.cons rfl)) (by kernel_rfl) rfl rfl rfl ?_
          refine Fun.heap (R' := SlE (one vs) (.slice (some ⟨b49, 0, none⟩) 2 2) [a, b] :: R) (O' := rowC b8 29 (hcell z true u (a.length + c.length)) :: rowC b7 29 (hcell y true s (a.length + b.length)) :: O) (fun w h => OwnL.sat (by repeat (first | exact OwnL.refl | apply OwnL.take (by repeat (first | exact Take.head _ | apply Take.tail)) | apply OwnL.drop)) w (h.thin (SubL.mem (by repeat (first | exact SubL.refl | refine SubL.cons (by repeat (first | assumption | exact List.mem_cons_self | refine List.mem_cons_of_mem _ ?_)) ?_ | refine SubL.skip ?_))))) ?_
          refine hsum_spec (v := z) (g := true) (r := u) (t := a ++ c) (by repeat (first | assumption | exact List.mem_cons_self | refine List.mem_cons_of_mem _ ?_)) hc1 (by omega) ?_
          refine WL.rd_yes rfl rfl rfl rfl rfl rfl (Rd.move rfl rfl) ?_
          refine WL.rd_yes rfl rfl rfl rfl rfl rfl (Rd.move rfl rfl) ?_
          refine WL.rd_yes rfl rfl rfl rfl rfl rfl (Rd.scat rfl rfl rfl (by omega)) ?_
          refine WL.op_yes rfl rfl rfl rfl ?_
          refine OpW.buildSl (ps := [(0, _)]) rfl S30 (by repeat (first | exact Evs.nil | apply Evs.cons rfl)) rfl rfl (by repeat (first | exact CellsOf.nil | apply CellsOf.cons rfl)) (by kernel_rfl) rfl rfl rfl ?_; intro b57
          refine WL.heap (fun w h => h.shareRow (m := 1) (enc := one vs) (xs := [a ++ c]) (by repeat (first | assumption | exact Take.head _ | apply Take.tail)) rfl rfl (by omega)) ?_
          refine WL.op_yes rfl rfl rfl rfl ?_
          refine OpW.call rfl rfl (by repeat (first | exact Evs.nil | apply Evs.cons rfl)) (by kernel_rfl) rfl rfl rfl ?_
          refine shaSum_spec (l := [a ++ c]) (by repeat (first | assumption | exact List.mem_cons_self | refine List.mem_cons_of_mem _ ?_)) (by repeat (first | assumption | exact List.mem_cons_self | refine List.mem_cons_of_mem _ ?_)) (by simp; omega) ?_
          rw [show [a ++ c].flatten = a ++ c from by simp]
          refine WL.rd_yes rfl rfl rfl rfl rfl rfl (Rd.seql rfl rfl rfl) ?_
          refine WL.rd rfl rfl rfl (Rd.pick_t rfl rfl rfl) ?_
          refine WL.rd rfl rfl rfl (Rd.move rfl rfl) ?_
          refine WL.case 61 rfl (fun hg61 => ?_) (fun hg61 => ?_)
          · skip
            refine WL.rd_yes rfl rfl rfl rfl rfl rfl (Rd.move rfl rfl) ?_
            refine WL.op_yes rfl rfl rfl rfl ?_
            refine OpW.call rfl rfl (by repeat (first | exact Evs.nil | apply Evs.cons rfl)) (by kernel_rfl) rfl rfl rfl ?_
            refine sum_nil ?_
            refine WL.rd_yes rfl rfl rfl rfl rfl rfl (Rd.seql rfl rfl rfl) ?_
            refine WL.rd rfl rfl rfl (Rd.pick_t rfl rfl rfl) ?_
            refine WL.rd rfl rfl rfl (Rd.assign rfl rfl) ?_
            refine WL.nil ?_
            refine thenQ.normal ?_
            -- ret_2
            refine WC.heap (R' := R) (O' := O) (fun w h => OwnL.sat (by repeat (first | exact OwnL.refl | apply OwnL.take (by repeat (first | exact Take.head _ | apply Take.tail)) | apply OwnL.drop)) w (h.thin (SubL.mem (by repeat (first | exact SubL.refl | refine SubL.cons (by repeat (first | assumption | exact List.mem_cons_self | refine List.mem_cons_of_mem _ ?_)) ?_ | refine SubL.skip ?_))))) ?_
            refine WC.ret (Ret.one Tryd.results4 rfl ?_)
            simpa using hk
          · skip
            simp at hg61
        · skip
          simp at hg52
def moreE (l : List (List UInt8)) : List (List UInt8) := l.flatMap fun s => [[], s]
theorem moreE_snoc {l : List (List UInt8)} {i : Nat} (h : i < l.length) : moreE (l.take (i + 1)) = moreE (l.take i) ++ [[], l[i]!] := by
  rw [List.take_add_one, get!_of_lt h, moreE, List.flatMap_append]; rfl
theorem moreE_flat (l : List (List UInt8)) : (moreE l).flatten = l.flatten := by
  induction l with
  | nil => rfl
  | cons a l ih => rw [moreE, List.flatMap_cons, List.flatten_append, ← moreE, ih]; simp
theorem moreE_length (l : List (List UInt8)) : (moreE l).length = 2 * l.length := by
  induction l with
  | nil => rfl
  | cons a l ih => rw [moreE, List.flatMap_cons, List.length_append, ← moreE, ih]; simp; omega
set_option maxHeartbeats 2000000 in
theorem parts_spec {R : List RO} {O : List Own} {POST : Value → List RO → List Own → Prop} {l : List (List UInt8)} {lv : Value} (hr : rootsR ∈ R) (hl : SlE (one vs) lv l ∈ R) (hk : POST (.bool true) R O) : Fun Tryd.prog 5 #[lv] R O POST := by
  refine Fun.len hl fun hll => ?_
  refine Fun.enter (l := [_]) Tryd.func5 rfl Tryd.ntmps5 rfl (L0 := [(0, _)]) rfl ?_
  refine WC.seq ?_
  refine WC.region ?_
  refine WL.rd rfl rfl rfl (Rd.assign rfl rfl) ?_
  refine WL.nil ?_
  refine thenQ.normal ?_
  refine WC.seq ?_
  refine WC.seq ?_
  refine WC.region ?_
  refine WL.op rfl ?_
  refine OpW.call rfl rfl (by repeat (first | exact Evs.nil | apply Evs.cons rfl)) (by kernel_rfl) rfl rfl rfl ?_
  refine speaks_spec hr ?_
  refine WL.rd rfl rfl rfl ((by first | exact Rd.notd rfl rfl | exact Rd.not rfl rfl)) ?_
  refine WL.nil ?_
  refine thenQ.normal ?_
  first | refine WC.ite rfl (fun hc1 => ?_) (fun hc1 => ?_) | refine WC.cond rfl (fun hc1 => ?_) (fun hc1 => ?_)
  · skip
    cases hc1
  · skip
    refine WC.skip ?_
    refine thenQ.normal ?_
    refine WC.seq ?_
    refine WC.region ?_
    refine WL.rd rfl rfl rfl (Rd.assign rfl rfl) ?_
    refine WL.nil ?_
    refine thenQ.normal ?_
    refine WC.seq ?_
    refine WC.region ?_
    refine WL.rd rfl rfl rfl (Rd.assign rfl rfl) ?_
    refine WL.nil ?_
    refine thenQ.normal ?_
    refine WC.seq ?_
    refine WC.seq ?_
    refine WC.region ?_
    refine WL.rd rfl rfl rfl (Rd.assign rfl rfl) ?_
    refine WL.nil ?_
    refine thenQ.normal ?_
    refine WC.block ?_
    refine WC.pick [5, 3, 4, 0] (by repeat (first | exact Pick.nil | apply Pick.cons rfl)) ?_
    refine WC.loop2 3 (fun (i : Nat) (v : Value) => [(5, .int .i64 (i : Int)), (3, vs (l.take i).flatten), (4, v)]) (fun (i : Nat) (v : Value) => accC 9 1 (one vs) v (moreE (l.take i)) :: O) (fun (i : Nat) (v : Value) => i ≤ l.length ∧ i ≤ 20 ∧ (l.take i).flatten.length ≤ 500 * i ∧ OneV v) (fun (i : Nat) (v : Value) => l.length - i) (0) (.slice none 0 0) (by repeat (first | exact Split.zero | apply Split.succ)) ?hinv1 (by repeat (first | exact Sub.nil | refine Sub.cons rfl (by first | rfl | (congr 1; omega) | assumption) ?_)) (fun w h => h.accNil (α := List UInt8) (e := 9) (size := 1) (enc := one vs)) ?_
    case hinv1 =>
      exact ⟨Nat.zero_le _, Nat.zero_le _, Nat.le_refl _, OneV.sl⟩
    intro i v
    rintro ⟨i1, i2, i3, i4⟩
    
    have hml := moreE_length (l.take i)
    rw [List.length_take] at hml
    refine WC.seq ?_
    refine WC.pick [0, 3, 4, 5] (by repeat (first | exact Pick.nil | apply Pick.cons rfl)) ?_
    refine WC.val 15 (.bool (decide (i < l.length ∧ i < 20))) ?_ ?_
    · skip
      refine WC.region ?_
      refine WL.rd rfl rfl rfl (Rd.move rfl rfl) ?_
      refine WL.rd rfl rfl rfl (Rd.move rfl rfl) ?_
      refine WL.rd rfl rfl rfl ((by first | exact Rd.lenE rfl rfl Tryd.underlying30 (by repeat (first | assumption | exact List.mem_cons_self | refine List.mem_cons_of_mem _ ?_)) | exact Rd.lenA rfl rfl Tryd.underlying30 (by repeat (first | assumption | exact List.mem_cons_self | refine List.mem_cons_of_mem _ ?_)) | exact Rd.len rfl rfl Tryd.underlying30)) ?_
      refine WL.rd rfl rfl rfl (Rd.lss rfl rfl rfl) ?_
      refine WL.rd rfl rfl rfl (Rd.move rfl rfl) ?_
      refine WL.case 12 rfl (fun hg12 => ?_) (fun hg12 => ?_)
      · skip
        refine WL.rd_yes rfl rfl rfl rfl rfl rfl (Rd.move rfl rfl) ?_
        refine WL.rd_yes rfl rfl rfl rfl rfl rfl (Rd.lss rfl rfl rfl) ?_
        refine WL.rd rfl rfl rfl (Rd.pick_t rfl rfl rfl) ?_
        refine WL.nil ?_
        exact ⟨by repeat (first | exact Sub.nil | refine Sub.cons rfl (by first | rfl | (first | rfl | exact vb (by omega) | exact vb_t (by omega) | exact vb_f (by omega) | (simp [*]; done) | (simp_all; done))) ?_), by first | exact (fun _ h => h.thin (SubL.mem (by repeat (first | exact SubL.refl | refine SubL.cons (by repeat (first | assumption | exact List.mem_cons_self | refine List.mem_cons_of_mem _ ?_)) ?_ | refine SubL.skip ?_)))) | exact (fun w h => OwnL.sat (by repeat (first | exact OwnL.refl | apply OwnL.take (by repeat (first | exact Take.head _ | apply Take.tail)) | apply OwnL.drop)) w (h.thin (SubL.mem (by repeat (first | exact SubL.refl | refine SubL.cons (by repeat (first | assumption | exact List.mem_cons_self | refine List.mem_cons_of_mem _ ?_)) ?_ | refine SubL.skip ?_)))))⟩
      · skip
        refine WL.no rfl rfl rfl rfl rfl rfl ?_
        refine WL.no rfl rfl rfl rfl rfl rfl ?_
        refine WL.rd rfl rfl rfl (Rd.pick_f rfl rfl rfl) ?_
        refine WL.nil ?_
        exact ⟨by repeat (first | exact Sub.nil | refine Sub.cons rfl (by first | rfl | (first | rfl | exact vb (by omega) | exact vb_t (by omega) | exact vb_f (by omega) | (simp [*]; done) | (simp_all; done))) ?_), by first | exact (fun _ h => h.thin (SubL.mem (by repeat (first | exact SubL.refl | refine SubL.cons (by repeat (first | assumption | exact List.mem_cons_self | refine List.mem_cons_of_mem _ ?_)) ?_ | refine SubL.skip ?_)))) | exact (fun w h => OwnL.sat (by repeat (first | exact OwnL.refl | apply OwnL.take (by repeat (first | exact Take.head _ | apply Take.tail)) | apply OwnL.drop)) w (h.thin (SubL.mem (by repeat (first | exact SubL.refl | refine SubL.cons (by repeat (first | assumption | exact List.mem_cons_self | refine List.mem_cons_of_mem _ ?_)) ?_ | refine SubL.skip ?_)))))⟩
    · skip
      first | refine WC.ite rfl (fun hc2 => ?_) (fun hc2 => ?_) | refine WC.cond rfl (fun hc2 => ?_) (fun hc2 => ?_)
      · skip
        refine WC.skip ?_
        refine thenQ.normal ?_
        refine WC.seq ?_
        refine WC.block ?_
        refine WC.seq ?_
        refine WC.seq ?_
        refine WC.region ?_
        refine WL.rd rfl rfl rfl (Rd.move rfl rfl) ?_
        refine WL.rd rfl rfl rfl (Rd.move rfl rfl) ?_
        refine WL.rd rfl rfl rfl ((by first | exact Rd.idx1 (k := i) rfl S30 rfl rfl (by omega) (by repeat (first | assumption | exact List.mem_cons_self | refine List.mem_cons_of_mem _ ?_)) (by first | omega | (simp only [List.length_cons, List.length_nil, List.length_append, List.length_map]; omega)) | exact Rd.idxA1 (k := i) rfl S30 rfl rfl (by omega) (by repeat (first | assumption | exact List.mem_cons_self | refine List.mem_cons_of_mem _ ?_)) (by first | omega | (simp only [List.length_cons, List.length_nil, List.length_append, List.length_map]; omega)) | exact Rd.idxR1 (k := i) rfl S30 rfl rfl (by omega) (by omega))) ?_
        refine WL.rd rfl rfl rfl ((by first | exact Rd.get rfl C9 rfl (by repeat (first | assumption | exact List.mem_cons_self | refine List.mem_cons_of_mem _ ?_)) (by first | assumption | rfl | exact get!_of_lt (by omega)) | exact Rd.getA rfl C9 rfl (by repeat (first | assumption | exact List.mem_cons_self | refine List.mem_cons_of_mem _ ?_)) (by first | assumption | rfl | exact get!_of_lt (by omega)) | exact Rd.row1 rfl C9 rfl (by repeat (first | assumption | exact List.mem_cons_self | refine List.mem_cons_of_mem _ ?_)) (by rfl) | exact Rd.getF rfl C9 rfl (by repeat (first | assumption | exact List.mem_cons_self | refine List.mem_cons_of_mem _ ?_)) (by intro x; first | rfl | (cases x; rfl) | (rcases x with ⟨_, _, _⟩; rfl) | (rcases x with ⟨_, _, _, _⟩; rfl)) rfl (by first | assumption | rfl | exact get!_of_lt (by omega)) (by rfl) | exact Rd.getFA rfl C9 rfl (by repeat (first | assumption | exact List.mem_cons_self | refine List.mem_cons_of_mem _ ?_)) (by intro x; first | rfl | (cases x; rfl) | (rcases x with ⟨_, _, _⟩; rfl) | (rcases x with ⟨_, _, _, _⟩; rfl)) rfl (by first | assumption | rfl | exact get!_of_lt (by omega)) (by rfl))) ?_
        refine WL.rd rfl rfl rfl (Rd.slen (ts := #[]) (ty := 0) rfl rfl Tryd.underlying9) ?_
        refine WL.rd rfl rfl rfl (Rd.gtr rfl rfl rfl) ?_
        refine WL.nil ?_
        refine thenQ.normal ?_
        first | refine WC.ite rfl (fun hc3 => ?_) (fun hc3 => ?_) | refine WC.cond rfl (fun hc3 => ?_) (fun hc3 => ?_)
        · skip
          refine WC.seq ?_
          refine WC.region ?_
          refine WL.rd rfl rfl rfl (Rd.assign rfl rfl) ?_
          refine WL.nil ?_
          refine thenQ.normal ?_
          -- ret_1
          refine WC.heap (R' := R) (O' := O) (fun w h => OwnL.sat (by repeat (first | exact OwnL.refl | apply OwnL.take (by repeat (first | exact Take.head _ | apply Take.tail)) | apply OwnL.drop)) w (h.thin (SubL.mem (by repeat (first | exact SubL.refl | refine SubL.cons (by repeat (first | assumption | exact List.mem_cons_self | refine List.mem_cons_of_mem _ ?_)) ?_ | refine SubL.skip ?_))))) ?_
          refine WC.ret (Ret.one Tryd.results5 rfl ?_)
          exact hk
        · skip
          have hf := flatten_snoc (l := l) (i := i) (by omega)
          have hfl := congrArg List.length hf
          rw [List.length_append] at hfl
          refine WC.skip ?_
          refine thenQ.normal ?_
          refine WC.seq ?_
          refine WC.region ?_
          refine WL.rd rfl rfl rfl (Rd.move rfl rfl) ?_
          refine WL.rd rfl rfl rfl (Rd.move rfl rfl) ?_
          refine WL.rd rfl rfl rfl (Rd.move rfl rfl) ?_
          refine WL.rd rfl rfl rfl ((by first | exact Rd.idx1 (k := i) rfl S30 rfl rfl (by omega) (by repeat (first | assumption | exact List.mem_cons_self | refine List.mem_cons_of_mem _ ?_)) (by first | omega | (simp only [List.length_cons, List.length_nil, List.length_append, List.length_map]; omega)) | exact Rd.idxA1 (k := i) rfl S30 rfl rfl (by omega) (by repeat (first | assumption | exact List.mem_cons_self | refine List.mem_cons_of_mem _ ?_)) (by first | omega | (simp only [List.length_cons, List.length_nil, List.length_append, List.length_map]; omega)) | exact Rd.idxR1 (k := i) rfl S30 rfl rfl (by omega) (by omega))) ?_
          refine WL.rd rfl rfl rfl ((by first | exact Rd.get rfl C9 rfl (by repeat (first | assumption | exact List.mem_cons_self | refine List.mem_cons_of_mem _ ?_)) (by first | assumption | rfl | exact get!_of_lt (by omega)) | exact Rd.getA rfl C9 rfl (by repeat (first | assumption | exact List.mem_cons_self | refine List.mem_cons_of_mem _ ?_)) (by first | assumption | rfl | exact get!_of_lt (by omega)) | exact Rd.row1 rfl C9 rfl (by repeat (first | assumption | exact List.mem_cons_self | refine List.mem_cons_of_mem _ ?_)) (by rfl) | exact Rd.getF rfl C9 rfl (by repeat (first | assumption | exact List.mem_cons_self | refine List.mem_cons_of_mem _ ?_)) (by intro x; first | rfl | (cases x; rfl) | (rcases x with ⟨_, _, _⟩; rfl) | (rcases x with ⟨_, _, _, _⟩; rfl)) rfl (by first | assumption | rfl | exact get!_of_lt (by omega)) (by rfl) | exact Rd.getFA rfl C9 rfl (by repeat (first | assumption | exact List.mem_cons_self | refine List.mem_cons_of_mem _ ?_)) (by intro x; first | rfl | (cases x; rfl) | (rcases x with ⟨_, _, _⟩; rfl) | (rcases x with ⟨_, _, _, _⟩; rfl)) rfl (by first | assumption | rfl | exact get!_of_lt (by omega)) (by rfl))) ?_
          refine WL.rd rfl rfl rfl (Rd.scat rfl rfl rfl (by omega)) ?_
          refine WL.say 29 (u := vs (l.take (i + 1)).flatten) rfl (by rw [hf]) ?_
          refine WL.rd rfl rfl rfl (Rd.assign rfl rfl) ?_
          refine WL.nil ?_
          refine thenQ.normal ?_
          refine WC.region ?_
          refine WL.rd rfl rfl rfl (Rd.move rfl rfl) ?_
          refine WL.rd rfl rfl rfl (Rd.move rfl rfl) ?_
          refine WL.rd rfl rfl rfl (Rd.move rfl rfl) ?_
          refine WL.rd rfl rfl rfl ((by first | exact Rd.idx1 (k := i) rfl S30 rfl rfl (by omega) (by repeat (first | assumption | exact List.mem_cons_self | refine List.mem_cons_of_mem _ ?_)) (by first | omega | (simp only [List.length_cons, List.length_nil, List.length_append, List.length_map]; omega)) | exact Rd.idxA1 (k := i) rfl S30 rfl rfl (by omega) (by repeat (first | assumption | exact List.mem_cons_self | refine List.mem_cons_of_mem _ ?_)) (by first | omega | (simp only [List.length_cons, List.length_nil, List.length_append, List.length_map]; omega)) | exact Rd.idxR1 (k := i) rfl S30 rfl rfl (by omega) (by omega))) ?_
          refine WL.rd rfl rfl rfl ((by first | exact Rd.get rfl C9 rfl (by repeat (first | assumption | exact List.mem_cons_self | refine List.mem_cons_of_mem _ ?_)) (by first | assumption | rfl | exact get!_of_lt (by omega)) | exact Rd.getA rfl C9 rfl (by repeat (first | assumption | exact List.mem_cons_self | refine List.mem_cons_of_mem _ ?_)) (by first | assumption | rfl | exact get!_of_lt (by omega)) | exact Rd.row1 rfl C9 rfl (by repeat (first | assumption | exact List.mem_cons_self | refine List.mem_cons_of_mem _ ?_)) (by rfl) | exact Rd.getF rfl C9 rfl (by repeat (first | assumption | exact List.mem_cons_self | refine List.mem_cons_of_mem _ ?_)) (by intro x; first | rfl | (cases x; rfl) | (rcases x with ⟨_, _, _⟩; rfl) | (rcases x with ⟨_, _, _, _⟩; rfl)) rfl (by first | assumption | rfl | exact get!_of_lt (by omega)) (by rfl) | exact Rd.getFA rfl C9 rfl (by repeat (first | assumption | exact List.mem_cons_self | refine List.mem_cons_of_mem _ ?_)) (by intro x; first | rfl | (cases x; rfl) | (rcases x with ⟨_, _, _⟩; rfl) | (rcases x with ⟨_, _, _, _⟩; rfl)) rfl (by first | assumption | rfl | exact get!_of_lt (by omega)) (by rfl))) ?_
          refine WL.op rfl ?_
          refine OpW.buildSl (ps := [(0, _), (1, _)]) rfl S30 (by repeat (first | exact Evs.nil | apply Evs.cons rfl)) rfl rfl (by repeat (first | exact CellsOf.nil | apply CellsOf.cons rfl)) (by kernel_rfl) rfl rfl rfl ?_; intro b35
          refine WL.op rfl ?_
          refine OpW.appendRow (enc := one vs) rfl S30 rfl rfl (by repeat (first | assumption | exact Take.head _ | apply Take.tail)) (by repeat (first | assumption | exact Take.head _ | apply Take.tail)) [[], l[i]!] rfl (by rfl) rfl (by intro x; first | rfl | (cases x; rfl) | (rcases x with ⟨_, _, _⟩; rfl) | (rcases x with ⟨_, _, _, _⟩; rfl)) (by intro x; first | rfl | (cases x; rfl) | (rcases x with ⟨_, _, _⟩; rfl) | (rcases x with ⟨_, _, _, _⟩; rfl)) ⟨by simp only [maxLen, List.length_append, List.length_nil, List.length_cons, List.length_drop, List.length_take, List.length_map]; omega, by first | omega | (simp only [List.length_append, List.length_nil, List.length_cons, List.length_drop, List.length_take, List.length_map]; omega)⟩ rfl rfl ?_; intro v36 hv36
          refine WL.rd rfl rfl rfl (Rd.assign rfl rfl) ?_
          refine WL.nil ?_
          refine blockQ.normal ?_
          refine thenQ.normal ?_
          refine WC.region ?_
          refine WL.rd rfl rfl rfl (Rd.move rfl rfl) ?_
          refine WL.rd rfl rfl rfl (Rd.add rfl rfl rfl (by omega)) ?_
          refine WL.rd rfl rfl rfl (Rd.assign rfl rfl) ?_
          refine WL.nil ?_
          -- next1_1
          exact loopQ2.mk (i + 1) v36 ⟨by omega, by omega, by omega, hv36⟩ (by omega) (by repeat (first | exact Sub.nil | refine Sub.cons rfl (by first | rfl | (congr 1; omega) | assumption) ?_)) (fun w h => by rw [moreE_snoc (by omega)]; exact (fun w h => OwnL.sat (by repeat (first | exact OwnL.refl | apply OwnL.take (by repeat (first | exact Take.head _ | apply Take.tail)) | apply OwnL.drop)) w (h.thin (SubL.mem (by repeat (first | exact SubL.refl | refine SubL.cons (by repeat (first | assumption | exact List.mem_cons_self | refine List.mem_cons_of_mem _ ?_)) ?_ | refine SubL.skip ?_))))) w h)
      · skip
        obtain ⟨T, hT⟩ : ∃ T, T = (l.take i).flatten := ⟨_, rfl⟩
        have hmf := moreE_flat (l.take i)
        rw [← hT] at i3 hmf ⊢
        refine WC.heap (fun w h => h.shareA (by repeat (first | assumption | exact Take.head _ | apply Take.tail))) ?_
        refine WC.exit ?_
        refine thenQ.exit ?_
        refine loopQ2.exit ?_
        refine blockQ.exit ?_
        refine thenQ.normal ?_
        refine WC.seq ?_
        refine WC.region ?_
        refine WL.rd rfl rfl rfl (Rd.move rfl rfl) ?_
        refine WL.op rfl ?_
        refine OpW.call rfl rfl (by repeat (first | exact Evs.nil | apply Evs.cons rfl)) (by kernel_rfl) rfl rfl rfl ?_
        refine shaSum_spec (l := moreE (l.take i)) (by repeat (first | assumption | exact List.mem_cons_self | refine List.mem_cons_of_mem _ ?_)) (by repeat (first | assumption | exact List.mem_cons_self | refine List.mem_cons_of_mem _ ?_)) (by rw [hmf]; omega) ?_
        rw [hmf]
        refine WL.rd rfl rfl rfl (Rd.move rfl rfl) ?_
        refine WL.op rfl ?_
        refine OpW.buildSl (ps := [(0, _)]) rfl S30 (by repeat (first | exact Evs.nil | apply Evs.cons rfl)) rfl rfl (by repeat (first | exact CellsOf.nil | apply CellsOf.cons rfl)) (by kernel_rfl) rfl rfl rfl ?_; intro b40
        refine WL.heap (fun w h => h.shareRow (m := 1) (enc := one vs) (xs := [T]) (by repeat (first | assumption | exact Take.head _ | apply Take.tail)) rfl rfl (by omega)) ?_
        refine WL.op rfl ?_
        refine OpW.call rfl rfl (by repeat (first | exact Evs.nil | apply Evs.cons rfl)) (by kernel_rfl) rfl rfl rfl ?_
        refine shaSum_spec (l := [T]) (by repeat (first | assumption | exact List.mem_cons_self | refine List.mem_cons_of_mem _ ?_)) (by repeat (first | assumption | exact List.mem_cons_self | refine List.mem_cons_of_mem _ ?_)) (by simp; omega) ?_
        rw [show [T].flatten = T from by simp]
        refine WL.rd rfl rfl rfl (Rd.seql rfl rfl rfl) ?_
        refine WL.rd rfl rfl rfl (Rd.move rfl rfl) ?_
        refine WL.case 43 rfl (fun hg43 => ?_) (fun hg43 => ?_)
        · skip
          refine WL.rd_yes rfl rfl rfl rfl rfl rfl (Rd.move rfl rfl) ?_
          refine WL.op_yes rfl rfl rfl rfl ?_
          refine OpW.buildSl (ps := [(0, _)]) rfl S30 (by repeat (first | exact Evs.nil | apply Evs.cons rfl)) rfl rfl (by repeat (first | exact CellsOf.nil | apply CellsOf.cons rfl)) (by kernel_rfl) rfl rfl rfl ?_; intro b45
          refine WL.heap (fun w h => h.shareRow (m := 1) (enc := one vs) (xs := [T]) (by repeat (first | assumption | exact Take.head _ | apply Take.tail)) rfl rfl (by omega)) ?_
          refine WL.op_yes rfl rfl rfl rfl ?_
          refine OpW.call rfl rfl (by repeat (first | exact Evs.nil | apply Evs.cons rfl)) (by kernel_rfl) rfl rfl rfl ?_
          refine shaSum_spec (l := [T]) (by repeat (first | assumption | exact List.mem_cons_self | refine List.mem_cons_of_mem _ ?_)) (by repeat (first | assumption | exact List.mem_cons_self | refine List.mem_cons_of_mem _ ?_)) (by simp; omega) ?_
          rw [show [T].flatten = T from by simp]
          have hsl := shaE_length T
          refine WL.rd_yes rfl rfl rfl rfl rfl rfl (Rd.slen (ts := #[]) (ty := 0) rfl rfl Tryd.underlying9) ?_
          refine WL.rd_yes rfl rfl rfl rfl rfl rfl (Rd.eql rfl rfl rfl) ?_
          refine WL.rd rfl rfl rfl (Rd.pick_t rfl rfl rfl) ?_
          refine WL.rd rfl rfl rfl (Rd.move rfl rfl) ?_
          refine WL.case 50 rfl (fun hg50 => ?_) (fun hg50 => ?_)
          · skip
            refine WL.heap (fun w h => h.nilE (α := List UInt8) (enc := one vs)) ?_
            refine WL.op_yes rfl rfl rfl rfl ?_
            refine OpW.call rfl rfl (by repeat (first | exact Evs.nil | apply Evs.cons rfl)) (by kernel_rfl) rfl rfl rfl ?_
            refine shaSum_spec (l := []) (by repeat (first | assumption | exact List.mem_cons_self | refine List.mem_cons_of_mem _ ?_)) (by repeat (first | assumption | exact List.mem_cons_self | refine List.mem_cons_of_mem _ ?_)) (by simp) ?_
            rw [show ([] : List (List UInt8)).flatten = [] from rfl]
            refine WL.op_yes rfl rfl rfl rfl ?_
            refine OpW.buildSl (ps := [(0, _)]) rfl S30 (by repeat (first | exact Evs.nil | apply Evs.cons rfl)) rfl rfl (by repeat (first | exact CellsOf.nil | apply CellsOf.cons rfl)) (by kernel_rfl) rfl rfl rfl ?_; intro b52
            refine WL.heap (fun w h => h.shareRow (m := 1) (enc := one vs) (xs := [[]]) (by repeat (first | assumption | exact Take.head _ | apply Take.tail)) rfl rfl (by omega)) ?_
            refine WL.op_yes rfl rfl rfl rfl ?_
            refine OpW.call rfl rfl (by repeat (first | exact Evs.nil | apply Evs.cons rfl)) (by kernel_rfl) rfl rfl rfl ?_
            refine shaSum_spec (l := [[]]) (by repeat (first | assumption | exact List.mem_cons_self | refine List.mem_cons_of_mem _ ?_)) (by repeat (first | assumption | exact List.mem_cons_self | refine List.mem_cons_of_mem _ ?_)) (by simp) ?_
            rw [show ([[]] : List (List UInt8)).flatten = [] from rfl]
            refine WL.rd_yes rfl rfl rfl rfl rfl rfl (Rd.seql rfl rfl rfl) ?_
            refine WL.rd rfl rfl rfl (Rd.pick_t rfl rfl rfl) ?_
            refine WL.rd rfl rfl rfl (Rd.assign rfl rfl) ?_
            refine WL.nil ?_
            refine thenQ.normal ?_
            -- ret_2
            refine WC.heap (R' := R) (O' := O) (fun w h => OwnL.sat (by repeat (first | exact OwnL.refl | apply OwnL.take (by repeat (first | exact Take.head _ | apply Take.tail)) | apply OwnL.drop)) w (h.thin (SubL.mem (by repeat (first | exact SubL.refl | refine SubL.cons (by repeat (first | assumption | exact List.mem_cons_self | refine List.mem_cons_of_mem _ ?_)) ?_ | refine SubL.skip ?_))))) ?_
            refine WC.ret (Ret.one Tryd.results5 rfl ?_)
            simpa using hk
          · skip
            rw [hsl] at hg50; simp at hg50
        · skip
          simp at hg43
theorem hexL_spec {R : List RO} {O : List Own} {POST : Value → List RO → List Own → Prop} {s : List UInt8} (hr : rootsR ∈ R) (hk : POST (.bool true) R O) : Fun Tryd.prog 6 #[vs s] R O POST := by
  have hP : (hexE s).length = 64 ∧ Digs (hexE s) ↔ s.length = 32 := by
    unfold hexE
    by_cases h : s.length ≠ 32
    · rw [if_pos h]; constructor
      · rintro ⟨h1, _⟩; simp at h1
      · intro h1; exact absurd h1 h
    · rw [if_neg h, hx_length]
      exact ⟨fun _ => Decidable.not_not.1 h, fun h1 => ⟨by omega, hex_digs s⟩⟩
  have hQ : s.length = 32 → parseR (hexE s) = s := fun h => by rw [hexE, if_neg (by omega), parse_hex]
  refine Fun.enter (l := [_]) Tryd.func6 rfl Tryd.ntmps6 rfl (L0 := [(0, _)]) rfl ?_
  refine WC.seq ?_
  refine WC.region ?_
  refine WL.rd rfl rfl rfl (Rd.assign rfl rfl) ?_
  refine WL.nil ?_
  refine thenQ.normal ?_
  refine WC.seq ?_
  refine WC.seq ?_
  refine WC.region ?_
  refine WL.op rfl ?_
  refine OpW.call rfl rfl (by repeat (first | exact Evs.nil | apply Evs.cons rfl)) (by kernel_rfl) rfl rfl rfl ?_
  refine speaks_spec hr ?_
  refine WL.rd rfl rfl rfl ((by first | exact Rd.notd rfl rfl | exact Rd.not rfl rfl)) ?_
  refine WL.nil ?_
  refine thenQ.normal ?_
  first | refine WC.ite rfl (fun hc1 => ?_) (fun hc1 => ?_) | refine WC.cond rfl (fun hc1 => ?_) (fun hc1 => ?_)
  · skip
    cases hc1
  · skip
    refine WC.skip ?_
    refine thenQ.normal ?_
    refine WC.seq ?_
    refine WC.region ?_
    refine WL.rd rfl rfl rfl (Rd.move rfl rfl) ?_
    refine WL.op rfl ?_
    refine OpW.call rfl rfl (by repeat (first | exact Evs.nil | apply Evs.cons rfl)) (by kernel_rfl) rfl rfl rfl ?_
    refine hex_spec ?_
    refine WL.rd rfl rfl rfl (Rd.assign rfl rfl) ?_
    refine WL.nil ?_
    refine thenQ.normal ?_
    refine WC.seq ?_
    refine WC.seq ?_
    refine WC.region ?_
    refine WL.rd rfl rfl rfl (Rd.move rfl rfl) ?_
    refine WL.rd rfl rfl rfl (Rd.move rfl rfl) ?_
    refine WL.op rfl ?_
    refine OpW.call rfl rfl (by repeat (first | exact Evs.nil | apply Evs.cons rfl)) (by kernel_rfl) rfl rfl rfl ?_
    refine rhex_spec ?_
    refine WL.rd rfl rfl rfl (Rd.sneq rfl rfl rfl) ?_
    refine WL.nil ?_
    refine thenQ.normal ?_
    first | refine WC.ite rfl (fun hc2 => ?_) (fun hc2 => ?_) | refine WC.cond rfl (fun hc2 => ?_) (fun hc2 => ?_)
    · skip
      simp at hc2
    · skip
      refine WC.skip ?_
      refine thenQ.normal ?_
      refine WC.seq ?_
      refine WC.region ?_
      refine WL.rd rfl rfl rfl (Rd.move rfl rfl) ?_
      refine WL.op rfl ?_
      refine OpW.call rfl rfl (by repeat (first | exact Evs.nil | apply Evs.cons rfl)) (by kernel_rfl) rfl rfl rfl ?_
      refine parse_spec ?_
      rw [decide_eq_decide.2 hP]
      simp only [hP]
      refine WL.rd rfl rfl rfl (Rd.move rfl rfl) ?_
      refine WL.rd rfl rfl rfl (Rd.extract rfl rfl rfl) ?_
      refine WL.rd rfl rfl rfl (Rd.extract rfl rfl rfl) ?_
      refine WL.rd rfl rfl rfl (Rd.assign rfl rfl) ?_
      refine WL.rd rfl rfl rfl (Rd.assign rfl rfl) ?_
      refine WL.nil ?_
      refine thenQ.normal ?_
      refine WC.seq ?_
      refine WC.region ?_
      refine WL.rd rfl rfl rfl (Rd.move rfl rfl) ?_
      refine WL.rd rfl rfl rfl (Rd.move rfl rfl) ?_
      refine WL.rd rfl rfl rfl (Rd.slen (ts := #[]) (ty := 0) rfl rfl Tryd.underlying9) ?_
      refine WL.rd rfl rfl rfl (Rd.eql rfl rfl rfl) ?_
      refine WL.rd rfl rfl rfl (Rd.beql rfl rfl rfl Tryd.underlying4) ?_
      refine WL.say 23 (u := .bool (decide True)) rfl (by
      by_cases h : s.length = 32
      · simp [h]
      · have h2 : ¬ (s.length : Int) = 32 := by omega
        simp [h, h2]) ?_
      refine WL.rd rfl rfl rfl (Rd.move rfl rfl) ?_
      refine WL.case 24 rfl (fun hg24 => ?_) (fun hg24 => ?_)
      · skip
        refine WL.rd_yes rfl rfl rfl rfl rfl rfl (Rd.move rfl rfl) ?_
        refine WL.say 25 (u := .bool (decide (s.length = 32))) rfl rfl ?_
        refine WL.rd_yes rfl rfl rfl rfl rfl rfl ((by first | exact Rd.notd rfl rfl | exact Rd.not rfl rfl)) ?_
        refine WL.rd_yes rfl rfl rfl rfl rfl rfl (Rd.move rfl rfl) ?_
        refine WL.case 27 rfl (fun hg27 => ?_) (fun hg27 => ?_)
        · skip
          refine WL.no rfl rfl rfl rfl rfl rfl ?_
          refine WL.no rfl rfl rfl rfl rfl rfl ?_
          refine WL.no rfl rfl rfl rfl rfl rfl ?_
          refine WL.rd_yes rfl rfl rfl rfl rfl rfl (Rd.pick_t rfl rfl rfl) ?_
          refine WL.rd rfl rfl rfl (Rd.pick_t rfl rfl rfl) ?_
          refine WL.rd rfl rfl rfl (Rd.move rfl rfl) ?_
          refine WL.rd_yes rfl rfl rfl rfl rfl rfl (Rd.move rfl rfl) ?_
          refine WL.say 34 (u := .bool (decide (s.length = 32))) rfl rfl ?_
          refine WL.rd_yes rfl rfl rfl rfl rfl rfl (Rd.move rfl rfl) ?_
          refine WL.case 35 rfl (fun hg35 => ?_) (fun hg35 => ?_)
          · skip
            refine WL.no rfl rfl rfl rfl rfl rfl ?_
            refine WL.no rfl rfl rfl rfl rfl rfl ?_
            refine WL.rd_yes rfl rfl rfl rfl rfl rfl (Rd.pick_t rfl rfl rfl) ?_
            refine WL.rd rfl rfl rfl (Rd.pick_t rfl rfl rfl) ?_
            refine WL.rd rfl rfl rfl (Rd.assign rfl rfl) ?_
            refine WL.nil ?_
            refine thenQ.normal ?_
            -- ret_1
            refine WC.ret (Ret.one Tryd.results6 rfl ?_)
            simpa using hk
          · skip
            refine WL.rd_yes rfl rfl rfl rfl rfl rfl (Rd.move rfl rfl) ?_
            refine WL.rd_yes rfl rfl rfl rfl rfl rfl (Rd.seql rfl rfl rfl) ?_
            refine WL.say 37 (u := .bool (decide True)) rfl (by rw [if_neg hg35]; simp) ?_
            refine WL.rd_yes rfl rfl rfl rfl rfl rfl (Rd.pick_f rfl rfl rfl) ?_
            refine WL.rd rfl rfl rfl (Rd.pick_t rfl rfl rfl) ?_
            refine WL.rd rfl rfl rfl (Rd.assign rfl rfl) ?_
            refine WL.nil ?_
            refine thenQ.normal ?_
            -- ret_2
            refine WC.ret (Ret.one Tryd.results6 rfl ?_)
            simpa using hk
        · skip
          have h32 : s.length = 32 := by omega
          refine WL.rd_yes rfl rfl rfl rfl rfl rfl (Rd.move rfl rfl) ?_
          refine WL.rd_yes rfl rfl rfl rfl rfl rfl (Rd.move rfl rfl) ?_
          refine WL.rd_yes rfl rfl rfl rfl rfl rfl (Rd.seql rfl rfl rfl) ?_
          refine WL.say 30 (u := .bool (decide True)) rfl (by rw [if_pos h32, hQ h32]; simp) ?_
          refine WL.rd_yes rfl rfl rfl rfl rfl rfl (Rd.pick_f rfl rfl rfl) ?_
          refine WL.rd rfl rfl rfl (Rd.pick_t rfl rfl rfl) ?_
          refine WL.rd rfl rfl rfl (Rd.move rfl rfl) ?_
          refine WL.case 33 rfl (fun hg33 => ?_) (fun hg33 => ?_)
          · skip
            refine WL.rd_yes rfl rfl rfl rfl rfl rfl (Rd.move rfl rfl) ?_
            refine WL.say 34 (u := .bool (decide (s.length = 32))) rfl rfl ?_
            refine WL.rd_yes rfl rfl rfl rfl rfl rfl (Rd.move rfl rfl) ?_
            refine WL.case 35 rfl (fun hg35 => ?_) (fun hg35 => ?_)
            · skip
              refine WL.no rfl rfl rfl rfl rfl rfl ?_
              refine WL.no rfl rfl rfl rfl rfl rfl ?_
              refine WL.rd_yes rfl rfl rfl rfl rfl rfl (Rd.pick_t rfl rfl rfl) ?_
              refine WL.rd rfl rfl rfl (Rd.pick_t rfl rfl rfl) ?_
              refine WL.rd rfl rfl rfl (Rd.assign rfl rfl) ?_
              refine WL.nil ?_
              refine thenQ.normal ?_
              -- ret_3
              refine WC.ret (Ret.one Tryd.results6 rfl ?_)
              simpa using hk
            · skip
              refine WL.rd_yes rfl rfl rfl rfl rfl rfl (Rd.move rfl rfl) ?_
              refine WL.rd_yes rfl rfl rfl rfl rfl rfl (Rd.seql rfl rfl rfl) ?_
              refine WL.say 37 (u := .bool (decide True)) rfl (by rw [if_neg hg35]; simp) ?_
              refine WL.rd_yes rfl rfl rfl rfl rfl rfl (Rd.pick_f rfl rfl rfl) ?_
              refine WL.rd rfl rfl rfl (Rd.pick_t rfl rfl rfl) ?_
              refine WL.rd rfl rfl rfl (Rd.assign rfl rfl) ?_
              refine WL.nil ?_
              refine thenQ.normal ?_
              -- ret_4
              refine WC.ret (Ret.one Tryd.results6 rfl ?_)
              simpa using hk
          · skip
            simp at hg33
      · skip
        simp at hg24
end Go.Proofs.YtcojkjalpkagoaaDoor
