/-
  Layer 18: the four nodes; names.
-/
import Derived.Test.YtfenbhaehkkkeaaGr14
namespace Go.Proofs.Ytfenbhaehkkkeaa
open Go Go.SL
def nv4 (b1 b2 b3 : Nat) : List Nv := [([97], (none, 0, 0), 0), ([98], (some ⟨b1, 0, none⟩, 1, 1), 0), ([99], (some ⟨b2, 0, none⟩, 1, 1), 0), ([100], (some ⟨b3, 0, none⟩, 2, 2), 0)]
theorem nds4 {b1 b2 b3 : Nat} {w : World} (h0 : SlE (SL.one vs) nilS ([] : List T) w) (h1 : SlE (SL.one vs) (.slice (some ⟨b1, 0, none⟩) 1 1) ([[97]] : List T) w) (h2 : SlE (SL.one vs) (.slice (some ⟨b2, 0, none⟩) 1 1) ([[97]] : List T) w) (h3 : SlE (SL.one vs) (.slice (some ⟨b3, 0, none⟩) 2 2) ([[98], [99]] : List T) w) : ndsP (nv4 b1 b2 b3) L4 w := by
  intro i hi
  rcases i with _ | _ | _ | _ | i
  · exact h0
  · exact h1
  · exact h2
  · exact h3
  · exact absurd hi (by simp [L4])
theorem nls4 {b1 b2 b3 : Nat} {i : Nat} (hi : i < L4.length) : (nv4 b1 b2 b3)[i]!.1 = L4[i]!.1 ∧ (nv4 b1 b2 b3)[i]!.2.2 = L4[i]!.2.2 := by
  rcases i with _ | _ | _ | _ | i
  · exact ⟨rfl, rfl⟩
  · exact ⟨rfl, rfl⟩
  · exact ⟨rfl, rfl⟩
  · exact ⟨rfl, rfl⟩
  · exact absurd hi (by simp [L4])
theorem asc1 (x : T) : Asc [x] := List.pairwise_singleton _ _
theorem vy_nat {n : Nat} (h : n < 256) : vy (UInt8.ofNat n) = .int .u8 (n : Int) := by
  show Value.int .u8 ((UInt8.ofNat n).toNat : Int) = _
  rw [show (UInt8.ofNat n).toNat = n from by simp [UInt8.toNat_ofNat']; omega]
def nm (i : Nat) : T := [UInt8.ofNat (97 + i * 7 % 26), UInt8.ofNat (97 + i)]
section
variable {R : List RO} {O O' : List Own} {POST : Value → List RO → List Own → Prop} {v : Value} {L : List Nd} {nvs : List Nv}
set_option maxRecDepth 20000 in
set_option maxHeartbeats 400000 in
theorem speaks_spec (hk : POST (.bool true) R O) : Fun Try.prog 9 #[] R O POST := by
  have hc4 : Closed (gOf L4) := L4_back.closed L4_nodup
  have hs4 : Small (gOf L4) := gOf_small (by decide) L4_small
  refine Fun.enter (l := []) Try.func9 rfl Try.ntmps9 rfl (L0 := []) rfl ?_
  refine WC.seq ?_
  refine WC.region ?_
  refine WL.rd rfl rfl rfl (Rd.assign rfl rfl) ?_
  refine WL.nil ?_
  refine thenQ.normal ?_
  refine WC.seq ?_
  refine WC.region ?_
  refine WL.rd rfl rfl rfl (Rd.buildN (ps := [(0, _)]) rfl Bs30 I30 rfl (by repeat (first | exact Evs.nil | apply Evs.cons rfl)) (by repeat (first | exact CellsOf.nil | apply CellsOf.cons rfl)) (by apply NFo.mk; repeat (first | exact NF.nil | apply NF.cons))) ?_
  refine WL.op rfl ?_
  refine OpW.buildSl (ps := [(0, _)]) rfl S28 (by repeat (first | exact Evs.nil | apply Evs.cons rfl)) rfl rfl (by repeat (first | exact CellsOf.nil | apply CellsOf.cons rfl)) (by kernel_rfl) rfl rfl rfl ?_; intro b5
  refine WL.rd rfl rfl rfl (Rd.buildN (ps := [(0, _), (1, _)]) rfl Bs30 I30 rfl (by repeat (first | exact Evs.nil | apply Evs.cons rfl)) (by repeat (first | exact CellsOf.nil | apply CellsOf.cons rfl)) (by apply NFo.mk; repeat (first | exact NF.nil | apply NF.cons))) ?_
  refine WL.op rfl ?_
  refine OpW.buildSl (ps := [(0, _)]) rfl S28 (by repeat (first | exact Evs.nil | apply Evs.cons rfl)) rfl rfl (by repeat (first | exact CellsOf.nil | apply CellsOf.cons rfl)) (by kernel_rfl) rfl rfl rfl ?_; intro b7
  refine WL.rd rfl rfl rfl (Rd.buildN (ps := [(0, _), (1, _)]) rfl Bs30 I30 rfl (by repeat (first | exact Evs.nil | apply Evs.cons rfl)) (by repeat (first | exact CellsOf.nil | apply CellsOf.cons rfl)) (by apply NFo.mk; repeat (first | exact NF.nil | apply NF.cons))) ?_
  refine WL.op rfl ?_
  refine OpW.buildSl (ps := [(0, _), (1, _)]) rfl S28 (by repeat (first | exact Evs.nil | apply Evs.cons rfl)) rfl rfl (by repeat (first | exact CellsOf.nil | apply CellsOf.cons rfl)) (by kernel_rfl) rfl rfl rfl ?_; intro b9
  refine WL.rd rfl rfl rfl (Rd.buildN (ps := [(0, _), (1, _)]) rfl Bs30 I30 rfl (by repeat (first | exact Evs.nil | apply Evs.cons rfl)) (by repeat (first | exact CellsOf.nil | apply CellsOf.cons rfl)) (by apply NFo.mk; repeat (first | exact NF.nil | apply NF.cons))) ?_
  refine WL.op rfl ?_
  refine OpW.buildSl (ps := [(0, _), (1, _), (2, _), (3, _)]) rfl S24 (by repeat (first | exact Evs.nil | apply Evs.cons rfl)) rfl rfl (by repeat (first | exact CellsOf.nil | apply CellsOf.cons rfl)) (by kernel_rfl) rfl rfl rfl ?_; intro b11
  refine WL.heap (fun w h => Sat.shareRow (b := b5) (enc := SL.one vs) (xs := [[97]]) (by repeat (first | assumption | exact Take.head _ | apply Take.tail)) rfl rfl (by decide) h) ?_
  refine WL.heap (fun w h => Sat.shareRow (b := b7) (enc := SL.one vs) (xs := [[97]]) (by repeat (first | assumption | exact Take.head _ | apply Take.tail)) rfl rfl (by decide) h) ?_
  refine WL.heap (fun w h => Sat.shareRow (b := b9) (enc := SL.one vs) (xs := [[98], [99]]) (by repeat (first | assumption | exact Take.head _ | apply Take.tail)) rfl rfl (by decide) h) ?_
  refine WL.heap (fun w h => Sat.shareRow (b := b11) (enc := encN) (xs := nv4 b5 b7 b9) (by repeat (first | assumption | exact Take.head _ | apply Take.tail)) rfl rfl (by show (4 : Nat) ≤ _; decide) h) ?_
  refine WL.heap (fun w h => h.nilE (α := T) (enc := SL.one vs)) ?_
  refine WL.heap (fun w h => h.derive (q := ndsP (nv4 b5 b7 b9) L4) (fun w hR => nds4 (hR _ (by repeat (first | assumption | exact mS | apply mT))) (hR _ (by repeat (first | assumption | exact mS | apply mT))) (hR _ (by repeat (first | assumption | exact mS | apply mT))) (hR _ (by repeat (first | assumption | exact mS | apply mT))))) ?_
  refine WL.op rfl ?_
  refine OpW.call rfl rfl (by repeat (first | exact Evs.nil | apply Evs.cons rfl)) (by kernel_rfl) rfl rfl rfl ?_
  refine newOk_spec (L := L4) ⟨nv4 b5 b7 b9, (by repeat (first | assumption | exact mS | apply mT)), List.mem_cons_self, rfl, fun i hi => nls4 hi⟩ L4_nodup L4_back (by decide) L4_small ?_; intro gv p1 p2 p3 hone hG
  refine WL.rd rfl rfl rfl (Rd.move rfl rfl) ?_
  refine WL.rd rfl rfl rfl (Rd.extract rfl rfl rfl) ?_
  refine WL.rd rfl rfl rfl (Rd.extract rfl rfl rfl) ?_
  refine WL.rd rfl rfl rfl (Rd.assign rfl rfl) ?_
  refine WL.rd rfl rfl rfl (Rd.assign rfl rfl) ?_
  refine WL.nil ?_
  refine thenQ.normal ?_
  refine WC.seq ?_
  refine WC.region ?_
  refine WL.rd rfl rfl rfl (Rd.move rfl rfl) ?_
  refine WL.rd rfl rfl rfl (Rd.eql rfl rfl rfl) ?_
  refine WL.rd rfl rfl rfl (Rd.move rfl rfl) ?_
  refine WL.case 17 rfl (fun hg17 => ?_) (fun hg17 => ?_)
  · skip
    refine WL.rd_yes rfl rfl rfl rfl rfl rfl (Rd.move rfl rfl) ?_
    refine WL.op_yes rfl rfl rfl rfl ?_
    refine OpW.call rfl rfl (by repeat (first | exact Evs.nil | apply Evs.cons rfl)) (by kernel_rfl) rfl rfl rfl ?_
    refine bases_spec hG hc4 hs4 ?_; intro v19 ks ha hks
    obtain rfl : ks = [[97]] := Asc.uniq ha (asc1 _) fun k => (hks k).trans (base_bc k)
    refine WL.heap (fun w h => Sat.shareA (xs := ([[97]] : List T)) (by repeat (first | assumption | exact Take.head _ | apply Take.tail)) h) ?_
    refine WL.op_yes rfl rfl rfl rfl ?_
    refine OpW.buildSl (ps := [(0, _)]) rfl S28 (by repeat (first | exact Evs.nil | apply Evs.cons rfl)) rfl rfl (by repeat (first | exact CellsOf.nil | apply CellsOf.cons rfl)) (by kernel_rfl) rfl rfl rfl ?_; intro b20
    refine WL.heap (fun w h => Sat.shareRow (enc := SL.one vs) (xs := [[97]]) (by repeat (first | assumption | exact Take.head _ | apply Take.tail)) rfl rfl (by decide) h) ?_
    refine WL.op_yes rfl rfl rfl rfl ?_
    refine OpW.call rfl rfl (by repeat (first | exact Evs.nil | apply Evs.cons rfl)) (by kernel_rfl) rfl rfl rfl ?_
    refine texts_spec (xs := [[97]]) (ys := [[97]]) (by repeat (first | assumption | exact mS | apply mT)) (by repeat (first | assumption | exact mS | apply mT)) (by decide) (by decide) ?_
    refine WL.say 21 (u := .bool (decide True)) rfl (by simp) ?_
    refine WL.rd rfl rfl rfl (Rd.pick_t rfl rfl rfl) ?_
    refine WL.rd rfl rfl rfl (Rd.move rfl rfl) ?_
    refine WL.case 23 rfl (fun hg23 => ?_) (fun hg23 => ?_)
    · skip
      refine WL.rd_yes rfl rfl rfl rfl rfl rfl (Rd.move rfl rfl) ?_
      refine WL.op_yes rfl rfl rfl rfl ?_
      refine OpW.buildSl (ps := [(0, _)]) rfl S28 (by repeat (first | exact Evs.nil | apply Evs.cons rfl)) rfl rfl (by repeat (first | exact CellsOf.nil | apply CellsOf.cons rfl)) (by kernel_rfl) rfl rfl rfl ?_; intro b25
      refine WL.heap (fun w h => Sat.shareRow (enc := SL.one vs) (xs := [[100]]) (by repeat (first | assumption | exact Take.head _ | apply Take.tail)) rfl rfl (by decide) h) ?_
      refine WL.op_yes rfl rfl rfl rfl ?_
      refine OpW.call rfl rfl (by repeat (first | exact Evs.nil | apply Evs.cons rfl)) (by kernel_rfl) rfl rfl rfl ?_
      refine log_spec (fs := [[100]]) (hG.mono fun p hp => List.mem_cons_of_mem _ (List.mem_cons_of_mem _ (List.mem_cons_of_mem _ hp))) hc4 hs4 List.mem_cons_self (by decide) ?_; intro v26 out hout
      obtain rfl := hout.uniq log_d
      refine WL.heap (fun w h => Sat.shareA (xs := ([[100], [98], [99], [97]] : List T)) (by repeat (first | assumption | exact Take.head _ | apply Take.tail)) h) ?_
      refine WL.op_yes rfl rfl rfl rfl ?_
      refine OpW.buildSl (ps := [(0, _), (1, _), (2, _), (3, _)]) rfl S28 (by repeat (first | exact Evs.nil | apply Evs.cons rfl)) rfl rfl (by repeat (first | exact CellsOf.nil | apply CellsOf.cons rfl)) (by kernel_rfl) rfl rfl rfl ?_; intro b27
      refine WL.heap (fun w h => Sat.shareRow (enc := SL.one vs) (xs := [[100], [98], [99], [97]]) (by repeat (first | assumption | exact Take.head _ | apply Take.tail)) rfl rfl (by decide) h) ?_
      refine WL.op_yes rfl rfl rfl rfl ?_
      refine OpW.call rfl rfl (by repeat (first | exact Evs.nil | apply Evs.cons rfl)) (by kernel_rfl) rfl rfl rfl ?_
      refine texts_spec (xs := [[100], [98], [99], [97]]) (ys := [[100], [98], [99], [97]]) (List.mem_cons_of_mem _ List.mem_cons_self) List.mem_cons_self (by decide) (by decide) ?_
      refine WL.say 28 (u := .bool (decide True)) rfl (by simp) ?_
      refine WL.rd rfl rfl rfl (Rd.pick_t rfl rfl rfl) ?_
      refine WL.rd rfl rfl rfl (Rd.move rfl rfl) ?_
      refine WL.case 30 rfl (fun hg30 => ?_) (fun hg30 => ?_)
      · skip
        refine WL.rd_yes rfl rfl rfl rfl rfl rfl (Rd.move rfl rfl) ?_
        refine WL.op_yes rfl rfl rfl rfl ?_
        refine OpW.call rfl rfl (by repeat (first | exact Evs.nil | apply Evs.cons rfl)) (by kernel_rfl) rfl rfl rfl ?_
        refine anc_spec (a := [97]) (b := [100]) (hG.mono fun p hp => by repeat (first | exact hp | apply List.mem_cons_of_mem)) hc4 hs4 ?_
        refine WL.say 32 (u := .bool true) rfl (by rw [decide_eq_true ((come_d [97]).2 (by decide))]) ?_
        refine WL.rd rfl rfl rfl (Rd.pick_t rfl rfl rfl) ?_
        refine WL.rd rfl rfl rfl (Rd.assign rfl rfl) ?_
        refine WL.nil ?_
        refine thenQ.normal ?_
        refine WC.heap (R' := R) (O' := O) (fun w h => h.thin (fun p hp => by repeat (first | exact hp | apply List.mem_cons_of_mem))) ?_
        refine WC.ret (Ret.one Try.results9 rfl ?_)
        exact hk
      · skip
        exact absurd trivial hg30
    · skip
      exact absurd trivial hg23
  · skip
    exact absurd rfl hg17
set_option maxRecDepth 20000 in
theorem name_spec {i : Nat} (hi : i < 16) (hk : POST (vs (nm i)) R O) : Fun Try.prog 13 #[vi i] R O POST := by
  refine Fun.enter (l := [_]) Try.func13 rfl Try.ntmps13 rfl (L0 := [(0, _)]) rfl ?_
  refine WC.seq ?_
  refine WC.region ?_
  refine WL.rd rfl rfl rfl (Rd.assign rfl rfl) ?_
  refine WL.nil ?_
  refine thenQ.normal ?_
  refine WC.seq ?_
  refine WC.region ?_
  refine WL.rd rfl rfl rfl (Rd.move rfl rfl) ?_
  refine WL.rd rfl rfl rfl (Rd.mul rfl rfl rfl (by omega)) ?_
  refine WL.rd rfl rfl rfl (Rd.remN (b := 26) rfl rfl rfl rfl rfl (by decide)) ?_
  refine WL.rd rfl rfl rfl (Rd.add rfl rfl rfl (by omega)) ?_
  refine WL.rd rfl rfl rfl ((by first | exact Rd.conv rfl rfl Try.underlying5 (by first | rfl | omega) (hS := Try.underlying3) | exact Rd.convw rfl rfl Try.underlying5 (hS := Try.underlying3))) ?_
  refine WL.say 7 (u := vy (UInt8.ofNat (97 + i * 7 % 26))) rfl (by rw [wrap_u8 (by omega), vy_nat (by omega)]; push_cast; rfl) ?_
  refine WL.rd rfl rfl rfl (Rd.move rfl rfl) ?_
  refine WL.rd rfl rfl rfl (Rd.add rfl rfl rfl (by omega)) ?_
  refine WL.rd rfl rfl rfl ((by first | exact Rd.conv rfl rfl Try.underlying5 (by first | rfl | omega) (hS := Try.underlying3) | exact Rd.convw rfl rfl Try.underlying5 (hS := Try.underlying3))) ?_
  refine WL.say 10 (u := vy (UInt8.ofNat (97 + i))) rfl (by rw [wrap_u8 (by omega), vy_nat (by omega)]; push_cast; rfl) ?_
  refine WL.op rfl ?_
  refine OpW.buildSl (ps := [(0, _), (1, _)]) rfl S68 (by repeat (first | exact Evs.nil | apply Evs.cons rfl)) rfl rfl (by repeat (first | exact CellsOf.nil | apply CellsOf.cons rfl)) (by kernel_rfl) rfl rfl rfl ?_; intro b11
  refine WL.rd rfl rfl rfl (Rd.strOfR (bs := nm i) rfl Try.underlying68 Try.underlying9 Try.underlying5 rfl (by repeat (first | assumption | exact mS | apply mT)) rfl rfl (by decide)) ?_
  refine WL.rd rfl rfl rfl (Rd.assign rfl rfl) ?_
  refine WL.nil ?_
  refine thenQ.normal ?_
  refine WC.heap (fun w h => h.drop) ?_
  refine WC.ret (Ret.one Try.results13 rfl ?_)
  exact hk
end
end Go.Proofs.Ytfenbhaehkkkeaa
