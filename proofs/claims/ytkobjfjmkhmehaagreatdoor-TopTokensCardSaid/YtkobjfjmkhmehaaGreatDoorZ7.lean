/-
  Part 7 of the texts that the law TopTokens is proved with: Tt2. No premise.
-/
import Derived.Test.YtkobjfjmkhmehaaGreatDoorZ6
namespace Go.Proofs.YtkobjfjmkhmehaaGreatDoor.Mg
open Go Go.SL
section
variable {R : List RO} {O : List Own} {POST : Value → List RO → List Own → Prop}
theorem u8_add (x : Nat) : IntKind.u8.wrap (33 + ((x % 94 : Nat) : Int)) = ((33 + x % 94 : Nat) : Int) := by
 simp only [IntKind.wrap, IntKind.signed, IntKind.bits, Bool.false_and, Bool.false_eq_true, if_false]
 omega
theorem tw_t {gd : List Pr} {p : Pr} {k : Nat} (hk : k < gd.length) (h : p ∈ gd.take k) : Value.bool true = .bool (decide (p ∈ gd.take (k + 1))) := by
 rw [take_snoc' hk, decide_eq_true (List.mem_append_left _ h)]
theorem tw_n {gd : List Pr} {p : Pr} {k : Nat} (hk : k < gd.length) (h : p ∉ gd.take k) : Value.bool (decide (gd[k]! = p)) = .bool (decide (p ∈ gd.take (k + 1))) := by
 rw [take_snoc' hk]
 congr 1
 refine decide_eq_decide.2 ⟨fun e => List.mem_append_right _ (by rw [e]; exact List.mem_cons_self), fun hm => ?_⟩
 rcases List.mem_append.1 hm with hm | hm
 · exact absurd hm h
 · exact (List.mem_singleton.1 hm).symm
set_option maxHeartbeats 4000000 in
set_option maxRecDepth 20000 in
theorem tokens_spec {xs : List Pr} {lv : Value} {s : T} (hl : SlE encP lv xs ∈ R) (hq : ∀ x ∈ xs, x.1.length ≤ 140737488355328 ∧ x.2.length ≤ 140737488355328) (hs : s.length ≤ 140737488351232) (ht : tabR ∈ R) (hr : rootsR ∈ R) (hp : powR ∈ R) (hk : POST (.bool true) R O) : Fun Tryz.prog 3 #[lv, vs s] R O POST := by
 refine Fun.turn ?_
 refine Fun.len hl fun hll => ?_
 refine Fun.enter (l := [_, _]) Tryz.func3 rfl Tryz.ntmps3 rfl (L0 := [(0, _), (1, _)]) rfl ?_
 refine WC.seq ?_
 refine WC.region ?_
 refine WL.rd rfl rfl rfl (Rd.assign rfl rfl) ?_
 refine WL.nil ?_
 refine thenQ.normal ?_
 refine WC.seq ?_
 refine WC.seq ?_
 refine WC.region ?_
 refine WL.op rfl ?_
 refine OpW.call rfl rfl Z.E Z.K rfl rfl rfl ?_
 refine splits_spec ht hr ?_
 refine WL.rd rfl rfl rfl ((by exact Rd.not rfl rfl)) ?_
 refine WL.say 28 (u := .bool (decide False)) rfl rfl ?_
 refine WL.nil ?_
 refine thenQ.normal ?_
 refine WC.ite rfl (fun hc1 => ?_) (fun hc1 => ?_)
 ·
  exact hc1.elim
 ·
  refine WC.skip ?_
  refine thenQ.normal ?_
  refine WC.seq ?_
  refine WC.region ?_
  refine WL.rd rfl rfl rfl (Rd.assign rfl rfl) ?_
  refine WL.nil ?_
  refine thenQ.normal ?_
  refine WC.seq ?_
  refine WC.seq ?_
  refine WC.region ?_
  refine WL.rd rfl rfl rfl (Rd.assign rfl rfl) ?_
  refine WL.nil ?_
  refine thenQ.normal ?_
  refine WC.block ?_
  refine WC.pick [5, 6, 0, 1] Z.P ?_
  refine WC.loop3 2 (fun (i : Nat) (gd : List Pr) (gv : Value) => [(5, gv), (6, vi i)]) (fun (i : Nat) (gd : List Pr) (gv : Value) => accP gv gd :: O) (fun (i : Nat) (gd : List Pr) (gv : Value) => i ≤ xs.length ∧ i ≤ 40 ∧ gd.length ≤ i ∧ GoodN gd) (fun (i : Nat) (gd : List Pr) (gv : Value) => xs.length - i) (0) ([]) (nilS) Z.L ?hinv1 (by repeat (first | exact Sub.nil | refine Sub.cons rfl (by rfl) ?_)) (fun w h => by have := Sat.accNil (e := 27) (size := 2) (enc := encP) h; exact Z.Fw this) ?_
  case hinv1 =>
   exact ⟨Nat.zero_le _, Nat.zero_le _, Nat.le_refl _, GoodN.nil⟩
  intro i gd gv
  rintro ⟨i1, i2, i3, i4⟩
  refine WC.seq ?_
  refine WC.pick [0, 1, 5, 6] Z.P ?_
  refine WC.val 36 (.bool (decide (i < xs.length ∧ i < 40))) ?_ ?_
  ·
   refine WC.region ?_
   refine WL.rd rfl rfl rfl (Rd.move rfl rfl) ?_
   refine WL.rd rfl rfl rfl (Rd.move rfl rfl) ?_
   refine WL.rd rfl rfl rfl ((by exact Rd.lenE rfl rfl Tryz.underlying22 Z.M)) ?_
   refine WL.rd rfl rfl rfl (Rd.lss rfl rfl rfl) ?_
   refine WL.rd rfl rfl rfl (Rd.move rfl rfl) ?_
   refine WL.case 33 rfl (fun hg33 => ?_) (fun hg33 => ?_)
   ·
    refine WL.rd_yes rfl rfl rfl rfl rfl rfl (Rd.move rfl rfl) ?_
    refine WL.rd_yes rfl rfl rfl rfl rfl rfl (Rd.lss rfl rfl rfl) ?_
    refine WL.rd rfl rfl rfl (Rd.pick_t rfl rfl rfl) ?_
    refine WL.nil ?_
    exact ⟨by repeat (first | exact Sub.nil | refine Sub.cons rfl (by first | rfl | (exact vb ⟨fun h => ⟨by omega, by omega⟩, fun h => by omega⟩)) ?_), by exact (fun _ h => h.thin (SubL.mem Z.S))⟩
   ·
    refine WL.no rfl rfl rfl rfl rfl rfl ?_
    refine WL.no rfl rfl rfl rfl rfl rfl ?_
    refine WL.rd rfl rfl rfl (Rd.pick_f rfl rfl rfl) ?_
    refine WL.nil ?_
    exact ⟨by repeat (first | exact Sub.nil | refine Sub.cons rfl (by first | rfl | (exact vb_f Z.W)) ?_), by exact (fun _ h => h.thin (SubL.mem Z.S))⟩
  ·
   refine WC.ite rfl (fun hc2 => ?_) (fun hc2 => ?_)
   ·
    have hqi := hq xs[i]! (get!_mem Z.W)
    refine WC.skip ?_
    refine thenQ.normal ?_
    refine WC.seq ?_
    refine WC.block ?_
    refine WC.seq ?_
    refine WC.drawn (accP gv gd :: O) 13 rfl mixed ?_
    refine WD.take 0 rfl Z.K Z.H rfl rfl rfl (Rd.move rfl rfl) ?_
    refine WD.take 1 rfl Z.K Z.H rfl rfl rfl (Rd.move rfl rfl) ?_
    refine WD.take 2 rfl Z.K Z.H rfl rfl rfl ((by exact Rd.idx (k := i) rfl S22 rfl rfl Z.W Z.M Z.W)) ?_
    refine WD.take 3 rfl Z.K Z.H rfl rfl rfl (Rd.idxArrE (enc := encP) (n := 2) (size1 := 1) (k := 0) (fo := 0) rfl A25 rfl rfl rfl (by decide) rfl Z.M Z.W) ?_
    refine WD.take 4 rfl Z.K Z.H rfl rfl rfl (Rd.getF (enc := encP) (size := 2) (xs := xs) (k := i) (f := 0) (a := xs[i]!) (u := vs xs[i]!.1) rfl C9 rfl Z.M (fun x => rfl) Z.W (get!_of_lt Z.W) rfl) ?_
    refine WD.take 5 rfl Z.K Z.H rfl rfl rfl (Rd.move rfl rfl) ?_
    refine WD.take 6 rfl Z.K Z.H rfl rfl rfl (Rd.move rfl rfl) ?_
    refine WD.take 7 rfl Z.K Z.H rfl rfl rfl ((by exact Rd.idx (k := i) rfl S22 rfl rfl Z.W Z.M Z.W)) ?_
    refine WD.take 8 rfl Z.K Z.H rfl rfl rfl (Rd.idxArrE (enc := encP) (n := 2) (size1 := 1) (k := 1) (fo := 1) rfl A25 rfl rfl rfl (by decide) rfl Z.M Z.W) ?_
    refine WD.take 9 rfl Z.K Z.H rfl rfl rfl (Rd.getF (enc := encP) (size := 2) (xs := xs) (k := i) (f := 1) (a := xs[i]!) (u := vs xs[i]!.2) rfl C9 rfl Z.M (fun x => rfl) Z.W (get!_of_lt Z.W) rfl) ?_
    refine WD.take 10 rfl Z.K Z.H rfl rfl rfl (Rd.buildN (ps := [(0, _), (1, _)]) rfl Bs27 I27 rfl Z.E Z.C (by apply NFo.mk; repeat (first | exact NF.nil | apply NF.cons))) ?_
    refine WD.one 11 rfl Z.K rfl ?_
    refine OpW.alloc rfl I27 rfl Z.N rfl rfl ?_; intro b7
    refine ⟨Z.H, ?_⟩
    refine WD.one 12 rfl Z.K rfl ?_
    refine OpW.storeS rfl G27 rfl rfl Z.N Z.T rfl rfl Z.N rfl ?_
    refine ⟨Z.H, ?_⟩
    refine WD.done Z.K ?_
    refine thenQ.normal ?_
    refine WC.seq ?_
    refine WC.region ?_
    refine WL.rd rfl rfl rfl (Rd.assign rfl rfl) ?_
    refine WL.say 8 (u := .bool (decide (xs[i]! ∈ gd.take 0))) rfl (by simp) ?_
    refine WL.nil ?_
    refine thenQ.normal ?_
    refine WC.seq ?_
    refine WC.seq ?_
    refine WC.region ?_
    refine WL.rd rfl rfl rfl (Rd.assign rfl rfl) ?_
    refine WL.nil ?_
    refine thenQ.normal ?_
    refine WC.block ?_
    refine WC.pick [8, 9, 0, 1, 5, 6, 7] Z.P ?_
    refine WC.loop1o 2 (fun (k : Nat) => [(8, .bool (decide (xs[i]! ∈ gd.take k))), (9, vi k)]) (fun (k : Nat) => k ≤ gd.length) (fun (k : Nat) => gd.length - k) (0) Z.L ?hinv2 (by repeat (first | exact Sub.nil | refine Sub.cons rfl (by rfl) ?_)) (fun _ h => h) ?_
    case hinv2 =>
     exact Nat.zero_le _
    intro k
    rintro k1
    refine WC.seq ?_
    refine WC.seq ?_
    refine WC.region ?_
    refine WL.rd rfl rfl rfl (Rd.move rfl rfl) ?_
    refine WL.rd rfl rfl rfl (Rd.move rfl rfl) ?_
    refine WL.rd rfl rfl rfl ((by exact Rd.lenA rfl rfl Tryz.underlying24 Z.M)) ?_
    refine WL.rd rfl rfl rfl (Rd.lss rfl rfl rfl) ?_
    refine WL.nil ?_
    refine thenQ.normal ?_
    refine WC.ite rfl (fun hc3 => ?_) (fun hc3 => ?_)
    ·
     refine WC.skip ?_
     refine thenQ.normal ?_
     refine WC.seq ?_
     refine WC.block ?_
     refine WC.still mixed Z.K ?_
     refine WA.rd rfl rfl rfl (Rd.move rfl rfl) ?_
     refine WA.rd rfl rfl rfl (Rd.move rfl rfl) ?_
     refine WA.case 57 rfl (fun hg57 => ?_) (fun hg57 => ?_)
     ·
      refine WA.no rfl rfl rfl rfl rfl rfl ?_
      refine WA.no rfl rfl rfl rfl rfl rfl ?_
      refine WA.no rfl rfl rfl rfl rfl rfl ?_
      refine WA.no rfl rfl rfl rfl rfl rfl ?_
      refine WA.no rfl rfl rfl rfl rfl rfl ?_
      refine WA.no rfl rfl rfl rfl rfl rfl ?_
      refine WA.rd rfl rfl rfl (Rd.pick_t rfl rfl rfl) ?_
      refine WA.rd rfl rfl rfl (Rd.assign rfl rfl) ?_
      refine WA.say 8 (u := .bool (decide (xs[i]! ∈ gd.take (k + 1)))) rfl (tw_t Z.W hg57) ?_
      refine WA.nil ?_
      refine blockQ.normal ?_
      refine thenQ.normal ?_
      refine WC.region ?_
      refine WL.rd rfl rfl rfl (Rd.move rfl rfl) ?_
      refine WL.rd rfl rfl rfl (Rd.add rfl rfl rfl Z.W) ?_
      refine WL.rd rfl rfl rfl (Rd.assign rfl rfl) ?_
      refine WL.nil ?_
      exact loopQ1.mk (k + 1) Z.W Z.W (by repeat (first | exact Sub.nil | refine Sub.cons rfl (by rfl) ?_)) Z.F
     ·
      refine WA.rd_yes rfl rfl rfl rfl rfl rfl (Rd.move rfl rfl) ?_
      refine WA.rd_yes rfl rfl rfl rfl rfl rfl (Rd.move rfl rfl) ?_
      refine WA.rd_yes rfl rfl rfl rfl rfl rfl ((by exact Rd.idxA (k := k) rfl S24 rfl rfl Z.W Z.M Z.W)) ?_
      refine WA.rd_yes rfl rfl rfl rfl rfl rfl (Rd.getSA (enc := encP) (size := 2) (xs := gd) (k := k) (a := gd[k]!) (cs := [vs gd[k]!.1, vs gd[k]!.2]) rfl G27 rfl Z.M (fun x => rfl) (get!_of_lt Z.W) (NF.refl _)) ?_
      refine WA.rd_yes rfl rfl rfl rfl rfl rfl ((by exact Rd.rowS rfl G27 rfl Z.M Z.N rfl)) ?_
      refine WA.rd_yes rfl rfl rfl rfl rfl rfl (Rd.aeql rfl rfl rfl (EqS.iff (EPr _ _ _ _) (q := gd[k]! = xs[i]!) Prod.ext_iff.symm)) ?_
      refine WA.rd rfl rfl rfl (Rd.pick_f rfl rfl rfl) ?_
      refine WA.rd rfl rfl rfl (Rd.assign rfl rfl) ?_
      refine WA.say 8 (u := .bool (decide (xs[i]! ∈ gd.take (k + 1)))) rfl (tw_n Z.W hg57) ?_
      refine WA.nil ?_
      refine blockQ.normal ?_
      refine thenQ.normal ?_
      refine WC.region ?_
      refine WL.rd rfl rfl rfl (Rd.move rfl rfl) ?_
      refine WL.rd rfl rfl rfl (Rd.add rfl rfl rfl Z.W) ?_
      refine WL.rd rfl rfl rfl (Rd.assign rfl rfl) ?_
      refine WL.nil ?_
      exact loopQ1.mk (k + 1) Z.W Z.W (by repeat (first | exact Sub.nil | refine Sub.cons rfl (by rfl) ?_)) Z.F
    ·
     obtain rfl : k = gd.length := by omega
     rw [List.take_length]
     refine WC.exit ?_
     refine thenQ.exit ?_
     refine loopQ1.exit ?_
     refine blockQ.exit ?_
     refine thenQ.normal ?_
     refine WC.pick [0, 1, 5, 6, 7, 8] Z.P ?_
     refine WC.val 96 (.bool (decide (OkP gd xs[i]!))) ?_ ?_
     ·
      refine WC.drawnA 32 rfl mixed ?_
      refine WD.take 0 rfl Z.K Held.all rfl rfl rfl (Rd.move rfl rfl) ?_
      refine WD.take 1 rfl Z.K Held.all rfl rfl rfl ((by exact Rd.notd rfl rfl)) ?_
      refine WD.take 2 rfl Z.K Held.all rfl rfl rfl (Rd.move rfl rfl) ?_
      refine WD.case 67 rfl (fun hg67 => ?_) (fun hg67 => ?_)
      ·
       refine WD.take_yes 3 rfl Z.K Held.all rfl rfl rfl rfl rfl rfl ((by exact Rd.field rfl F27_0 rfl rfl)) ?_
       refine WD.take_yes 4 rfl Z.K Held.all rfl rfl rfl rfl rfl rfl ((by exact Rd.row1 rfl C9 rfl Z.M (by rfl))) ?_
       refine WD.one_yes 5 rfl Z.K rfl rfl rfl rfl ?_
       refine OpW.call rfl rfl Z.E Z.K rfl rfl rfl ?_
       refine good_spec Z.W ?_
       refine ⟨Z.H, ?_⟩
       refine WD.take 6 rfl Z.K Z.H rfl rfl rfl (Rd.pick_t rfl rfl rfl) ?_
       refine WD.take 7 rfl Z.K Z.H rfl rfl rfl (Rd.move rfl rfl) ?_
       refine WD.case 72 rfl (fun hg72 => ?_) (fun hg72 => ?_)
       ·
        refine WD.take_yes 8 rfl Z.K Z.H rfl rfl rfl rfl rfl rfl ((by exact Rd.field rfl F27_1 rfl rfl)) ?_
        refine WD.take_yes 9 rfl Z.K Z.H rfl rfl rfl rfl rfl rfl ((by exact Rd.row1 rfl C9 rfl Z.M (by rfl))) ?_
        refine WD.one_yes 10 rfl Z.K rfl rfl rfl rfl ?_
        refine OpW.call rfl rfl Z.E Z.K rfl rfl rfl ?_
        refine good_spec Z.W ?_
        refine ⟨Z.H, ?_⟩
        refine WD.take 11 rfl Z.K Z.H rfl rfl rfl (Rd.pick_t rfl rfl rfl) ?_
        refine WD.take 12 rfl Z.K Z.H rfl rfl rfl (Rd.move rfl rfl) ?_
        refine WD.case 77 rfl (fun hg77 => ?_) (fun hg77 => ?_)
        ·
         refine WD.take_yes 13 rfl Z.K Z.H rfl rfl rfl rfl rfl rfl ((by exact Rd.field rfl F27_0 rfl rfl)) ?_
         refine WD.take_yes 14 rfl Z.K Z.H rfl rfl rfl rfl rfl rfl ((by exact Rd.row1 rfl C9 rfl Z.M (by rfl))) ?_
         refine WD.take_yes 15 rfl Z.K Z.H rfl rfl rfl rfl rfl rfl (Rd.slen (ts := #[]) (ty := 0) rfl rfl Tryz.underlying9) ?_
         refine WD.take_yes 16 rfl Z.K Z.H rfl rfl rfl rfl rfl rfl ((by exact Rd.field rfl F27_1 rfl rfl)) ?_
         refine WD.take_yes 17 rfl Z.K Z.H rfl rfl rfl rfl rfl rfl ((by exact Rd.row1 rfl C9 rfl Z.M (by rfl))) ?_
         refine WD.take_yes 18 rfl Z.K Z.H rfl rfl rfl rfl rfl rfl (Rd.slen (ts := #[]) (ty := 0) rfl rfl Tryz.underlying9) ?_
         refine WD.take_yes 19 rfl Z.K Z.H rfl rfl rfl rfl rfl rfl (Rd.add rfl rfl rfl Z.W) ?_
         refine WD.take_yes 20 rfl Z.K Z.H rfl rfl rfl rfl rfl rfl (Rd.leq rfl rfl rfl) ?_
         refine WD.take 21 rfl Z.K Z.H rfl rfl rfl (Rd.pick_t rfl rfl rfl) ?_
         refine WD.take 22 rfl Z.K Z.H rfl rfl rfl (Rd.move rfl rfl) ?_
         refine WD.case 87 rfl (fun hg87 => ?_) (fun hg87 => ?_)
         ·
          refine WD.take_yes 24 rfl Z.K Z.H rfl rfl rfl rfl rfl rfl (Rd.move rfl rfl) ?_
          refine WD.take_yes 26 rfl Z.K Z.H rfl rfl rfl rfl rfl rfl ((by exact Rd.rowS rfl G27 rfl Z.M Z.N rfl)) ?_
          refine WD.two_yes 23 27 rfl rfl Z.K rfl rfl rfl rfl rfl rfl rfl rfl ?_ ?_
          ·
           refine OpW.buildSl (ps := []) rfl S24 Z.E rfl rfl Z.C Z.K rfl rfl rfl ?_; intro b88
           refine ⟨Z.H, ?_⟩
           refine WD.heap (fun w h => Sat.accRow (enc := encP) (size := 2) (xs := ([] : List Pr)) Z.T rfl rfl (fun x => rfl) (by decide) h) ?_
           refine WD.two_yes 25 27 rfl rfl Z.K rfl rfl rfl rfl rfl rfl rfl rfl ?_ ?_
           ·
            refine OpW.appendA (enc := encP) (xs := []) (ys := gd) rfl S24 Tryz.underlying24 rfl rfl Z.T Z.M (by intro x; rfl) (by intro x; rfl) (Room.mk' (by simp only [List.length_nil]; omega) (by simp only [List.length_nil]; omega)) rfl rfl ?_; intro v90 hv90; rw [List.nil_append]
            refine ⟨Z.H, ?_⟩
            refine WD.one_yes 27 rfl Z.K rfl rfl rfl rfl ?_
            refine OpW.buildSl (ps := [(0, _)]) rfl S24 Z.E rfl rfl Z.C Z.K rfl rfl rfl ?_; intro b92
            refine ⟨Z.H, ?_⟩
            refine WD.one_yes 28 rfl Z.K rfl rfl rfl rfl ?_
            refine OpW.appendRow (enc := encP) rfl S24 rfl rfl Z.T Z.T [xs[i]!] rfl (by rfl) rfl (by intro x; rfl) (by intro x; rfl) (by exact ⟨by simp only [maxLen, List.length_append, List.length_nil, List.length_cons, List.length_drop, List.length_take, List.length_map]; omega, by omega⟩) rfl rfl ?_; intro v93 hv93
            refine ⟨Z.H, ?_⟩
            refine WD.heap (fun w h => Sat.shareA (xs := gd ++ [xs[i]!]) Z.T h) ?_
            refine WD.one_yes 29 rfl Z.K rfl rfl rfl rfl ?_
            refine OpW.call rfl rfl Z.E Z.K rfl rfl rfl ?_
            refine invalid_spec (l := gd ++ [xs[i]!]) Z.M (fun p hm => by
            rcases List.mem_append.1 hm with hm | hm
            · have := i4.short p hm; omega
            · rw [List.mem_singleton.1 hm]; omega) ?_; intro k94 hk94
            refine ⟨Z.H, ?_⟩
            refine WD.take_yes 30 rfl Z.K Z.H rfl rfl rfl rfl rfl rfl (Rd.lss rfl rfl rfl) ?_
            refine WD.take 31 rfl Z.K Z.H rfl rfl rfl (Rd.pick_t rfl rfl rfl) ?_
            refine WD.done Z.K ?_
            exact ⟨by repeat (first | exact Sub.nil | refine Sub.cons rfl (by first | rfl | (exact okP_k hg67 hg72 hg77 Z.W hk94)) ?_), by exact (fun _ h => h.thin (SubL.mem Z.S))⟩
           ·
            refine OpW.buildSl (ps := [(0, _)]) rfl S24 Z.E rfl rfl Z.C Z.K rfl rfl rfl ?_; intro b92
            refine ⟨Z.H, ?_⟩
            refine WD.one_yes 25 rfl Z.K rfl rfl rfl rfl ?_
            refine OpW.appendA (enc := encP) (xs := []) (ys := gd) rfl S24 Tryz.underlying24 rfl rfl Z.T Z.M (by intro x; rfl) (by intro x; rfl) (Room.mk' (by simp only [List.length_nil]; omega) (by simp only [List.length_nil]; omega)) rfl rfl ?_; intro v90 hv90; rw [List.nil_append]
            refine ⟨Z.H, ?_⟩
            refine WD.one_yes 28 rfl Z.K rfl rfl rfl rfl ?_
            refine OpW.appendRow (enc := encP) rfl S24 rfl rfl Z.T Z.T [xs[i]!] rfl (by rfl) rfl (by intro x; rfl) (by intro x; rfl) (by exact ⟨by simp only [maxLen, List.length_append, List.length_nil, List.length_cons, List.length_drop, List.length_take, List.length_map]; omega, by omega⟩) rfl rfl ?_; intro v93 hv93
            refine ⟨Z.H, ?_⟩
            refine WD.heap (fun w h => Sat.shareA (xs := gd ++ [xs[i]!]) Z.T h) ?_
            refine WD.one_yes 29 rfl Z.K rfl rfl rfl rfl ?_
            refine OpW.call rfl rfl Z.E Z.K rfl rfl rfl ?_
            refine invalid_spec (l := gd ++ [xs[i]!]) Z.M (fun p hm => by
            rcases List.mem_append.1 hm with hm | hm
            · have := i4.short p hm; omega
            · rw [List.mem_singleton.1 hm]; omega) ?_; intro k94 hk94
            refine ⟨Z.H, ?_⟩
            refine WD.take_yes 30 rfl Z.K Z.H rfl rfl rfl rfl rfl rfl (Rd.lss rfl rfl rfl) ?_
            refine WD.take 31 rfl Z.K Z.H rfl rfl rfl (Rd.pick_t rfl rfl rfl) ?_
            refine WD.done Z.K ?_
            exact ⟨by repeat (first | exact Sub.nil | refine Sub.cons rfl (by first | rfl | (exact okP_k hg67 hg72 hg77 Z.W hk94)) ?_), by exact (fun _ h => h.thin (SubL.mem Z.S))⟩
          ·
           refine OpW.buildSl (ps := [(0, _)]) rfl S24 Z.E rfl rfl Z.C Z.K rfl rfl rfl ?_; intro b92
           refine ⟨Z.H, ?_⟩
           refine WD.one_yes 23 rfl Z.K rfl rfl rfl rfl ?_
           refine OpW.buildSl (ps := []) rfl S24 Z.E rfl rfl Z.C Z.K rfl rfl rfl ?_; intro b88
           refine ⟨Z.H, ?_⟩
           refine WD.heap (fun w h => Sat.accRow (enc := encP) (size := 2) (xs := ([] : List Pr)) Z.T rfl rfl (fun x => rfl) (by decide) h) ?_
           refine WD.one_yes 25 rfl Z.K rfl rfl rfl rfl ?_
           refine OpW.appendA (enc := encP) (xs := []) (ys := gd) rfl S24 Tryz.underlying24 rfl rfl Z.T Z.M (by intro x; rfl) (by intro x; rfl) (Room.mk' (by simp only [List.length_nil]; omega) (by simp only [List.length_nil]; omega)) rfl rfl ?_; intro v90 hv90; rw [List.nil_append]
           refine ⟨Z.H, ?_⟩
           refine WD.one_yes 28 rfl Z.K rfl rfl rfl rfl ?_
           refine OpW.appendRow (enc := encP) rfl S24 rfl rfl Z.T Z.T [xs[i]!] rfl (by rfl) rfl (by intro x; rfl) (by intro x; rfl) (by exact ⟨by simp only [maxLen, List.length_append, List.length_nil, List.length_cons, List.length_drop, List.length_take, List.length_map]; omega, by omega⟩) rfl rfl ?_; intro v93 hv93
           refine ⟨Z.H, ?_⟩
           refine WD.heap (fun w h => Sat.shareA (xs := gd ++ [xs[i]!]) Z.T h) ?_
           refine WD.one_yes 29 rfl Z.K rfl rfl rfl rfl ?_
           refine OpW.call rfl rfl Z.E Z.K rfl rfl rfl ?_
           refine invalid_spec (l := gd ++ [xs[i]!]) Z.M (fun p hm => by
           rcases List.mem_append.1 hm with hm | hm
           · have := i4.short p hm; omega
           · rw [List.mem_singleton.1 hm]; omega) ?_; intro k94 hk94
           refine ⟨Z.H, ?_⟩
           refine WD.take_yes 30 rfl Z.K Z.H rfl rfl rfl rfl rfl rfl (Rd.lss rfl rfl rfl) ?_
           refine WD.take 31 rfl Z.K Z.H rfl rfl rfl (Rd.pick_t rfl rfl rfl) ?_
           refine WD.done Z.K ?_
           exact ⟨by repeat (first | exact Sub.nil | refine Sub.cons rfl (by first | rfl | (exact okP_k hg67 hg72 hg77 Z.W hk94)) ?_), by exact (fun _ h => h.thin (SubL.mem Z.S))⟩
         ·
          refine WD.take_no 24 rfl Z.K Z.H rfl rfl rfl rfl rfl rfl ?_
          refine WD.take_no 26 rfl Z.K Z.H rfl rfl rfl rfl rfl rfl ?_
          refine WD.take_no 23 rfl Z.K Z.H rfl rfl rfl rfl rfl rfl ?_
          refine WD.take_no 25 rfl Z.K Z.H rfl rfl rfl rfl rfl rfl ?_
          refine WD.take_no 27 rfl Z.K Z.H rfl rfl rfl rfl rfl rfl ?_
          refine WD.take_no 28 rfl Z.K Z.H rfl rfl rfl rfl rfl rfl ?_
          refine WD.take_no 29 rfl Z.K Z.H rfl rfl rfl rfl rfl rfl ?_
          refine WD.take_no 30 rfl Z.K Z.H rfl rfl rfl rfl rfl rfl ?_
          refine WD.take 31 rfl Z.K Z.H rfl rfl rfl (Rd.pick_f rfl rfl rfl) ?_
          refine WD.done Z.K ?_
          exact ⟨by repeat (first | exact Sub.nil | refine Sub.cons rfl (by first | rfl | (exact vb_f (fun h => hg87 (by have := h.short; omega)))) ?_), by exact (fun _ h => h.thin (SubL.mem Z.S))⟩
        ·
         refine WD.take_no 13 rfl Z.K Z.H rfl rfl rfl rfl rfl rfl ?_
         refine WD.take_no 14 rfl Z.K Z.H rfl rfl rfl rfl rfl rfl ?_
         refine WD.take_no 15 rfl Z.K Z.H rfl rfl rfl rfl rfl rfl ?_
         refine WD.take_no 16 rfl Z.K Z.H rfl rfl rfl rfl rfl rfl ?_
         refine WD.take_no 17 rfl Z.K Z.H rfl rfl rfl rfl rfl rfl ?_
         refine WD.take_no 18 rfl Z.K Z.H rfl rfl rfl rfl rfl rfl ?_
         refine WD.take_no 19 rfl Z.K Z.H rfl rfl rfl rfl rfl rfl ?_
         refine WD.take_no 20 rfl Z.K Z.H rfl rfl rfl rfl rfl rfl ?_
         refine WD.take 21 rfl Z.K Z.H rfl rfl rfl (Rd.pick_f rfl rfl rfl) ?_
         refine WD.take 22 rfl Z.K Z.H rfl rfl rfl (Rd.move rfl rfl) ?_
         refine WD.take_no 24 rfl Z.K Z.H rfl rfl rfl rfl rfl rfl ?_
         refine WD.take_no 26 rfl Z.K Z.H rfl rfl rfl rfl rfl rfl ?_
         refine WD.take_no 23 rfl Z.K Z.H rfl rfl rfl rfl rfl rfl ?_
         refine WD.take_no 25 rfl Z.K Z.H rfl rfl rfl rfl rfl rfl ?_
         refine WD.take_no 27 rfl Z.K Z.H rfl rfl rfl rfl rfl rfl ?_
         refine WD.take_no 28 rfl Z.K Z.H rfl rfl rfl rfl rfl rfl ?_
         refine WD.take_no 29 rfl Z.K Z.H rfl rfl rfl rfl rfl rfl ?_
         refine WD.take_no 30 rfl Z.K Z.H rfl rfl rfl rfl rfl rfl ?_
         refine WD.take 31 rfl Z.K Z.H rfl rfl rfl (Rd.pick_f rfl rfl rfl) ?_
         refine WD.done Z.K ?_
         exact ⟨by repeat (first | exact Sub.nil | refine Sub.cons rfl (by first | rfl | (exact vb_f (fun h => hg77 h.p2))) ?_), by exact (fun _ h => h.thin (SubL.mem Z.S))⟩
       ·
        refine WD.take_no 8 rfl Z.K Z.H rfl rfl rfl rfl rfl rfl ?_
        refine WD.take_no 9 rfl Z.K Z.H rfl rfl rfl rfl rfl rfl ?_
        refine WD.take_no 10 rfl Z.K Z.H rfl rfl rfl rfl rfl rfl ?_
        refine WD.take 11 rfl Z.K Z.H rfl rfl rfl (Rd.pick_f rfl rfl rfl) ?_
        refine WD.take 12 rfl Z.K Z.H rfl rfl rfl (Rd.move rfl rfl) ?_
        refine WD.take_no 13 rfl Z.K Z.H rfl rfl rfl rfl rfl rfl ?_
        refine WD.take_no 14 rfl Z.K Z.H rfl rfl rfl rfl rfl rfl ?_
        refine WD.take_no 15 rfl Z.K Z.H rfl rfl rfl rfl rfl rfl ?_
        refine WD.take_no 16 rfl Z.K Z.H rfl rfl rfl rfl rfl rfl ?_
        refine WD.take_no 17 rfl Z.K Z.H rfl rfl rfl rfl rfl rfl ?_
        refine WD.take_no 18 rfl Z.K Z.H rfl rfl rfl rfl rfl rfl ?_
        refine WD.take_no 19 rfl Z.K Z.H rfl rfl rfl rfl rfl rfl ?_
        refine WD.take_no 20 rfl Z.K Z.H rfl rfl rfl rfl rfl rfl ?_
        refine WD.take 21 rfl Z.K Z.H rfl rfl rfl (Rd.pick_f rfl rfl rfl) ?_
        refine WD.take 22 rfl Z.K Z.H rfl rfl rfl (Rd.move rfl rfl) ?_
        refine WD.take_no 24 rfl Z.K Z.H rfl rfl rfl rfl rfl rfl ?_
        refine WD.take_no 26 rfl Z.K Z.H rfl rfl rfl rfl rfl rfl ?_
        refine WD.take_no 23 rfl Z.K Z.H rfl rfl rfl rfl rfl rfl ?_
        refine WD.take_no 25 rfl Z.K Z.H rfl rfl rfl rfl rfl rfl ?_
        refine WD.take_no 27 rfl Z.K Z.H rfl rfl rfl rfl rfl rfl ?_
        refine WD.take_no 28 rfl Z.K Z.H rfl rfl rfl rfl rfl rfl ?_
        refine WD.take_no 29 rfl Z.K Z.H rfl rfl rfl rfl rfl rfl ?_
        refine WD.take_no 30 rfl Z.K Z.H rfl rfl rfl rfl rfl rfl ?_
        refine WD.take 31 rfl Z.K Z.H rfl rfl rfl (Rd.pick_f rfl rfl rfl) ?_
        refine WD.done Z.K ?_
        exact ⟨by repeat (first | exact Sub.nil | refine Sub.cons rfl (by first | rfl | (exact vb_f (fun h => hg72 h.p1))) ?_), by exact (fun _ h => h.thin (SubL.mem Z.S))⟩
      ·
       refine WD.take_no 3 rfl Z.K Held.all rfl rfl rfl rfl rfl rfl ?_
       refine WD.take_no 4 rfl Z.K Held.all rfl rfl rfl rfl rfl rfl ?_
       refine WD.take_no 5 rfl Z.K Held.all rfl rfl rfl rfl rfl rfl ?_
       refine WD.take 6 rfl Z.K Held.all rfl rfl rfl (Rd.pick_f rfl rfl rfl) ?_
       refine WD.take 7 rfl Z.K Held.all rfl rfl rfl (Rd.move rfl rfl) ?_
       refine WD.take_no 8 rfl Z.K Held.all rfl rfl rfl rfl rfl rfl ?_
       refine WD.take_no 9 rfl Z.K Held.all rfl rfl rfl rfl rfl rfl ?_
       refine WD.take_no 10 rfl Z.K Held.all rfl rfl rfl rfl rfl rfl ?_
       refine WD.take 11 rfl Z.K Held.all rfl rfl rfl (Rd.pick_f rfl rfl rfl) ?_
       refine WD.take 12 rfl Z.K Held.all rfl rfl rfl (Rd.move rfl rfl) ?_
       refine WD.take_no 13 rfl Z.K Held.all rfl rfl rfl rfl rfl rfl ?_
       refine WD.take_no 14 rfl Z.K Held.all rfl rfl rfl rfl rfl rfl ?_
       refine WD.take_no 15 rfl Z.K Held.all rfl rfl rfl rfl rfl rfl ?_
       refine WD.take_no 16 rfl Z.K Held.all rfl rfl rfl rfl rfl rfl ?_
       refine WD.take_no 17 rfl Z.K Held.all rfl rfl rfl rfl rfl rfl ?_
       refine WD.take_no 18 rfl Z.K Held.all rfl rfl rfl rfl rfl rfl ?_
       refine WD.take_no 19 rfl Z.K Held.all rfl rfl rfl rfl rfl rfl ?_
       refine WD.take_no 20 rfl Z.K Held.all rfl rfl rfl rfl rfl rfl ?_
       refine WD.take 21 rfl Z.K Held.all rfl rfl rfl (Rd.pick_f rfl rfl rfl) ?_
       refine WD.take 22 rfl Z.K Held.all rfl rfl rfl (Rd.move rfl rfl) ?_
       refine WD.take_no 24 rfl Z.K Held.all rfl rfl rfl rfl rfl rfl ?_
       refine WD.take_no 26 rfl Z.K Held.all rfl rfl rfl rfl rfl rfl ?_
       refine WD.take_no 23 rfl Z.K Held.all rfl rfl rfl rfl rfl rfl ?_
       refine WD.take_no 25 rfl Z.K Held.all rfl rfl rfl rfl rfl rfl ?_
       refine WD.take_no 27 rfl Z.K Held.all rfl rfl rfl rfl rfl rfl ?_
       refine WD.take_no 28 rfl Z.K Held.all rfl rfl rfl rfl rfl rfl ?_
       refine WD.take_no 29 rfl Z.K Held.all rfl rfl rfl rfl rfl rfl ?_
       refine WD.take_no 30 rfl Z.K Held.all rfl rfl rfl rfl rfl rfl ?_
       refine WD.take 31 rfl Z.K Held.all rfl rfl rfl (Rd.pick_f rfl rfl rfl) ?_
       refine WD.done Z.K ?_
       exact ⟨by repeat (first | exact Sub.nil | refine Sub.cons rfl (by first | rfl | (exact vb_f (fun h => hg67 h.new))) ?_), by exact (fun _ h => h.thin (SubL.mem Z.S))⟩
     ·
      refine WC.ite rfl (fun hc4 => ?_) (fun hc4 => ?_)
      ·
       refine WC.region ?_
       refine WL.rd rfl rfl rfl (Rd.move rfl rfl) ?_
       refine WL.rd rfl rfl rfl ((by exact Rd.rowS rfl G27 rfl Z.M Z.N rfl)) ?_
       refine WL.op rfl ?_
       refine OpW.buildSl (ps := [(0, _)]) rfl S24 Z.E rfl rfl Z.C Z.K rfl rfl rfl ?_; intro b99
       refine WL.op rfl ?_
       refine OpW.appendRow (enc := encP) rfl S24 rfl rfl Z.T Z.T [_] rfl (by rfl) rfl (by intro x; rfl) (by intro x; rfl) (by exact ⟨by simp only [maxLen, List.length_append, List.length_nil, List.length_cons, List.length_drop, List.length_take, List.length_map]; omega, by omega⟩) rfl rfl ?_; intro v100 hv100
       refine WL.rd rfl rfl rfl (Rd.assign rfl rfl) ?_
       refine WL.nil ?_
       refine blockQ.normal ?_
       refine thenQ.normal ?_
       refine WC.region ?_
       refine WL.rd rfl rfl rfl (Rd.move rfl rfl) ?_
       refine WL.rd rfl rfl rfl (Rd.add rfl rfl rfl Z.W) ?_
       refine WL.rd rfl rfl rfl (Rd.assign rfl rfl) ?_
       refine WL.nil ?_
       exact loopQ3.mk (i + 1) (gd ++ [xs[i]!]) v100 ⟨by omega, by omega, by rw [List.length_append, List.length_singleton]; omega, i4.more hc4⟩ Z.W (by repeat (first | exact Sub.nil | refine Sub.cons rfl (by rfl) ?_)) Z.F
      ·
       refine WC.skip ?_
       refine blockQ.normal ?_
       refine thenQ.normal ?_
       refine WC.region ?_
       refine WL.rd rfl rfl rfl (Rd.move rfl rfl) ?_
       refine WL.rd rfl rfl rfl (Rd.add rfl rfl rfl Z.W) ?_
       refine WL.rd rfl rfl rfl (Rd.assign rfl rfl) ?_
       refine WL.nil ?_
       exact loopQ3.mk (i + 1) gd gv ⟨by omega, by omega, by omega, i4⟩ Z.W (by repeat (first | exact Sub.nil | refine Sub.cons rfl (by rfl) ?_)) Z.F
   ·
    have hcnt := (i4.good Z.W).count
    have hsl := showL_len i4.short
    have hvl := showT_len (toks_of gd) Z.W
    have hel := ents_len (toksOf gd)
    refine WC.heap (fun w h => Sat.shareA (xs := gd) Z.T h) ?_
    refine WC.exit ?_
    refine thenQ.exit ?_
    refine loopQ3.exit ?_
    refine blockQ.exit ?_
    refine thenQ.normal ?_
    refine WC.seq ?_
    refine WC.region ?_
    refine WL.rd rfl rfl rfl (Rd.assign rfl rfl) ?_
    refine WL.nil ?_
    refine thenQ.normal ?_
    refine WC.seq ?_
    refine WC.seq ?_
    refine WC.region ?_
    refine WL.rd rfl rfl rfl (Rd.assign rfl rfl) ?_
    refine WL.nil ?_
    refine thenQ.normal ?_
    refine WC.block ?_
    refine WC.pick [10, 11, 1, 5] Z.P ?_
    refine WC.loop3 2 (fun (j : Nat) (wd : T) (wv : Value) => [(10, wv), (11, vi j)]) (fun (j : Nat) (wd : T) (wv : Value) => accC 5 1 (SL.one vy) wv wd :: O) (fun (j : Nat) (wd : T) (wv : Value) => j ≤ s.length ∧ j ≤ 300 ∧ wd.length = j ∧ ∀ c ∈ wd, inside c) (fun (j : Nat) (wd : T) (wv : Value) => s.length - j) (0) ([]) (nilS) Z.L ?hinv3 (by repeat (first | exact Sub.nil | refine Sub.cons rfl (by rfl) ?_)) (fun w h => by have := Sat.accNil (e := 5) (size := 1) (enc := SL.one vy) h; exact Z.Fw this) ?_
    case hinv3 =>
     exact ⟨Nat.zero_le _, Nat.zero_le _, rfl, fun _ h => absurd h List.not_mem_nil⟩
    intro j wd wv
    rintro ⟨j1, j2, j3, j4⟩
    refine WC.seq ?_
    refine WC.pick [1, 5, 10, 11] Z.P ?_
    refine WC.val 108 (.bool (decide (j < s.length ∧ j < 300))) ?_ ?_
    ·
     refine WC.region ?_
     refine WL.rd rfl rfl rfl (Rd.move rfl rfl) ?_
     refine WL.rd rfl rfl rfl (Rd.move rfl rfl) ?_
     refine WL.rd rfl rfl rfl (Rd.slen (ts := #[]) (ty := 0) rfl rfl Tryz.underlying9) ?_
     refine WL.rd rfl rfl rfl (Rd.lss rfl rfl rfl) ?_
     refine WL.rd rfl rfl rfl (Rd.move rfl rfl) ?_
     refine WL.case 105 rfl (fun hg105 => ?_) (fun hg105 => ?_)
     ·
      refine WL.rd_yes rfl rfl rfl rfl rfl rfl (Rd.move rfl rfl) ?_
      refine WL.rd_yes rfl rfl rfl rfl rfl rfl (Rd.lss rfl rfl rfl) ?_
      refine WL.rd rfl rfl rfl (Rd.pick_t rfl rfl rfl) ?_
      refine WL.nil ?_
      exact ⟨by repeat (first | exact Sub.nil | refine Sub.cons rfl (by first | rfl | (exact vb ⟨fun h => ⟨by omega, by omega⟩, fun h => by omega⟩)) ?_), by exact (fun _ h => h.thin (SubL.mem Z.S))⟩
     ·
      refine WL.no rfl rfl rfl rfl rfl rfl ?_
      refine WL.no rfl rfl rfl rfl rfl rfl ?_
      refine WL.rd rfl rfl rfl (Rd.pick_f rfl rfl rfl) ?_
      refine WL.nil ?_
      exact ⟨by repeat (first | exact Sub.nil | refine Sub.cons rfl (by first | rfl | (exact vb_f Z.W)) ?_), by exact (fun _ h => h.thin (SubL.mem Z.S))⟩
    ·
     refine WC.ite rfl (fun hc5 => ?_) (fun hc5 => ?_)
     ·
      refine WC.skip ?_
      refine thenQ.normal ?_
      refine WC.seq ?_
      refine WC.block ?_
      refine WC.region ?_
      refine WL.rd rfl rfl rfl (Rd.move rfl rfl) ?_
      refine WL.rd rfl rfl rfl (Rd.move rfl rfl) ?_
      refine WL.rd rfl rfl rfl (Rd.move rfl rfl) ?_
      refine WL.rd rfl rfl rfl (Rd.sidx (k := j) rfl Tryz.underlying9 rfl rfl Z.W (by exact get!_of_lt Z.W)) ?_
      refine WL.rd rfl rfl rfl (Rd.remN (b := 94) rfl rfl rfl rfl rfl (by decide)) ?_
      refine WL.rd rfl rfl rfl (Rd.addw rfl rfl rfl) ?_
      refine WL.say 116 (u := vy (wbyte s[j]!)) rfl (by show _ = Value.int .u8 ((wbyte s[j]!).toNat : Int); rw [wbyte_val]; exact congrArg (Value.int .u8) (u8_add _)) ?_
      refine WL.op rfl ?_
      refine OpW.buildSl (ps := [(0, _)]) rfl S30 Z.E rfl rfl Z.C Z.K rfl rfl rfl ?_; intro b117
      refine WL.op rfl ?_
      refine OpW.appendRow (enc := SL.one vy) rfl S30 rfl rfl Z.T Z.T [wbyte s[j]!] rfl (by rfl) rfl (by intro x; rfl) (by intro x; rfl) (by exact ⟨by simp only [maxLen, List.length_append, List.length_nil, List.length_cons, List.length_drop, List.length_take, List.length_map]; omega, by omega⟩) rfl rfl ?_; intro v118 hv118
      refine WL.rd rfl rfl rfl (Rd.assign rfl rfl) ?_
      refine WL.nil ?_
      refine blockQ.normal ?_
      refine thenQ.normal ?_
      refine WC.region ?_
      refine WL.rd rfl rfl rfl (Rd.move rfl rfl) ?_
      refine WL.rd rfl rfl rfl (Rd.add rfl rfl rfl Z.W) ?_
      refine WL.rd rfl rfl rfl (Rd.assign rfl rfl) ?_
      refine WL.nil ?_
      exact loopQ3.mk (j + 1) (wd ++ [wbyte s[j]!]) v118 ⟨by omega, by omega, by rw [List.length_append, List.length_singleton]; omega, fun c hc => by
      rcases List.mem_append.1 hc with hc | hc
      · exact j4 c hc
      · rw [List.mem_singleton.1 hc]; exact wbyte_in _⟩ Z.W (by repeat (first | exact Sub.nil | refine Sub.cons rfl (by rfl) ?_)) Z.F
     ·
      refine WC.heap (fun w h => Sat.shareA (e := 5) (size := 1) (enc := SL.one vy) (xs := wd) Z.T h) ?_
      refine WC.exit ?_
      refine thenQ.exit ?_
      refine loopQ3.exit ?_
      refine blockQ.exit ?_
      refine thenQ.normal ?_
      refine WC.seq ?_
      refine WC.region ?_
      refine WL.rd rfl rfl rfl (Rd.move rfl rfl) ?_
      refine WL.op rfl ?_
      refine OpW.call rfl rfl Z.E Z.K rfl rfl rfl ?_
      refine show_spec (l := gd) Z.M Z.W ?_
      refine WL.op rfl ?_
      refine OpW.call rfl rfl Z.E Z.K rfl rfl rfl ?_
      refine parse_spec (s := showL gd) ?_ Z.W; intro v122 r hr2; obtain rfl := parse_shown i4.part i4.short i4.nd Z.W hr2
      refine WL.rd rfl rfl rfl (Rd.move rfl rfl) ?_
      refine WL.rd rfl rfl rfl (Rd.extract rfl rfl rfl) ?_
      refine WL.rd rfl rfl rfl (Rd.extract rfl rfl rfl) ?_
      refine WL.rd rfl rfl rfl (Rd.extract rfl rfl rfl) ?_
      refine WL.rd rfl rfl rfl (Rd.assign rfl rfl) ?_
      refine WL.rd rfl rfl rfl (Rd.assign rfl rfl) ?_
      refine WL.rd rfl rfl rfl (Rd.assign rfl rfl) ?_
      refine WL.nil ?_
      refine thenQ.normal ?_
      refine WC.seq ?_
      refine WC.region ?_
      refine WL.rd rfl rfl rfl (Rd.move rfl rfl) ?_
      refine WL.op rfl ?_
      refine OpW.call rfl rfl Z.E Z.K rfl rfl rfl ?_
      refine of_spec (l := gd) Z.M Z.W (fun p hp => by have := i4.short p hp; omega) ?_; intro v128
      refine WL.op rfl ?_
      refine OpW.call rfl rfl Z.E Z.K rfl rfl rfl ?_
      refine vshow_spec (es := entsOf (toksOf gd)) Z.M Z.M (fun x hx => by have := (ents_mem hx).1; omega) Z.W ?_
      refine WL.op rfl ?_
      refine OpW.call rfl rfl Z.E Z.K rfl rfl rfl ?_
      refine vparse_spec (ts := toksOf gd) (toks_of gd) Z.M Z.W ?_; intro v130
      refine WL.rd rfl rfl rfl (Rd.move rfl rfl) ?_
      refine WL.rd rfl rfl rfl (Rd.extract rfl rfl rfl) ?_
      refine WL.rd rfl rfl rfl (Rd.extract rfl rfl rfl) ?_
      refine WL.rd rfl rfl rfl (Rd.extract rfl rfl rfl) ?_
      refine WL.rd rfl rfl rfl (Rd.assign rfl rfl) ?_
      refine WL.rd rfl rfl rfl (Rd.assign rfl rfl) ?_
      refine WL.rd rfl rfl rfl (Rd.assign rfl rfl) ?_
      refine WL.nil ?_
      refine thenQ.normal ?_
      refine WC.seq ?_
      refine WC.seq ?_
      refine WC.region ?_
      refine WL.rd rfl rfl rfl (Rd.move rfl rfl) ?_
      refine WL.rd rfl rfl rfl (Rd.neq rfl rfl rfl) ?_
      refine WL.rd rfl rfl rfl (Rd.move rfl rfl) ?_
      refine WL.case 136 rfl (fun hg136 => ?_) (fun hg136 => ?_)
      ·
       exact absurd rfl hg136
      ·
       refine WL.rd_yes rfl rfl rfl rfl rfl rfl (Rd.move rfl rfl) ?_
       refine WL.rd_yes rfl rfl rfl rfl rfl rfl (Rd.neq rfl rfl rfl) ?_
       refine WL.rd rfl rfl rfl (Rd.pick_f rfl rfl rfl) ?_
       refine WL.rd rfl rfl rfl (Rd.move rfl rfl) ?_
       refine WL.case 140 rfl (fun hg140 => ?_) (fun hg140 => ?_)
       ·
        exact absurd rfl hg140
       ·
        refine WL.rd_yes rfl rfl rfl rfl rfl rfl (Rd.move rfl rfl) ?_
        refine WL.rd_yes rfl rfl rfl rfl rfl rfl (Rd.neq rfl rfl rfl) ?_
        refine WL.rd rfl rfl rfl (Rd.pick_f rfl rfl rfl) ?_
        refine WL.rd rfl rfl rfl (Rd.move rfl rfl) ?_
        refine WL.case 144 rfl (fun hg144 => ?_) (fun hg144 => ?_)
        ·
         exact absurd rfl hg144
        ·
         refine WL.rd_yes rfl rfl rfl rfl rfl rfl (Rd.move rfl rfl) ?_
         refine WL.rd_yes rfl rfl rfl rfl rfl rfl (Rd.neq rfl rfl rfl) ?_
         refine WL.rd rfl rfl rfl (Rd.pick_f rfl rfl rfl) ?_
         refine WL.rd rfl rfl rfl (Rd.move rfl rfl) ?_
         refine WL.case 148 rfl (fun hg148 => ?_) (fun hg148 => ?_)
         ·
          exact absurd rfl hg148
         ·
          refine WL.rd_yes rfl rfl rfl rfl rfl rfl (Rd.move rfl rfl) ?_
          refine WL.op_yes rfl rfl rfl rfl ?_
          refine OpW.call rfl rfl Z.E Z.K rfl rfl rfl ?_
          refine invalid_spec (l := gd) Z.M (fun p hp => by have := i4.short p hp; omega) ?_; intro k150 hk150; obtain rfl := hk150.uniq i4.inv
          refine WL.rd_yes rfl rfl rfl rfl rfl rfl (Rd.neq rfl rfl rfl) ?_
          refine WL.rd rfl rfl rfl (Rd.pick_f rfl rfl rfl) ?_
          refine WL.nil ?_
          refine thenQ.normal ?_
          refine WC.ite rfl (fun hc6 => ?_) (fun hc6 => ?_)
          ·
           exact absurd rfl hc6
          ·
           refine WC.skip ?_
           refine thenQ.normal ?_
           refine WC.seq ?_
           refine WC.region ?_
           refine WL.rd rfl rfl rfl (Rd.move rfl rfl) ?_
           refine WL.op rfl ?_
           refine OpW.call rfl rfl Z.E Z.K rfl rfl rfl ?_
           refine of_spec (l := gd) Z.M Z.W (fun p hp => by have := i4.short p hp; omega) ?_; intro v154
           refine WL.op rfl ?_
           refine OpW.call rfl rfl Z.E Z.K rfl rfl rfl ?_
           refine vnew_spec (es := entsOf (toksOf gd)) Z.M Z.W ?_; intro b155 ev155
           refine WL.rd rfl rfl rfl (Rd.move rfl rfl) ?_
           refine WL.op rfl ?_
           refine OpW.call rfl rfl Z.E Z.K rfl rfl rfl ?_
           refine vnew_spec (es := entsOf (toksOf gd)) Z.M Z.W ?_; intro b157 ev157
           refine WL.rd rfl rfl rfl (Rd.assign rfl rfl) ?_
           refine WL.rd rfl rfl rfl (Rd.assign rfl rfl) ?_
           refine WL.nil ?_
           refine thenQ.normal ?_
           refine WC.seq ?_
           refine WC.region ?_
           refine WL.rd rfl rfl rfl (Rd.move rfl rfl) ?_
           refine WL.rd rfl rfl rfl (Rd.move rfl rfl) ?_
           refine WL.rd rfl rfl rfl (Rd.move rfl rfl) ?_
           refine WL.rd rfl rfl rfl ((by exact Rd.strOfE rfl Tryz.underlying30 Tryz.underlying9 Tryz.underlying5 rfl Z.M)) ?_
           refine WL.op rfl ?_
           refine OpW.call rfl rfl Z.E Z.K rfl rfl rfl ?_
           refine Fun.heap (R' := _) (O' := ixRow b155 ev155 0 0 (.map none) (.map none) 0 :: ixRow b157 ev157 0 0 (.map none) (.map none) 0 :: O) Z.F ?_
           refine encode_spec (l := gd) (word := wd) (b := b155) (a := 0 + 1) (O := ixRow b157 ev157 0 0 (.map none) (.map none) 0 :: O) Z.M (i4.good Z.W) j4 Z.W (fun P h => ready0_spec (ts := toksOf gd) Z.M (toks_of gd) Z.W Z.W h) ?_
           intro v163 out b1 b2 m1 m2 hS hM
           refine WL.rd rfl rfl rfl (Rd.move rfl rfl) ?_
           refine WL.rd rfl rfl rfl (Rd.extract rfl rfl rfl) ?_
           refine WL.rd rfl rfl rfl (Rd.extract rfl rfl rfl) ?_
           refine WL.rd rfl rfl rfl (Rd.assign rfl rfl) ?_
           refine WL.rd rfl rfl rfl (Rd.assign rfl rfl) ?_
           refine WL.nil ?_
           refine thenQ.normal ?_
           refine WC.seq ?_
           refine WC.region ?_
           refine WL.rd rfl rfl rfl (Rd.move rfl rfl) ?_
           refine WL.rd rfl rfl rfl (Rd.move rfl rfl) ?_
           refine WL.rd rfl rfl rfl (Rd.move rfl rfl) ?_
           refine WL.rd rfl rfl rfl ((by exact Rd.strOfE rfl Tryz.underlying30 Tryz.underlying9 Tryz.underlying5 rfl Z.M)) ?_
           refine WL.op rfl ?_
           refine OpW.call rfl rfl Z.E Z.K rfl rfl rfl ?_
           refine Fun.heap (R' := _) (O' := ixRow b157 ev157 0 0 (.map none) (.map none) 0 :: O) Z.F ?_
           refine encode_spec (l := gd) (word := wd) (b := b157) (a := 0 + 1) (O := O) Z.M (i4.good Z.W) j4 Z.W (fun P h => ready0_spec (ts := toksOf gd) Z.M (toks_of gd) Z.W Z.W h) ?_
           intro v171 out2 b3 b4 m3 m4 hS2 hM2
           obtain rfl := split_uniq hS2 hS
           obtain ⟨hflat, hin⟩ := split_known (i4.good Z.W) j4 Z.W hS
           have hol := parts_le (ps := out2) (fun x hx => ((toks_of gd).good x (hin x hx)).2.1)
           rw [hflat] at hol
           refine WL.rd rfl rfl rfl (Rd.move rfl rfl) ?_
           refine WL.rd rfl rfl rfl (Rd.extract rfl rfl rfl) ?_
           refine WL.rd rfl rfl rfl (Rd.extract rfl rfl rfl) ?_
           refine WL.rd rfl rfl rfl (Rd.assign rfl rfl) ?_
           refine WL.rd rfl rfl rfl (Rd.assign rfl rfl) ?_
           refine WL.nil ?_
           refine thenQ.normal ?_
           refine WC.seq ?_
           refine WC.seq ?_
           refine WC.region ?_
           refine WL.rd rfl rfl rfl (Rd.move rfl rfl) ?_
           refine WL.rd rfl rfl rfl ((by exact Rd.not rfl rfl)) ?_
           refine WL.say 175 (u := .bool (decide False)) rfl rfl ?_
           refine WL.rd rfl rfl rfl (Rd.move rfl rfl) ?_
           refine WL.case 176 rfl (fun hg176 => ?_) (fun hg176 => ?_)
           ·
            exact hg176.elim
           ·
            refine WL.rd_yes rfl rfl rfl rfl rfl rfl (Rd.move rfl rfl) ?_
            refine WL.rd_yes rfl rfl rfl rfl rfl rfl ((by exact Rd.not rfl rfl)) ?_
            refine WL.say 178 (u := .bool (decide False)) rfl rfl ?_
            refine WL.rd rfl rfl rfl (Rd.pick_f rfl rfl rfl) ?_
            refine WL.rd rfl rfl rfl (Rd.move rfl rfl) ?_
            refine WL.case 180 rfl (fun hg180 => ?_) (fun hg180 => ?_)
            ·
             exact hg180.elim
            ·
             refine WL.rd_yes rfl rfl rfl rfl rfl rfl (Rd.move rfl rfl) ?_
             refine WL.rd_yes rfl rfl rfl rfl rfl rfl (Rd.lenE (enc := SL.one vi) (xs := numsOf (toksOf gd) out2) rfl rfl Tryz.underlying42 Z.M) ?_
             refine WL.rd_yes rfl rfl rfl rfl rfl rfl (Rd.move rfl rfl) ?_
             refine WL.rd_yes rfl rfl rfl rfl rfl rfl (Rd.lenE (enc := SL.one vi) (xs := numsOf (toksOf gd) out2) rfl rfl Tryz.underlying42 Z.M) ?_
             refine WL.rd_yes rfl rfl rfl rfl rfl rfl (Rd.neq rfl rfl rfl) ?_
             refine WL.rd rfl rfl rfl (Rd.pick_f rfl rfl rfl) ?_
             refine WL.nil ?_
             refine thenQ.normal ?_
             refine WC.ite rfl (fun hc7 => ?_) (fun hc7 => ?_)
             ·
              exact absurd rfl hc7
             ·
              refine WC.skip ?_
              refine thenQ.normal ?_
              refine WC.seq ?_
              refine WC.seq ?_
              refine WC.region ?_
              refine WL.rd rfl rfl rfl (Rd.assign rfl rfl) ?_
              refine WL.nil ?_
              refine thenQ.normal ?_
              refine WC.block ?_
              refine WC.pick [24, 10, 19, 20, 22] Z.P ?_
              refine WC.loop1o 1 (fun (n : Nat) => [(24, vi n)]) (fun (n : Nat) => n ≤ out2.length) (fun (n : Nat) => out2.length - n) (0) Z.L ?hinv4 (by repeat (first | exact Sub.nil | refine Sub.cons rfl (by rfl) ?_)) (fun _ h => h) ?_
              case hinv4 =>
               exact Nat.zero_le _
              intro n
              rintro n1
              refine WC.seq ?_
              refine WC.seq ?_
              refine WC.region ?_
              refine WL.rd rfl rfl rfl (Rd.move rfl rfl) ?_
              refine WL.rd rfl rfl rfl (Rd.move rfl rfl) ?_
              refine WL.rd rfl rfl rfl (Rd.lenE (enc := SL.one vi) (xs := numsOf (toksOf gd) out2) rfl rfl Tryz.underlying42 Z.M) ?_
              refine WL.say 189 (u := vi out2.length) rfl (by rw [nums_len]) ?_
              refine WL.rd rfl rfl rfl (Rd.lss rfl rfl rfl) ?_
              refine WL.nil ?_
              refine thenQ.normal ?_
              refine WC.ite rfl (fun hc8 => ?_) (fun hc8 => ?_)
              ·
               refine WC.skip ?_
               refine thenQ.normal ?_
               refine WC.seq ?_
               refine WC.block ?_
               refine WC.seq ?_
               refine WC.still mixed Z.K ?_
               refine WA.rd rfl rfl rfl (Rd.move rfl rfl) ?_
               refine WA.rd rfl rfl rfl (Rd.move rfl rfl) ?_
               refine WA.rd rfl rfl rfl (Rd.idx1 (v := v163) (enc := SL.one vi) (xs := numsOf (toksOf gd) out2) (k := n) rfl S42 rfl rfl rfl Z.M (by rw [nums_len]; omega)) ?_
               refine WA.rd rfl rfl rfl (Rd.get (v := v163) (g := vi) (xs := numsOf (toksOf gd) out2) (k := n) (a := (numsOf (toksOf gd) out2)[n]!) rfl C3 rfl Z.M (get!_of_lt (by rw [nums_len]; omega))) ?_
               refine WA.rd rfl rfl rfl (Rd.move rfl rfl) ?_
               refine WA.rd rfl rfl rfl (Rd.move rfl rfl) ?_
               refine WA.rd rfl rfl rfl (Rd.idx1 (v := v171) (enc := SL.one vi) (xs := numsOf (toksOf gd) out2) (k := n) rfl S42 rfl rfl rfl Z.M (by rw [nums_len]; omega)) ?_
               refine WA.rd rfl rfl rfl (Rd.get (v := v171) (g := vi) (xs := numsOf (toksOf gd) out2) (k := n) (a := (numsOf (toksOf gd) out2)[n]!) rfl C3 rfl Z.M (get!_of_lt (by rw [nums_len]; omega))) ?_
               refine WA.rd rfl rfl rfl (Rd.neq rfl rfl rfl) ?_
               refine WA.nil ?_
               refine thenQ.normal ?_
               refine WC.ite rfl (fun hc9 => ?_) (fun hc9 => ?_)
               ·
                exact absurd rfl hc9
               ·
                refine WC.skip ?_
                refine blockQ.normal ?_
                refine thenQ.normal ?_
                refine WC.region ?_
                refine WL.rd rfl rfl rfl (Rd.move rfl rfl) ?_
                refine WL.rd rfl rfl rfl (Rd.add rfl rfl rfl Z.W) ?_
                refine WL.rd rfl rfl rfl (Rd.assign rfl rfl) ?_
                refine WL.nil ?_
                exact loopQ1.mk (n + 1) Z.W Z.W (by repeat (first | exact Sub.nil | refine Sub.cons rfl (by rfl) ?_)) Z.F
              ·
               refine WC.exit ?_
               refine thenQ.exit ?_
               refine loopQ1.exit ?_
               refine blockQ.exit ?_
               refine thenQ.normal ?_
               refine WC.seq ?_
               refine WC.region ?_
               refine WL.rd rfl rfl rfl (Rd.move rfl rfl) ?_
               refine WL.rd rfl rfl rfl (Rd.move rfl rfl) ?_
               refine WL.op rfl ?_
               refine OpW.call rfl rfl Z.E Z.K rfl rfl rfl ?_
               refine decode_spec (ts := toksOf gd) (out := out2) (b := b157) (a := 0 + 1) (m1 := m3) (m2 := m4) (O := O) Z.M hM2 hin (by rw [hflat]; omega) Z.W ?_
               refine WL.rd rfl rfl rfl (Rd.move rfl rfl) ?_
               refine WL.rd rfl rfl rfl (Rd.extract rfl rfl rfl) ?_
               refine WL.rd rfl rfl rfl (Rd.extract rfl rfl rfl) ?_
               refine WL.rd rfl rfl rfl (Rd.assign rfl rfl) ?_
               refine WL.rd rfl rfl rfl (Rd.assign rfl rfl) ?_
               refine WL.nil ?_
               refine thenQ.normal ?_
               refine WC.seq ?_
               refine WC.region ?_
               refine WL.rd rfl rfl rfl (Rd.move rfl rfl) ?_
               refine WL.say 208 (u := .bool (decide True)) rfl rfl ?_
               refine WL.rd rfl rfl rfl (Rd.move rfl rfl) ?_
               refine WL.case 209 rfl (fun hg209 => ?_) (fun hg209 => ?_)
               ·
                refine WL.rd_yes rfl rfl rfl rfl rfl rfl (Rd.move rfl rfl) ?_
                refine WL.rd_yes rfl rfl rfl rfl rfl rfl (Rd.move rfl rfl) ?_
                refine WL.rd_yes rfl rfl rfl rfl rfl rfl ((by exact Rd.strOfE rfl Tryz.underlying30 Tryz.underlying9 Tryz.underlying5 rfl Z.M)) ?_
                refine WL.rd_yes rfl rfl rfl rfl rfl rfl (Rd.seql rfl rfl rfl) ?_
                refine WL.say 213 (u := .bool true) rfl (by rw [hflat]; simp) ?_
                refine WL.rd rfl rfl rfl (Rd.pick_t rfl rfl rfl) ?_
                refine WL.rd rfl rfl rfl (Rd.assign rfl rfl) ?_
                refine WL.nil ?_
                refine thenQ.normal ?_
                refine WC.ret (Ret.one Tryz.results3 rfl ?_)
                exact ⟨_, _, hk, Z.F⟩
               ·
                exact absurd trivial hg209
end
end Go.Proofs.YtkobjfjmkhmehaaGreatDoor.Mg
