/-
  Part 7 of the texts that the law TopAgreed is proved with: Ag2, Ek4. No premise.
-/
import Derived.Test.YtnjfgcpmcjmddaaGreatDoorZ6
namespace Go.Proofs.YtnjfgcpmcjmddaaGreatDoor.Ag
open Go Go.SL
abbrev nilS : Value := .slice none 0 0
theorem boolA {m : GoMap T Bool} {id : T} : ((m.get id).map vbl).getD (.bool false) = .bool (decide (m.get id = some true)) := by cases m.get id with | none => rfl | some b => cases b <;> rfl
theorem has_put {m : GoMap T Bool} {l : List T} (h : ∀ z, m.get z = some true ↔ z ∈ l) (y : T) : ∀ z, (m.set y true).get z = some true ↔ z ∈ l ++ [y] := fun z => by
 rw [GoMap.get_set]
 by_cases e : z = y
 · simp [e]
 · simp [e, h z]
theorem out_new {ns : List Int} {i : Nat} {x : Int} (hx : ns[i]! = x) (h : ¬ ltr (plc x) ∈ outTo ns i) : outTo ns (i + 1) = outTo ns i ++ [ltr (plc x)] := by
 show addT (outTo ns i) _ = _
 rw [hx]
 exact if_neg h
theorem out_old {ns : List Int} {i : Nat} {x : Int} (hx : ns[i]! = x) (h : ltr (plc x) ∈ outTo ns i) : outTo ns (i + 1) = outTo ns i := by
 show addT (outTo ns i) _ = _
 rw [hx]
 exact if_pos h
theorem itTo_zero (out : List T) : itTo out 0 = [] := rfl
theorem it_kl (out : List T) : Kd.KL (itTo out 9) := ⟨by have := itTo_len out 9; omega, fun x hx => by
 unfold itTo at hx
 rw [List.mem_filterMap] at hx
 obtain ⟨j, _, hj⟩ := hx
 split at hj
 · cases hj; show 1 ≤ _; omega
 · cases hj⟩
theorem merged_nodup {a b c ks : List T} (hks : Kd.KsOf ks [itTo a 9, itTo b 9, itTo c 9]) : ((Kd.itemsL (Kd.mval (itTo a 9) (itTo b 9) (itTo c 9)) ks).map (·.1)).Nodup := by
 rw [items_keyA]
 exact hks.1.nodup.filter _
theorem in_take {K : List Kd.It} {k : Nat} {s : T} (hk : k < K.length) : s ∈ (K.take (k + 1)).map (·.1) ↔ s ∈ (K.take k).map (·.1) ∨ K[k]!.1 = s := by
 rw [Kd.take_snoc hk, List.map_append, List.mem_append, List.map_singleton, List.mem_singleton]
 exact ⟨fun h => h.imp id Eq.symm, fun h => h.imp id Eq.symm⟩
theorem joins_l : ∃ ll cl, Ld.listsE [] [[97]] [[98]] = (ll, cl, 0) ∧ ll.length = 2 ∧ cl.length = 0 := by
 have hX : ([[97]] : List T).Nodup := nodup1
 have hY : ([[98]] : List T).Nodup := nodup1
 have h0 : ([] : List T).Nodup := List.nodup_nil
 have e1 : ([[97]] : List T).filter (Ld.staysB [[97]] [[98]] []) = [[97]] := by decide
 have e2 : ([[98]] : List T).filter (Ld.staysB [[97]] [[98]] []) = [[98]] := by decide
 have e3 : Ld.oneE [] [[97]] [[98]] = none := by decide
 unfold Ld.listsE
 rw [if_neg (by intro h; exact h ⟨h0, hX, hY⟩), if_neg (by rw [e3]; decide), e1, e2]
 rcases Ld.shufE_all [[97]] [[98]] [] hX hY with ⟨_, r, h2, _, h4⟩ | ⟨h1, _⟩
 · have e : Ld.shufR [[97]] [[98]] = (r, []) := by unfold Ld.shufR; rw [h2]
   rw [e]
   refine ⟨r, [], rfl, ?_, rfl⟩
   have : (([[97]] : List T).filter fun s => decide (s ∈ ([[98]] : List T))).length = 0 := by decide
   rw [this] at h4
   simpa using h4
 · exact absurd (by decide) h1
theorem joins_k {l : List Kd.It} {c : List Kd.Cf} {e : Int} (h : Kd.MRes [] [([97], [])] [] l c e) : e = 0 ∧ c.length = 0 ∧ l.length = 1 := by
 obtain ⟨he, ks, hks, hc, _, hl⟩ := h.2 (Kd.RightP.of List.Pairwise.nil) (Kd.RightP.of (List.pairwise_singleton _ _)) (Kd.RightP.of List.Pairwise.nil)
 obtain rfl : ks = [[97]] := Asc.uniq hks.1 (List.pairwise_singleton _ _) fun k => by rw [hks.2 k]; simp [Kd.keysIn]
 have e0 : Kd.mbad [] [([97], [])] [] [[97]] = [] := by decide
 rw [e0] at hc
 refine ⟨he, by rw [hc]; rfl, ?_⟩
 rw [hl hc]
 decide
section
variable {R : List RO} {O O' : List Own} {POST : Value → List RO → List Own → Prop}
set_option maxRecDepth 20000 in
set_option maxHeartbeats 1000000 in
theorem listed_spec {ns : List Int} {nv : Value} (hl : SlE (SL.one vi) nv ns ∈ R) (hk : ∀ ov iv out, Ltrs out → out.length ≤ 20 → POST (.tuple #[ov, iv]) (SlE (SL.one vs) ov out :: SlE Kd.encI iv (itTo out 9) :: R) O) : Fun Tryz.prog 5 #[nv] R O POST := by
 refine Go.SL.Fun.turn ?_
 refine Fun.len hl fun hll => ?_
 refine Fun.enter (l := [_]) Tryz.func5 rfl Tryz.ntmps5 rfl (L0 := [(0, _)]) rfl ?_
 refine WC.heap (R' := R) (O' := accC 9 1 (SL.one vs) nilS [] :: accC 35 2 Kd.encI nilS [] :: O) (fun w h => h.accNil.accNil) ?_
 refine Z.s1 <| Z.a1 rfl <| Z.a1 rfl <| Z.q1 <| Z.a1 rfl <| Z.q1 ?_
 refine WL.op rfl ?_
 refine OpW.makeMap vs vbl rfl rfl rfl ?_; intro b11
 refine Z.a1 rfl <| Z.n1 <| Z.s2 <| Z.a1 rfl <| Z.n1 ?_
 refine WC.block ?_
 refine WC.pick [4, 6, 0, 5] Z.P ?_
 refine WC.loop3 2 (fun (i : Nat) (m : GoMap T Bool) (ov : Value) => [(4, ov), (6, vi i)]) (fun (i : Nat) (m : GoMap T Bool) (ov : Value) => mapC vs vbl b11 m :: accC 9 1 (SL.one vs) ov (outTo ns i) :: accC 35 2 Kd.encI nilS [] :: O) (fun (i : Nat) (m : GoMap T Bool) (ov : Value) => i ≤ ns.length ∧ i ≤ 20 ∧ ∀ z, m.get z = some true ↔ z ∈ outTo ns i) (fun (i : Nat) (m : GoMap T Bool) (ov : Value) => ns.length - i) (0) (GoMap.empty) (nilS) Z.L ?hinv1 (by repeat (first | exact Sub.nil | refine Sub.cons rfl (by rfl) ?_)) (fun _ h => h) ?_
 case hinv1 =>
  exact ⟨Nat.zero_le _, Nat.zero_le _, fun z => by simp [outTo]⟩
 intro i m ov
 rintro ⟨i1, i2, i3⟩
 refine WC.seq ?_
 refine WC.pick [0, 4, 5, 6] Z.P ?_
 refine WC.val 19 (.bool (decide (i < ns.length ∧ i < 20))) ?_ ?_
 ·
  refine WC.region ?_
  refine Z.m1 rfl <| Z.m1 rfl <| Z.r1 rfl (by exact Rd.lenE rfl rfl Tryz.underlying22 Z.M) ?_
  refine Z.r1 rfl (Rd.lss rfl rfl rfl) <| Z.m1 rfl ?_
  refine WL.case 16 rfl (fun hg16 => ?_) (fun hg16 => ?_)
  ·
   refine Z.y1 rfl (Rd.move rfl rfl) <| Z.y1 rfl (Rd.lss rfl rfl rfl) <| Z.r1 rfl (Rd.pick_t rfl rfl rfl) ?_
   refine WL.nil ?_
   exact ⟨by repeat (first | exact Sub.nil | refine Sub.cons rfl (by first | rfl | (exact vb ⟨fun h => ⟨by omega, by omega⟩, fun h => by omega⟩)) ?_), by exact (fun _ h => h.thin (SubL.mem Z.S))⟩
  ·
   refine Z.o1 rfl <| Z.o1 rfl <| Z.r1 rfl (Rd.pick_f rfl rfl rfl) ?_
   refine WL.nil ?_
   exact ⟨by repeat (first | exact Sub.nil | refine Sub.cons rfl (by first | rfl | (exact vb_f Z.W)) ?_), by exact (fun _ h => h.thin (SubL.mem Z.S))⟩
 ·
  refine WC.ite rfl (fun hc1 => ?_) (fun hc1 => ?_)
  ·
   have hi : i < ns.length := by omega
   obtain ⟨x, hx⟩ : ∃ x, ns[i]! = x := ⟨_, rfl⟩
   have htm : -9 < x.tmod ((9 : Nat) : Int) ∧ x.tmod ((9 : Nat) : Int) < 9 := tmod9 x
   have hpl := plc_lt x
   have hol := (out_ok ns i).2
   refine WC.skip ?_
   refine thenQ.normal ?_
   refine WC.seq ?_
   refine WC.block ?_
   refine Z.s1 <| Z.m1 rfl <| Z.m1 rfl <| Z.r1 rfl (Rd.idx1 (enc := SL.one vi) (xs := ns) (k := i) rfl S22 rfl rfl rfl Z.M Z.W) ?_
   refine Z.r1 rfl (Rd.get (g := vi) (xs := ns) (k := i) (a := x) rfl C3 rfl Z.M (by rw [← hx]; exact get!_of_lt Z.W)) ?_
   refine Z.r1 rfl (Rd.remI (b := 9) rfl rfl rfl rfl (by decide)) ?_
   refine Z.r1 rfl (Rd.add rfl rfl rfl Z.W) ?_
   refine Z.r1 rfl (Rd.remN (a := (x.tmod (9 : Nat) + (9 : Nat)).toNat) (b := 9) rfl rfl rfl Z.W rfl (by decide)) ?_
   refine WL.say 28 (u := vi (plc x : Nat)) rfl rfl ?_
   refine Z.r1 rfl (Rd.add rfl rfl rfl Z.W) ?_
   refine Z.r1 rfl (by exact Rd.convw rfl rfl Tryz.underlying5 (hS := Tryz.underlying3)) ?_
   refine WL.say 30 (u := vy (UInt8.ofNat (97 + plc x))) rfl (by rw [wrap_u8 Z.W, Gr.vy_nat Z.W]; push_cast; rfl) ?_
   refine WL.op rfl ?_
   refine OpW.buildSl (ps := [(0, _)]) rfl S38 Z.E rfl rfl Z.C Z.K rfl rfl rfl ?_; intro b31
   refine Z.r1 rfl (Rd.strOfR (bs := ltr (plc x)) rfl Tryz.underlying38 Tryz.underlying9 Tryz.underlying5 rfl Z.M rfl rfl (by decide)) ?_
   refine Z.a1 rfl <| Z.q1 <| Z.m1 rfl <| Z.m1 rfl <| Z.r1 rfl (by exact Rd.lookup M37 K9 rfl rfl rfl Z.M (by rfl)) ?_
   refine WL.say 35 (u := .bool (decide (ltr (plc x) ∈ outTo ns i))) rfl (by rw [boolA]; exact vb (i3 _)) ?_
   refine Z.r1 rfl (by exact Rd.notd rfl rfl) ?_
   refine Z.n1 ?_
   refine WC.ite rfl (fun hc2 => ?_) (fun hc2 => ?_)
   ·
    refine Z.s1 <| Z.m1 rfl <| Z.m1 rfl ?_
    refine WL.op rfl ?_
    refine OpW.mapUpdate M37 K9 rfl rfl rfl rfl Z.T (by rfl) (by rfl) rfl ?_
    refine Z.g1 <| Z.m1 rfl <| Z.m1 rfl ?_
    refine WL.op rfl ?_
    refine OpW.buildSl (ps := [(0, _)]) rfl S24 Z.E rfl rfl Z.C Z.K rfl rfl rfl ?_; intro b41
    refine WL.op rfl ?_
    refine OpW.appendRow (enc := SL.one vs) rfl S24 rfl rfl Z.T Z.T [ltr (plc x)] rfl (by rfl) rfl (by intro x; rfl) (by intro x; rfl) (by exact ⟨by simp only [maxLen, List.length_append, List.length_nil, List.length_cons, List.length_drop, List.length_take, List.length_map]; omega, by omega⟩) rfl rfl ?_; intro v42 hv42
    refine Z.a1 rfl ?_
    refine WL.nil ?_
    refine blockQ.normal ?_
    refine thenQ.normal ?_
    refine WC.region ?_
    refine Z.m1 rfl <| Z.r1 rfl (Rd.add rfl rfl rfl Z.W) ?_
    refine Z.a1 rfl ?_
    refine WL.nil ?_
    exact loopQ3.mk (i + 1) (m.set (ltr (plc x)) true) v42 ⟨by omega, by omega, by rw [out_new hx hc2]; exact has_put i3 _⟩ Z.W (by repeat (first | exact Sub.nil | refine Sub.cons rfl (by rfl) ?_)) (by rw [out_new hx hc2]; exact Z.F)
   ·
    refine WC.skip ?_
    refine blockQ.normal ?_
    refine thenQ.normal ?_
    refine WC.region ?_
    refine Z.m1 rfl <| Z.r1 rfl (Rd.add rfl rfl rfl Z.W) ?_
    refine Z.a1 rfl ?_
    refine WL.nil ?_
    exact loopQ3.mk (i + 1) m ov ⟨by omega, by omega, by rw [out_old hx (Decidable.not_not.1 hc2)]; exact i3⟩ Z.W (by repeat (first | exact Sub.nil | refine Sub.cons rfl (by rfl) ?_)) (by rw [out_old hx (Decidable.not_not.1 hc2)]; exact Z.F)
  ·
   obtain ⟨out, hout⟩ : ∃ out, outTo ns i = out := ⟨_, rfl⟩
   have hok := out_ok ns i
   rw [hout] at hok i3
   refine WC.heap (R' := R) (O' := accC 35 2 Kd.encI nilS [] :: mapC vs vbl b11 m :: accC 9 1 (SL.one vs) ov out :: O) (fun w h => by rw [hout] at h; exact Z.Fw h) ?_
   refine WC.exit ?_
   refine thenQ.exit ?_
   refine loopQ3.exit ?_
   refine blockQ.exit ?_
   refine thenQ.normal ?_
   refine Z.s1 <| Z.a1 rfl <| Z.n1 <| Z.s2 <| Z.a1 rfl <| Z.n1 ?_
   refine WC.block ?_
   refine WC.pick [8, 9, 4, 5] Z.P ?_
   refine WC.loop2 2 (fun (c : Nat) (iv : Value) => [(8, iv), (9, .int .u8 ((97 + c : Nat) : Int))]) (fun (c : Nat) (iv : Value) => accC 35 2 Kd.encI iv (itTo out c) :: mapC vs vbl b11 m :: accC 9 1 (SL.one vs) ov out :: O) (fun (c : Nat) (iv : Value) => c ≤ 9) (fun (c : Nat) (iv : Value) => 9 - c) (0) (nilS) Z.L ?hinv2 (by repeat (first | exact Sub.nil | refine Sub.cons rfl (by rfl) ?_)) (fun w h => by rw [itTo_zero]; exact Z.Fw h) ?_
   case hinv2 =>
    exact Nat.zero_le _
   intro c iv
   rintro c1'
   refine Z.s2 <| Z.m1 rfl <| Z.r1 rfl (Rd.lss rfl rfl rfl) <| Z.n1 ?_
   refine WC.ite rfl (fun hc3 => ?_) (fun hc3 => ?_)
   ·
    have hil := itTo_len out c
    have hl1 : (ltr c).length = 1 := rfl
    have hl3 : ([111, 102, 32] : List UInt8).length = 3 := rfl
    refine WC.skip ?_
    refine thenQ.normal ?_
    refine WC.seq ?_
    refine WC.block ?_
    refine Z.s1 <| Z.m1 rfl ?_
    refine WL.say 47 (u := vy (UInt8.ofNat (97 + c))) rfl (by rw [Gr.vy_nat Z.W]) ?_
    refine WL.op rfl ?_
    refine OpW.buildSl (ps := [(0, _)]) rfl S38 Z.E rfl rfl Z.C Z.K rfl rfl rfl ?_; intro b48
    refine Z.r1 rfl (Rd.strOfR (bs := ltr c) rfl Tryz.underlying38 Tryz.underlying9 Tryz.underlying5 rfl Z.M rfl rfl (by decide)) ?_
    refine Z.a1 rfl <| Z.q1 <| Z.m1 rfl <| Z.m1 rfl <| Z.r1 rfl (by exact Rd.lookup M37 K9 rfl rfl rfl Z.M (by rfl)) ?_
    refine WL.say 52 (u := .bool (decide (ltr c ∈ out))) rfl (by rw [boolA]; exact vb (i3 _)) ?_
    refine Z.n1 ?_
    refine WC.ite rfl (fun hc4 => ?_) (fun hc4 => ?_)
    ·
     refine WC.region ?_
     refine Z.m1 rfl <| Z.m1 rfl <| Z.m1 rfl <| Z.r1 rfl (Rd.scat rfl rfl rfl Z.W) ?_
     refine WL.say 56 (u := vs (ofT (ltr c))) rfl rfl ?_
     refine Z.r1 rfl (Rd.buildN (ps := [(0, _), (1, _)]) rfl Bs35 I35 rfl Z.E Z.C (by apply NFo.mk; repeat (first | exact NF.nil | apply NF.cons))) ?_
     refine WL.op rfl ?_
     refine OpW.buildSl (ps := [(0, _)]) rfl S25 Z.E rfl rfl Z.C Z.K rfl rfl rfl ?_; intro b58
     refine WL.op rfl ?_
     refine OpW.appendRow (enc := Kd.encI) rfl S25 rfl rfl Z.T Z.T [(ltr c, ofT (ltr c))] rfl (by rfl) rfl (by intro x; rfl) (by intro x; rfl) (by exact ⟨by simp only [maxLen, List.length_append, List.length_nil, List.length_cons, List.length_drop, List.length_take, List.length_map]; omega, by omega⟩) rfl rfl ?_; intro v59 hv59
     refine Z.a1 rfl ?_
     refine WL.nil ?_
     refine blockQ.normal ?_
     refine thenQ.normal ?_
     refine WC.region ?_
     refine Z.m1 rfl <| Z.r1 rfl (Rd.addw rfl rfl rfl) ?_
     refine WL.say 46 (u := .int .u8 ((97 + (c + 1) : Nat) : Int)) rfl (by rw [wrap_u8 Z.W]; push_cast; rfl) ?_
     refine Z.a1 rfl ?_
     refine WL.nil ?_
     exact loopQ2.mk (c + 1) v59 Z.W Z.W (by repeat (first | exact Sub.nil | refine Sub.cons rfl (by rfl) ?_)) (by rw [itTo_next, if_pos hc4]; exact Z.F)
    ·
     refine WC.skip ?_
     refine blockQ.normal ?_
     refine thenQ.normal ?_
     refine WC.region ?_
     refine Z.m1 rfl <| Z.r1 rfl (Rd.addw rfl rfl rfl) ?_
     refine WL.say 46 (u := .int .u8 ((97 + (c + 1) : Nat) : Int)) rfl (by rw [wrap_u8 Z.W]; push_cast; rfl) ?_
     refine Z.a1 rfl ?_
     refine WL.nil ?_
     exact loopQ2.mk (c + 1) iv Z.W Z.W (by repeat (first | exact Sub.nil | refine Sub.cons rfl (by rfl) ?_)) (by rw [itTo_next, if_neg hc4, List.append_nil]; exact Z.F)
   ·
    obtain rfl : c = 9 := by omega
    refine WC.exit ?_
    refine thenQ.exit ?_
    refine loopQ2.exit ?_
    refine blockQ.exit ?_
    refine thenQ.normal ?_
    refine Z.s1 <| Z.m1 rfl <| Z.m1 rfl <| Z.a1 rfl <| Z.a1 rfl <| Z.n1 ?_
    refine WC.ret (Ret.two Tryz.results5 rfl rfl ?_)
    exact ⟨_, _, hk ov iv out hok.1 Z.W, fun w h => by
    have h2 := Sat.shareA (xs := out) Z.T h
    have h3 := Sat.shareA (xs := itTo out 9) Z.T h2
    exact Z.Fw h3⟩
set_option maxRecDepth 20000 in
set_option maxHeartbeats 1000000 in
theorem joins_spec (ht : tabR ∈ R) (hr : rootsR ∈ R) (hx : anyN 1 ∈ R) (hk : POST (.bool true) R O) : Fun Tryz.prog 4 #[] R O POST := by
 refine Go.SL.Fun.turn ?_
 refine Fun.enter (l := []) Tryz.func4 rfl Tryz.ntmps4 rfl (L0 := []) rfl ?_
 refine Z.s1 <| Z.a1 rfl <| Z.q1 ?_
 refine WL.op rfl ?_
 refine OpW.buildSl (ps := [(0, _)]) rfl S24 Z.E rfl rfl Z.C Z.K rfl rfl rfl ?_; intro b8
 refine WL.op rfl ?_
 refine OpW.buildSl (ps := [(0, _)]) rfl S24 Z.E rfl rfl Z.C Z.K rfl rfl rfl ?_; intro b9
 refine WL.heap (fun w h => Sat.shareRow (b := b8) (enc := SL.one vs) (xs := [[97]]) Z.T rfl rfl (by decide) h) ?_
 refine WL.heap (fun w h => Sat.shareRow (b := b9) (enc := SL.one vs) (xs := [[98]]) Z.T rfl rfl (by decide) h) ?_
 refine WL.heap (fun w h => h.nilE (α := T) (enc := SL.one vs)) ?_
 refine WL.op rfl ?_
 refine OpW.call rfl rfl Z.E Z.K rfl rfl rfl ?_
 refine Ld.lists_spec (base := []) (ours := [[97]]) (theirs := [[98]]) Z.M Z.M Z.M (fun h => by exfalso; revert h; decide) ?_; intro _ _ _ u10 x10
 obtain ⟨ll, cl, he, hll, hcl⟩ := joins_l
 rw [he]
 refine Z.m1 rfl <| Z.x1 rfl <| Z.x1 rfl <| Z.x1 rfl <| Z.a1 rfl <| Z.a1 rfl <| Z.a1 rfl <| Z.q1 <| Z.r1 rfl (Rd.buildN (ps := [(0, _)]) rfl Bs35 I35 rfl Z.E Z.C (by apply NFo.mk; repeat (first | exact NF.nil | apply NF.cons))) ?_
 refine WL.op rfl ?_
 refine OpW.buildSl (ps := [(0, _)]) rfl S25 Z.E rfl rfl Z.C Z.K rfl rfl rfl ?_; intro b16
 refine WL.heap (fun w h => Sat.shareRow (b := b16) (enc := Kd.encI) (xs := [([97], [])]) Z.T rfl rfl (by decide) h) ?_
 refine WL.heap (fun w h => h.nilE (α := Kd.It) (enc := Kd.encI)) ?_
 refine WL.op rfl ?_
 refine OpW.call rfl rfl Z.E Z.K rfl rfl rfl ?_
 refine Kd.merge2_spec (U := []) (V := [([97], [])]) (W := []) Z.M Z.M Z.M ⟨by decide, by decide⟩ ⟨by decide, by decide⟩ ⟨by decide, by decide⟩ ?_; intro kl kc ke lv17 cv17 hres
 obtain ⟨rfl, hkc, hkl⟩ := joins_k hres
 refine Z.m1 rfl <| Z.x1 rfl <| Z.x1 rfl <| Z.x1 rfl <| Z.a1 rfl <| Z.a1 rfl <| Z.a1 rfl <| Z.q1 ?_
 refine WL.op rfl ?_
 refine OpW.call rfl rfl Z.E Z.K rfl rfl rfl ?_
 refine Gr.grows_spec Z.M Z.M Z.M ?_
 refine WL.say 21 (u := .bool (decide True)) rfl (by simp) ?_
 refine Z.m1 rfl ?_
 refine WL.case 22 rfl (fun hg22 => ?_) (fun hg22 => ?_)
 ·
  refine Z.y1 rfl (Rd.move rfl rfl) <| Z.y1 rfl (Rd.eql rfl rfl rfl) <| Z.r1 rfl (Rd.pick_t rfl rfl rfl) <| Z.m1 rfl ?_
  refine WL.case 26 rfl (fun hg26 => ?_) (fun hg26 => ?_)
  ·
   refine Z.y1 rfl (Rd.move rfl rfl) <| Z.y1 rfl (Rd.lenE (enc := SL.one vs) (xs := cl) rfl rfl Tryz.underlying24 Z.M) ?_
   refine Z.y1 rfl (Rd.eql rfl rfl rfl) <| Z.r1 rfl (Rd.pick_t rfl rfl rfl) <| Z.m1 rfl ?_
   refine WL.case 31 rfl (fun hg31 => ?_) (fun hg31 => ?_)
   ·
    refine Z.y1 rfl (Rd.move rfl rfl) <| Z.y1 rfl (Rd.lenE (enc := SL.one vs) (xs := ll) rfl rfl Tryz.underlying24 Z.M) ?_
    refine Z.y1 rfl (Rd.eql rfl rfl rfl) <| Z.r1 rfl (Rd.pick_t rfl rfl rfl) <| Z.m1 rfl ?_
    refine WL.case 36 rfl (fun hg36 => ?_) (fun hg36 => ?_)
    ·
     refine Z.y1 rfl (Rd.move rfl rfl) <| Z.y1 rfl (Rd.eql rfl rfl rfl) <| Z.r1 rfl (Rd.pick_t rfl rfl rfl) <| Z.m1 rfl ?_
     refine WL.case 40 rfl (fun hg40 => ?_) (fun hg40 => ?_)
     ·
      refine Z.y1 rfl (Rd.move rfl rfl) <| Z.y1 rfl (Rd.lenE (enc := Kd.encF) (xs := kc) rfl rfl Tryz.underlying31 Z.M) ?_
      refine Z.y1 rfl (Rd.eql rfl rfl rfl) <| Z.r1 rfl (Rd.pick_t rfl rfl rfl) <| Z.m1 rfl ?_
      refine WL.case 45 rfl (fun hg45 => ?_) (fun hg45 => ?_)
      ·
       refine Z.y1 rfl (Rd.move rfl rfl) <| Z.y1 rfl (Rd.lenE (enc := Kd.encI) (xs := kl) rfl rfl Tryz.underlying25 Z.M) ?_
       refine Z.y1 rfl (Rd.eql rfl rfl rfl) <| Z.r1 rfl (Rd.pick_t rfl rfl rfl) ?_
       refine WL.say 49 (u := .bool true) rfl (by rw [hkl]; rfl) ?_
       refine Z.a1 rfl <| Z.n1 ?_
       refine WC.ret (Ret.one Tryz.results4 rfl ?_)
       exact ⟨_, _, hk, Z.F⟩
      ·
       exact absurd (by rw [hkc]; rfl) hg45
     ·
      exact absurd rfl hg40
    ·
     exact absurd (by rw [hll]; rfl) hg36
   ·
    exact absurd (by rw [hcl]; rfl) hg31
  ·
   exact absurd rfl hg26
 ·
  exact absurd trivial hg22
set_option maxRecDepth 20000 in
set_option maxHeartbeats 4000000 in
theorem agreed_spec {base ours theirs : List Int} {uv vv wv : Value} (hu : SlE (SL.one vi) uv base ∈ R) (hv : SlE (SL.one vi) vv ours ∈ R) (hw : SlE (SL.one vi) wv theirs ∈ R) (ht : tabR ∈ R) (hr : rootsR ∈ R) (hx : anyN 1 ∈ R) (hk : POST (.bool true) R O) : Fun Tryz.prog 3 #[uv, vv, wv] R O POST := by
 refine Go.SL.Fun.turn ?_
 refine Fun.enter (l := [_, _, _]) Tryz.func3 rfl Tryz.ntmps3 rfl (L0 := [(0, _), (1, _), (2, _)]) rfl ?_
 refine Z.s1 <| Z.a1 rfl <| Z.n1 <| Z.s2 ?_
 refine WL.op rfl ?_
 refine OpW.call rfl rfl Z.E Z.K rfl rfl rfl ?_
 refine joins_spec ht hr hx ?_
 refine Z.r1 rfl (by exact Rd.not rfl rfl) ?_
 refine WL.say 23 (u := .bool (decide False)) rfl rfl ?_
 refine Z.n1 ?_
 refine WC.ite rfl (fun hc1 => ?_) (fun hc1 => ?_)
 ·
  exact hc1.elim
 ·
  refine WC.skip ?_
  refine thenQ.normal ?_
  refine Z.s1 <| Z.m1 rfl ?_
  refine WL.op rfl ?_
  refine OpW.call rfl rfl Z.E Z.K rfl rfl rfl ?_
  refine listed_spec hu ?_; intro av xv a ha hal
  refine Z.m1 rfl <| Z.x1 rfl <| Z.x1 rfl <| Z.a1 rfl <| Z.a1 rfl <| Z.q1 <| Z.m1 rfl ?_
  refine WL.op rfl ?_
  refine OpW.call rfl rfl Z.E Z.K rfl rfl rfl ?_
  refine listed_spec (ns := ours) Z.M ?_; intro bv yv b hb hbl
  refine Z.m1 rfl <| Z.x1 rfl <| Z.x1 rfl <| Z.a1 rfl <| Z.a1 rfl <| Z.q1 <| Z.m1 rfl ?_
  refine WL.op rfl ?_
  refine OpW.call rfl rfl Z.E Z.K rfl rfl rfl ?_
  refine listed_spec (ns := theirs) Z.M ?_; intro cv zv c hc hcl
  refine Z.m1 rfl <| Z.x1 rfl <| Z.x1 rfl <| Z.a1 rfl <| Z.a1 rfl <| Z.q1 <| Z.m1 rfl <| Z.m1 rfl <| Z.m1 rfl ?_
  refine WL.op rfl ?_
  refine OpW.call rfl rfl Z.E Z.K rfl rfl rfl ?_
  refine Ld.lists_spec (base := a) (ours := b) (theirs := c) Z.M Z.M Z.M (fun h => by exfalso; omega) ?_; intro _ _ _ lv dv
  obtain ⟨l, d, hld⟩ : ∃ l d, Ld.listsE a b c = (l, d, 0) := ⟨_, _, by rw [← lists_ok ha hb hc]⟩
  have hd2 := clash_two a b c
  rw [hld] at hd2
  dsimp only at hd2
  rw [hld]
  refine Z.m1 rfl <| Z.x1 rfl <| Z.x1 rfl <| Z.x1 rfl <| Z.a1 rfl <| Z.a1 rfl <| Z.a1 rfl <| Z.q1 <| Z.m1 rfl <| Z.m1 rfl ?_
  refine Z.m1 rfl ?_
  refine WL.op rfl ?_
  refine OpW.call rfl rfl Z.E Z.K rfl rfl rfl ?_
  have hla := itTo_len a 9
  have hlb := itTo_len b 9
  have hlc := itTo_len c 9
  refine Kd.merge2_spec (U := itTo a 9) (V := itTo b 9) (W := itTo c 9) Z.M Z.M Z.M (it_kl a) (it_kl b) (it_kl c) ?_; intro K f e kv fv hres
  obtain ⟨rfl, ks, hks, hf, _, hK⟩ := hres.2 (it_right a) (it_right b) (it_right c)
  rw [no_bad ha hb hc] at hf
  subst hf
  have hK := hK rfl
  have hkk := merged_keys ha hb hc hks
  have hkn := merged_nodup (a := a) (b := b) (c := c) hks
  rw [← hK] at hkk hkn
  refine Z.m1 rfl <| Z.x1 rfl <| Z.x1 rfl <| Z.x1 rfl <| Z.a1 rfl <| Z.a1 rfl <| Z.a1 rfl <| Z.n1 <| Z.s2 <| Z.m1 rfl ?_
  refine Z.r1 rfl (Rd.neq rfl rfl rfl) <| Z.m1 rfl ?_
  refine WL.case 57 rfl (fun hg57 => ?_) (fun hg57 => ?_)
  ·
   exact absurd rfl hg57
  ·
   refine Z.y1 rfl (Rd.move rfl rfl) <| Z.y1 rfl (Rd.neq rfl rfl rfl) <| Z.r1 rfl (Rd.pick_f rfl rfl rfl) <| Z.n1 ?_
   refine WC.ite rfl (fun hc2 => ?_) (fun hc2 => ?_)
   ·
    exact absurd rfl hc2
   ·
    refine WC.skip ?_
    refine thenQ.normal ?_
    refine WC.seq ?_
    refine WC.pick [13, 14, 16, 17] Z.P ?_
    refine WC.val 68 (.bool (decide (0 < d.length))) ?_ ?_
    ·
     refine WC.region ?_
     refine Z.m1 rfl <| Z.r1 rfl (Rd.lenE (enc := SL.one vs) (xs := d) rfl rfl Tryz.underlying24 Z.M) ?_
     refine Z.r1 rfl (Rd.gtr rfl rfl rfl) <| Z.m1 rfl ?_
     refine WL.case 64 rfl (fun hg64 => ?_) (fun hg64 => ?_)
     ·
      refine Z.o1 rfl <| Z.o1 rfl <| Z.o1 rfl <| Z.r1 rfl (Rd.pick_t rfl rfl rfl) ?_
      refine WL.nil ?_
      exact ⟨by repeat (first | exact Sub.nil | refine Sub.cons rfl (by first | rfl | (exact vb_t Z.W)) ?_), by exact (fun _ h => h.thin (SubL.mem Z.S))⟩
     ·
      refine Z.y1 rfl (Rd.move rfl rfl) <| Z.y1 rfl (Rd.lenE (enc := Kd.encF) (xs := []) rfl rfl Tryz.underlying31 Z.M) ?_
      refine Z.y1 rfl (Rd.gtr rfl rfl rfl) <| Z.r1 rfl (Rd.pick_f rfl rfl rfl) ?_
      refine WL.nil ?_
      exact ⟨by repeat (first | exact Sub.nil | refine Sub.cons rfl (by first | rfl | (exact vb_f Z.W)) ?_), by exact (fun _ h => h.thin (SubL.mem Z.S))⟩
    ·
     refine WC.ite rfl (fun hc3 => ?_) (fun hc3 => ?_)
     ·
      refine Z.s1 <| Z.m1 rfl <| Z.r1 rfl (Rd.lenE (enc := SL.one vs) (xs := d) rfl rfl Tryz.underlying24 Z.M) ?_
      refine Z.r1 rfl (Rd.eql rfl rfl rfl) <| Z.m1 rfl ?_
      refine WL.case 72 rfl (fun hg72 => ?_) (fun hg72 => ?_)
      ·
       refine Z.o1 rfl <| Z.o1 rfl <| Z.o1 rfl <| Z.r1 rfl (Rd.pick_t rfl rfl rfl) ?_
       refine WL.say 76 (u := .bool true) rfl (by rfl) ?_
       refine Z.a1 rfl <| Z.n1 ?_
       refine WC.ret (thenQ.retR (Ret.one Tryz.results3 rfl ?_))
       exact ⟨_, _, hk, Z.F⟩
      ·
       refine Z.y1 rfl (Rd.move rfl rfl) <| Z.y1 rfl (Rd.lenE (enc := SL.one vs) (xs := d) rfl rfl Tryz.underlying24 Z.M) ?_
       refine Z.y1 rfl (Rd.eql rfl rfl rfl) <| Z.r1 rfl (Rd.pick_f rfl rfl rfl) ?_
       refine WL.say 76 (u := .bool true) rfl (by exact congrArg Value.bool (decide_eq_true Z.W)) ?_
       refine Z.a1 rfl <| Z.n1 ?_
       refine WC.ret (thenQ.retR (Ret.one Tryz.results3 rfl ?_))
       exact ⟨_, _, hk, Z.F⟩
     ·
      have hd0 : d = [] := List.eq_nil_of_length_eq_zero Z.W
      subst hd0
      have hag := agreed ha hb hc hkn hkk (by rw [hld])
      rw [hld, List.length_map] at hag
      obtain ⟨hl1, hl2⟩ := hag
      have hKl : K.length ≤ 40 := by
       have := nodup_len hkn (l' := b ++ c) (fun s hs => List.mem_append.2 (stay_in ((hkk s).1 hs)))
       rw [List.length_map, List.length_append] at this
       omega
      dsimp only at hl1 hl2
      refine WC.skip ?_
      refine thenQ.normal ?_
      refine WC.seq ?_
      refine WC.pick [13, 16] Z.P ?_
      refine WC.val 81 (.bool (decide False)) ?_ ?_
      ·
       refine WC.region ?_
       refine Z.m1 rfl <| Z.r1 rfl (Rd.lenE (enc := SL.one vs) (xs := l) rfl rfl Tryz.underlying24 Z.M) ?_
       refine Z.m1 rfl <| Z.r1 rfl (Rd.lenE (enc := Kd.encI) (xs := K) rfl rfl Tryz.underlying25 Z.M) ?_
       refine Z.r1 rfl (Rd.neq rfl rfl rfl) ?_
       refine WL.nil ?_
       exact ⟨by repeat (first | exact Sub.nil | refine Sub.cons rfl (by first | rfl | (exact vb ⟨fun h => h (by rw [show l.length = K.length from hl1]), False.elim⟩)) ?_), by exact (fun _ h => h.thin (SubL.mem Z.S))⟩
      ·
       refine WC.ite rfl (fun hc4 => ?_) (fun hc4 => ?_)
       ·
        exact hc4.elim
       ·
        refine WC.skip ?_
        refine thenQ.normal ?_
        refine Z.s2 <| Z.a1 rfl <| Z.n1 ?_
        refine WC.block ?_
        refine WC.pick [19, 13, 16] Z.P ?_
        refine WC.loop1o 1 (fun (i : Nat) => [(19, vi i)]) (fun (i : Nat) => i ≤ l.length) (fun (i : Nat) => l.length - i) (0) Z.L ?hinv1 (by repeat (first | exact Sub.nil | refine Sub.cons rfl (by rfl) ?_)) (fun _ h => h) ?_
        case hinv1 =>
         exact Nat.zero_le _
        intro i
        rintro i1
        refine Z.s2 <| Z.m1 rfl <| Z.m1 rfl <| Z.r1 rfl (Rd.lenE (enc := SL.one vs) (xs := l) rfl rfl Tryz.underlying24 Z.M) ?_
        refine Z.r1 rfl (Rd.lss rfl rfl rfl) <| Z.n1 ?_
        refine WC.ite rfl (fun hc5 => ?_) (fun hc5 => ?_)
        ·
         have hi : i < l.length := by omega
         have hin := hl2 _ (Gr.get!_mem hi)
         obtain ⟨s, hs⟩ : ∃ s, s = l[i]! := ⟨_, rfl⟩
         rw [← hs] at hin
         refine WC.skip ?_
         refine thenQ.normal ?_
         refine WC.seq ?_
         refine WC.block ?_
         refine Z.s1 <| Z.a1 rfl <| Z.n1 ?_
         refine WC.seq ?_
         refine WC.seq ?_
         refine WC.say 20 (u := .bool (decide (s ∈ (K.take 0).map (·.1)))) rfl (vb_f (by simp)) ?_
         refine WC.region ?_
         refine Z.a1 rfl <| Z.n1 ?_
         refine WC.block ?_
         refine WC.pick [20, 21, 13, 16, 19] Z.P ?_
         refine WC.loop1o 2 (fun (k : Nat) => [(20, .bool (decide (s ∈ (K.take k).map (·.1)))), (21, vi k)]) (fun (k : Nat) => k ≤ K.length) (fun (k : Nat) => K.length - k) (0) Z.L ?hinv2 (by repeat (first | exact Sub.nil | refine Sub.cons rfl (by rfl) ?_)) (fun _ h => h) ?_
         case hinv2 =>
          exact Nat.zero_le _
         intro k
         rintro k1
         refine Z.s2 <| Z.m1 rfl <| Z.m1 rfl <| Z.r1 rfl (Rd.lenE (enc := Kd.encI) (xs := K) rfl rfl Tryz.underlying25 Z.M) ?_
         refine Z.r1 rfl (Rd.lss rfl rfl rfl) <| Z.n1 ?_
         refine WC.ite rfl (fun hc6 => ?_) (fun hc6 => ?_)
         ·
          refine WC.skip ?_
          refine thenQ.normal ?_
          refine WC.seq ?_
          refine WC.block ?_
          refine WC.still mixed Z.K ?_
          refine Z.b1 rfl (Rd.move rfl rfl) <| Z.b1 rfl (Rd.move rfl rfl) ?_
          refine WA.case 95 rfl (fun hg95 => ?_) (fun hg95 => ?_)
          ·
           refine Z.p1 rfl <| Z.p1 rfl <| Z.p1 rfl <| Z.p1 rfl <| Z.p1 rfl <| Z.p1 rfl <| Z.p1 rfl <| Z.p1 rfl <| Z.p1 rfl <| Z.p1 rfl ?_
           refine Z.b1 rfl (Rd.pick_t rfl rfl rfl) ?_
           refine WA.say 106 (u := .bool (decide (s ∈ (K.take (k + 1)).map (·.1)))) rfl (by exact vb_t ((in_take Z.W).2 (.inl hg95))) ?_
           refine Z.b1 rfl (Rd.assign rfl rfl) ?_
           refine WA.nil ?_
           refine blockQ.normal ?_
           refine thenQ.normal ?_
           refine WC.region ?_
           refine Z.m1 rfl <| Z.r1 rfl (Rd.add rfl rfl rfl Z.W) ?_
           refine Z.a1 rfl ?_
           refine WL.nil ?_
           exact loopQ1.mk (k + 1) Z.W Z.W (by repeat (first | exact Sub.nil | refine Sub.cons rfl (by rfl) ?_)) Z.F
          ·
           refine Z.c1 rfl (Rd.move rfl rfl) <| Z.c1 rfl (Rd.move rfl rfl) <| Z.c1 rfl (Rd.idx (enc := Kd.encI) (xs := K) (k := k) rfl S25 rfl rfl rfl Z.M Z.W) ?_
           refine Z.c1 rfl (by exact Rd.fieldE rfl F35_0 rfl Z.M Z.W) ?_
           refine Z.c1 rfl (Rd.getF (enc := Kd.encI) (size := 2) (xs := K) (k := k) (f := 0) (a := K[k]!) (u := vs K[k]!.1) rfl C9 rfl Z.M (fun x => rfl) Z.W (get!_of_lt Z.W) rfl) ?_
           refine Z.c1 rfl (Rd.move rfl rfl) <| Z.c1 rfl (Rd.move rfl rfl) <| Z.c1 rfl (Rd.idx1 (enc := SL.one vs) (xs := l) (k := i) rfl S24 rfl rfl rfl Z.M Z.W) ?_
           refine Z.c1 rfl (Rd.get (g := vs) (xs := l) (k := i) (a := s) rfl C9 rfl Z.M (by rw [hs]; exact get!_of_lt Z.W)) ?_
           refine Z.c1 rfl (Rd.seql rfl rfl rfl) <| Z.b1 rfl (Rd.pick_f rfl rfl rfl) ?_
           refine WA.say 106 (u := .bool (decide (s ∈ (K.take (k + 1)).map (·.1)))) rfl (by exact vb ⟨fun h => (in_take Z.W).2 (.inr h), fun h => ((in_take Z.W).1 h).resolve_left hg95⟩) ?_
           refine Z.b1 rfl (Rd.assign rfl rfl) ?_
           refine WA.nil ?_
           refine blockQ.normal ?_
           refine thenQ.normal ?_
           refine WC.region ?_
           refine Z.m1 rfl <| Z.r1 rfl (Rd.add rfl rfl rfl Z.W) ?_
           refine Z.a1 rfl ?_
           refine WL.nil ?_
           exact loopQ1.mk (k + 1) Z.W Z.W (by repeat (first | exact Sub.nil | refine Sub.cons rfl (by rfl) ?_)) Z.F
         ·
          obtain rfl : k = K.length := by omega
          rw [List.take_length]
          refine WC.exit ?_
          refine thenQ.exit ?_
          refine loopQ1.exit ?_
          refine blockQ.exit ?_
          refine thenQ.normal ?_
          refine Z.s1 <| Z.m1 rfl <| Z.r1 rfl (by exact Rd.notd rfl rfl) ?_
          refine Z.n1 ?_
          refine WC.ite rfl (fun hc7 => ?_) (fun hc7 => ?_)
          ·
           exact absurd hin hc7
          ·
           refine WC.skip ?_
           refine blockQ.normal ?_
           refine thenQ.normal ?_
           refine WC.region ?_
           refine Z.m1 rfl <| Z.r1 rfl (Rd.add rfl rfl rfl Z.W) ?_
           refine Z.a1 rfl ?_
           refine WL.nil ?_
           exact loopQ1.mk (i + 1) Z.W Z.W (by repeat (first | exact Sub.nil | refine Sub.cons rfl (by rfl) ?_)) Z.F
        ·
         refine WC.exit ?_
         refine thenQ.exit ?_
         refine loopQ1.exit ?_
         refine blockQ.exit ?_
         refine thenQ.normal ?_
         refine Z.s1 <| Z.a1 rfl <| Z.n1 ?_
         refine WC.ret (Ret.one Tryz.results3 rfl ?_)
         exact ⟨_, _, hk, Z.F⟩
end
end Go.Proofs.YtnjfgcpmcjmddaaGreatDoor.Ag
namespace Go.Proofs.YtnjfgcpmcjmddaaGreatDoor
open Go Go.SL
theorem anyN_stable {W : World} {g : Nat} (h : anyN g W) (w' : World) (ha : Agree (· ∈ owned []) W w') : anyN g w' := by
 obtain ⟨m, hm⟩ := h
 refine ⟨m, ?_⟩
 rw [← hm]
 exact World.cell?_of_block (ha.2.2.2.2 _ (World.block_lt_of_cell? W _ hm) (by simp [owned]))
end Go.Proofs.YtnjfgcpmcjmddaaGreatDoor
