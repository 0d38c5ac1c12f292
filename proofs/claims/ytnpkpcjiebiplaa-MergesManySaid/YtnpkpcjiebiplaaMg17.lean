/-
  Layer 8: MergesMany.
-/
import Derived.Test.YtnpkpcjiebiplaaMg14
namespace Go.Proofs.Ytnpkpcjiebiplaa
open Go Go.SL
/-! ### plain -/
def b8 (n : Nat) : UInt8 := UInt8.ofNat n
theorem b8_nat {n : Nat} (h : n < 256) : (b8 n).toNat = n := by rw [b8, UInt8.toNat_ofNat']; omega
theorem b8_ne {n m : Nat} (h : n < 256) (hm : m < 256) (hne : n ≠ m) : b8 n ≠ b8 m := fun e => hne (by rw [← b8_nat h, e, b8_nat hm])
def lineN (i : Nat) : T := [97, b8 (33 + i % 90), b8 (33 + i / 90), 32, 98, 10]
def pairN (i : Nat) : Pr := ([97, b8 (33 + i % 90), b8 (33 + i / 90)], [98])
def linesN (i : Nat) : T := (List.range i).flatMap lineN
theorem linesN_next (i : Nat) : linesN (i + 1) = linesN i ++ lineN i := by simp [linesN, List.range_succ]
theorem linesN_len : ∀ i, (linesN i).length = 6 * i
  | 0 => rfl
  | i + 1 => by rw [linesN_next, List.length_append, linesN_len i]; simp [lineN]; omega
theorem line_cut {c d : UInt8} {r : T} (h1 : c ≠ 10) (h2 : d ≠ 10) (h3 : c ≠ 32) (h4 : d ≠ 32) : cutA 10 ([97, c, d, 32, 98, 10] ++ r) = [97, c, d, 32, 98] ∧ cutB 10 ([97, c, d, 32, 98, 10] ++ r) = r ∧ cutA 32 [97, c, d, 32, 98] = [97, c, d] ∧ cutB 32 [97, c, d, 32, 98] = [98] := by
  refine ⟨?_, ?_, ?_, ?_⟩
  · simp [cutA, List.takeWhile, h1, h2]
  · simp [cutB, List.dropWhile, h1, h2]
  · simp [cutA, List.takeWhile, h3, h4]
  · simp [cutB, List.dropWhile, h3, h4]
theorem inside_b8 {n : Nat} (h : 33 ≤ n ∧ n ≤ 126) : inside (b8 n) := by unfold inside; rw [b8_nat (by omega)]; exact h
theorem lineN_ok {i : Nat} {r : T} (hi : i ≤ 4105) : LineOk (lineN i ++ r) ∧ pairOf (lineN i ++ r) = pairN i ∧ cutB 10 (lineN i ++ r) = r := by
  have hm : i % 90 < 90 := Nat.mod_lt _ (by omega)
  have hd : i / 90 ≤ 45 := by omega
  obtain ⟨e1, e2, e3, e4⟩ := line_cut (c := b8 (33 + i % 90)) (d := b8 (33 + i / 90)) (r := r) (b8_ne (m := 10) (by omega) (by omega) (by omega)) (b8_ne (m := 10) (by omega) (by omega) (by omega)) (b8_ne (m := 32) (by omega) (by omega) (by omega)) (b8_ne (m := 32) (by omega) (by omega) (by omega))
  have e0 : lineN i ++ r = [97, b8 (33 + i % 90), b8 (33 + i / 90), 32, 98, 10] ++ r := rfl
  have h1 : inside (b8 (33 + i % 90)) := inside_b8 (by omega)
  have h2 : inside (b8 (33 + i / 90)) := inside_b8 (by omega)
  rw [e0]
  refine ⟨⟨by simp, by rw [e1]; simp, ?_, ?_⟩, ?_, e2⟩
  · rw [e1, e3]
    refine ⟨fun j hj => ?_, by simp, by simp⟩
    simp only [List.length_cons, List.length_nil] at hj
    rcases (show j = 0 ∨ j = 1 ∨ j = 2 by omega) with rfl | rfl | rfl
    · exact (by decide : inside 97)
    · exact h1
    · exact h2
  · rw [e1, e4]; decide
  · unfold pairOf
    rw [e1, e3, e4]; rfl
theorem pairN_inj {i j : Nat} (hi : i ≤ 4105) (hj : j ≤ 4105) (h : pairN i = pairN j) : i = j := by
  simp only [pairN, Prod.mk.injEq, List.cons.injEq, and_true, true_and] at h
  have h1 := congrArg UInt8.toNat h.1
  have h2 := congrArg UInt8.toNat h.2
  have hm : i % 90 < 90 := Nat.mod_lt _ (by omega)
  have hm2 : j % 90 < 90 := Nat.mod_lt _ (by omega)
  rw [b8_nat (by omega), b8_nat (by omega)] at h1 h2
  omega
def prsN (i : Nat) : List Pr := (List.range i).map pairN
theorem prsN_len (i : Nat) : (prsN i).length = i := by simp [prsN]
def restN (i n : Nat) : T := (List.range' i (n - i)).flatMap lineN
theorem restN_next {i n : Nat} (h : i < n) : restN i n = lineN i ++ restN (i + 1) n := by
  unfold restN
  obtain ⟨k, hk⟩ : ∃ k, n - i = k + 1 := ⟨n - i - 1, by omega⟩
  rw [hk, List.range'_succ, show n - (i + 1) = k by omega]; rfl
theorem restN_end (n : Nat) : restN n n = [] := by simp [restN]
theorem restN_all (n : Nat) : restN 0 n = linesN n := by simp [restN, linesN, List.range_eq_range']
theorem many_prs {n : Nat} {w : T} {r : PRes} (hn : n ≤ 4105) : ∀ k, k ≤ n → k ≤ 4096 → Prs (k + 1) (prsN k) (restN k n ++ w) r → Prs 1 [] (linesN n ++ w) r
  | 0, _, _, h => by rw [restN_all] at h; exact h
  | k + 1, h1, h2, h => by
    refine many_prs hn k (by omega) (by omega) ?_
    obtain ⟨g1, g2, g3⟩ := lineN_ok (i := k) (r := restN (k + 1) n ++ w) (by omega)
    rw [restN_next (by omega), List.append_assoc]
    refine .next (by simp [lineN]) (by omega) g1 ?_ ?_
    · rw [g2]
      intro hm
      obtain ⟨j, hj, e⟩ := List.mem_map.1 hm
      have hj := List.mem_range.1 hj
      have := pairN_inj (by omega) (by omega) e
      omega
    · rw [g2, g3, show prsN k ++ [pairN k] = prsN (k + 1) from by simp [prsN, List.range_succ]]
      exact h
def tailW (W : Prop) [Decidable W] : T := if W then [120, 10] else []
theorem many_parse {n : Nat} {W : Prop} [Decidable W] {r : PRes} (h0 : 4090 ≤ n) (hn : n ≤ 4105) (h : ParseIs (linesN n ++ tailW W) r) :
    r = if 4096 < n ∨ (W ∧ n = 4096) then ⟨[], 4097, 6⟩ else if W then ⟨[], n + 1, 2⟩ else ⟨prsN n, 0, 0⟩ := by
  have hsz : (linesN n ++ tailW W).length ≤ 262144 := by
    rw [List.length_append, linesN_len]
    have : (tailW W).length ≤ 2 := by unfold tailW; split <;> simp
    omega
  have hp : Prs 1 [] (linesN n ++ tailW W) r := by
    rcases h with ⟨g, _⟩ | ⟨_, g⟩
    · omega
    · exact g
  refine hp.uniq ?_
  obtain ⟨k, hk⟩ : ∃ k, k = 4096 := ⟨_, rfl⟩
  have hx : (⟨[], 4097, 6⟩ : PRes) = ⟨[], ((k + 1 : Nat) : Int), 6⟩ := congrArg (fun z => (⟨[], z, 6⟩ : PRes)) (by omega)
  by_cases c1 : 4096 < n
  · rw [if_pos (.inl c1), hx]
    refine many_prs hn k (by omega) (by omega) (.many ?_ (by omega))
    rw [restN_next (by omega)]; simp [lineN]
  · by_cases c2 : W ∧ n = 4096
    · rw [if_pos (.inr c2), hx]
      obtain ⟨hW, hn4⟩ := c2
      have e : k = n := by omega
      subst e
      refine many_prs hn k (by omega) (by omega) (.many ?_ (by omega))
      rw [restN_end, tailW, if_pos hW]; simp
    · rw [if_neg (by rintro (h | h); exact c1 h; exact c2 h)]
      by_cases c3 : W
      · rw [if_pos c3]
        have hne : n ≠ 4096 := fun e => c2 ⟨c3, e⟩
        refine many_prs hn n (by omega) (by omega) ?_
        rw [restN_end, tailW, if_pos c3]
        refine .form (by simp) (by omega) (by decide)
      · rw [if_neg c3]
        refine many_prs hn n (by omega) (by omega) ?_
        rw [restN_end, tailW, if_neg c3]
        exact .done
section
variable {R : List RO} {O O' : List Own} {POST : Value → List RO → List Own → Prop}
set_option maxRecDepth 20000 in
set_option maxHeartbeats 4000000 in
theorem many0_spec {p : Int} {W : Prop} [Decidable W] (hk : POST (.bool true) R O) : Fun Try.prog 3 #[vi p, .bool (decide W)] R O POST := by
  have hq := land_le .i64 p 15
  obtain ⟨q, hqe⟩ : ∃ q, land .i64 p 15 = q := ⟨_, rfl⟩
  rw [hqe] at hq
  refine Fun.enter (l := [_, _]) Try.func3 rfl Try.ntmps3 rfl (L0 := [(0, _), (1, _)]) rfl ?_
  refine WC.seq ?_
  refine WC.region ?_
  refine WL.rd rfl rfl rfl (Rd.assign rfl rfl) ?_
  refine WL.nil ?_
  refine thenQ.normal ?_
  refine WC.seq ?_
  refine WC.seq ?_
  refine WC.region ?_
  refine WL.op rfl ?_
  refine OpW.call rfl rfl (by repeat (first | exact Evs.nil | apply Evs.cons rfl)) (by kernel_rfl) rfl rfl rfl ?_
  refine speaks_spec ?_
  refine WL.say 10 (u := .bool (decide True)) rfl (by simp) ?_
  refine WL.rd rfl rfl rfl ((by first | exact Rd.notd rfl rfl | exact Rd.not rfl rfl)) ?_
  refine WL.nil ?_
  refine thenQ.normal ?_
  first | refine WC.ite rfl (fun hc1 => ?_) (fun hc1 => ?_) | refine WC.cond rfl (fun hc1 => ?_) (fun hc1 => ?_)
  · skip
    exact absurd trivial hc1
  · skip
    refine WC.skip ?_
    refine thenQ.normal ?_
    refine WC.seq ?_
    refine WC.region ?_
    refine WL.rd rfl rfl rfl (Rd.move rfl rfl) ?_
    refine WL.rd rfl rfl rfl (Rd.andm (m := 15) rfl rfl rfl rfl (by decide)) ?_
    refine WL.say 13 (u := vi (q : Nat)) rfl (by rw [hqe]) ?_
    refine WL.rd rfl rfl rfl (Rd.add rfl rfl rfl (by omega)) ?_
    refine WL.say 14 (u := vi (4090 + q : Nat)) rfl (by congr 1) ?_
    refine WL.rd rfl rfl rfl (Rd.assign rfl rfl) ?_
    refine WL.nil ?_
    refine thenQ.normal ?_
    refine WC.seq ?_
    obtain ⟨n, hne⟩ : ∃ n, 4090 + q = n := ⟨_, rfl⟩
    rw [hne]
    have hn0 : 4090 ≤ n := by omega
    have hn1 : n ≤ 4105 := by omega
    refine WC.region ?_
    refine WL.op rfl ?_
    refine OpW.make1 (z0 := vy 0) (m := 0) (c := 30000) rfl S23 rfl rfl rfl rfl rfl (by omega) (by omega) (by omega) rfl rfl ?_; intro b15
    refine WL.heap (fun w h => Sat.accCap (enc := one vy) (size := 1) (c := 30000) (by repeat (first | assumption | exact Take.head _ | apply Take.tail)) (by rw [List.length_replicate, Nat.mul_one]) (by decide) h) ?_
    refine WL.rd rfl rfl rfl (Rd.assign rfl rfl) ?_
    refine WL.nil ?_
    refine thenQ.normal ?_
    refine WC.seq ?_
    refine WC.seq ?_
    refine WC.region ?_
    refine WL.rd rfl rfl rfl (Rd.assign rfl rfl) ?_
    refine WL.nil ?_
    refine thenQ.normal ?_
    refine WC.block ?_
    refine WC.pick [5, 6, 0, 1] (by repeat (first | exact Pick.nil | apply Pick.cons rfl)) ?_
    refine WC.loop2 2 (fun (i : Nat) (v : Value) => [(5, v), (6, vi i)]) (fun (i : Nat) (v : Value) => accC 5 1 (one vy) v (linesN i) :: O) (fun (i : Nat) (v : Value) => i ≤ n) (fun (i : Nat) (v : Value) => n - i) (0) (.slice (some ⟨b15, 0, none⟩) 0 30000) (by repeat (first | exact Split.zero | apply Split.succ)) ?hinv1 (by repeat (first | exact Sub.nil | refine Sub.cons rfl (by first | rfl | (congr 1; omega) | assumption) ?_)) (fun _ h => h) ?_
    case hinv1 =>
      exact Nat.zero_le _
    intro i v
    rintro i1
    refine WC.seq ?_
    refine WC.seq ?_
    refine WC.region ?_
    refine WL.rd rfl rfl rfl (Rd.move rfl rfl) ?_
    refine WL.rd rfl rfl rfl (Rd.move rfl rfl) ?_
    refine WL.rd rfl rfl rfl (Rd.lss rfl rfl rfl) ?_
    refine WL.nil ?_
    refine thenQ.normal ?_
    first | refine WC.ite rfl (fun hc2 => ?_) (fun hc2 => ?_) | refine WC.cond rfl (fun hc2 => ?_) (fun hc2 => ?_)
    · skip
      have hln := linesN_len i
      have hm90 : i % 90 < 90 := Nat.mod_lt _ (by omega)
      refine WC.skip ?_
      refine thenQ.normal ?_
      refine WC.seq ?_
      refine WC.block ?_
      refine WC.region ?_
      refine WL.rd rfl rfl rfl (Rd.move rfl rfl) ?_
      refine WL.rd rfl rfl rfl (Rd.move rfl rfl) ?_
      refine WL.rd rfl rfl rfl (Rd.remN (a := i) (b := 90) rfl rfl rfl rfl rfl (by omega)) ?_
      refine WL.rd rfl rfl rfl (Rd.add rfl rfl rfl (by omega)) ?_
      refine WL.rd rfl rfl rfl (Rd.conv rfl rfl Try.underlying5 (wrap_u8 (by omega)) (hS := Try.underlying3)) ?_
      refine WL.say 25 (u := vy (b8 (33 + i % 90))) rfl (by show Value.int .u8 _ = .int .u8 _; rw [b8_nat (by omega)]; rfl) ?_
      refine WL.rd rfl rfl rfl (Rd.move rfl rfl) ?_
      refine WL.rd rfl rfl rfl (Rd.quoI (a := i) (b := 90) rfl rfl rfl rfl rfl (by omega) (by omega)) ?_
      refine WL.rd rfl rfl rfl (Rd.add rfl rfl rfl (by omega)) ?_
      refine WL.rd rfl rfl rfl (Rd.conv rfl rfl Try.underlying5 (wrap_u8 (by omega)) (hS := Try.underlying3)) ?_
      refine WL.say 29 (u := vy (b8 (33 + i / 90))) rfl (by show Value.int .u8 _ = .int .u8 _; rw [b8_nat (by omega)]; rfl) ?_
      refine WL.op rfl ?_
      refine OpW.buildSl (ps := [(0, _), (1, _), (2, _), (3, _), (4, _), (5, _)]) rfl S23 (by repeat (first | exact Evs.nil | apply Evs.cons rfl)) rfl rfl (by repeat (first | exact CellsOf.nil | apply CellsOf.cons rfl)) (by kernel_rfl) rfl rfl rfl ?_; intro b30
      refine WL.op rfl ?_
      refine OpW.appendRow (enc := one vy) rfl S23 rfl rfl (by repeat (first | assumption | exact Take.head _ | apply Take.tail)) (by repeat (first | assumption | exact Take.head _ | apply Take.tail)) [97, b8 (33 + i % 90), b8 (33 + i / 90), 32, 98, 10] rfl (by rfl) rfl (by intro x; first | rfl | (cases x; rfl) | (rcases x with ⟨_, _, _⟩; rfl) | (rcases x with ⟨_, _, _, _⟩; rfl)) (by intro x; first | rfl | (cases x; rfl) | (rcases x with ⟨_, _, _⟩; rfl) | (rcases x with ⟨_, _, _, _⟩; rfl)) ⟨by simp only [maxLen, List.length_append, List.length_nil, List.length_cons, List.length_drop, List.length_take, List.length_map]; omega, by first | omega | (simp only [List.length_append, List.length_nil, List.length_cons, List.length_drop, List.length_take, List.length_map]; omega)⟩ rfl rfl ?_; intro v31 hv31
      refine WL.rd rfl rfl rfl (Rd.assign rfl rfl) ?_
      refine WL.nil ?_
      refine blockQ.normal ?_
      refine thenQ.normal ?_
      refine WC.region ?_
      refine WL.rd rfl rfl rfl (Rd.move rfl rfl) ?_
      refine WL.rd rfl rfl rfl (Rd.add rfl rfl rfl (by omega)) ?_
      refine WL.rd rfl rfl rfl (Rd.assign rfl rfl) ?_
      refine WL.nil ?_
      exact loopQ2.mk (i + 1) v31 (by omega) (by omega) (by repeat (first | exact Sub.nil | refine Sub.cons rfl (by first | rfl | (congr 1; omega) | assumption) ?_)) (fun w h => by rw [linesN_next]; exact (fun w h => OwnL.sat (by repeat (first | exact OwnL.refl | apply OwnL.take (by repeat (first | exact Take.head _ | apply Take.tail)) | apply OwnL.drop)) w (h.thin (SubL.mem (by repeat (first | exact SubL.refl | refine SubL.cons (by repeat (first | assumption | exact mS | apply mT)) ?_ | refine SubL.skip ?_))))) w h)
    · skip
      obtain rfl : i = n := by omega
      have hln := linesN_len i
      refine WC.exit ?_
      refine thenQ.exit ?_
      refine loopQ2.exit ?_
      refine blockQ.exit ?_
      refine thenQ.normal ?_
      refine WC.cut (α := Value) (fun y => [(0, vi i), (1, .bool (decide W)), (5, y)]) (fun _ => R) (fun y => accC 5 1 (one vy) y (linesN i ++ tailW W) :: O) (fun _ => True) ?_ ?_
      · skip
        refine WC.seq ?_
        refine WC.region ?_
        refine WL.rd rfl rfl rfl (Rd.move rfl rfl) ?_
        refine WL.nil ?_
        refine thenQ.normal ?_
        first | refine WC.ite rfl (fun hc3 => ?_) (fun hc3 => ?_) | refine WC.cond rfl (fun hc3 => ?_) (fun hc3 => ?_)
        · skip
          refine WC.region ?_
          refine WL.rd rfl rfl rfl (Rd.move rfl rfl) ?_
          refine WL.op rfl ?_
          refine OpW.appendStr rfl S23 Try.underlying9 rfl rfl (by repeat (first | assumption | exact Take.head _ | apply Take.tail)) ⟨by simp only [maxLen, List.length_append, List.length_nil, List.length_cons, List.length_drop, List.length_take, List.length_map]; omega, by first | omega | (simp only [List.length_append, List.length_nil, List.length_cons, List.length_drop, List.length_take, List.length_map]; omega)⟩ rfl rfl ?_; intro v34 hv34
          refine WL.rd rfl rfl rfl (Rd.assign rfl rfl) ?_
          refine WL.nil ?_
          exact ⟨v34, trivial, (by repeat (first | exact Sub.nil | refine Sub.cons rfl (by first | rfl | (congr 1; omega) | assumption) ?_)), fun w h => by rw [tailW, if_pos hc3]; exact (fun w h => OwnL.sat (by repeat (first | exact OwnL.refl | apply OwnL.take (by repeat (first | exact Take.head _ | apply Take.tail)) | apply OwnL.drop)) w (h.thin (SubL.mem (by repeat (first | exact SubL.refl | refine SubL.cons (by repeat (first | assumption | exact mS | apply mT)) ?_ | refine SubL.skip ?_))))) w h⟩
        · skip
          refine WC.skip ?_
          exact ⟨v, trivial, (by repeat (first | exact Sub.nil | refine Sub.cons rfl (by first | rfl | (congr 1; omega) | assumption) ?_)), fun w h => by rw [tailW, if_neg hc3, List.append_nil]; exact (fun w h => OwnL.sat (by repeat (first | exact OwnL.refl | apply OwnL.take (by repeat (first | exact Take.head _ | apply Take.tail)) | apply OwnL.drop)) w (h.thin (SubL.mem (by repeat (first | exact SubL.refl | refine SubL.cons (by repeat (first | assumption | exact mS | apply mT)) ?_ | refine SubL.skip ?_))))) w h⟩
      · skip
        rintro y -
        refine WC.seq ?_
        refine WC.region ?_
        refine WL.rd rfl rfl rfl (Rd.move rfl rfl) ?_
        refine WL.rd rfl rfl rfl ((by first | exact Rd.strOfA rfl Try.underlying23 Try.underlying9 Try.underlying5 rfl (by repeat (first | assumption | exact mS | apply mT)) | exact Rd.strOfE rfl Try.underlying23 Try.underlying9 Try.underlying5 rfl (by repeat (first | assumption | exact mS | apply mT)) | exact Rd.strOfR rfl Try.underlying23 Try.underlying9 Try.underlying5 rfl (by repeat (first | assumption | exact mS | apply mT)) rfl rfl (by omega))) ?_
        have htl : (tailW W).length ≤ 2 := by unfold tailW; split <;> simp
        refine WL.op rfl ?_
        refine OpW.call rfl rfl (by repeat (first | exact Evs.nil | apply Evs.cons rfl)) (by kernel_rfl) rfl rfl rfl ?_
        refine parse_spec (s := linesN i ++ tailW W) ?_ (by rw [List.length_append]; omega)
        intro pv r hr
        have hr := many_parse hn0 hn1 hr
        refine WL.rd rfl rfl rfl (Rd.move rfl rfl) ?_
        refine WL.rd rfl rfl rfl (Rd.extract rfl rfl rfl) ?_
        refine WL.rd rfl rfl rfl (Rd.extract rfl rfl rfl) ?_
        refine WL.rd rfl rfl rfl (Rd.extract rfl rfl rfl) ?_
        refine WL.rd rfl rfl rfl (Rd.assign rfl rfl) ?_
        refine WL.rd rfl rfl rfl (Rd.assign rfl rfl) ?_
        refine WL.rd rfl rfl rfl (Rd.assign rfl rfl) ?_
        refine WL.nil ?_
        refine thenQ.normal ?_
        refine WC.seq ?_
        refine WC.pick [0, 1, 7, 8, 9] (by repeat (first | exact Pick.nil | apply Pick.cons rfl)) ?_
        refine WC.val 50 (.bool (decide (4096 < i ∨ (W ∧ i = 4096)))) ?_ ?_
        · skip
          refine WC.region ?_
          refine WL.rd rfl rfl rfl (Rd.move rfl rfl) ?_
          refine WL.rd rfl rfl rfl (Rd.gtr rfl rfl rfl) ?_
          refine WL.rd rfl rfl rfl (Rd.move rfl rfl) ?_
          refine WL.case 44 rfl (fun hg44 => ?_) (fun hg44 => ?_)
          · skip
            refine WL.no rfl rfl rfl rfl rfl rfl ?_
            refine WL.no rfl rfl rfl rfl rfl rfl ?_
            refine WL.noU rfl rfl rfl rfl rfl rfl ?_
            refine WL.noU rfl rfl rfl rfl rfl rfl ?_
            refine WL.no rfl rfl rfl rfl rfl rfl ?_
            refine WL.rd rfl rfl rfl (Rd.pick_t rfl rfl rfl) ?_
            refine WL.nil ?_
            exact ⟨by repeat (first | exact Sub.nil | refine Sub.cons rfl (by first | rfl | (first | exact vb_t (.inl (by omega)) | exact vb ⟨fun h => .inr ⟨hg46, by omega⟩, fun h => by omega⟩ | exact vb_f (fun h => by rcases h with h | h; omega; exact hg46 h.1))) ?_), by first | exact (fun _ h => h.thin (SubL.mem (by repeat (first | exact SubL.refl | refine SubL.cons (by repeat (first | assumption | exact mS | apply mT)) ?_ | refine SubL.skip ?_)))) | exact (fun w h => OwnL.sat (by repeat (first | exact OwnL.refl | apply OwnL.take (by repeat (first | exact Take.head _ | apply Take.tail)) | apply OwnL.drop)) w (h.thin (SubL.mem (by repeat (first | exact SubL.refl | refine SubL.cons (by repeat (first | assumption | exact mS | apply mT)) ?_ | refine SubL.skip ?_)))))⟩
          · skip
            refine WL.rd_yes rfl rfl rfl rfl rfl rfl (Rd.move rfl rfl) ?_
            refine WL.rd_yes rfl rfl rfl rfl rfl rfl (Rd.move rfl rfl) ?_
            refine WL.case 46 rfl (fun hg46 => ?_) (fun hg46 => ?_)
            · skip
              refine WL.rd_yes rfl rfl rfl rfl rfl rfl (Rd.move rfl rfl) ?_
              refine WL.rd_yes rfl rfl rfl rfl rfl rfl (Rd.eql rfl rfl rfl) ?_
              refine WL.rd_yes rfl rfl rfl rfl rfl rfl (Rd.pick_t rfl rfl rfl) ?_
              refine WL.rd rfl rfl rfl (Rd.pick_f rfl rfl rfl) ?_
              refine WL.nil ?_
              exact ⟨by repeat (first | exact Sub.nil | refine Sub.cons rfl (by first | rfl | (first | exact vb_t (.inl (by omega)) | exact vb ⟨fun h => .inr ⟨hg46, by omega⟩, fun h => by omega⟩ | exact vb_f (fun h => by rcases h with h | h; omega; exact hg46 h.1))) ?_), by first | exact (fun _ h => h.thin (SubL.mem (by repeat (first | exact SubL.refl | refine SubL.cons (by repeat (first | assumption | exact mS | apply mT)) ?_ | refine SubL.skip ?_)))) | exact (fun w h => OwnL.sat (by repeat (first | exact OwnL.refl | apply OwnL.take (by repeat (first | exact Take.head _ | apply Take.tail)) | apply OwnL.drop)) w (h.thin (SubL.mem (by repeat (first | exact SubL.refl | refine SubL.cons (by repeat (first | assumption | exact mS | apply mT)) ?_ | refine SubL.skip ?_)))))⟩
            · skip
              refine WL.no rfl rfl rfl rfl rfl rfl ?_
              refine WL.no rfl rfl rfl rfl rfl rfl ?_
              refine WL.rd_yes rfl rfl rfl rfl rfl rfl (Rd.pick_f rfl rfl rfl) ?_
              refine WL.rd rfl rfl rfl (Rd.pick_f rfl rfl rfl) ?_
              refine WL.nil ?_
              exact ⟨by repeat (first | exact Sub.nil | refine Sub.cons rfl (by first | rfl | (first | exact vb_t (.inl (by omega)) | exact vb ⟨fun h => .inr ⟨hg46, by omega⟩, fun h => by omega⟩ | exact vb_f (fun h => by rcases h with h | h; omega; exact hg46 h.1))) ?_), by first | exact (fun _ h => h.thin (SubL.mem (by repeat (first | exact SubL.refl | refine SubL.cons (by repeat (first | assumption | exact mS | apply mT)) ?_ | refine SubL.skip ?_)))) | exact (fun w h => OwnL.sat (by repeat (first | exact OwnL.refl | apply OwnL.take (by repeat (first | exact Take.head _ | apply Take.tail)) | apply OwnL.drop)) w (h.thin (SubL.mem (by repeat (first | exact SubL.refl | refine SubL.cons (by repeat (first | assumption | exact mS | apply mT)) ?_ | refine SubL.skip ?_)))))⟩
        · skip
          first | refine WC.ite rfl (fun hc4 => ?_) (fun hc4 => ?_) | refine WC.cond rfl (fun hc4 => ?_) (fun hc4 => ?_)
          · skip
            rw [if_pos hc4] at hr
            subst hr
            refine WC.pick [7, 8, 9] (by repeat (first | exact Pick.nil | apply Pick.cons rfl)) ?_
            refine WC.val 4 (.bool true) ?_ ?_
            · skip
              refine WC.region ?_
              refine WL.rd rfl rfl rfl (Rd.move rfl rfl) ?_
              refine WL.rd rfl rfl rfl (Rd.eql rfl rfl rfl) ?_
              refine WL.rd rfl rfl rfl (Rd.move rfl rfl) ?_
              refine WL.case 53 rfl (fun hg53 => ?_) (fun hg53 => ?_)
              · skip
                refine WL.rd_yes rfl rfl rfl rfl rfl rfl (Rd.move rfl rfl) ?_
                refine WL.rd_yes rfl rfl rfl rfl rfl rfl (Rd.eql rfl rfl rfl) ?_
                refine WL.rd rfl rfl rfl (Rd.pick_t rfl rfl rfl) ?_
                refine WL.rd rfl rfl rfl (Rd.move rfl rfl) ?_
                refine WL.case 57 rfl (fun hg57 => ?_) (fun hg57 => ?_)
                · skip
                  refine WL.rd_yes rfl rfl rfl rfl rfl rfl (Rd.move rfl rfl) ?_
                  refine WL.rd_yes rfl rfl rfl rfl rfl rfl (Rd.lenE (enc := encP) (xs := []) rfl rfl Try.underlying24 (by repeat (first | assumption | exact mS | apply mT))) ?_
                  refine WL.rd_yes rfl rfl rfl rfl rfl rfl (Rd.eql rfl rfl rfl) ?_
                  refine WL.rd rfl rfl rfl (Rd.pick_t rfl rfl rfl) ?_
                  refine WL.rd rfl rfl rfl (Rd.assign rfl rfl) ?_
                  refine WL.nil ?_
                  exact ⟨by repeat (first | exact Sub.nil | refine Sub.cons rfl (by first | rfl | (first | rfl | exact absurd rfl hg53 | exact absurd rfl hg57)) ?_), by first | exact (fun _ h => h.thin (SubL.mem (by repeat (first | exact SubL.refl | refine SubL.cons (by repeat (first | assumption | exact mS | apply mT)) ?_ | refine SubL.skip ?_)))) | exact (fun w h => OwnL.sat (by repeat (first | exact OwnL.refl | apply OwnL.take (by repeat (first | exact Take.head _ | apply Take.tail)) | apply OwnL.drop)) w (h.thin (SubL.mem (by repeat (first | exact SubL.refl | refine SubL.cons (by repeat (first | assumption | exact mS | apply mT)) ?_ | refine SubL.skip ?_)))))⟩
                · skip
                  refine WL.no rfl rfl rfl rfl rfl rfl ?_
                  refine WL.no rfl rfl rfl rfl rfl rfl ?_
                  refine WL.no rfl rfl rfl rfl rfl rfl ?_
                  refine WL.rd rfl rfl rfl (Rd.pick_f rfl rfl rfl) ?_
                  refine WL.rd rfl rfl rfl (Rd.assign rfl rfl) ?_
                  refine WL.nil ?_
                  exact ⟨by repeat (first | exact Sub.nil | refine Sub.cons rfl (by first | rfl | (first | rfl | exact absurd rfl hg53 | exact absurd rfl hg57)) ?_), by first | exact (fun _ h => h.thin (SubL.mem (by repeat (first | exact SubL.refl | refine SubL.cons (by repeat (first | assumption | exact mS | apply mT)) ?_ | refine SubL.skip ?_)))) | exact (fun w h => OwnL.sat (by repeat (first | exact OwnL.refl | apply OwnL.take (by repeat (first | exact Take.head _ | apply Take.tail)) | apply OwnL.drop)) w (h.thin (SubL.mem (by repeat (first | exact SubL.refl | refine SubL.cons (by repeat (first | assumption | exact mS | apply mT)) ?_ | refine SubL.skip ?_)))))⟩
              · skip
                refine WL.no rfl rfl rfl rfl rfl rfl ?_
                refine WL.no rfl rfl rfl rfl rfl rfl ?_
                refine WL.rd rfl rfl rfl (Rd.pick_f rfl rfl rfl) ?_
                refine WL.rd rfl rfl rfl (Rd.move rfl rfl) ?_
                refine WL.no rfl rfl rfl rfl rfl rfl ?_
                refine WL.no rfl rfl rfl rfl rfl rfl ?_
                refine WL.no rfl rfl rfl rfl rfl rfl ?_
                refine WL.rd rfl rfl rfl (Rd.pick_f rfl rfl rfl) ?_
                refine WL.rd rfl rfl rfl (Rd.assign rfl rfl) ?_
                refine WL.nil ?_
                exact ⟨by repeat (first | exact Sub.nil | refine Sub.cons rfl (by first | rfl | (first | rfl | exact absurd rfl hg53 | exact absurd rfl hg57)) ?_), by first | exact (fun _ h => h.thin (SubL.mem (by repeat (first | exact SubL.refl | refine SubL.cons (by repeat (first | assumption | exact mS | apply mT)) ?_ | refine SubL.skip ?_)))) | exact (fun w h => OwnL.sat (by repeat (first | exact OwnL.refl | apply OwnL.take (by repeat (first | exact Take.head _ | apply Take.tail)) | apply OwnL.drop)) w (h.thin (SubL.mem (by repeat (first | exact SubL.refl | refine SubL.cons (by repeat (first | assumption | exact mS | apply mT)) ?_ | refine SubL.skip ?_)))))⟩
            · skip
              refine WC.heap (R' := R) (O' := O) (fun w h => OwnL.sat (by repeat (first | exact OwnL.refl | apply OwnL.take (by repeat (first | exact Take.head _ | apply Take.tail)) | apply OwnL.drop)) w (h.thin (SubL.mem (by repeat (first | exact SubL.refl | refine SubL.cons (by repeat (first | assumption | exact mS | apply mT)) ?_ | refine SubL.skip ?_))))) ?_
              refine WC.ret (Ret.one Try.results3 rfl ?_)
              exact hk
          · skip
            rw [if_neg hc4] at hr
            refine WC.skip ?_
            refine thenQ.normal ?_
            refine WC.seq ?_
            refine WC.seq ?_
            refine WC.region ?_
            refine WL.rd rfl rfl rfl (Rd.move rfl rfl) ?_
            refine WL.nil ?_
            refine thenQ.normal ?_
            first | refine WC.ite rfl (fun hc5 => ?_) (fun hc5 => ?_) | refine WC.cond rfl (fun hc5 => ?_) (fun hc5 => ?_)
            · skip
              rw [if_pos hc5] at hr
              subst hr
              refine WC.pick [0, 8, 9] (by repeat (first | exact Pick.nil | apply Pick.cons rfl)) ?_
              refine WC.val 4 (.bool true) ?_ ?_
              · skip
                refine WC.region ?_
                refine WL.rd rfl rfl rfl (Rd.move rfl rfl) ?_
                refine WL.rd rfl rfl rfl (Rd.eql rfl rfl rfl) ?_
                refine WL.rd rfl rfl rfl (Rd.move rfl rfl) ?_
                refine WL.case 65 rfl (fun hg65 => ?_) (fun hg65 => ?_)
                · skip
                  refine WL.rd_yes rfl rfl rfl rfl rfl rfl (Rd.move rfl rfl) ?_
                  refine WL.rd_yes rfl rfl rfl rfl rfl rfl (Rd.move rfl rfl) ?_
                  refine WL.rd_yes rfl rfl rfl rfl rfl rfl (Rd.add rfl rfl rfl (by omega)) ?_
                  refine WL.rd_yes rfl rfl rfl rfl rfl rfl (Rd.eql rfl rfl rfl) ?_
                  refine WL.rd rfl rfl rfl (Rd.pick_t rfl rfl rfl) ?_
                  refine WL.rd rfl rfl rfl (Rd.assign rfl rfl) ?_
                  refine WL.nil ?_
                  exact ⟨by repeat (first | exact Sub.nil | refine Sub.cons rfl (by first | rfl | (first | (simp; done) | exact absurd rfl hg65)) ?_), by first | exact (fun _ h => h.thin (SubL.mem (by repeat (first | exact SubL.refl | refine SubL.cons (by repeat (first | assumption | exact mS | apply mT)) ?_ | refine SubL.skip ?_)))) | exact (fun w h => OwnL.sat (by repeat (first | exact OwnL.refl | apply OwnL.take (by repeat (first | exact Take.head _ | apply Take.tail)) | apply OwnL.drop)) w (h.thin (SubL.mem (by repeat (first | exact SubL.refl | refine SubL.cons (by repeat (first | assumption | exact mS | apply mT)) ?_ | refine SubL.skip ?_)))))⟩
                · skip
                  refine WL.no rfl rfl rfl rfl rfl rfl ?_
                  refine WL.no rfl rfl rfl rfl rfl rfl ?_
                  refine WL.no rfl rfl rfl rfl rfl rfl ?_
                  refine WL.no rfl rfl rfl rfl rfl rfl ?_
                  refine WL.rd rfl rfl rfl (Rd.pick_f rfl rfl rfl) ?_
                  refine WL.rd rfl rfl rfl (Rd.assign rfl rfl) ?_
                  refine WL.nil ?_
                  exact ⟨by repeat (first | exact Sub.nil | refine Sub.cons rfl (by first | rfl | (first | (simp; done) | exact absurd rfl hg65)) ?_), by first | exact (fun _ h => h.thin (SubL.mem (by repeat (first | exact SubL.refl | refine SubL.cons (by repeat (first | assumption | exact mS | apply mT)) ?_ | refine SubL.skip ?_)))) | exact (fun w h => OwnL.sat (by repeat (first | exact OwnL.refl | apply OwnL.take (by repeat (first | exact Take.head _ | apply Take.tail)) | apply OwnL.drop)) w (h.thin (SubL.mem (by repeat (first | exact SubL.refl | refine SubL.cons (by repeat (first | assumption | exact mS | apply mT)) ?_ | refine SubL.skip ?_)))))⟩
              · skip
                refine WC.heap (R' := R) (O' := O) (fun w h => OwnL.sat (by repeat (first | exact OwnL.refl | apply OwnL.take (by repeat (first | exact Take.head _ | apply Take.tail)) | apply OwnL.drop)) w (h.thin (SubL.mem (by repeat (first | exact SubL.refl | refine SubL.cons (by repeat (first | assumption | exact mS | apply mT)) ?_ | refine SubL.skip ?_))))) ?_
                refine WC.ret (Ret.one Try.results3 rfl ?_)
                exact hk
            · skip
              rw [if_neg hc5] at hr
              subst hr
              have hpl := prsN_len i
              refine WC.skip ?_
              refine thenQ.normal ?_
              refine WC.pick [0, 7, 8, 9] (by repeat (first | exact Pick.nil | apply Pick.cons rfl)) ?_
              refine WC.val 4 (.bool true) ?_ ?_
              · skip
                refine WC.region ?_
                refine WL.rd rfl rfl rfl (Rd.move rfl rfl) ?_
                refine WL.rd rfl rfl rfl (Rd.eql rfl rfl rfl) ?_
                refine WL.rd rfl rfl rfl (Rd.move rfl rfl) ?_
                refine WL.case 73 rfl (fun hg73 => ?_) (fun hg73 => ?_)
                · skip
                  refine WL.rd_yes rfl rfl rfl rfl rfl rfl (Rd.move rfl rfl) ?_
                  refine WL.rd_yes rfl rfl rfl rfl rfl rfl (Rd.lenE (enc := encP) (xs := prsN i) rfl rfl Try.underlying24 (by repeat (first | assumption | exact mS | apply mT))) ?_
                  refine WL.rd_yes rfl rfl rfl rfl rfl rfl (Rd.move rfl rfl) ?_
                  refine WL.rd_yes rfl rfl rfl rfl rfl rfl (Rd.eql rfl rfl rfl) ?_
                  refine WL.rd rfl rfl rfl (Rd.pick_t rfl rfl rfl) ?_
                  refine WL.rd rfl rfl rfl (Rd.move rfl rfl) ?_
                  refine WL.case 79 rfl (fun hg79 => ?_) (fun hg79 => ?_)
                  · skip
                    refine WL.rd_yes rfl rfl rfl rfl rfl rfl (Rd.move rfl rfl) ?_
                    refine WL.rd_yes rfl rfl rfl rfl rfl rfl (Rd.eql rfl rfl rfl) ?_
                    refine WL.rd rfl rfl rfl (Rd.pick_t rfl rfl rfl) ?_
                    refine WL.rd rfl rfl rfl (Rd.assign rfl rfl) ?_
                    refine WL.nil ?_
                    exact ⟨by repeat (first | exact Sub.nil | refine Sub.cons rfl (by first | rfl | (first | (simp; done) | exact absurd rfl hg73 | exact absurd (by rw [hpl]) hg79)) ?_), by first | exact (fun _ h => h.thin (SubL.mem (by repeat (first | exact SubL.refl | refine SubL.cons (by repeat (first | assumption | exact mS | apply mT)) ?_ | refine SubL.skip ?_)))) | exact (fun w h => OwnL.sat (by repeat (first | exact OwnL.refl | apply OwnL.take (by repeat (first | exact Take.head _ | apply Take.tail)) | apply OwnL.drop)) w (h.thin (SubL.mem (by repeat (first | exact SubL.refl | refine SubL.cons (by repeat (first | assumption | exact mS | apply mT)) ?_ | refine SubL.skip ?_)))))⟩
                  · skip
                    refine WL.no rfl rfl rfl rfl rfl rfl ?_
                    refine WL.no rfl rfl rfl rfl rfl rfl ?_
                    refine WL.rd rfl rfl rfl (Rd.pick_f rfl rfl rfl) ?_
                    refine WL.rd rfl rfl rfl (Rd.assign rfl rfl) ?_
                    refine WL.nil ?_
                    exact ⟨by repeat (first | exact Sub.nil | refine Sub.cons rfl (by first | rfl | (first | (simp; done) | exact absurd rfl hg73 | exact absurd (by rw [hpl]) hg79)) ?_), by first | exact (fun _ h => h.thin (SubL.mem (by repeat (first | exact SubL.refl | refine SubL.cons (by repeat (first | assumption | exact mS | apply mT)) ?_ | refine SubL.skip ?_)))) | exact (fun w h => OwnL.sat (by repeat (first | exact OwnL.refl | apply OwnL.take (by repeat (first | exact Take.head _ | apply Take.tail)) | apply OwnL.drop)) w (h.thin (SubL.mem (by repeat (first | exact SubL.refl | refine SubL.cons (by repeat (first | assumption | exact mS | apply mT)) ?_ | refine SubL.skip ?_)))))⟩
                · skip
                  refine WL.no rfl rfl rfl rfl rfl rfl ?_
                  refine WL.no rfl rfl rfl rfl rfl rfl ?_
                  refine WL.no rfl rfl rfl rfl rfl rfl ?_
                  refine WL.no rfl rfl rfl rfl rfl rfl ?_
                  refine WL.rd rfl rfl rfl (Rd.pick_f rfl rfl rfl) ?_
                  refine WL.rd rfl rfl rfl (Rd.move rfl rfl) ?_
                  refine WL.no rfl rfl rfl rfl rfl rfl ?_
                  refine WL.no rfl rfl rfl rfl rfl rfl ?_
                  refine WL.rd rfl rfl rfl (Rd.pick_f rfl rfl rfl) ?_
                  refine WL.rd rfl rfl rfl (Rd.assign rfl rfl) ?_
                  refine WL.nil ?_
                  exact ⟨by repeat (first | exact Sub.nil | refine Sub.cons rfl (by first | rfl | (first | (simp; done) | exact absurd rfl hg73 | exact absurd (by rw [hpl]) hg79)) ?_), by first | exact (fun _ h => h.thin (SubL.mem (by repeat (first | exact SubL.refl | refine SubL.cons (by repeat (first | assumption | exact mS | apply mT)) ?_ | refine SubL.skip ?_)))) | exact (fun w h => OwnL.sat (by repeat (first | exact OwnL.refl | apply OwnL.take (by repeat (first | exact Take.head _ | apply Take.tail)) | apply OwnL.drop)) w (h.thin (SubL.mem (by repeat (first | exact SubL.refl | refine SubL.cons (by repeat (first | assumption | exact mS | apply mT)) ?_ | refine SubL.skip ?_)))))⟩
              · skip
                refine WC.heap (R' := R) (O' := O) (fun w h => OwnL.sat (by repeat (first | exact OwnL.refl | apply OwnL.take (by repeat (first | exact Take.head _ | apply Take.tail)) | apply OwnL.drop)) w (h.thin (SubL.mem (by repeat (first | exact SubL.refl | refine SubL.cons (by repeat (first | assumption | exact mS | apply mT)) ?_ | refine SubL.skip ?_))))) ?_
                refine WC.ret (Ret.one Try.results3 rfl ?_)
                exact hk
theorem many_spec {p : Int} {W : Bool} (hk : POST (.bool true) R O) : Fun Try.prog 3 #[vi p, .bool W] R O POST := by
  have h := many0_spec (p := p) (W := W = true) hk
  rwa [show decide (W = true) = W from by cases W <;> rfl] at h
end
end Go.Proofs.Ytnpkpcjiebiplaa
