/-
  Layer 8: MergesLonger, MergesOne.
-/
import Derived.Test.YtnpkpcjiebiplaaMg15
namespace Go.Proofs.Ytnpkpcjiebiplaa
open Go Go.SL
theorem HasPair.ext {l m : List Pr} {q : List T} {r : Nat} (h : HasPair l q r) : HasPair (l ++ m) q r := by
  obtain ⟨u, a, b, v, e, hr⟩ := h
  exact ⟨u, a, b, v, e, by rw [rk_app, hr]; rfl⟩
theorem HasPair.ext_lt {l m : List Pr} {q : List T} {r : Nat} (h : HasPair (l ++ m) q r) (hlt : r < l.length) : HasPair l q r := by
  obtain ⟨u, a, b, v, e, hr⟩ := h
  refine ⟨u, a, b, v, e, ?_⟩
  rw [rk_app] at hr
  cases h1 : rk l (a, b) with
  | some s => rw [h1] at hr; exact hr
  | none =>
    rw [h1] at hr
    obtain ⟨s, _, h3⟩ := Option.map_eq_some_iff.1 (show (rk m (a, b)).map (· + l.length) = some r from hr)
    omega
theorem HasPair.lt {l : List Pr} {q : List T} {r : Nat} (h : HasPair l q r) : r < l.length := by
  obtain ⟨_, _, _, _, _, hr⟩ := h
  exact (rk_at hr).1
theorem get!_app {l m : List Pr} {r : Nat} (h : r < l.length) : (l ++ m)[r]! = l[r]! := by
  rw [getElem!_pos (l ++ m) r (by rw [List.length_append]; omega), getElem!_pos l r h, List.getElem_append_left h]
theorem Spl.ext {l m : List Pr} {ps out out' : List T} (h : Spl l ps out) (h' : Spl (l ++ m) ps out') : Spl (l ++ m) out out' := by
  induction h with
  | done => exact h'
  | step hp hm k ih =>
    refine ih ?_
    cases h' with
    | done hn => exact absurd hp.ext (hn _)
    | step gp gm gk =>
      have e := Nat.le_antisymm (gm _ hp.ext) (hm _ (gp.ext_lt (Nat.lt_of_le_of_lt (gm _ hp.ext) hp.lt)))
      subst e
      rw [get!_app hp.lt] at gk
      exact gk
def Coarse (ps qs : List T) : Prop := qs.length ≤ ps.length ∧ ∀ u v, qs = u ++ v → ∃ u' v', ps = u' ++ v' ∧ off u' = off u
theorem pass_cut {A B : T} : ∀ {ps u v : List T}, pass A B ps = u ++ v → ∃ u' v', ps = u' ++ v' ∧ off u' = off u
  | [], u, v, h => ⟨[], [], rfl, by
      have h := (List.append_eq_nil_iff.1 h.symm).1
      rw [h]⟩
  | [a], u, v, h => ⟨u, v, h, rfl⟩
  | a :: b :: r, [], v, _ => ⟨[], _, rfl, rfl⟩
  | a :: b :: r, c :: u, v, h => by
    rw [pass] at h
    by_cases e : a = A ∧ b = B
    · rw [if_pos e, List.cons_append, List.cons.injEq] at h
      obtain ⟨rfl, h⟩ := h
      obtain ⟨u', v', h1, h2⟩ := pass_cut h
      exact ⟨a :: b :: u', v', by rw [h1]; rfl, by rw [off_cons, off_cons, off_cons, h2, List.length_append]; omega⟩
    · rw [if_neg e, List.cons_append, List.cons.injEq] at h
      obtain ⟨rfl, h⟩ := h
      obtain ⟨u', v', h1, h2⟩ := pass_cut h
      exact ⟨a :: u', v', by rw [h1]; rfl, by rw [off_cons, off_cons, h2]⟩
theorem Spl.coarse {l : List Pr} {ps out : List T} (h : Spl l ps out) : Coarse ps out := by
  induction h with
  | done => exact ⟨Nat.le_refl _, fun u v e => ⟨u, v, e, rfl⟩⟩
  | step _ _ _ ih =>
    refine ⟨Nat.le_trans ih.1 (pass_len_le _ _ _), fun u v e => ?_⟩
    obtain ⟨u', v', h1, h2⟩ := ih.2 u v e
    obtain ⟨u2, v2, h3, h4⟩ := pass_cut h1
    exact ⟨u2, v2, h3, h4.trans h2⟩
theorem off_next {q : List T} {i : Nat} (h : i < q.length) : off (q.take (i + 1)) = off (q.take i) + q[i]!.length := by rw [take_snoc' h, off_app, off_cons, off_nil]; rfl
theorem off_le {q : List T} {i : Nat} : off (q.take i) ≤ off q := by
  have h := congrArg off (List.take_append_drop i q)
  rw [off_app] at h; omega
theorem Coarse.at {ps qs : List T} (h : Coarse ps qs) (hf : Full qs) {i : Nat} (hi : i < qs.length) : ∃ j, j < ps.length ∧ off (ps.take (j + 1)) = off (qs.take (i + 1)) := by
  obtain ⟨u, v, h1, h2⟩ := h.2 (qs.take (i + 1)) (qs.drop (i + 1)) (List.take_append_drop _ _).symm
  have hp : 0 < off (qs.take (i + 1)) := by
    rw [off_next hi]
    have := len_pos (hf qs[i]! (get!_mem hi)); omega
  cases hu : u.length with
  | zero =>
    rw [List.length_eq_zero_iff] at hu
    subst hu
    rw [off_nil] at h2; omega
  | succ j =>
    refine ⟨j, by rw [h1, List.length_append, hu]; omega, ?_⟩
    rw [← h2, h1, ← hu, List.take_left]
/-! ### one pair -/
theorem pass_noadj {a b : UInt8} : ∀ {w : T}, NoAdj [a] [b] (pass [a] [b] (chars w))
  | [], u, v, h => by
    have := congrArg List.length h
    simp [pass, chars] at this
  | [x], u, v, h => by
    have := congrArg List.length h
    simp [pass, chars] at this
    omega
  | x :: y :: w, u, v, h => by
    rw [show chars (x :: y :: w) = [x] :: [y] :: chars w from rfl, pass] at h
    by_cases e : [x] = [a] ∧ [y] = [b]
    · rw [if_pos e] at h
      cases u with
      | nil =>
        simp only [List.nil_append, List.cons.injEq] at h
        have := congrArg List.length h.1
        simp at this
      | cons c u =>
        simp only [List.cons_append, List.cons.injEq] at h
        exact pass_noadj _ _ h.2
    · rw [if_neg e] at h
      cases u with
      | nil =>
        simp only [List.nil_append, List.cons.injEq] at h
        have hx : [x] = [a] := by rw [h.1.1]
        have h2 := h.2
        cases w with
        | nil =>
          simp only [chars, List.map_nil, pass, List.cons.injEq] at h2
          exact e ⟨hx, by simpa using h2.1⟩
        | cons z w =>
          rw [show chars (z :: w) = [z] :: chars w from rfl, pass] at h2
          by_cases g : [y] = [a] ∧ [z] = [b]
          · rw [if_pos g, List.cons.injEq] at h2
            have := congrArg List.length h2.1
            simp at this
          · rw [if_neg g, List.cons.injEq] at h2
            exact e ⟨hx, h2.1⟩
      | cons c u =>
        simp only [List.cons_append, List.cons.injEq] at h
        exact pass_noadj (w := y :: w) _ _ h.2
theorem rk_one {a b : UInt8} {p : Pr} {r : Nat} (h : rk [([a], [b])] p = some r) : r = 0 ∧ p = ([a], [b]) := by
  have h1 := rk_at h
  have h2 := h1.1
  simp only [List.length_cons, List.length_nil] at h2
  obtain rfl : r = 0 := by omega
  exact ⟨rfl, h1.2.1.symm⟩
theorem one_split {a b : UInt8} {w : T} {out : List T} (h : Spl [([a], [b])] (chars w) out) : out = pass [a] [b] (chars w) := by
  refine h.uniq ?_
  have hno : ∀ r, ¬ HasPair [([a], [b])] (pass [a] [b] (chars w)) r := fun r ⟨u, x, y, v, e, hr⟩ => by
    obtain ⟨_, e2⟩ := rk_one hr
    simp only [Prod.mk.injEq] at e2
    obtain ⟨rfl, rfl⟩ := e2
    exact pass_noadj u v e
  by_cases hp : HasPair [([a], [b])] (chars w) 0
  · exact .step hp (fun _ _ => Nat.zero_le _) (.done hno)
  · have hnn : ∀ r, ¬ HasPair [([a], [b])] (chars w) r := fun r h => by
      have h2 := h
      obtain ⟨_, _, _, _, _, hr⟩ := h
      rw [(rk_one hr).1] at h2
      exact hp h2
    rw [pass_none (fun u v e => hp ⟨u, _, _, v, e, by simp [rk]⟩)]
    exact .done hnn
def nAt (a b : UInt8) (w : T) (j : Nat) : Nat := if j + 1 < w.length ∧ w[j]! = a ∧ w[j + 1]! = b then 2 else 1
theorem one_step {a b : UInt8} {w : T} {j : Nat} (hj : j < w.length) : pass [a] [b] (chars (w.drop j)) = (w.take (j + nAt a b w j)).drop j :: pass [a] [b] (chars (w.drop (j + nAt a b w j))) := by
  unfold nAt
  by_cases h : j + 1 < w.length ∧ w[j]! = a ∧ w[j + 1]! = b
  · rw [if_pos h]
    obtain ⟨h1, h2, h3⟩ := h
    have e : w.drop j = w[j]! :: w[j + 1]! :: w.drop (j + 2) := by rw [drop_get hj, drop_get h1]
    rw [show (w.take (j + 2)).drop j = (w.drop j).take 2 from by rw [List.drop_take]; congr 1; omega, e]
    show pass [a] [b] ([w[j]!] :: [w[j + 1]!] :: chars (w.drop (j + 2))) = _
    rw [pass, if_pos ⟨by rw [h2], by rw [h3]⟩]; rfl
  · rw [if_neg h]
    rw [cut1 hj, drop_get hj]
    show pass [a] [b] ([w[j]!] :: chars (w.drop (j + 1))) = _
    by_cases g : j + 1 < w.length
    · rw [drop_get g]
      show pass [a] [b] ([w[j]!] :: [w[j + 1]!] :: chars (w.drop (j + 2))) = _
      rw [pass, if_neg (fun e => h ⟨g, by simpa using e.1, by simpa using e.2⟩)]; rfl
    · rw [List.drop_of_length_le (by omega)]; rfl
theorem byte_of {p : Int} (h : (Lit.int .u8 p).wf = true) : ∃ k : UInt8, p = (k.toNat : Int) := by
  have hx : 0 ≤ p ∧ p ≤ 255 := by simpa [Lit.wf, IntKind.min, IntKind.max, IntKind.signed, IntKind.bits] using h
  refine ⟨UInt8.ofNat p.toNat, ?_⟩
  rw [UInt8.toNat_ofNat']; omega
section
variable {R : List RO} {O O' : List Own} {POST : Value → List RO → List Own → Prop} {lv mv : Value}
set_option maxRecDepth 20000 in
set_option maxHeartbeats 4000000 in
theorem longer_spec {xs ys : List Pr} {word : T} (hl : SlE encP lv xs ∈ R) (hm : SlE encP mv ys ∈ R) (hs : word.length ≤ 140737488351232) (hk : POST (.bool true) R O) : Fun Try.prog 7 #[lv, mv, vs word] R O POST := by
  refine Fun.enter (l := [_, _, _]) Try.func7 rfl Try.ntmps7 rfl (L0 := [(0, _), (1, _), (2, _)]) rfl ?_
  refine WC.seq ?_
  refine WC.region ?_
  refine WL.rd rfl rfl rfl (Rd.assign rfl rfl) ?_
  refine WL.nil ?_
  refine thenQ.normal ?_
  refine WC.seq ?_
  refine WC.seq ?_
  refine WC.region ?_
  refine WL.op rfl ?_
  refine OpW.call rfl rfl (by repeat (first | exact Evs.nil | apply Evs.cons rfl)) (by kernel_rfl) rfl rfl rfl ?_
  refine speaks_spec ?_
  refine WL.say 16 (u := .bool (decide True)) rfl (by simp) ?_
  refine WL.rd rfl rfl rfl ((by first | exact Rd.notd rfl rfl | exact Rd.not rfl rfl)) ?_
  refine WL.nil ?_
  refine thenQ.normal ?_
  first | refine WC.ite rfl (fun hc1 => ?_) (fun hc1 => ?_) | refine WC.cond rfl (fun hc1 => ?_) (fun hc1 => ?_)
  · skip
    exact absurd trivial hc1
  · skip
    refine WC.skip ?_
    refine thenQ.normal ?_
    refine WC.cut (α := T) (fun y => [(0, lv), (1, mv), (2, vs y)]) (fun _ => R) (fun _ => O) (fun y => y.length ≤ 300) ?_ ?_
    · skip
      refine WC.seq ?_
      refine WC.region ?_
      refine WL.rd rfl rfl rfl (Rd.move rfl rfl) ?_
      refine WL.rd rfl rfl rfl (Rd.slen (ts := #[]) (ty := 0) rfl rfl Try.underlying9) ?_
      refine WL.rd rfl rfl rfl (Rd.gtr rfl rfl rfl) ?_
      refine WL.nil ?_
      refine thenQ.normal ?_
      first | refine WC.ite rfl (fun hc2 => ?_) (fun hc2 => ?_) | refine WC.cond rfl (fun hc2 => ?_) (fun hc2 => ?_)
      · skip
        refine WC.region ?_
        refine WL.rd rfl rfl rfl (Rd.move rfl rfl) ?_
        refine WL.rd rfl rfl rfl (Rd.scut_h (hi := 300) rfl Try.underlying9 rfl rfl (by omega) (by omega)) ?_
        refine WL.rd rfl rfl rfl (Rd.assign rfl rfl) ?_
        refine WL.nil ?_
        exact ⟨word.take 300, (by show (word.take 300).length ≤ 300; rw [List.length_take]; omega), (by repeat (first | exact Sub.nil | refine Sub.cons rfl (by first | rfl | (congr 1; omega) | assumption) ?_)), (fun _ h => h.thin (SubL.mem (by repeat (first | exact SubL.refl | refine SubL.cons (by repeat (first | assumption | exact mS | apply mT)) ?_ | refine SubL.skip ?_))))⟩
      · skip
        refine WC.skip ?_
        exact ⟨word, by omega, (by repeat (first | exact Sub.nil | refine Sub.cons rfl (by first | rfl | (congr 1; omega) | assumption) ?_)), (fun _ h => h.thin (SubL.mem (by repeat (first | exact SubL.refl | refine SubL.cons (by repeat (first | assumption | exact mS | apply mT)) ?_ | refine SubL.skip ?_))))⟩
    · skip
      intro y hy
      refine WC.seq ?_
      refine WC.region ?_
      refine WL.rd rfl rfl rfl (Rd.move rfl rfl) ?_
      refine WL.op rfl ?_
      refine OpW.call rfl rfl (by repeat (first | exact Evs.nil | apply Evs.cons rfl)) (by kernel_rfl) rfl rfl rfl ?_
      refine pairs_spec hl ?_; intro va vd
      refine WL.rd rfl rfl rfl (Rd.move rfl rfl) ?_
      refine WL.rd rfl rfl rfl (Rd.extract rfl rfl rfl) ?_
      refine WL.rd rfl rfl rfl (Rd.extract rfl rfl rfl) ?_
      refine WL.rd rfl rfl rfl (Rd.assign rfl rfl) ?_
      refine WL.rd rfl rfl rfl (Rd.assign rfl rfl) ?_
      refine WL.nil ?_
      refine thenQ.normal ?_
      refine WC.seq ?_
      refine WC.region ?_
      refine WL.rd rfl rfl rfl (Rd.move rfl rfl) ?_
      refine WL.op rfl ?_
      refine OpW.call rfl rfl (by repeat (first | exact Evs.nil | apply Evs.cons rfl)) (by kernel_rfl) rfl rfl rfl ?_
      refine pairs_spec (xs := ys) (by repeat (first | assumption | exact mS | apply mT)) ?_; intro vc ve
      have hxl : (xs.take 60).length ≤ 60 := by rw [List.length_take]; omega
      have hyl : (ys.take 60).length ≤ 60 := by rw [List.length_take]; omega
      generalize xs.take 60 = a at *
      generalize ys.take 60 = b at *
      refine WL.rd rfl rfl rfl (Rd.move rfl rfl) ?_
      refine WL.rd rfl rfl rfl (Rd.extract rfl rfl rfl) ?_
      refine WL.rd rfl rfl rfl (Rd.extract rfl rfl rfl) ?_
      refine WL.rd rfl rfl rfl (Rd.assign rfl rfl) ?_
      refine WL.rd rfl rfl rfl (Rd.assign rfl rfl) ?_
      refine WL.nil ?_
      refine thenQ.normal ?_
      refine WC.seq ?_
      refine WC.region ?_
      refine WL.rd rfl rfl rfl (Rd.move rfl rfl) ?_
      refine WL.rd rfl rfl rfl (Rd.move rfl rfl) ?_
      refine WL.op rfl ?_
      refine OpW.call rfl rfl (by repeat (first | exact Evs.nil | apply Evs.cons rfl)) (by kernel_rfl) rfl rfl rfl ?_
      refine split_spec (l := a) (by repeat (first | assumption | exact mS | apply mT)) (by omega) ?_; intro v35 out hout
      obtain ⟨_, hspl, hfl, hfull⟩ : y.length ≤ 4096 ∧ Spl a (chars y) out ∧ out.flatten = y ∧ Full out := by
        rcases hout with ⟨h, _⟩ | h
        · omega
        · exact h
      have hoff : off out = y.length := by unfold off; rw [hfl]
      refine WL.op rfl ?_
      refine OpW.buildSl (ps := []) rfl S24 (by repeat (first | exact Evs.nil | apply Evs.cons rfl)) rfl rfl (by repeat (first | exact CellsOf.nil | apply CellsOf.cons rfl)) (by kernel_rfl) rfl rfl rfl ?_; intro b36
      refine WL.heap (fun w h => Sat.accRow (enc := encP) (size := 2) (xs := []) (by repeat (first | assumption | exact Take.head _ | apply Take.tail)) rfl rfl (fun x => rfl) (by simp) h) ?_
      refine WL.rd rfl rfl rfl (Rd.move rfl rfl) ?_
      refine WL.op rfl ?_
      refine OpW.appendE (enc := encP) (ys := a) rfl S24 Try.underlying24 rfl rfl (by repeat (first | assumption | exact Take.head _ | apply Take.tail)) (by repeat (first | assumption | exact mS | apply mT)) (by intro x; first | rfl | (cases x; rfl) | (rcases x with ⟨_, _, _⟩; rfl) | (rcases x with ⟨_, _, _, _⟩; rfl)) (by intro x; first | rfl | (cases x; rfl) | (rcases x with ⟨_, _, _⟩; rfl) | (rcases x with ⟨_, _, _, _⟩; rfl)) ⟨by simp only [maxLen, List.length_append, List.length_nil, List.length_cons, List.length_drop, List.length_take, List.length_map]; omega, by first | omega | (simp only [List.length_append, List.length_nil, List.length_cons, List.length_drop, List.length_take, List.length_map]; omega)⟩ rfl rfl ?_; intro v38 hv38
      refine WL.rd rfl rfl rfl (Rd.move rfl rfl) ?_
      refine WL.op rfl ?_
      refine OpW.appendE (enc := encP) (ys := b) rfl S24 Try.underlying24 rfl rfl (by repeat (first | assumption | exact Take.head _ | apply Take.tail)) (by repeat (first | assumption | exact mS | apply mT)) (by intro x; first | rfl | (cases x; rfl) | (rcases x with ⟨_, _, _⟩; rfl) | (rcases x with ⟨_, _, _, _⟩; rfl)) (by intro x; first | rfl | (cases x; rfl) | (rcases x with ⟨_, _, _⟩; rfl) | (rcases x with ⟨_, _, _, _⟩; rfl)) ⟨by simp only [maxLen, List.length_append, List.length_nil, List.length_cons, List.length_drop, List.length_take, List.length_map]; omega, by first | omega | (simp only [List.length_append, List.length_nil, List.length_cons, List.length_drop, List.length_take, List.length_map]; omega)⟩ rfl rfl ?_; intro v40 hv40
      refine WL.heap (fun w h => Sat.shareA (xs := a ++ b) (by repeat (first | assumption | exact Take.head _ | apply Take.tail)) h) ?_
      refine WL.rd rfl rfl rfl (Rd.move rfl rfl) ?_
      refine WL.op rfl ?_
      refine OpW.call rfl rfl (by repeat (first | exact Evs.nil | apply Evs.cons rfl)) (by kernel_rfl) rfl rfl rfl ?_
      refine split_spec (l := a ++ b) (by repeat (first | assumption | exact mS | apply mT)) (by rw [List.length_append]; omega) ?_; intro v42 all hall
      obtain ⟨_, hspl2, hfl2, hfull2⟩ : y.length ≤ 4096 ∧ Spl (a ++ b) (chars y) all ∧ all.flatten = y ∧ Full all := by
        rcases hall with ⟨h, _⟩ | h
        · omega
        · exact h
      have hoff2 : off all = y.length := by unfold off; rw [hfl2]
      have hco := (hspl.ext hspl2).coarse
      refine WL.rd rfl rfl rfl (Rd.assign rfl rfl) ?_
      refine WL.rd rfl rfl rfl (Rd.assign rfl rfl) ?_
      refine WL.nil ?_
      refine thenQ.normal ?_
      refine WC.seq ?_
      refine WC.know (p := SlE (one vs) v35 out) (by repeat (first | assumption | exact mS | apply mT)) (fun w h => h.len) fun hol => ?_
      refine WC.know (p := SlE (one vs) v42 all) (by repeat (first | assumption | exact mS | apply mT)) (fun w h => h.len) fun hal => ?_
      refine WC.heap (R' := SlE (one vs) v35 out :: SlE (one vs) v42 all :: R) (O' := O) (fun w h => OwnL.sat (by repeat (first | exact OwnL.refl | apply OwnL.take (by repeat (first | exact Take.head _ | apply Take.tail)) | apply OwnL.drop)) w (h.thin (SubL.mem (by repeat (first | exact SubL.refl | refine SubL.cons (by repeat (first | assumption | exact mS | apply mT)) ?_ | refine SubL.skip ?_))))) ?_
      refine WC.region ?_
      refine WL.rd rfl rfl rfl (Rd.assign rfl rfl) ?_
      refine WL.rd rfl rfl rfl (Rd.assign rfl rfl) ?_
      refine WL.nil ?_
      refine thenQ.normal ?_
      refine WC.seq ?_
      refine WC.region ?_
      refine WL.op rfl ?_
      refine OpW.makeMap vi vbl rfl rfl rfl ?_; intro b43
      refine WL.rd rfl rfl rfl (Rd.assign rfl rfl) ?_
      refine WL.nil ?_
      refine thenQ.normal ?_
      refine WC.seq ?_
      refine WC.block ?_
      refine WC.pick [13, 14, 11, 12, 15] (by repeat (first | exact Pick.nil | apply Pick.cons rfl)) ?_
      refine WC.loop2 2 (fun (i : Nat) (m : GoMap Int Bool) => [(13, vi (off (out.take i))), (14, vi i)]) (fun (i : Nat) (m : GoMap Int Bool) => mapC vi vbl b43 m :: O) (fun (i : Nat) (m : GoMap Int Bool) => i ≤ out.length ∧ ∀ j, j < i → m.get (off (out.take (j + 1)) : Int) = some true) (fun (i : Nat) (m : GoMap Int Bool) => out.length - i) (0) (GoMap.empty) (by repeat (first | exact Split.zero | apply Split.succ)) ?hinv1 (by repeat (first | exact Sub.nil | refine Sub.cons rfl (by first | rfl | (congr 1; omega) | assumption) ?_)) (fun _ h => h) ?_
      case hinv1 =>
        exact ⟨Nat.zero_le _, fun j h => absurd h (Nat.not_lt_zero _)⟩
      intro i m
      rintro ⟨i1, i2⟩
      refine WC.seq ?_
      refine WC.seq ?_
      refine WC.region ?_
      refine WL.rd rfl rfl rfl (Rd.move rfl rfl) ?_
      refine WL.rd rfl rfl rfl (Rd.move rfl rfl) ?_
      refine WL.rd rfl rfl rfl (Rd.lenE (enc := one vs) (xs := out) rfl rfl Try.underlying38 (by repeat (first | assumption | exact mS | apply mT))) ?_
      refine WL.rd rfl rfl rfl (Rd.lss rfl rfl rfl) ?_
      refine WL.nil ?_
      refine thenQ.normal ?_
      first | refine WC.ite rfl (fun hc3 => ?_) (fun hc3 => ?_) | refine WC.cond rfl (fun hc3 => ?_) (fun hc3 => ?_)
      · skip
        have hi : i < out.length := by omega
        have hnx := off_next hi
        have hle := off_le (q := out) (i := i + 1)
        refine WC.skip ?_
        refine thenQ.normal ?_
        refine WC.seq ?_
        refine WC.block ?_
        refine WC.seq ?_
        refine WC.region ?_
        refine WL.rd rfl rfl rfl (Rd.move rfl rfl) ?_
        refine WL.rd rfl rfl rfl (Rd.move rfl rfl) ?_
        refine WL.rd rfl rfl rfl (Rd.move rfl rfl) ?_
        refine WL.rd rfl rfl rfl (Rd.idx1 (v := v35) (enc := one vs) (xs := out) (k := i) rfl S38 rfl rfl rfl (by repeat (first | assumption | exact mS | apply mT)) hi) ?_
        refine WL.rd rfl rfl rfl (Rd.get (v := v35) (g := vs) (xs := out) (k := i) (a := out[i]!) rfl C9 rfl (by repeat (first | assumption | exact mS | apply mT)) (get!_of_lt hi)) ?_
        refine WL.rd rfl rfl rfl (Rd.slen (ts := #[]) (ty := 0) rfl rfl Try.underlying9) ?_
        refine WL.rd rfl rfl rfl (Rd.add rfl rfl rfl (by omega)) ?_
        refine WL.say 56 (u := vi (off (out.take (i + 1)))) rfl (by rw [hnx]; congr 1) ?_
        refine WL.rd rfl rfl rfl (Rd.assign rfl rfl) ?_
        refine WL.nil ?_
        refine thenQ.normal ?_
        refine WC.region ?_
        refine WL.rd rfl rfl rfl (Rd.move rfl rfl) ?_
        refine WL.rd rfl rfl rfl (Rd.move rfl rfl) ?_
        refine WL.op rfl ?_
        refine OpW.mapUpdate (k := (off (out.take (i + 1)) : Int)) (v := true) M43 K3 rfl rfl rfl rfl (by repeat (first | assumption | exact Take.head _ | apply Take.tail)) rfl rfl rfl ?_
        refine WL.nil ?_
        refine blockQ.normal ?_
        refine thenQ.normal ?_
        refine WC.region ?_
        refine WL.rd rfl rfl rfl (Rd.move rfl rfl) ?_
        refine WL.rd rfl rfl rfl (Rd.add rfl rfl rfl (by omega)) ?_
        refine WL.rd rfl rfl rfl (Rd.assign rfl rfl) ?_
        refine WL.nil ?_
        exact loopQ2.mk (i + 1) (m.set (off (out.take (i + 1)) : Int) true) ⟨by omega, fun j hj => by
        rw [GoMap.get_set]
        by_cases e : (off (out.take (j + 1)) : Int) = off (out.take (i + 1))
        · rw [if_pos e]
        · rw [if_neg e]
          rcases Nat.lt_or_ge j i with g | g
          · exact i2 j g
          · obtain rfl : j = i := by omega
            exact absurd rfl e⟩ (by omega) (by repeat (first | exact Sub.nil | refine Sub.cons rfl (by first | rfl | (congr 1; omega) | assumption) ?_)) (fun w h => OwnL.sat (by repeat (first | exact OwnL.refl | apply OwnL.take (by repeat (first | exact Take.head _ | apply Take.tail)) | apply OwnL.drop)) w (h.thin (SubL.mem (by repeat (first | exact SubL.refl | refine SubL.cons (by repeat (first | assumption | exact mS | apply mT)) ?_ | refine SubL.skip ?_)))))
      · skip
        obtain rfl : i = out.length := by omega
        refine WC.heap (fun w h => Sat.shareM (m := m) (by repeat (first | assumption | exact Take.head _ | apply Take.tail)) h) ?_
        refine WC.exit ?_
        refine thenQ.exit ?_
        refine loopQ2.exit ?_
        refine blockQ.exit ?_
        refine thenQ.normal ?_
        refine WC.seq ?_
        refine WC.region ?_
        refine WL.rd rfl rfl rfl (Rd.assign rfl rfl) ?_
        refine WL.nil ?_
        refine thenQ.normal ?_
        refine WC.seq ?_
        refine WC.seq ?_
        refine WC.region ?_
        refine WL.rd rfl rfl rfl (Rd.assign rfl rfl) ?_
        refine WL.nil ?_
        refine thenQ.normal ?_
        refine WC.block ?_
        refine WC.pick [13, 14, 11, 12, 15] (by repeat (first | exact Pick.nil | apply Pick.cons rfl)) ?_
        refine WC.loop1o 2 (fun (i : Nat) => [(13, vi (off (all.take i))), (14, vi i)]) (fun (i : Nat) => i ≤ all.length) (fun (i : Nat) => all.length - i) (0) (by repeat (first | exact Split.zero | apply Split.succ)) ?hinv2 (by repeat (first | exact Sub.nil | refine Sub.cons rfl (by first | rfl | (congr 1; omega) | assumption) ?_)) (fun _ h => h) ?_
        case hinv2 =>
          exact Nat.zero_le _
        intro i
        rintro j1
        refine WC.seq ?_
        refine WC.seq ?_
        refine WC.region ?_
        refine WL.rd rfl rfl rfl (Rd.move rfl rfl) ?_
        refine WL.rd rfl rfl rfl (Rd.move rfl rfl) ?_
        refine WL.rd rfl rfl rfl (Rd.lenE (enc := one vs) (xs := all) rfl rfl Try.underlying38 (by repeat (first | assumption | exact mS | apply mT))) ?_
        refine WL.rd rfl rfl rfl (Rd.lss rfl rfl rfl) ?_
        refine WL.nil ?_
        refine thenQ.normal ?_
        first | refine WC.ite rfl (fun hc4 => ?_) (fun hc4 => ?_) | refine WC.cond rfl (fun hc4 => ?_) (fun hc4 => ?_)
        · skip
          have hi : i < all.length := by omega
          have hnx := off_next hi
          have hle := off_le (q := all) (i := i + 1)
          obtain ⟨j, hj, hjo⟩ := hco.at hfull2 hi
          have hgot := i2 j hj
          rw [hjo] at hgot
          refine WC.skip ?_
          refine thenQ.normal ?_
          refine WC.seq ?_
          refine WC.block ?_
          refine WC.seq ?_
          refine WC.region ?_
          refine WL.rd rfl rfl rfl (Rd.move rfl rfl) ?_
          refine WL.rd rfl rfl rfl (Rd.move rfl rfl) ?_
          refine WL.rd rfl rfl rfl (Rd.move rfl rfl) ?_
          refine WL.rd rfl rfl rfl (Rd.idx1 (v := v42) (enc := one vs) (xs := all) (k := i) rfl S38 rfl rfl rfl (by repeat (first | assumption | exact mS | apply mT)) hi) ?_
          refine WL.rd rfl rfl rfl (Rd.get (v := v42) (g := vs) (xs := all) (k := i) (a := all[i]!) rfl C9 rfl (by repeat (first | assumption | exact mS | apply mT)) (get!_of_lt hi)) ?_
          refine WL.rd rfl rfl rfl (Rd.slen (ts := #[]) (ty := 0) rfl rfl Try.underlying9) ?_
          refine WL.rd rfl rfl rfl (Rd.add rfl rfl rfl (by omega)) ?_
          refine WL.say 71 (u := vi (off (all.take (i + 1)))) rfl (by rw [hnx]; congr 1) ?_
          refine WL.rd rfl rfl rfl (Rd.assign rfl rfl) ?_
          refine WL.nil ?_
          refine thenQ.normal ?_
          refine WC.seq ?_
          refine WC.region ?_
          refine WL.rd rfl rfl rfl (Rd.move rfl rfl) ?_
          refine WL.rd rfl rfl rfl (Rd.move rfl rfl) ?_
          refine WL.rd rfl rfl rfl (Rd.lookupR (k := (off (all.take (i + 1)) : Int)) M43 K3 rfl rfl rfl (by repeat (first | assumption | exact mS | apply mT)) rfl) ?_
          refine WL.say 74 (u := .bool (decide True)) rfl (by rw [hgot]; rfl) ?_
          refine WL.rd rfl rfl rfl ((by first | exact Rd.notd rfl rfl | exact Rd.not rfl rfl)) ?_
          refine WL.nil ?_
          refine thenQ.normal ?_
          first | refine WC.ite rfl (fun hc5 => ?_) (fun hc5 => ?_) | refine WC.cond rfl (fun hc5 => ?_) (fun hc5 => ?_)
          · skip
            exact absurd trivial hc5
          · skip
            refine WC.skip ?_
            refine blockQ.normal ?_
            refine thenQ.normal ?_
            refine WC.region ?_
            refine WL.rd rfl rfl rfl (Rd.move rfl rfl) ?_
            refine WL.rd rfl rfl rfl (Rd.add rfl rfl rfl (by omega)) ?_
            refine WL.rd rfl rfl rfl (Rd.assign rfl rfl) ?_
            refine WL.nil ?_
            exact loopQ1.mk (i + 1) (by omega) (by omega) (by repeat (first | exact Sub.nil | refine Sub.cons rfl (by first | rfl | (congr 1; omega) | assumption) ?_)) (fun w h => OwnL.sat (by repeat (first | exact OwnL.refl | apply OwnL.take (by repeat (first | exact Take.head _ | apply Take.tail)) | apply OwnL.drop)) w (h.thin (SubL.mem (by repeat (first | exact SubL.refl | refine SubL.cons (by repeat (first | assumption | exact mS | apply mT)) ?_ | refine SubL.skip ?_)))))
        · skip
          refine WC.exit ?_
          refine thenQ.exit ?_
          refine loopQ1.exit ?_
          refine blockQ.exit ?_
          refine thenQ.normal ?_
          refine WC.seq ?_
          refine WC.region ?_
          refine WL.rd rfl rfl rfl (Rd.move rfl rfl) ?_
          refine WL.rd rfl rfl rfl (Rd.lenE (enc := one vs) (xs := all) rfl rfl Try.underlying38 (by repeat (first | assumption | exact mS | apply mT))) ?_
          refine WL.rd rfl rfl rfl (Rd.move rfl rfl) ?_
          refine WL.rd rfl rfl rfl (Rd.lenE (enc := one vs) (xs := out) rfl rfl Try.underlying38 (by repeat (first | assumption | exact mS | apply mT))) ?_
          refine WL.rd rfl rfl rfl (Rd.leq rfl rfl rfl) ?_
          refine WL.say 80 (u := .bool true) rfl (by have := hco.1; simp; omega) ?_
          refine WL.rd rfl rfl rfl (Rd.assign rfl rfl) ?_
          refine WL.nil ?_
          refine thenQ.normal ?_
          refine WC.heap (R' := R) (O' := O) (fun w h => OwnL.sat (by repeat (first | exact OwnL.refl | apply OwnL.take (by repeat (first | exact Take.head _ | apply Take.tail)) | apply OwnL.drop)) w (h.thin (SubL.mem (by repeat (first | exact SubL.refl | refine SubL.cons (by repeat (first | assumption | exact mS | apply mT)) ?_ | refine SubL.skip ?_))))) ?_
          refine WC.ret (Ret.one Try.results7 rfl ?_)
          exact hk
set_option maxRecDepth 20000 in
set_option maxHeartbeats 4000000 in
theorem ones_spec {a b : UInt8} {word : T} (hs : word.length ≤ 140737488351232) (hk : POST (.bool true) R O) : Fun Try.prog 8 #[vy a, vy b, vs word] R O POST := by
  refine Fun.enter (l := [_, _, _]) Try.func8 rfl Try.ntmps8 rfl (L0 := [(0, _), (1, _), (2, _)]) rfl ?_
  refine WC.seq ?_
  refine WC.region ?_
  refine WL.rd rfl rfl rfl (Rd.assign rfl rfl) ?_
  refine WL.nil ?_
  refine thenQ.normal ?_
  refine WC.seq ?_
  refine WC.seq ?_
  refine WC.region ?_
  refine WL.op rfl ?_
  refine OpW.call rfl rfl (by repeat (first | exact Evs.nil | apply Evs.cons rfl)) (by kernel_rfl) rfl rfl rfl ?_
  refine speaks_spec ?_
  refine WL.say 11 (u := .bool (decide True)) rfl (by simp) ?_
  refine WL.rd rfl rfl rfl ((by first | exact Rd.notd rfl rfl | exact Rd.not rfl rfl)) ?_
  refine WL.nil ?_
  refine thenQ.normal ?_
  first | refine WC.ite rfl (fun hc1 => ?_) (fun hc1 => ?_) | refine WC.cond rfl (fun hc1 => ?_) (fun hc1 => ?_)
  · skip
    exact absurd trivial hc1
  · skip
    refine WC.skip ?_
    refine thenQ.normal ?_
    refine WC.cut (α := T) (fun y => [(0, vy a), (1, vy b), (2, vs y)]) (fun _ => R) (fun _ => O) (fun y => y.length ≤ 500) ?_ ?_
    · skip
      refine WC.seq ?_
      refine WC.region ?_
      refine WL.rd rfl rfl rfl (Rd.move rfl rfl) ?_
      refine WL.rd rfl rfl rfl (Rd.slen (ts := #[]) (ty := 0) rfl rfl Try.underlying9) ?_
      refine WL.rd rfl rfl rfl (Rd.gtr rfl rfl rfl) ?_
      refine WL.nil ?_
      refine thenQ.normal ?_
      first | refine WC.ite rfl (fun hc2 => ?_) (fun hc2 => ?_) | refine WC.cond rfl (fun hc2 => ?_) (fun hc2 => ?_)
      · skip
        refine WC.region ?_
        refine WL.rd rfl rfl rfl (Rd.move rfl rfl) ?_
        refine WL.rd rfl rfl rfl (Rd.scut_h (hi := 500) rfl Try.underlying9 rfl rfl (by omega) (by omega)) ?_
        refine WL.rd rfl rfl rfl (Rd.assign rfl rfl) ?_
        refine WL.nil ?_
        exact ⟨word.take 500, (by show (word.take 500).length ≤ 500; rw [List.length_take]; omega), (by repeat (first | exact Sub.nil | refine Sub.cons rfl (by first | rfl | (congr 1; omega) | assumption) ?_)), (fun _ h => h.thin (SubL.mem (by repeat (first | exact SubL.refl | refine SubL.cons (by repeat (first | assumption | exact mS | apply mT)) ?_ | refine SubL.skip ?_))))⟩
      · skip
        refine WC.skip ?_
        exact ⟨word, by omega, (by repeat (first | exact Sub.nil | refine Sub.cons rfl (by first | rfl | (congr 1; omega) | assumption) ?_)), (fun _ h => h.thin (SubL.mem (by repeat (first | exact SubL.refl | refine SubL.cons (by repeat (first | assumption | exact mS | apply mT)) ?_ | refine SubL.skip ?_))))⟩
    · skip
      intro y hy
      refine WC.seq ?_
      refine WC.region ?_
      refine WL.rd rfl rfl rfl (Rd.move rfl rfl) ?_
      refine WL.op rfl ?_
      refine OpW.buildSl (ps := [(0, _)]) rfl S23 (by repeat (first | exact Evs.nil | apply Evs.cons rfl)) rfl rfl (by repeat (first | exact CellsOf.nil | apply CellsOf.cons rfl)) (by kernel_rfl) rfl rfl rfl ?_; intro b19
      refine WL.heap (fun w h => Sat.accRow (enc := one vy) (size := 1) (xs := [a]) (by repeat (first | assumption | exact Take.head _ | apply Take.tail)) rfl rfl (fun x => rfl) (by simp) h) ?_
      refine WL.rd rfl rfl rfl ((by first | exact Rd.strOfA rfl Try.underlying23 Try.underlying9 Try.underlying5 rfl (by repeat (first | assumption | exact mS | apply mT)) | exact Rd.strOfE rfl Try.underlying23 Try.underlying9 Try.underlying5 rfl (by repeat (first | assumption | exact mS | apply mT)) | exact Rd.strOfR rfl Try.underlying23 Try.underlying9 Try.underlying5 rfl (by repeat (first | assumption | exact mS | apply mT)) rfl rfl (by omega))) ?_
      refine WL.rd rfl rfl rfl (Rd.move rfl rfl) ?_
      refine WL.op rfl ?_
      refine OpW.buildSl (ps := [(0, _)]) rfl S23 (by repeat (first | exact Evs.nil | apply Evs.cons rfl)) rfl rfl (by repeat (first | exact CellsOf.nil | apply CellsOf.cons rfl)) (by kernel_rfl) rfl rfl rfl ?_; intro b22
      refine WL.heap (fun w h => Sat.accRow (enc := one vy) (size := 1) (xs := [b]) (by repeat (first | assumption | exact Take.head _ | apply Take.tail)) rfl rfl (fun x => rfl) (by simp) h) ?_
      refine WL.rd rfl rfl rfl ((by first | exact Rd.strOfA rfl Try.underlying23 Try.underlying9 Try.underlying5 rfl (by repeat (first | assumption | exact mS | apply mT)) | exact Rd.strOfE rfl Try.underlying23 Try.underlying9 Try.underlying5 rfl (by repeat (first | assumption | exact mS | apply mT)) | exact Rd.strOfR rfl Try.underlying23 Try.underlying9 Try.underlying5 rfl (by repeat (first | assumption | exact mS | apply mT)) rfl rfl (by omega))) ?_
      refine WL.rd rfl rfl rfl (Rd.buildN (ps := [(0, _), (1, _)]) rfl Bs42 I42 rfl (by repeat (first | exact Evs.nil | apply Evs.cons rfl)) (by repeat (first | exact CellsOf.nil | apply CellsOf.cons rfl)) (by apply NFo.mk; repeat (first | exact NF.nil | apply NF.cons))) ?_
      refine WL.op rfl ?_
      refine OpW.buildSl (ps := [(0, _)]) rfl S24 (by repeat (first | exact Evs.nil | apply Evs.cons rfl)) rfl rfl (by repeat (first | exact CellsOf.nil | apply CellsOf.cons rfl)) (by kernel_rfl) rfl rfl rfl ?_; intro b25
      refine WL.heap (fun w h => Sat.shareRow (enc := encP) (xs := [([a], [b])]) (by repeat (first | assumption | exact Take.head _ | apply Take.tail)) rfl rfl (by simp) h) ?_
      refine WL.rd rfl rfl rfl (Rd.move rfl rfl) ?_
      refine WL.op rfl ?_
      refine OpW.call rfl rfl (by repeat (first | exact Evs.nil | apply Evs.cons rfl)) (by kernel_rfl) rfl rfl rfl ?_
      refine split_spec (l := [([a], [b])]) (by repeat (first | assumption | exact mS | apply mT)) (by simp) ?_; intro v27 out hout
      obtain ⟨_, hspl, hfl, hfull⟩ : y.length ≤ 4096 ∧ Spl [([a], [b])] (chars y) out ∧ out.flatten = y ∧ Full out := by
        rcases hout with ⟨h, _⟩ | h
        · omega
        · exact h
      have hout := one_split hspl
      refine WL.rd rfl rfl rfl (Rd.assign rfl rfl) ?_
      refine WL.nil ?_
      refine thenQ.normal ?_
      refine WC.seq ?_
      refine WC.know (p := SlE (one vs) v27 out) (by repeat (first | assumption | exact mS | apply mT)) (fun w h => h.len) fun hol => ?_
      refine WC.heap (R' := SlE (one vs) v27 out :: R) (O' := O) (fun w h => OwnL.sat (by repeat (first | exact OwnL.refl | apply OwnL.take (by repeat (first | exact Take.head _ | apply Take.tail)) | apply OwnL.drop)) w (h.thin (SubL.mem (by repeat (first | exact SubL.refl | refine SubL.cons (by repeat (first | assumption | exact mS | apply mT)) ?_ | refine SubL.skip ?_))))) ?_
      refine WC.region ?_
      refine WL.rd rfl rfl rfl (Rd.assign rfl rfl) ?_
      refine WL.nil ?_
      refine thenQ.normal ?_
      refine WC.seq ?_
      refine WC.seq ?_
      refine WC.region ?_
      refine WL.rd rfl rfl rfl (Rd.assign rfl rfl) ?_
      refine WL.nil ?_
      refine thenQ.normal ?_
      refine WC.block ?_
      refine WC.pick [8, 9, 0, 1, 2, 7] (by repeat (first | exact Pick.nil | apply Pick.cons rfl)) ?_
      refine WC.loop2o 2 (fun (i : Nat) (j : Nat) => [(8, vi j), (9, vi i)]) (fun (i : Nat) (j : Nat) => i ≤ out.length ∧ j ≤ y.length ∧ out.drop i = pass [a] [b] (chars (y.drop j))) (fun (i : Nat) (j : Nat) => out.length - i) (0) (0) (by repeat (first | exact Split.zero | apply Split.succ)) ?hinv1 (by repeat (first | exact Sub.nil | refine Sub.cons rfl (by first | rfl | (congr 1; omega) | assumption) ?_)) (fun _ h => h) ?_
      case hinv1 =>
        exact ⟨Nat.zero_le _, Nat.zero_le _, hout⟩
      intro i j
      rintro ⟨i1, i2, i3⟩
      refine WC.seq ?_
      refine WC.seq ?_
      refine WC.region ?_
      refine WL.rd rfl rfl rfl (Rd.move rfl rfl) ?_
      refine WL.rd rfl rfl rfl (Rd.move rfl rfl) ?_
      refine WL.rd rfl rfl rfl (Rd.lenE (enc := one vs) (xs := out) rfl rfl Try.underlying38 (by repeat (first | assumption | exact mS | apply mT))) ?_
      refine WL.rd rfl rfl rfl (Rd.lss rfl rfl rfl) ?_
      refine WL.nil ?_
      refine thenQ.normal ?_
      first | refine WC.ite rfl (fun hc3 => ?_) (fun hc3 => ?_) | refine WC.cond rfl (fun hc3 => ?_) (fun hc3 => ?_)
      · skip
        have hi : i < out.length := by omega
        have hj : j < y.length := Nat.lt_of_not_le fun h => by
          rw [List.drop_of_length_le h] at i3
          have := congrArg List.length i3
          rw [List.length_drop] at this
          simp [chars, pass] at this; omega
        have hst := one_step (a := a) (b := b) hj
        rw [← i3, drop_get hi, List.cons.injEq] at hst
        obtain ⟨hp, hr⟩ := hst
        have hn : nAt a b y j ≤ 2 ∧ j + nAt a b y j ≤ y.length ∧ 1 ≤ nAt a b y j := by unfold nAt; split <;> omega
        refine WC.skip ?_
        refine thenQ.normal ?_
        refine WC.seq ?_
        refine WC.block ?_
        refine WC.seq ?_
        refine WC.region ?_
        refine WL.rd rfl rfl rfl (Rd.assign rfl rfl) ?_
        refine WL.nil ?_
        refine thenQ.normal ?_
        refine WC.cut (α := Unit) (fun _ => [(0, vy a), (1, vy b), (2, vs y), (7, v27), (8, vi j), (9, vi i), (10, vi (nAt a b y j))]) (fun _ => SlE (one vs) v27 out :: R) (fun _ => O) (fun _ => True) ?_ ?_
        · skip
          refine WC.pick [0, 1, 2, 7, 8, 9, 10] (by repeat (first | exact Pick.nil | apply Pick.cons rfl)) ?_
          refine WC.val 53 (.bool (decide (j + 1 < y.length ∧ y[j]! = a ∧ y[j + 1]! = b))) ?_ ?_
          · skip
            refine WC.region ?_
            refine WL.rd rfl rfl rfl (Rd.move rfl rfl) ?_
            refine WL.rd rfl rfl rfl (Rd.add rfl rfl rfl (by omega)) ?_
            refine WL.rd rfl rfl rfl (Rd.move rfl rfl) ?_
            refine WL.rd rfl rfl rfl (Rd.slen (ts := #[]) (ty := 0) rfl rfl Try.underlying9) ?_
            refine WL.rd rfl rfl rfl (Rd.lss rfl rfl rfl) ?_
            refine WL.rd rfl rfl rfl (Rd.move rfl rfl) ?_
            refine WL.case 39 rfl (fun hg39 => ?_) (fun hg39 => ?_)
            · skip
              refine WL.rd_yes rfl rfl rfl rfl rfl rfl (Rd.move rfl rfl) ?_
              refine WL.rd_yes rfl rfl rfl rfl rfl rfl (Rd.move rfl rfl) ?_
              refine WL.rd_yes rfl rfl rfl rfl rfl rfl (Rd.sidx (k := j) rfl Try.underlying9 rfl rfl (by omega) (by first | assumption | rfl | exact get!_of_lt (by omega))) ?_
              refine WL.rd_yes rfl rfl rfl rfl rfl rfl (Rd.move rfl rfl) ?_
              refine WL.rd_yes rfl rfl rfl rfl rfl rfl (Rd.eql rfl rfl rfl) ?_
              refine WL.rd rfl rfl rfl (Rd.pick_t rfl rfl rfl) ?_
              refine WL.rd rfl rfl rfl (Rd.move rfl rfl) ?_
              refine WL.case 46 rfl (fun hg46 => ?_) (fun hg46 => ?_)
              · skip
                refine WL.rd_yes rfl rfl rfl rfl rfl rfl (Rd.move rfl rfl) ?_
                refine WL.rd_yes rfl rfl rfl rfl rfl rfl (Rd.move rfl rfl) ?_
                refine WL.rd_yes rfl rfl rfl rfl rfl rfl (Rd.add rfl rfl rfl (by omega)) ?_
                refine WL.rd_yes rfl rfl rfl rfl rfl rfl (Rd.sidx (k := j + 1) rfl Try.underlying9 rfl rfl (by omega) (by first | assumption | rfl | exact get!_of_lt (by omega))) ?_
                refine WL.rd_yes rfl rfl rfl rfl rfl rfl (Rd.move rfl rfl) ?_
                refine WL.rd_yes rfl rfl rfl rfl rfl rfl (Rd.eql rfl rfl rfl) ?_
                refine WL.rd rfl rfl rfl (Rd.pick_t rfl rfl rfl) ?_
                refine WL.nil ?_
                exact ⟨by repeat (first | exact Sub.nil | refine Sub.cons rfl (by first | rfl | (first | exact vb_f (by omega) | exact vb_f (fun h => hg46 (by rw [h.2.1])) | exact vb ⟨fun h => ⟨by omega, UInt8.toNat_inj.1 (by omega), UInt8.toNat_inj.1 (by omega)⟩, fun h => by rw [h.2.2]⟩)) ?_), by first | exact (fun _ h => h.thin (SubL.mem (by repeat (first | exact SubL.refl | refine SubL.cons (by repeat (first | assumption | exact mS | apply mT)) ?_ | refine SubL.skip ?_)))) | exact (fun w h => OwnL.sat (by repeat (first | exact OwnL.refl | apply OwnL.take (by repeat (first | exact Take.head _ | apply Take.tail)) | apply OwnL.drop)) w (h.thin (SubL.mem (by repeat (first | exact SubL.refl | refine SubL.cons (by repeat (first | assumption | exact mS | apply mT)) ?_ | refine SubL.skip ?_)))))⟩
              · skip
                refine WL.no rfl rfl rfl rfl rfl rfl ?_
                refine WL.no rfl rfl rfl rfl rfl rfl ?_
                refine WL.no rfl rfl rfl rfl rfl rfl ?_
                refine WL.no rfl rfl rfl rfl rfl rfl ?_
                refine WL.no rfl rfl rfl rfl rfl rfl ?_
                refine WL.no rfl rfl rfl rfl rfl rfl ?_
                refine WL.rd rfl rfl rfl (Rd.pick_f rfl rfl rfl) ?_
                refine WL.nil ?_
                exact ⟨by repeat (first | exact Sub.nil | refine Sub.cons rfl (by first | rfl | (first | exact vb_f (by omega) | exact vb_f (fun h => hg46 (by rw [h.2.1])) | exact vb ⟨fun h => ⟨by omega, UInt8.toNat_inj.1 (by omega), UInt8.toNat_inj.1 (by omega)⟩, fun h => by rw [h.2.2]⟩)) ?_), by first | exact (fun _ h => h.thin (SubL.mem (by repeat (first | exact SubL.refl | refine SubL.cons (by repeat (first | assumption | exact mS | apply mT)) ?_ | refine SubL.skip ?_)))) | exact (fun w h => OwnL.sat (by repeat (first | exact OwnL.refl | apply OwnL.take (by repeat (first | exact Take.head _ | apply Take.tail)) | apply OwnL.drop)) w (h.thin (SubL.mem (by repeat (first | exact SubL.refl | refine SubL.cons (by repeat (first | assumption | exact mS | apply mT)) ?_ | refine SubL.skip ?_)))))⟩
            · skip
              refine WL.no rfl rfl rfl rfl rfl rfl ?_
              refine WL.no rfl rfl rfl rfl rfl rfl ?_
              refine WL.no rfl rfl rfl rfl rfl rfl ?_
              refine WL.no rfl rfl rfl rfl rfl rfl ?_
              refine WL.no rfl rfl rfl rfl rfl rfl ?_
              refine WL.rd rfl rfl rfl (Rd.pick_f rfl rfl rfl) ?_
              refine WL.rd rfl rfl rfl (Rd.move rfl rfl) ?_
              refine WL.no rfl rfl rfl rfl rfl rfl ?_
              refine WL.no rfl rfl rfl rfl rfl rfl ?_
              refine WL.no rfl rfl rfl rfl rfl rfl ?_
              refine WL.no rfl rfl rfl rfl rfl rfl ?_
              refine WL.no rfl rfl rfl rfl rfl rfl ?_
              refine WL.no rfl rfl rfl rfl rfl rfl ?_
              refine WL.rd rfl rfl rfl (Rd.pick_f rfl rfl rfl) ?_
              refine WL.nil ?_
              exact ⟨by repeat (first | exact Sub.nil | refine Sub.cons rfl (by first | rfl | (first | exact vb_f (by omega) | exact vb_f (fun h => hg46 (by rw [h.2.1])) | exact vb ⟨fun h => ⟨by omega, UInt8.toNat_inj.1 (by omega), UInt8.toNat_inj.1 (by omega)⟩, fun h => by rw [h.2.2]⟩)) ?_), by first | exact (fun _ h => h.thin (SubL.mem (by repeat (first | exact SubL.refl | refine SubL.cons (by repeat (first | assumption | exact mS | apply mT)) ?_ | refine SubL.skip ?_)))) | exact (fun w h => OwnL.sat (by repeat (first | exact OwnL.refl | apply OwnL.take (by repeat (first | exact Take.head _ | apply Take.tail)) | apply OwnL.drop)) w (h.thin (SubL.mem (by repeat (first | exact SubL.refl | refine SubL.cons (by repeat (first | assumption | exact mS | apply mT)) ?_ | refine SubL.skip ?_)))))⟩
          · skip
            first | refine WC.ite rfl (fun hc4 => ?_) (fun hc4 => ?_) | refine WC.cond rfl (fun hc4 => ?_) (fun hc4 => ?_)
            · skip
              refine WC.region ?_
              refine WL.rd rfl rfl rfl (Rd.assign rfl rfl) ?_
              refine WL.nil ?_
              have en : nAt a b y j = 2 := if_pos hc4
              exact ⟨(), trivial, (by rw [en]; exact (by repeat (first | exact Sub.nil | refine Sub.cons rfl (by first | rfl | (congr 1; omega) | assumption) ?_))), (fun _ h => h.thin (SubL.mem (by repeat (first | exact SubL.refl | refine SubL.cons (by repeat (first | assumption | exact mS | apply mT)) ?_ | refine SubL.skip ?_))))⟩
            · skip
              refine WC.skip ?_
              have en : nAt a b y j = 1 := if_neg hc4
              exact ⟨(), trivial, (by rw [en]; exact (by repeat (first | exact Sub.nil | refine Sub.cons rfl (by first | rfl | (congr 1; omega) | assumption) ?_))), (fun _ h => h.thin (SubL.mem (by repeat (first | exact SubL.refl | refine SubL.cons (by repeat (first | assumption | exact mS | apply mT)) ?_ | refine SubL.skip ?_))))⟩
        · skip
          rintro _ -
          refine WC.seq ?_
          refine WC.seq ?_
          refine WC.still mixed (by kernel_rfl) ?_
          refine WA.rd rfl rfl rfl (Rd.move rfl rfl) ?_
          refine WA.rd rfl rfl rfl (Rd.move rfl rfl) ?_
          refine WA.rd rfl rfl rfl (Rd.idx1 (v := v27) (enc := one vs) (xs := out) (k := i) rfl S38 rfl rfl rfl (by repeat (first | assumption | exact mS | apply mT)) hi) ?_
          refine WA.rd rfl rfl rfl (Rd.get (v := v27) (g := vs) (xs := out) (k := i) (a := out[i]!) rfl C9 rfl (by repeat (first | assumption | exact mS | apply mT)) (get!_of_lt hi)) ?_
          refine WA.rd rfl rfl rfl (Rd.move rfl rfl) ?_
          refine WA.rd rfl rfl rfl (Rd.move rfl rfl) ?_
          refine WA.rd rfl rfl rfl (Rd.move rfl rfl) ?_
          refine WA.rd rfl rfl rfl (Rd.move rfl rfl) ?_
          refine WA.rd rfl rfl rfl (Rd.add rfl rfl rfl (by omega)) ?_
          refine WA.rd rfl rfl rfl (Rd.scut_lh (lo := j) (hi := j + nAt a b y j) rfl Try.underlying9 rfl rfl rfl (by omega) (by omega) (by omega) (by omega)) ?_
          refine WA.say 63 (u := vs out[i]!) rfl (by rw [hp]) ?_
          refine WA.rd rfl rfl rfl (Rd.sneq rfl rfl rfl) ?_
          refine WA.nil ?_
          refine thenQ.normal ?_
          first | refine WC.ite rfl (fun hc5 => ?_) (fun hc5 => ?_) | refine WC.cond rfl (fun hc5 => ?_) (fun hc5 => ?_)
          · skip
            exact absurd rfl hc5
          · skip
            refine WC.skip ?_
            refine thenQ.normal ?_
            refine WC.region ?_
            refine WL.rd rfl rfl rfl (Rd.move rfl rfl) ?_
            refine WL.rd rfl rfl rfl (Rd.move rfl rfl) ?_
            refine WL.rd rfl rfl rfl (Rd.add rfl rfl rfl (by omega)) ?_
            refine WL.rd rfl rfl rfl (Rd.assign rfl rfl) ?_
            refine WL.nil ?_
            refine blockQ.normal ?_
            refine thenQ.normal ?_
            refine WC.region ?_
            refine WL.rd rfl rfl rfl (Rd.move rfl rfl) ?_
            refine WL.rd rfl rfl rfl (Rd.add rfl rfl rfl (by omega)) ?_
            refine WL.rd rfl rfl rfl (Rd.assign rfl rfl) ?_
            refine WL.nil ?_
            exact loopQ2.mk (i + 1) (j + nAt a b y j) ⟨by omega, by omega, hr⟩ (by omega) (by repeat (first | exact Sub.nil | refine Sub.cons rfl (by first | rfl | (congr 1; omega) | assumption) ?_)) (fun w h => OwnL.sat (by repeat (first | exact OwnL.refl | apply OwnL.take (by repeat (first | exact Take.head _ | apply Take.tail)) | apply OwnL.drop)) w (h.thin (SubL.mem (by repeat (first | exact SubL.refl | refine SubL.cons (by repeat (first | assumption | exact mS | apply mT)) ?_ | refine SubL.skip ?_)))))
      · skip
        obtain rfl : i = out.length := by omega
        have hjy : j = y.length := Nat.le_antisymm i2 (Nat.le_of_not_lt fun hj => by
          have hst := one_step (a := a) (b := b) hj
          rw [← i3, List.drop_length] at hst
          cases hst)
        refine WC.exit ?_
        refine thenQ.exit ?_
        refine loopQ2.exit ?_
        refine blockQ.exit ?_
        refine thenQ.normal ?_
        refine WC.seq ?_
        refine WC.region ?_
        refine WL.rd rfl rfl rfl (Rd.move rfl rfl) ?_
        refine WL.rd rfl rfl rfl (Rd.move rfl rfl) ?_
        refine WL.rd rfl rfl rfl (Rd.slen (ts := #[]) (ty := 0) rfl rfl Try.underlying9) ?_
        refine WL.rd rfl rfl rfl (Rd.eql rfl rfl rfl) ?_
        refine WL.say 71 (u := .bool true) rfl (by simp [hjy]) ?_
        refine WL.rd rfl rfl rfl (Rd.assign rfl rfl) ?_
        refine WL.nil ?_
        refine thenQ.normal ?_
        refine WC.heap (R' := R) (O' := O) (fun w h => OwnL.sat (by repeat (first | exact OwnL.refl | apply OwnL.take (by repeat (first | exact Take.head _ | apply Take.tail)) | apply OwnL.drop)) w (h.thin (SubL.mem (by repeat (first | exact SubL.refl | refine SubL.cons (by repeat (first | assumption | exact mS | apply mT)) ?_ | refine SubL.skip ?_))))) ?_
        refine WC.ret (Ret.one Try.results8 rfl ?_)
        exact hk
theorem one_spec {p q : Int} {word : T} (hp : (Lit.int .u8 p).wf = true) (hq : (Lit.int .u8 q).wf = true) (hs : word.length ≤ 140737488351232) (hk : POST (.bool true) R O) : Fun Try.prog 8 #[.int .u8 p, .int .u8 q, vs word] R O POST := by
  obtain ⟨a, rfl⟩ := byte_of hp
  obtain ⟨b, rfl⟩ := byte_of hq
  exact ones_spec hs hk
end
end Go.Proofs.Ytnpkpcjiebiplaa
