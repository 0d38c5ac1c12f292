/-
  Layer 1: Split, and what joined texts are split into.
-/
import Derived.Test.YtedgndhbieeffaaNm7
namespace Go.Proofs.Ytedgndhbieeffaa
open Go Go.SL

theorem beb_num : ∀ (r : List UInt8) (h : Nat), beb r.length (num h r) = r ∧ num h r / 256 ^ r.length = h
  | [], h => by simp [beb, num]
  | c :: r, h => by
    obtain ⟨h1, h2⟩ := beb_num r (256 * h + c.toNat)
    have hc := UInt8.toNat_lt c
    have e : num h (c :: r) = num (256 * h + c.toNat) r := rfl
    rw [e, List.length_cons]
    refine ⟨?_, ?_⟩
    · rw [beb, h1, h2]
      congr 1
      apply UInt8.toNat_inj.1
      rw [u8_toNat (Nat.mod_lt _ (by decide))]; omega
    · rw [Nat.pow_succ, ← Nat.div_div_eq_div_mul, h2]; omega
/-- What is read is what was written. -/
theorem getE_can : ∀ {s : List UInt8}, (getE s).2.2 = 0 → ∃ n : Nat, n ≤ 1099511627776 ∧ (getE s).1 = (n : Int) ∧ (getE s).2.1 = (more n : Int) + 1 ∧ s = putE n ++ s.drop (more n + 1)
  | [], h => by simp [getE] at h
  | b :: r, h => by
    rw [getE] at h ⊢
    by_cases h1 : 5 < lead b
    · rw [if_pos h1] at h; simp at h
    · rw [if_neg h1] at h ⊢
      by_cases h2 : r.length < lead b
      · rw [if_pos h2] at h; simp at h
      · rw [if_neg h2] at h ⊢
        split at h
        · simp at h
        · next h3 =>
          rw [if_neg h3]
          obtain ⟨ha1, ha2, ha3⟩ := and_lead (b := b) (by omega)
          obtain ⟨e1, e2⟩ := beb_num (r.take (lead b)) (b.toNat - mask (lead b))
          rw [List.length_take, Nat.min_eq_left (by omega)] at e1 e2
          have hm : more (num (b.toNat - mask (lead b)) (r.take (lead b))) = lead b := by omega
          refine ⟨_, by omega, rfl, by rw [hm], ?_⟩
          rw [putE, hm, e1, e2, Nat.sub_add_cancel ha2, List.drop_succ_cons, List.cons_append, List.take_append_drop]
          congr 1
          apply UInt8.toNat_inj.1
          rw [u8_toNat (UInt8.toNat_lt b)]
theorem nextE_ok {s : List UInt8} (h : (nextE s).2.2 = 0) : ∃ rest, s = putE (nextE s).1.length ++ ((nextE s).1 ++ rest) ∧ (nextE s).1.length ≤ 262144 ∧ (nextE s).2.1 = ((putE (nextE s).1.length).length + (nextE s).1.length : Nat) ∧ s.drop (nextE s).2.1.toNat = rest := by
  by_cases h1 : (getE s).2.2 ≠ 0
  · rw [nextE, if_pos h1] at h; exact absurd h h1
  · obtain ⟨n, hn, g1, g2, hs⟩ := getE_can (Decidable.not_not.1 h1)
    have hl := congrArg List.length hs
    rw [List.length_append, putE_length] at hl
    have hle : (s.drop (more n + 1)).length = s.length - (more n + 1) := List.length_drop
    rw [nextE, if_neg h1, g1, g2] at h ⊢
    by_cases h2 : (262144 : Int) < n
    · rw [if_pos h2] at h; simp at h
    · rw [if_neg h2] at h ⊢
      by_cases h3 : (s.length : Int) - ((more n : Int) + 1) < n
      · rw [if_pos h3] at h; simp at h
      · rw [if_neg h3]
        have e1 : ((more n : Int) + 1).toNat = more n + 1 := by omega
        simp only [e1, Int.toNat_natCast]
        have e2 : (s.take (more n + 1 + n)).drop (more n + 1) = (s.drop (more n + 1)).take n := by rw [List.drop_take]; congr 1; omega
        have e3 : ((s.take (more n + 1 + n)).drop (more n + 1)).length = n := by rw [e2, List.length_take, List.length_drop]; omega
        rw [e3, e2]
        refine ⟨(s.drop (more n + 1)).drop n, ?_, by omega, by rw [putE_length]; omega, ?_⟩
        · rw [List.take_append_drop]; exact hs
        · rw [List.drop_drop]; congr 1
theorem nextE_put {t : List UInt8} (ht : t.length ≤ 262144) (rest : List UInt8) : nextE (putE t.length ++ (t ++ rest)) = (t, (((putE t.length).length + t.length : Nat) : Int), 0) := by
  have hg := getE_put (n := t.length) (by omega) (t ++ rest)
  have e1 : ((more t.length : Int) + 1).toNat = (putE t.length).length := by rw [putE_length]; omega
  rw [nextE, hg]
  simp only [ne_eq, not_true_eq_false, if_false]
  rw [if_neg (by omega), if_neg (by rw [List.length_append, List.length_append, putE_length]; omega), e1, Int.toNat_natCast]
  refine Prod.ext ?_ (Prod.ext ?_ rfl)
  · show ((putE t.length ++ (t ++ rest)).take ((putE t.length).length + t.length)).drop (putE t.length).length = t
    rw [List.take_length_add_append, List.drop_left, List.take_left]
  · show (more t.length : Int) + 1 + (t.length : Int) = (((putE t.length).length + t.length : Nat) : Int)
    rw [putE_length]; omega
theorem nextE_cut {t : List UInt8} (ht : t.length ≤ 262144) {c : Nat} (h0 : 0 < c) (hc : c < (putE t.length).length + t.length) : (nextE ((putE t.length ++ t).take c)).2.2 = 3 := by
  have hm := more_le (n := t.length) (by omega)
  have hpl := putE_length t.length
  by_cases h : (putE t.length).length ≤ c
  · have e : (putE t.length ++ t).take c = putE t.length ++ t.take (c - (putE t.length).length) := by
      rw [List.take_append, List.take_of_length_le h]
    rw [e, nextE, getE_put (by omega)]
    simp only [ne_eq, not_true_eq_false, if_false]
    rw [if_neg (by omega), if_pos (by rw [List.length_append, List.length_take, hpl]; omega)]
  · have e : (putE t.length ++ t).take c = UInt8.ofNat (t.length / 256 ^ more t.length + mask (more t.length)) :: (beb (more t.length) t.length).take (c - 1) := by
      rw [List.take_append_of_le_length (by omega), putE]
      obtain ⟨k, rfl⟩ : ∃ k, c = k + 1 := ⟨c - 1, by omega⟩
      rfl
    have hh := head_lt (n := t.length) (by omega)
    have hms := mask_sum _ hm
    have hb : (UInt8.ofNat (t.length / 256 ^ more t.length + mask (more t.length))).toNat = t.length / 256 ^ more t.length + mask (more t.length) := u8_toNat (by omega)
    have hl : lead (UInt8.ofNat (t.length / 256 ^ more t.length + mask (more t.length))) = more t.length := by rw [lead, hb]; exact lead_all _ hm _ hh
    have hg : (getE ((putE t.length ++ t).take c)).2.2 = 3 := by
      rw [e, getE, hl, if_neg (by omega), if_pos (by rw [List.length_take, beb_length]; omega)]
    rw [nextE, if_pos (by rw [hg]; decide), hg]
def Stuck (r : List UInt8) : Prop := r = [] ∨ (nextE r).2.2 ≠ 0
def Small (l : List (List UInt8)) : Prop := ∀ t ∈ l, t.length ≤ 262144
theorem putI_len {t : List UInt8} (ht : t.length ≤ 262144) : putI (t.length : Int) = putE t.length := putI_nat (by omega)
theorem joinE_cons (t : List UInt8) (l : List (List UInt8)) : joinE (t :: l) = putI t.length ++ t ++ joinE l := by simp [joinE]
theorem putE_ne (n : Nat) (r : List UInt8) : putE n ++ r ≠ [] := by simp [putE]
theorem join_uniq : ∀ {l l' : List (List UInt8)} {p r : List UInt8}, Small l → Small l' → Stuck p → Stuck r → joinE l ++ p = joinE l' ++ r → l = l' ∧ p = r
  | [], [], p, r, _, _, _, _, h => ⟨rfl, by simpa [joinE] using h⟩
  | t :: l, [], p, r, hl, _, _, hr, h => by
    have ht := hl t (by simp)
    have e : joinE ([] : List (List UInt8)) ++ r = r := rfl
    rw [e, joinE_cons, putI_len ht, List.append_assoc, List.append_assoc] at h
    subst h
    rcases hr with h1 | h1
    · exact absurd h1 (putE_ne _ _)
    · rw [nextE_put ht] at h1; exact absurd rfl h1
  | [], t :: l, p, r, _, hl, hp, _, h => by
    have ht := hl t (by simp)
    have e : joinE ([] : List (List UInt8)) ++ p = p := rfl
    rw [e, joinE_cons, putI_len ht, List.append_assoc, List.append_assoc] at h
    subst h
    rcases hp with h1 | h1
    · exact absurd h1 (putE_ne _ _)
    · rw [nextE_put ht] at h1; exact absurd rfl h1
  | t :: l, u :: m, p, r, hl, hm, hp, hr, h => by
    have ht := hl t (by simp)
    have hu := hm u (by simp)
    rw [joinE_cons, joinE_cons, putI_len ht, putI_len hu, List.append_assoc, List.append_assoc, List.append_assoc, List.append_assoc] at h
    have h1 := nextE_put ht (joinE l ++ p)
    rw [h, nextE_put hu] at h1
    obtain rfl : u = t := congrArg Prod.fst h1
    have h2 := List.append_cancel_left (List.append_cancel_left h)
    obtain ⟨rfl, rfl⟩ := join_uniq (fun x hx => hl x (by simp [hx])) (fun x hx => hm x (by simp [hx])) hp hr h2
    exact ⟨rfl, rfl⟩
inductive Parts (s : List UInt8) : List (List UInt8) → List UInt8 → Prop
  | nil : Parts s [] s
  | snoc {l : List (List UInt8)} {r : List UInt8} (h : Parts s l r) (ho : (nextE r).2.2 = 0) : Parts s (l ++ [(nextE r).1]) (r.drop (nextE r).2.1.toNat)
theorem Parts.join {s : List UInt8} {l : List (List UInt8)} {r : List UInt8} (h : Parts s l r) : s = joinE l ++ r ∧ Small l ∧ l.length + r.length ≤ s.length := by
  induction h with
  | nil => exact ⟨rfl, fun t ht => by simp at ht, by simp⟩
  | @snoc l r h ho ih =>
    obtain ⟨e, hs, hn⟩ := ih
    obtain ⟨rest, h1, h2, h3, h4⟩ := nextE_ok ho
    rw [h4]
    refine ⟨?_, ?_, ?_⟩
    · rw [e, joinE, joinE, List.flatMap_append, List.append_assoc]
      congr 1
      rw [List.flatMap_cons, List.flatMap_nil, putI_len h2, List.append_nil, List.append_assoc]
      exact h1
    · intro t ht
      rcases List.mem_append.1 ht with ht | ht
      · exact hs t ht
      · simp only [List.mem_singleton] at ht; subst ht; exact h2
    · have := congrArg List.length h1
      rw [List.length_append, List.length_append, putE_length] at this
      simp only [List.length_append, List.length_cons, List.length_nil]; omega

set_option maxRecDepth 20000 in
set_option maxHeartbeats 1000000 in
theorem split_spec {R : List RO} {O : List Own} {POST : Value → List RO → List Own → Prop} {s : List UInt8} (hs : s.length ≤ 8000000000000)
    (hk : ∀ v e out l r, Parts s l r → (e = 0 ∧ r = [] ∧ out = l ∨ e = (nextE r).2.2 ∧ e ≠ 0 ∧ r ≠ [] ∧ out = []) → POST (.tuple #[v, .int .i64 e]) (SlE (one vs) v out :: R) O) : Fun Try.prog 23 #[vs s] R O POST := by
  refine Fun.enter (l := [_]) Try.func23 rfl Try.ntmps23 rfl (L0 := [(0, _)]) rfl ?_
  refine WC.seq ?_
  refine WC.region ?_
  refine WL.rd rfl rfl rfl (Rd.assign rfl rfl) ?_
  refine WL.rd rfl rfl rfl (Rd.assign rfl rfl) ?_
  refine WL.nil ?_
  refine thenQ.normal ?_
  refine WC.seq ?_
  refine WC.region ?_
  refine WL.rd rfl rfl rfl (Rd.assign rfl rfl) ?_
  refine WL.nil ?_
  refine thenQ.normal ?_
  refine WC.seq ?_
  refine WC.block ?_
  refine WC.pick [4, 0] (by repeat (first | exact Pick.nil | apply Pick.cons rfl)) ?_
  refine WC.loop3 2 (fun (r : List UInt8) (l : List (List UInt8)) (v : Value) => [(4, v), (0, vs r)]) (fun (r : List UInt8) (l : List (List UInt8)) (v : Value) => accC 9 1 (one vs) v l :: O) (fun (r : List UInt8) (l : List (List UInt8)) (v : Value) => Parts s l r ∧ OneV v) (fun (r : List UInt8) (l : List (List UInt8)) (v : Value) => r.length) (s) ([]) (.slice none 0 0) (by repeat (first | exact Split.zero | apply Split.succ)) ?hinv1 (by repeat (first | exact Sub.nil | refine Sub.cons rfl (by first | rfl | (congr 1; omega) | assumption) ?_)) (fun w h => h.accNil (α := List UInt8) (e := 9) (size := 1) (enc := one vs)) ?_
  case hinv1 =>
    exact ⟨.nil, OneV.sl⟩
  intro r l v
  rintro ⟨h1, h2⟩
  obtain ⟨hj, hsm, hln⟩ := h1.join
  refine WC.seq ?_
  refine WC.seq ?_
  refine WC.region ?_
  refine WL.rd rfl rfl rfl (Rd.move rfl rfl) ?_
  refine WL.rd rfl rfl rfl (Rd.sneq rfl rfl rfl) ?_
  refine WL.nil ?_
  refine thenQ.normal ?_
  first | refine WC.ite rfl (fun hc1 => ?_) (fun hc1 => ?_) | refine WC.cond rfl (fun hc1 => ?_) (fun hc1 => ?_)
  · skip
    refine WC.skip ?_
    refine thenQ.normal ?_
    refine WC.block ?_
    refine WC.seq ?_
    refine WC.region ?_
    refine WL.rd rfl rfl rfl (Rd.move rfl rfl) ?_
    refine WL.op rfl ?_
    refine OpW.call rfl rfl (by repeat (first | exact Evs.nil | apply Evs.cons rfl)) (by kernel_rfl) rfl rfl rfl ?_
    refine next_spec (by omega) ?_
    refine WL.rd rfl rfl rfl (Rd.move rfl rfl) ?_
    refine WL.rd rfl rfl rfl (Rd.extract rfl rfl rfl) ?_
    refine WL.rd rfl rfl rfl (Rd.extract rfl rfl rfl) ?_
    refine WL.rd rfl rfl rfl (Rd.extract rfl rfl rfl) ?_
    refine WL.rd rfl rfl rfl (Rd.assign rfl rfl) ?_
    refine WL.rd rfl rfl rfl (Rd.assign rfl rfl) ?_
    refine WL.rd rfl rfl rfl (Rd.assign rfl rfl) ?_
    refine WL.nil ?_
    refine thenQ.normal ?_
    refine WC.seq ?_
    refine WC.seq ?_
    refine WC.region ?_
    refine WL.rd rfl rfl rfl (Rd.move rfl rfl) ?_
    refine WL.rd rfl rfl rfl (Rd.neq rfl rfl rfl) ?_
    refine WL.nil ?_
    refine thenQ.normal ?_
    first | refine WC.ite rfl (fun hc2 => ?_) (fun hc2 => ?_) | refine WC.cond rfl (fun hc2 => ?_) (fun hc2 => ?_)
    · skip
      refine WC.seq ?_
      refine WC.region ?_
      refine WL.rd rfl rfl rfl (Rd.move rfl rfl) ?_
      refine WL.rd rfl rfl rfl (Rd.assign rfl rfl) ?_
      refine WL.rd rfl rfl rfl (Rd.assign rfl rfl) ?_
      refine WL.nil ?_
      refine thenQ.normal ?_
      refine WC.heap (R' := SlE (one vs) (.slice none 0 0) ([] : List (List UInt8)) :: R) (O' := O) (fun w h => (Sat.nilE h).drop) ?_
      refine WC.ret (Ret.two Try.results23 rfl rfl ?_)
      exact hk _ _ _ l r h1 (.inr ⟨rfl, hc2, hc1, rfl⟩)
    · skip
      obtain ⟨rest, e1, e2, e3, e4⟩ := nextE_ok (s := r) (Decidable.not_not.1 hc2)
      have e5 := congrArg List.length e1
      rw [List.length_append, List.length_append, putE_length] at e5
      refine WC.skip ?_
      refine thenQ.normal ?_
      refine WC.drawn (O) 9 rfl mixed ?_
      refine WD.take 0 rfl (by kernel_rfl) (Held.mk' (by repeat (first | exact SubL.refl | refine SubL.cons (by repeat (first | assumption | exact mS | apply mT)) ?_ | refine SubL.skip ?_)) (by repeat (first | exact OwnL.refl | apply OwnL.take (by repeat (first | exact Take.head _ | apply Take.tail)) | apply OwnL.drop))) rfl rfl rfl (Rd.move rfl rfl) ?_
      refine WD.take 1 rfl (by kernel_rfl) (Held.mk' (by repeat (first | exact SubL.refl | refine SubL.cons (by repeat (first | assumption | exact mS | apply mT)) ?_ | refine SubL.skip ?_)) (by repeat (first | exact OwnL.refl | apply OwnL.take (by repeat (first | exact Take.head _ | apply Take.tail)) | apply OwnL.drop))) rfl rfl rfl (Rd.move rfl rfl) ?_
      refine WD.take 4 rfl (by kernel_rfl) (Held.mk' (by repeat (first | exact SubL.refl | refine SubL.cons (by repeat (first | assumption | exact mS | apply mT)) ?_ | refine SubL.skip ?_)) (by repeat (first | exact OwnL.refl | apply OwnL.take (by repeat (first | exact Take.head _ | apply Take.tail)) | apply OwnL.drop))) rfl rfl rfl (Rd.move rfl rfl) ?_
      refine WD.take 5 rfl (by kernel_rfl) (Held.mk' (by repeat (first | exact SubL.refl | refine SubL.cons (by repeat (first | assumption | exact mS | apply mT)) ?_ | refine SubL.skip ?_)) (by repeat (first | exact OwnL.refl | apply OwnL.take (by repeat (first | exact Take.head _ | apply Take.tail)) | apply OwnL.drop))) rfl rfl rfl (Rd.move rfl rfl) ?_
      refine WD.take 6 rfl (by kernel_rfl) (Held.mk' (by repeat (first | exact SubL.refl | refine SubL.cons (by repeat (first | assumption | exact mS | apply mT)) ?_ | refine SubL.skip ?_)) (by repeat (first | exact OwnL.refl | apply OwnL.take (by repeat (first | exact Take.head _ | apply Take.tail)) | apply OwnL.drop))) rfl rfl rfl (Rd.scut_l (lo := (nextE r).2.1.toNat) rfl Try.underlying9 rfl rfl (by omega) (by rw [e3, putE_length]; omega)) ?_
      refine WD.one 2 rfl (by kernel_rfl) rfl ?_
      refine OpW.buildSl (ps := [(0, _)]) rfl S23 (by repeat (first | exact Evs.nil | apply Evs.cons rfl)) rfl rfl (by repeat (first | exact CellsOf.nil | apply CellsOf.cons rfl)) (by kernel_rfl) rfl rfl rfl ?_; intro b21
      refine ⟨(Held.mk' (by repeat (first | exact SubL.refl | refine SubL.cons (by repeat (first | assumption | exact mS | apply mT)) ?_ | refine SubL.skip ?_)) (by repeat (first | exact OwnL.refl | apply OwnL.take (by repeat (first | exact Take.head _ | apply Take.tail)) | apply OwnL.drop))), ?_⟩
      refine WD.one 3 rfl (by kernel_rfl) rfl ?_
      refine OpW.appendRow (enc := one vs) rfl S23 rfl rfl (by repeat (first | assumption | exact Take.head _ | apply Take.tail)) (by repeat (first | assumption | exact Take.head _ | apply Take.tail)) [(nextE r).1] rfl (by rfl) rfl (by intro x; first | rfl | (cases x; rfl) | (rcases x with ⟨_, _, _⟩; rfl) | (rcases x with ⟨_, _, _, _⟩; rfl)) (by intro x; first | rfl | (cases x; rfl) | (rcases x with ⟨_, _, _⟩; rfl) | (rcases x with ⟨_, _, _, _⟩; rfl)) ⟨by simp only [maxLen, List.length_append, List.length_nil, List.length_cons, List.length_drop, List.length_take, List.length_map]; omega, by first | omega | (simp only [List.length_append, List.length_nil, List.length_cons, List.length_drop, List.length_take, List.length_map]; omega)⟩ rfl rfl ?_; intro v22 hv22
      refine ⟨(Held.mk' (by repeat (first | exact SubL.refl | refine SubL.cons (by repeat (first | assumption | exact mS | apply mT)) ?_ | refine SubL.skip ?_)) (by repeat (first | exact OwnL.refl | apply OwnL.take (by repeat (first | exact Take.head _ | apply Take.tail)) | apply OwnL.drop))), ?_⟩
      refine WD.take 7 rfl (by kernel_rfl) (Held.mk' (by repeat (first | exact SubL.refl | refine SubL.cons (by repeat (first | assumption | exact mS | apply mT)) ?_ | refine SubL.skip ?_)) (by repeat (first | exact OwnL.refl | apply OwnL.take (by repeat (first | exact Take.head _ | apply Take.tail)) | apply OwnL.drop))) rfl rfl rfl (Rd.assign rfl rfl) ?_
      refine WD.take 8 rfl (by kernel_rfl) (Held.mk' (by repeat (first | exact SubL.refl | refine SubL.cons (by repeat (first | assumption | exact mS | apply mT)) ?_ | refine SubL.skip ?_)) (by repeat (first | exact OwnL.refl | apply OwnL.take (by repeat (first | exact Take.head _ | apply Take.tail)) | apply OwnL.drop))) rfl rfl rfl (Rd.assign rfl rfl) ?_
      refine WD.done (by kernel_rfl) ?_
      refine blockQ.normal ?_
      exact loopQ3.mk (r.drop (nextE r).2.1.toNat) (l ++ [(nextE r).1]) v22 ⟨h1.snoc (Decidable.not_not.1 hc2), hv22⟩ (by rw [e4]; omega) (by repeat (first | exact Sub.nil | refine Sub.cons rfl (by first | rfl | (congr 1; omega) | assumption) ?_)) (fun w h => OwnL.sat (by repeat (first | exact OwnL.refl | apply OwnL.take (by repeat (first | exact Take.head _ | apply Take.tail)) | apply OwnL.drop)) w (h.thin (SubL.mem (by repeat (first | exact SubL.refl | refine SubL.cons (by repeat (first | assumption | exact mS | apply mT)) ?_ | refine SubL.skip ?_)))))
  · skip
    refine WC.exit ?_
    refine thenQ.exit ?_
    refine loopQ3.exit ?_
    refine blockQ.exit ?_
    refine thenQ.normal ?_
    refine WC.seq ?_
    refine WC.region ?_
    refine WL.rd rfl rfl rfl (Rd.move rfl rfl) ?_
    refine WL.rd rfl rfl rfl (Rd.assign rfl rfl) ?_
    refine WL.rd rfl rfl rfl (Rd.assign rfl rfl) ?_
    refine WL.nil ?_
    refine thenQ.normal ?_
    refine WC.heap (fun w h => h.shareA (by repeat (first | assumption | exact Take.head _ | apply Take.tail))) ?_
    refine WC.ret (Ret.two Try.results23 rfl rfl ?_)
    obtain rfl : r = [] := Decidable.not_not.1 hc1
    exact hk _ _ _ l [] h1 (.inl ⟨rfl, rfl, rfl⟩)

theorem joinE_le {l : List (List UInt8)} : (∀ t ∈ l, t.length ≤ 3000) → (joinE l).length ≤ 3006 * l.length := by
  induction l with
  | nil => intro _; simp [joinE]
  | cons t l ih =>
    intro h
    have h1 := h t (by simp)
    have h2 := ih fun x hx => h x (by simp [hx])
    have h3 := putE_short (n := t.length) (by omega)
    rw [joinE_cons, putI_len (by omega), List.length_append, List.length_append, List.length_cons]; omega
theorem take_cut {l : List (List UInt8)} {n c : Nat} (hs : Small l) (h0 : 0 < n) (hn : n ≤ l.length) (h1 : (joinE (l.take (n - 1))).length < c) (h2 : c < (joinE (l.take n)).length) :
    ∃ p, (joinE l).take c = joinE (l.take (n - 1)) ++ p ∧ (nextE p).2.2 = 3 ∧ p ≠ [] := by
  have e1 := joinE_snoc (l := l) (i := n - 1) (by omega)
  rw [show n - 1 + 1 = n from by omega] at e1
  have hm : l[n - 1]! ∈ l := by rw [getElem!_pos l (n - 1) (by omega)]; exact List.getElem_mem _
  have ht := hs _ hm
  rw [putI_len ht] at e1
  have e2 : joinE l = joinE (l.take n) ++ joinE (l.drop n) := by
    rw [joinE, joinE, joinE, ← List.flatMap_append, List.take_append_drop]
  have e3 := congrArg List.length e1
  rw [List.length_append, List.length_append] at e3
  refine ⟨(putE l[n - 1]!.length ++ l[n - 1]!).take (c - (joinE (l.take (n - 1))).length), ?_, nextE_cut ht (by omega) (by omega), fun h => by
    have := congrArg List.length h
    rw [List.length_take, List.length_append, List.length_nil] at this; omega⟩
  rw [e2, List.take_append_of_le_length (by omega), e1, List.append_assoc, List.take_append, List.take_of_length_le (by omega)]
theorem tmod_in (p : Int) {b : Nat} (hb : 0 < b) : -(b : Int) < p.tmod b ∧ p.tmod b < b := by
  have h : ∀ n : Nat, n % b < b := fun n => Nat.mod_lt _ hb
  cases p with
  | ofNat n => have e : (Int.ofNat n).tmod b = ((n % b : Nat) : Int) := rfl; have := h n; omega
  | negSucc n => have e : (Int.negSucc n).tmod b = -(((n + 1) % b : Nat) : Int) := rfl; have := h (n + 1); omega
theorem Small.take {l : List (List UInt8)} (h : Small l) (n : Nat) : Small (l.take n) := fun t ht => h t (List.mem_of_mem_take ht)
theorem Stuck.of {e : Int} {r l out : _} (he : e = 0 ∧ r = [] ∧ out = l ∨ e = (nextE r).2.2 ∧ e ≠ 0 ∧ r ≠ [] ∧ out = ([] : List (List UInt8))) : Stuck r := by
  rcases he with ⟨_, h, _⟩ | ⟨h, h', _⟩
  · exact .inl h
  · exact .inr (h ▸ h')
end Go.Proofs.Ytedgndhbieeffaa
