/-
  Layer 11: bytes and back (plain).
-/
import Derived.Test.YtedgndhbieeffaaOb10
namespace Go.Proofs.Ytedgndhbieeffaa
open Go Go.SL Go.RowKit

theorem ob_ext {a b : Ob} (h1 : a.kind = b.kind) (h2 : a.body = b.body) (h3 : a.ents = b.ents) (h4 : a.tree = b.tree) (h5 : a.pars = b.pars) (h6 : a.author = b.author) (h7 : a.text = b.text) (h8 : a.time = b.time) (h9 : a.target = b.target) (h10 : a.name = b.name) : a = b := by
  cases a; cases b; simp only at *; subst h1 h2 h3 h4 h5 h6 h7 h8 h9 h10; rfl
theorem dec_uniq {s : List UInt8} {o o' : Ob} {e e' : Int} (h : DecP s o e) (h' : DecP s o' e') : o = o' ∧ e = e' := by
  unfold DecP at h h'
  split at h
  · rename_i g; rw [if_pos g] at h'; exact ⟨h.1.trans h'.1.symm, h.2.trans h'.2.symm⟩
  · rename_i g; rw [if_neg g] at h'
    split at h
    · rename_i g; rw [if_pos g] at h'; exact ⟨h.1.trans h'.1.symm, h.2.trans h'.2.symm⟩
    · rename_i g; rw [if_neg g] at h'
      split at h
      · rename_i g; rw [if_pos g] at h'; exact ⟨h.1.trans h'.1.symm, h.2.trans h'.2.symm⟩
      · rename_i g; rw [if_neg g] at h'
        obtain ⟨l, r, hP, hc⟩ := h
        obtain ⟨l', r', hP', hc'⟩ := h'
        obtain ⟨j1, s1, _⟩ := hP.join
        obtain ⟨j2, s2, _⟩ := hP'.join
        have st : Stuck r := hc.elim (fun h => .inr h.2.1) (fun h => .inl h.1)
        have st' : Stuck r' := hc'.elim (fun h => .inr h.2.1) (fun h => .inl h.1)
        obtain ⟨rfl, rfl⟩ := join_uniq s1 s2 st st' (j1.symm.trans j2)
        rcases hc with ⟨a1, a2, a3, a4⟩ | ⟨a1, a2⟩
        · rcases hc' with ⟨b1, b2, b3, b4⟩ | ⟨b1, b2⟩
          · exact ⟨a4.trans b4.symm, a3.trans b3.symm⟩
          · exact absurd b1 a1
        · rcases hc' with ⟨b1, b2, b3, b4⟩ | ⟨b1, b2⟩
          · exact absurd a1 b1
          · split at a2
            · rename_i g; rw [if_pos g] at b2; exact ⟨a2.1.trans b2.1.symm, a2.2.trans b2.2.symm⟩
            · rename_i g; rw [if_neg g] at b2; exact ⟨a2.1.trans b2.1.symm, a2.2.trans b2.2.symm⟩
theorem dec_enc {s : List UInt8} {o : Ob} (h : DecP s o 0) : encE o = (s, 0) := by
  unfold DecP at h
  split at h
  · exact absurd h.2 (by decide)
  · rename_i hs
    split at h
    · exact absurd h.2 (by decide)
    · rename_i hk
      split at h
      · exact absurd h.2 (by decide)
      · rename_i hl
        obtain ⟨l, r, hP, hc⟩ := h
        rcases hc with ⟨_, a2, a3, _⟩ | ⟨rfl, a2⟩
        · exact absurd a3.symm a2
        · split at a2
          · rename_i g
            have hk' := Decidable.not_not.1 hk
            have hsh : ShapeP (kOf s) l := by
              by_cases hh : ShapeP (kOf s) l
              · exact hh
              · have := shape_no hk' hh
                rw [this] at g; cases g.1
            obtain ⟨d1, d2⟩ := doc_iff hs hk' (by omega) hP hsh
            rw [a2.1, d2 g.1]
            exact d1.2 g
          · exact absurd a2.2 (by decide)
theorem parts_join : ∀ {l : List (List UInt8)} (n : Nat), n ≤ l.length → Small l → Parts (joinE l) (l.take n) (joinE (l.drop n))
  | l, 0, _, _ => .nil
  | l, n + 1, hn, hs => by
    have ih := parts_join (l := l) n (by omega) hs
    have ht : l.take (n + 1) = l.take n ++ [l[n]!] := by rw [List.take_add_one, get!_of_lt (by omega)]; rfl
    have hm : l[n]!.length ≤ 262144 := by rw [getElem!_pos l n (by omega)]; exact hs _ (List.getElem_mem _)
    have hd : joinE (l.drop n) = putE l[n]!.length ++ (l[n]! ++ joinE (l.drop (n + 1))) := by
      rw [List.drop_eq_getElem_cons (show n < l.length by omega), joinE_cons, getElem!_pos l n (by omega), putI_len (by rw [getElem!_pos l n (by omega)] at hm; exact hm), List.append_assoc]
    have hx := nextE_put hm (joinE (l.drop (n + 1)))
    rw [← hd] at hx
    have := ih.snoc (by rw [hx])
    rw [hx] at this
    simp only [Int.toNat_natCast] at this
    rw [hd, ← List.append_assoc, ← List.length_append, List.drop_left] at this
    rw [ht]; exact this
theorem chunks_back : ∀ {l : List (List UInt8)}, (∀ x ∈ l, x.length = 32) → chunks l.flatten (l.flatten.length / 32) = l := by
  intro l hl
  have hlen := flatten_len hl
  have hdrop : ∀ (l : List (List UInt8)) (j : Nat), (∀ x ∈ l, x.length = 32) → l.flatten.drop (32 * j) = (l.drop j).flatten := by
    intro l j
    induction l generalizing j with
    | nil => intro _; simp
    | cons a r ih =>
      intro h
      match j with
      | 0 => rfl
      | j + 1 =>
        rw [List.flatten_cons, show 32 * (j + 1) = 32 + 32 * j from by omega, ← List.drop_drop, List.drop_left' (h a List.mem_cons_self), List.drop_succ_cons]
        exact ih j (fun x hx => h x (List.mem_cons_of_mem _ hx))
  rw [hlen, Nat.mul_div_cancel_left _ (by decide)]
  refine List.ext_getElem (chunks_len _ _) (fun j h1 h2 => ?_)
  have e : (chunks l.flatten l.length)[j] = (l.flatten.drop (32 * j)).take 32 := by simp [chunks]
  rw [e, hdrop l j hl, List.drop_eq_getElem_cons h2, List.flatten_cons, List.take_left' (hl _ (List.getElem_mem _))]
theorem pairs_at : ∀ (l : List ET) (j : Nat), j < l.length → (l.flatMap (fun x => [x.1, x.2]))[2 * j]? = some l[j]!.1 ∧ (l.flatMap (fun x => [x.1, x.2]))[2 * j + 1]? = some l[j]!.2
  | [], _, h => absurd h (Nat.not_lt_zero _)
  | c :: x, 0, _ => ⟨rfl, rfl⟩
  | c :: x, j + 1, h => by
    have := pairs_at x j (by rw [List.length_cons] at h; omega)
    rw [List.flatMap_cons, show 2 * (j + 1) = 2 * j + 1 + 1 from by omega]
    exact this
theorem pairs_back (l : List ET) : pairsE (l.flatMap fun x => [x.1, x.2]) ((l.flatMap fun x => [x.1, x.2]).length / 2) = l := by
  rw [flat_two_len, Nat.mul_div_cancel_left _ (by decide)]
  refine List.ext_getElem (pairs_len _ _) (fun j h1 h2 => ?_)
  obtain ⟨a, b⟩ := pairs_at l j h2
  have e : (pairsE (l.flatMap fun x => [x.1, x.2]) l.length)[j] = ((l.flatMap fun x => [x.1, x.2])[2 * j]!, (l.flatMap fun x => [x.1, x.2])[2 * j + 1]!) := by simp [pairsE]
  rw [e, List.getElem!_eq_getElem?_getD, List.getElem!_eq_getElem?_getD, a, b, getElem!_pos l j h2]
  rfl
theorem ob_back {o : Ob} (hk : 1 ≤ o.kind ∧ o.kind ≤ 4) (hr : RightP o) : obOf o.kind (texts o) = (o, true) := by
  obtain ⟨⟨b1, b2, b3, b4, b5⟩, h1, h2, h3, h4⟩ := hr
  unfold obOf texts
  split
  · rename_i e
    obtain ⟨c1, c2, c3, c4⟩ := b3 (by omega)
    obtain ⟨d1, d2⟩ := b4 (by omega)
    unfold blobO
    rw [if_neg (fun h => h rfl)]
    exact Prod.ext (ob_ext e.symm rfl (b2 (by omega)).symm c1.symm c2.symm c3.symm (b5 (by omega)).symm c4.symm d1.symm d2.symm) rfl
  · rename_i e1
    split
    · rename_i e
      obtain ⟨c1, c2, c3, c4⟩ := b3 (by omega)
      obtain ⟨d1, d2⟩ := b4 (by omega)
      unfold treeO
      rw [pairs_back, decide_eq_true (by rw [flat_two_len]; omega)]
      exact Prod.ext (ob_ext e.symm (b1 (by omega)).symm rfl c1.symm c2.symm c3.symm (b5 (by omega)).symm c4.symm d1.symm d2.symm) rfl
    · rename_i e2
      split
      · rename_i e
        obtain ⟨d1, d2⟩ := b4 (by omega)
        obtain ⟨g1, g2, g3, g4, g5, g6, g7⟩ := h3 e
        have h32 := pars32 g1
        have hfl := flatten_len h32
        obtain ⟨n, hn⟩ : ∃ n : Nat, o.time = (n : Int) := ⟨o.time.toNat, by omega⟩
        have hnb : n ≤ 1099511627776 := by omega
        have hg := getE_put hnb []
        rw [List.append_nil] at hg
        have hpl := putE_length n
        have hpi : putI o.time = putE n := by rw [hn, putI_nat hnb]
        unfold commitO commitOb
        show (if ([o.tree, o.pars.flatten, o.author, o.text, putI o.time] : List (List UInt8)).length ≠ 5 ∨ o.pars.flatten.length % 32 ≠ 0 then (zOb, false) else (({ zOb with kind := 3, tree := o.tree, pars := chunks o.pars.flatten (o.pars.flatten.length / 32), author := o.author, text := o.text, time := (getE (putI o.time)).1 } : Ob), decide ((getE (putI o.time)).2.2 = 0 ∧ (getE (putI o.time)).2.1 = ((putI o.time).length : Int)))) = (o, true)
        rw [if_neg (by rw [hfl]; simp), chunks_back h32, hpi, hg, decide_eq_true ⟨rfl, by rw [hpl]; show (more n : Int) + 1 = _; omega⟩]
        exact Prod.ext (ob_ext e.symm (b1 (by omega)).symm (b2 (by omega)).symm rfl rfl rfl rfl hn.symm d1.symm d2.symm) rfl
      · rename_i e3
        obtain ⟨c1, c2, c3, c4⟩ := b3 (by omega)
        unfold tagO
        rw [if_neg (fun h => h rfl)]
        exact Prod.ext (ob_ext (show (4 : Int) = o.kind by omega) (b1 (by omega)).symm (b2 (by omega)).symm c1.symm c2.symm c3.symm rfl c4.symm rfl rfl) rfl
theorem enc_ok {o : Ob} (h : (encE o).2 = 0) : (1 ≤ o.kind ∧ o.kind ≤ 4) ∧ RightP o ∧ (encE o).1 = encB o ∧ (encB o).length ≤ 262208 := by
  unfold encE at h ⊢
  split at h
  · exact absurd h (by decide)
  · rename_i g1
    split at h
    · exact absurd h (by decide)
    · rename_i g2
      split at h
      · exact absurd h (by decide)
      · rename_i g3
        rw [if_neg g1, if_neg g2, if_neg g3]
        exact ⟨by omega, Decidable.not_not.1 g2, rfl, by omega⟩
theorem enc_dec {o : Ob} (h : (encE o).2 = 0) : DecP (encE o).1 o 0 := by
  obtain ⟨hk, hr, he, hl⟩ := enc_ok h
  rw [he]
  have hko : kOf (encB o) = o.kind := by
    show ((UInt8.ofNat o.kind.toNat).toNat : Int) = _
    rw [UInt8.toNat_ofNat']; omega
  have hne : encB o ≠ [] := by unfold encB; simp
  have hsm := small_texts hk hr
  have hP := parts_join (texts o).length (Nat.le_refl _) hsm
  rw [List.take_length, List.drop_length] at hP
  unfold DecP
  rw [if_neg hne, hko, if_neg (fun h => h hk), if_neg (by omega)]
  refine ⟨texts o, [], hP, .inr ⟨rfl, ?_⟩⟩
  rw [ob_back hk hr, if_pos ⟨rfl, hr⟩]
  exact ⟨rfl, rfl⟩
end Go.Proofs.Ytedgndhbieeffaa
