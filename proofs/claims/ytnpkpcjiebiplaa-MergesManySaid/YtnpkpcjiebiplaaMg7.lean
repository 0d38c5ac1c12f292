/-
 Layer 8: a round.
-/
import Derived.Test.YtnpkpcjiebiplaaMg6
import Derived.Test.YtnpkpcjiebiplaaSho
namespace Go.Proofs.Ytnpkpcjiebiplaa
open Go Go.SL
structure RSt where
 pre : List T
 suf : List T
 H : List Sp
 M : List Nat
 nx : List Int
 pr : List Int
abbrev ints (M : List Nat) : List Int := M.map fun m : Nat => (m : Int)
section
variable {R : List RO} {O O' : List Own} {POST : Value → List RO → List Own → Prop} {br bm n : Nat} {pv nv qv sv : Value} {nx pr : List Int} {H : List Sp} {l : List Pr} {m : GoMap Pr Int}
/-- The row as it stands. -/
abbrev rowO (br bm : Nat) (pv nv qv sv : Value) (q : List T) (nx pr : List Int) (H : List Sp) (O : List Own) : List Own := rowW br pv nv qv bm sv :: accT pv (lay q) :: accI nv nx :: accI qv pr :: accS sv H :: O
theorem meetP_spec {u v : List T} {c : T} (hL : Links n (u ++ c :: v) nx pr) (hf : Full (u ++ c :: v)) (hn : off (u ++ c :: v) = n) (hn4 : n ≤ 4096) (hmap : mapP vp vi bm m ∈ R) (hget : RkM l m) (hH : Hp spLt H) (hlen : H.length ≤ 800000)
  (hk : ∀ sv' H', (∀ s ∈ H, s ∈ H') → (∀ s ∈ H', s ∈ H ∨ (rk l (s.a, s.b) = some s.rank ∧ s.pl < n ∧ s.a ≠ [])) → H'.length ≤ H.length + 1 → (∀ u0 x r, u = u0 ++ [x] → rk l (x, c) = some r → (⟨r, off u0, x, c⟩ : Sp) ∈ H') → Hp spLt H' → POST (.tuple #[]) R (rowO br bm pv nv qv sv' (u ++ c :: v) nx pr H' O)) :
  Fun Try.prog 25 #[rptr br, vi pr[off u]!] R (rowO br bm pv nv qv sv (u ++ c :: v) nx pr H O) POST := by
 rcases u.eq_nil_or_concat with rfl | ⟨u0, x, rfl⟩
 ·
  rw [off_nil, hL.first (by simp)]
  exact meetN_spec (hk sv H (fun s h => h) (fun s h => .inl h) (by omega) (fun u0 x r e => by simp at e) hH)
 ·
  rw [List.concat_eq_append] at *
  have e : (u0 ++ [x]) ++ c :: v = u0 ++ x :: c :: v := by simp
  have ho : off (u0 ++ [x]) = off u0 + x.length := by rw [off_snoc, off_nil, Nat.add_zero]
  rw [e] at hL hf hn hk ⊢
  rw [ho, hL.prev u0 x c v rfl]
  have hx := hf.mid
  have hlx := len_pos hx
  rw [off_snoc] at hn
  refine meet_spec hL hf (by rw [off_snoc]; exact hn) hn4 hmap hget hH hlen (fun sv' H' hM hh => hk sv' H' hM.old (fun s hs => ?_) hM.cnt (fun u1 y r e2 hr => ?_) hh)
  ·
   rcases hM.new s hs with h | ⟨b, v', r, e2, hr, rfl⟩
   ·
    exact .inl h
   ·
    exact .inr ⟨hr, by show off u0 < n; omega, hx⟩
  ·
   have := List.append_inj' e2 rfl
   obtain ⟨rfl, h2⟩ := this
   simp only [List.cons.injEq, and_true] at h2
   subst h2
   exact hM.got c v r rfl hr
theorem get!_some {α : Type} [Inhabited α] {l : List α} {i : Nat} {a : α} (h : l[i]? = some a) : l[i]! = a := by
 obtain ⟨h1, h2⟩ := List.getElem?_eq_some_iff.1 h
 rw [getElem!_pos l i h1, h2]
theorem drop_mem {M : List Nat} {j x : Nat} (h : x ∈ M.drop j) (hj : j < M.length) : x = M[j]! ∨ x ∈ M.drop (j + 1) := by
 rw [List.drop_eq_getElem_cons hj] at h
 rcases List.mem_cons.1 h with h | h
 ·
  left; rw [getElem!_pos M j hj]; exact h
 ·
  exact .inr h
set_option maxRecDepth 20000 in
set_option maxHeartbeats 4000000 in
theorem round_spec {q : List T} (hI : Inv l n q H) (hL : Links n q nx pr) (hH : Hp spLt H) (h0 : 0 < H.length) (hn4 : n ≤ 4096) (hB : H.length + 3 * q.length ≤ 100000) (hmap : mapP vp vi bm m ∈ R) (hget : RkM l m)
  (hk : ∀ sv' q' nx' pr' H', Inv l n q' H' → Links n q' nx' pr' → Hp spLt H' → (∀ out, Spl l q' out → Spl l q out) → q'.flatten = q.flatten → H'.length + 3 * q'.length < H.length + 3 * q.length → POST (.tuple #[]) R (rowO br bm pv nv qv sv' q' nx' pr' H' O)) :
  Fun Try.prog 26 #[rptr br] R (rowO br bm pv nv qv sv q nx pr H O) POST := by
 obtain ⟨A, B, r, hr, hr0, hlow⟩ : ∃ A B r, rk l (A, B) = some r ∧ H[0]!.rank = r ∧ ∀ s ∈ H, r ≤ s.rank := by
  refine ⟨H[0]!.a, H[0]!.b, _, (hI.sound _ (get!_mem h0)).1, rfl, fun s hs => ?_⟩
  have := hH.least spOrd hs
  unfold spLt at this; omega
 have hrl : r ≤ 9223372036854775807 ∨ True := .inr trivial
 have hmin := hI.least hlow
 haveI inst : ∀ (q : List T) (s : Sp), Decidable (Fits q s) := fun _ _ => Classical.propDecidable _
 refine Fun.enter (l := [_]) Try.func26 rfl Try.ntmps26 rfl (L0 := [(0, _)]) rfl ?_
 refine WC.seq ?_
 refine WC.region ?_
 refine WL.rd rfl rfl rfl (Rd.move rfl rfl) ?_
 refine WL.rd rfl rfl rfl (Rd.nilc rfl rfl) ?_
 refine WL.rd rfl rfl rfl ((by first | exact Rd.field rfl F61_4 rfl rfl | exact Rd.fieldE rfl F61_4 rfl (by repeat (first | assumption | exact mS | apply mT)) (by omega) | exact Rd.fieldA rfl F61_4 rfl (by repeat (first | assumption | exact mS | apply mT)) (by omega))) ?_
 refine WL.rd rfl rfl rfl (Rd.row1 (b := br) (off := 4) (u := sv) rfl C59 rfl (by repeat (first | assumption | exact mS | apply mT)) rfl) ?_
 refine WL.rd rfl rfl rfl ((by first | exact Rd.idx (k := 0) rfl S59 rfl rfl rfl (by repeat (first | assumption | exact mS | apply mT)) (by first | omega | (simp only [List.length_cons, List.length_nil, List.length_append, List.length_map]; omega)) | exact Rd.idxA (k := 0) rfl S59 rfl rfl rfl (by repeat (first | assumption | exact mS | apply mT)) (by first | omega | (simp only [List.length_cons, List.length_nil, List.length_append, List.length_map]; omega)) | exact Rd.idxR (k := 0) rfl S59 rfl rfl rfl (by omega))) ?_
 refine WL.rd rfl rfl rfl ((by first | exact Rd.field rfl F83_0 rfl rfl | exact Rd.fieldE rfl F83_0 rfl (by repeat (first | assumption | exact mS | apply mT)) (by omega) | exact Rd.fieldA rfl F83_0 rfl (by repeat (first | assumption | exact mS | apply mT)) (by omega))) ?_
 refine WL.rd rfl rfl rfl (Rd.getFA (enc := encS) (size := 4) (xs := H) (k := 0) (f := 0) (a := H[0]!) (u := vi H[0]!.rank) rfl C3 rfl (by repeat (first | assumption | exact mS | apply mT)) (fun x => rfl) (by omega) (get!_of_lt h0) rfl) ?_
 refine WL.say 13 (u := vi r) rfl (by rw [hr0]) ?_
 refine WL.heap (fun w h => Sat.accNil (e := 3) (size := 1) (enc := one vi) h) ?_
 refine WL.rd rfl rfl rfl (Rd.assign rfl rfl) ?_
 refine WL.nil ?_
 refine thenQ.normal ?_
 refine WC.seq ?_
 refine WC.region ?_
 refine WL.rd rfl rfl rfl (Rd.assign rfl rfl) ?_
 refine WL.nil ?_
 refine thenQ.normal ?_
 refine WC.seq ?_
 refine WC.block ?_
 refine WC.pick [3, 0, 2] (by repeat (first | exact Pick.nil | apply Pick.cons rfl)) ?_
 refine WC.loop3 1 (fun (s : RSt) (sv1 : Value) (mv : Value) => [(3, mv)]) (fun (s : RSt) (sv1 : Value) (mv : Value) => accI mv (ints s.M) :: rowO br bm pv nv qv sv1 (s.pre ++ s.suf) s.nx s.pr s.H O) (fun (s : RSt) (sv1 : Value) (mv : Value) => InR l n q r A B s.pre s.suf s.H s.M ∧ Links n (s.pre ++ s.suf) s.nx s.pr ∧ Hp spLt s.H ∧ (s.H = H ∨ s.H.length < H.length) ∧ (s.pre ++ s.suf).flatten = q.flatten) (fun (s : RSt) (sv1 : Value) (mv : Value) => s.H.length) (⟨[], q, H, [], nx, pr⟩) (sv) (.slice none 0 0) (by repeat (first | exact Split.zero | apply Split.succ)) ?hinv1 (by repeat (first | exact Sub.nil | refine Sub.cons rfl (by first | rfl | (congr 1; omega) | assumption) ?_)) (fun _ h => h) ?_
 case hinv1 =>
  exact ⟨InR.start hI hlow, hL, hH, .inl rfl, rfl⟩
 intro s sv1 mv
 rintro ⟨i1, i2, i3, i4, i5⟩
 refine WC.seq ?_
 refine WC.pick [0, 2, 3] (by repeat (first | exact Pick.nil | apply Pick.cons rfl)) ?_
 refine WC.val 30 (.bool (decide (0 < s.H.length ∧ s.H[0]!.rank = r))) ?_ ?_
 ·
  refine WC.region ?_
  refine WL.rd rfl rfl rfl (Rd.move rfl rfl) ?_
  refine WL.rd rfl rfl rfl (Rd.nilc rfl rfl) ?_
  refine WL.rd rfl rfl rfl ((by first | exact Rd.field rfl F61_4 rfl rfl | exact Rd.fieldE rfl F61_4 rfl (by repeat (first | assumption | exact mS | apply mT)) (by omega) | exact Rd.fieldA rfl F61_4 rfl (by repeat (first | assumption | exact mS | apply mT)) (by omega))) ?_
  refine WL.rd rfl rfl rfl (Rd.row1 (b := br) (off := 4) (u := sv1) rfl C59 rfl (by repeat (first | assumption | exact mS | apply mT)) rfl) ?_
  refine WL.rd rfl rfl rfl (Rd.lenA (enc := encS) (xs := s.H) rfl rfl Try.underlying59 (by repeat (first | assumption | exact mS | apply mT))) ?_
  refine WL.rd rfl rfl rfl (Rd.gtr rfl rfl rfl) ?_
  refine WL.rd rfl rfl rfl (Rd.move rfl rfl) ?_
  refine WL.case 20 rfl (fun hg20 => ?_) (fun hg20 => ?_)
  ·
   refine WL.rd_yes rfl rfl rfl rfl rfl rfl (Rd.move rfl rfl) ?_
   refine WL.rd_yes rfl rfl rfl rfl rfl rfl (Rd.nilc rfl rfl) ?_
   refine WL.rd_yes rfl rfl rfl rfl rfl rfl ((by first | exact Rd.field rfl F61_4 rfl rfl | exact Rd.fieldE rfl F61_4 rfl (by repeat (first | assumption | exact mS | apply mT)) (by omega) | exact Rd.fieldA rfl F61_4 rfl (by repeat (first | assumption | exact mS | apply mT)) (by omega))) ?_
   refine WL.rd_yes rfl rfl rfl rfl rfl rfl (Rd.row1 (b := br) (off := 4) (u := sv1) rfl C59 rfl (by repeat (first | assumption | exact mS | apply mT)) rfl) ?_
   refine WL.rd_yes rfl rfl rfl rfl rfl rfl ((by first | exact Rd.idx (k := 0) rfl S59 rfl rfl rfl (by repeat (first | assumption | exact mS | apply mT)) (by first | omega | (simp only [List.length_cons, List.length_nil, List.length_append, List.length_map]; omega)) | exact Rd.idxA (k := 0) rfl S59 rfl rfl rfl (by repeat (first | assumption | exact mS | apply mT)) (by first | omega | (simp only [List.length_cons, List.length_nil, List.length_append, List.length_map]; omega)) | exact Rd.idxR (k := 0) rfl S59 rfl rfl rfl (by omega))) ?_
   refine WL.rd_yes rfl rfl rfl rfl rfl rfl ((by first | exact Rd.field rfl F83_0 rfl rfl | exact Rd.fieldE rfl F83_0 rfl (by repeat (first | assumption | exact mS | apply mT)) (by omega) | exact Rd.fieldA rfl F83_0 rfl (by repeat (first | assumption | exact mS | apply mT)) (by omega))) ?_
   refine WL.rd_yes rfl rfl rfl rfl rfl rfl (Rd.getFA (enc := encS) (size := 4) (xs := s.H) (k := 0) (f := 0) (a := s.H[0]!) (u := vi s.H[0]!.rank) rfl C3 rfl (by repeat (first | assumption | exact mS | apply mT)) (fun x => rfl) (by omega) (get!_of_lt (by omega)) rfl) ?_
   refine WL.rd_yes rfl rfl rfl rfl rfl rfl (Rd.move rfl rfl) ?_
   refine WL.rd_yes rfl rfl rfl rfl rfl rfl (Rd.eql rfl rfl rfl) ?_
   refine WL.rd rfl rfl rfl (Rd.pick_t rfl rfl rfl) ?_
   refine WL.nil ?_
   exact ⟨by repeat (first | exact Sub.nil | refine Sub.cons rfl (by first | rfl | (first | exact vb_f (fun h => hg20 (by have := h.1; omega)) | exact vb ⟨fun h => ⟨by omega, by omega⟩, fun h => by have := h.2; omega⟩)) ?_), by first | exact (fun _ h => h.thin (SubL.mem (by repeat (first | exact SubL.refl | refine SubL.cons (by repeat (first | assumption | exact mS | apply mT)) ?_ | refine SubL.skip ?_)))) | exact (fun w h => OwnL.sat (by repeat (first | exact OwnL.refl | apply OwnL.take (by repeat (first | exact Take.head _ | apply Take.tail)) | apply OwnL.drop)) w (h.thin (SubL.mem (by repeat (first | exact SubL.refl | refine SubL.cons (by repeat (first | assumption | exact mS | apply mT)) ?_ | refine SubL.skip ?_)))))⟩
  ·
   refine WL.no rfl rfl rfl rfl rfl rfl ?_
   refine WL.no rfl rfl rfl rfl rfl rfl ?_
   refine WL.no rfl rfl rfl rfl rfl rfl ?_
   refine WL.no rfl rfl rfl rfl rfl rfl ?_
   refine WL.no rfl rfl rfl rfl rfl rfl ?_
   refine WL.no rfl rfl rfl rfl rfl rfl ?_
   refine WL.no rfl rfl rfl rfl rfl rfl ?_
   refine WL.no rfl rfl rfl rfl rfl rfl ?_
   refine WL.no rfl rfl rfl rfl rfl rfl ?_
   refine WL.rd rfl rfl rfl (Rd.pick_f rfl rfl rfl) ?_
   refine WL.nil ?_
   exact ⟨by repeat (first | exact Sub.nil | refine Sub.cons rfl (by first | rfl | (first | exact vb_f (fun h => hg20 (by have := h.1; omega)) | exact vb ⟨fun h => ⟨by omega, by omega⟩, fun h => by have := h.2; omega⟩)) ?_), by first | exact (fun _ h => h.thin (SubL.mem (by repeat (first | exact SubL.refl | refine SubL.cons (by repeat (first | assumption | exact mS | apply mT)) ?_ | refine SubL.skip ?_)))) | exact (fun w h => OwnL.sat (by repeat (first | exact OwnL.refl | apply OwnL.take (by repeat (first | exact Take.head _ | apply Take.tail)) | apply OwnL.drop)) w (h.thin (SubL.mem (by repeat (first | exact SubL.refl | refine SubL.cons (by repeat (first | assumption | exact mS | apply mT)) ?_ | refine SubL.skip ?_)))))⟩
 ·
  first | refine WC.ite rfl (fun hc1 => ?_) (fun hc1 => ?_) | refine WC.cond rfl (fun hc1 => ?_) (fun hc1 => ?_)
  ·
   have hsl : s.H.length ≤ H.length := by rcases i4 with h | h; rw [h]; exact Nat.le_refl _; omega
   have hcnt := i1.cnt
   have hs0 := get!_mem hc1.1
   have hsnd := i1.sound _ hs0
   refine WC.skip ?_
   refine thenQ.normal ?_
   refine WC.block ?_
   refine WC.seq ?_
   refine WC.region ?_
   refine WL.rd rfl rfl rfl (Rd.move rfl rfl) ?_
   refine WL.rd rfl rfl rfl (Rd.nilc rfl rfl) ?_
   refine WL.rd rfl rfl rfl ((by first | exact Rd.field rfl F61_4 rfl rfl | exact Rd.fieldE rfl F61_4 rfl (by repeat (first | assumption | exact mS | apply mT)) (by omega) | exact Rd.fieldA rfl F61_4 rfl (by repeat (first | assumption | exact mS | apply mT)) (by omega))) ?_
   refine WL.rd rfl rfl rfl (Rd.iface rfl Try.underlying81 rfl rfl) ?_
   refine WL.op rfl ?_
   refine OpW.call rfl rfl (by repeat (first | exact Evs.nil | apply Evs.cons rfl)) (by kernel_rfl) rfl rfl rfl ?_
   refine Fun.heap (R' := R) (O' := rowW br pv nv qv bm sv1 :: accS sv1 s.H :: accI mv (ints s.M) :: accT pv (lay (s.pre ++ s.suf)) :: accI nv s.nx :: accI qv s.pr :: O) (fun w h => OwnL.sat (by repeat (first | exact OwnL.refl | apply OwnL.take (by repeat (first | exact Take.head _ | apply Take.tail)) | apply OwnL.drop)) w (h.thin (SubL.mem (by repeat (first | exact SubL.refl | refine SubL.cons (by repeat (first | assumption | exact mS | apply mT)) ?_ | refine SubL.skip ?_))))) ?_
   refine hpop_spec (xs := s.H) (by omega) hc1.1 i3 ?_; intro sv2 ys hys hhy
   have hyl := hys.length_eq
   simp only [List.length_cons] at hyl
   have hmn : ∀ t ∈ s.H, ¬ spLt t s.H[0]! := fun t ht => i3.least spOrd ht
   generalize s.H[0]! = s0 at *
   have hll := lay_len i1.full
   have hlen := i1.len
   have hnl := i2.nl
   refine WL.rd rfl rfl rfl (Rd.assertT rfl Try.underlying83 rfl rfl) ?_
   refine WL.op rfl ?_
   refine OpW.alloc rfl I83 rfl Z.N rfl rfl ?_; intro b4
   refine WL.op rfl ?_
   refine OpW.storeS rfl G83 rfl rfl Z.N Z.T rfl rfl Z.N rfl ?_
   refine WL.nil ?_
   refine thenQ.normal ?_
   refine WC.pick [0, 2, 3, 4] (by repeat (first | exact Pick.nil | apply Pick.cons rfl)) ?_
   refine WC.val 87 (.bool (decide (Fits (s.pre ++ s.suf) s0))) ?_ ?_
   ·
    refine WC.still mixed (by kernel_rfl) ?_
    refine WA.rd rfl rfl rfl (Rd.move rfl rfl) ?_
    refine WA.rd rfl rfl rfl (Rd.nilc rfl rfl) ?_
    refine WA.rd rfl rfl rfl ((by first | exact Rd.field rfl F61_0 rfl rfl | exact Rd.fieldE rfl F61_0 rfl (by repeat (first | assumption | exact mS | apply mT)) (by omega) | exact Rd.fieldA rfl F61_0 rfl (by repeat (first | assumption | exact mS | apply mT)) (by omega))) ?_
    refine WA.rd rfl rfl rfl (Rd.row1 (b := br) (off := 0) (u := pv) rfl C38 rfl (by repeat (first | assumption | exact mS | apply mT)) rfl) ?_
    refine WA.rd rfl rfl rfl ((by first | exact Rd.field rfl F83_1 rfl rfl | exact Rd.fieldE rfl F83_1 rfl (by repeat (first | assumption | exact mS | apply mT)) (by omega) | exact Rd.fieldA rfl F83_1 rfl (by repeat (first | assumption | exact mS | apply mT)) (by omega))) ?_
    refine WA.rd rfl rfl rfl (Rd.row1 (b := b4) (off := 1) (u := vi s0.pl) rfl C3 rfl (by repeat (first | assumption | exact mS | apply mT)) rfl) ?_
    refine WA.rd rfl rfl rfl ((by first | exact Rd.idx1 (k := s0.pl) rfl S38 rfl rfl (by omega) (by repeat (first | assumption | exact mS | apply mT)) (by first | omega | (simp only [List.length_cons, List.length_nil, List.length_append, List.length_map]; omega)) | exact Rd.idxA1 (k := s0.pl) rfl S38 rfl rfl (by omega) (by repeat (first | assumption | exact mS | apply mT)) (by first | omega | (simp only [List.length_cons, List.length_nil, List.length_append, List.length_map]; omega)) | exact Rd.idxR1 (k := s0.pl) rfl S38 rfl rfl (by omega) (by omega))) ?_
    refine WA.rd rfl rfl rfl (Rd.getA (g := vs) (xs := lay (s.pre ++ s.suf)) (k := s0.pl) (a := (lay (s.pre ++ s.suf))[s0.pl]!) rfl C9 rfl (by repeat (first | assumption | exact mS | apply mT)) (get?_of (by omega) rfl)) ?_
    refine WA.rd rfl rfl rfl ((by first | exact Rd.field rfl F83_2 rfl rfl | exact Rd.fieldE rfl F83_2 rfl (by repeat (first | assumption | exact mS | apply mT)) (by omega) | exact Rd.fieldA rfl F83_2 rfl (by repeat (first | assumption | exact mS | apply mT)) (by omega))) ?_
    refine WA.rd rfl rfl rfl (Rd.row1 (b := b4) (off := 2) (u := vs s0.a) rfl C9 rfl (by repeat (first | assumption | exact mS | apply mT)) rfl) ?_
    refine WA.rd rfl rfl rfl (Rd.seql rfl rfl rfl) ?_
    refine WA.rd rfl rfl rfl (Rd.move rfl rfl) ?_
    refine WA.case 48 rfl (fun hg48 => ?_) (fun hg48 => ?_)
    ·
     refine WA.rd_yes rfl rfl rfl rfl rfl rfl ((by first | exact Rd.field rfl F83_2 rfl rfl | exact Rd.fieldE rfl F83_2 rfl (by repeat (first | assumption | exact mS | apply mT)) (by omega) | exact Rd.fieldA rfl F83_2 rfl (by repeat (first | assumption | exact mS | apply mT)) (by omega))) ?_
     refine WA.rd_yes rfl rfl rfl rfl rfl rfl (Rd.row1 (b := b4) (off := 2) (u := vs s0.a) rfl C9 rfl (by repeat (first | assumption | exact mS | apply mT)) rfl) ?_
     refine WA.rd_yes rfl rfl rfl rfl rfl rfl (Rd.sneq rfl rfl rfl) ?_
     refine WA.rd rfl rfl rfl (Rd.pick_t rfl rfl rfl) ?_
     refine WA.rd rfl rfl rfl (Rd.move rfl rfl) ?_
     refine WA.case 53 rfl (fun hg53 => ?_) (fun hg53 => ?_)
     ·
      obtain ⟨u, v, hq1, ho⟩ := lay_start i1.full (get?_of (by omega) hg48) hg53
      have hx := i2.next u s0.a v hq1
      rw [ho] at hx
      have hol := hlen
      rw [hq1, off_snoc, ho] at hol
      refine WA.rd_yes rfl rfl rfl rfl rfl rfl (Rd.move rfl rfl) ?_
      refine WA.rd_yes rfl rfl rfl rfl rfl rfl (Rd.nilc rfl rfl) ?_
      refine WA.rd_yes rfl rfl rfl rfl rfl rfl ((by first | exact Rd.field rfl F61_1 rfl rfl | exact Rd.fieldE rfl F61_1 rfl (by repeat (first | assumption | exact mS | apply mT)) (by omega) | exact Rd.fieldA rfl F61_1 rfl (by repeat (first | assumption | exact mS | apply mT)) (by omega))) ?_
      refine WA.rd_yes rfl rfl rfl rfl rfl rfl (Rd.row1 (b := br) (off := 1) (u := nv) rfl C57 rfl (by repeat (first | assumption | exact mS | apply mT)) rfl) ?_
      refine WA.rd_yes rfl rfl rfl rfl rfl rfl ((by first | exact Rd.field rfl F83_1 rfl rfl | exact Rd.fieldE rfl F83_1 rfl (by repeat (first | assumption | exact mS | apply mT)) (by omega) | exact Rd.fieldA rfl F83_1 rfl (by repeat (first | assumption | exact mS | apply mT)) (by omega))) ?_
      refine WA.rd_yes rfl rfl rfl rfl rfl rfl (Rd.row1 (b := b4) (off := 1) (u := vi s0.pl) rfl C3 rfl (by repeat (first | assumption | exact mS | apply mT)) rfl) ?_
      refine WA.rd_yes rfl rfl rfl rfl rfl rfl ((by first | exact Rd.idx1 (k := s0.pl) rfl S57 rfl rfl (by omega) (by repeat (first | assumption | exact mS | apply mT)) (by first | omega | (simp only [List.length_cons, List.length_nil, List.length_append, List.length_map]; omega)) | exact Rd.idxA1 (k := s0.pl) rfl S57 rfl rfl (by omega) (by repeat (first | assumption | exact mS | apply mT)) (by first | omega | (simp only [List.length_cons, List.length_nil, List.length_append, List.length_map]; omega)) | exact Rd.idxR1 (k := s0.pl) rfl S57 rfl rfl (by omega) (by omega))) ?_
      refine WA.rd_yes rfl rfl rfl rfl rfl rfl (Rd.getA (g := vi) (xs := s.nx) (k := s0.pl) (a := ((s0.pl + s0.a.length : Nat) : Int)) rfl C3 rfl (by repeat (first | assumption | exact mS | apply mT)) (get?_of (by omega) hx)) ?_
      refine WA.rd_yes rfl rfl rfl rfl rfl rfl (Rd.move rfl rfl) ?_
      refine WA.rd_yes rfl rfl rfl rfl rfl rfl (Rd.nilc rfl rfl) ?_
      refine WA.rd_yes rfl rfl rfl rfl rfl rfl ((by first | exact Rd.field rfl F61_0 rfl rfl | exact Rd.fieldE rfl F61_0 rfl (by repeat (first | assumption | exact mS | apply mT)) (by omega) | exact Rd.fieldA rfl F61_0 rfl (by repeat (first | assumption | exact mS | apply mT)) (by omega))) ?_
      refine WA.rd_yes rfl rfl rfl rfl rfl rfl (Rd.row1 (b := br) (off := 0) (u := pv) rfl C38 rfl (by repeat (first | assumption | exact mS | apply mT)) rfl) ?_
      refine WA.rd_yes rfl rfl rfl rfl rfl rfl (Rd.lenA (enc := one vs) (xs := lay (s.pre ++ s.suf)) rfl rfl Try.underlying38 (by repeat (first | assumption | exact mS | apply mT))) ?_
      refine WA.rd_yes rfl rfl rfl rfl rfl rfl (Rd.lss rfl rfl rfl) ?_
      refine WA.rd rfl rfl rfl (Rd.pick_t rfl rfl rfl) ?_
      refine WA.rd rfl rfl rfl (Rd.move rfl rfl) ?_
      refine WA.case 69 rfl (fun hg69 => ?_) (fun hg69 => ?_)
      ·
       obtain ⟨b, v', hv⟩ : ∃ b v', v = b :: v' := List.exists_cons_of_ne_nil (fun e => by rw [e, off_nil] at hol; omega)
       subst hv
       have hgb : (lay (s.pre ++ s.suf))[s0.pl + s0.a.length]? = some b := by
        have e : (s.pre ++ s.suf) = (u ++ [s0.a]) ++ b :: v' := by rw [hq1]; simp
        have := lay_get (u := u ++ [s0.a]) (a := b) (v := v') (e ▸ i1.full)
        rw [off_snoc, off_nil, Nat.add_zero, ho, ← e] at this
        exact this
       refine WA.rd_yes rfl rfl rfl rfl rfl rfl (Rd.move rfl rfl) ?_
       refine WA.rd_yes rfl rfl rfl rfl rfl rfl (Rd.nilc rfl rfl) ?_
       refine WA.rd_yes rfl rfl rfl rfl rfl rfl ((by first | exact Rd.field rfl F61_0 rfl rfl | exact Rd.fieldE rfl F61_0 rfl (by repeat (first | assumption | exact mS | apply mT)) (by omega) | exact Rd.fieldA rfl F61_0 rfl (by repeat (first | assumption | exact mS | apply mT)) (by omega))) ?_
       refine WA.rd_yes rfl rfl rfl rfl rfl rfl (Rd.row1 (b := br) (off := 0) (u := pv) rfl C38 rfl (by repeat (first | assumption | exact mS | apply mT)) rfl) ?_
       refine WA.rd_yes rfl rfl rfl rfl rfl rfl (Rd.move rfl rfl) ?_
       refine WA.rd_yes rfl rfl rfl rfl rfl rfl (Rd.nilc rfl rfl) ?_
       refine WA.rd_yes rfl rfl rfl rfl rfl rfl ((by first | exact Rd.field rfl F61_1 rfl rfl | exact Rd.fieldE rfl F61_1 rfl (by repeat (first | assumption | exact mS | apply mT)) (by omega) | exact Rd.fieldA rfl F61_1 rfl (by repeat (first | assumption | exact mS | apply mT)) (by omega))) ?_
       refine WA.rd_yes rfl rfl rfl rfl rfl rfl (Rd.row1 (b := br) (off := 1) (u := nv) rfl C57 rfl (by repeat (first | assumption | exact mS | apply mT)) rfl) ?_
       refine WA.rd_yes rfl rfl rfl rfl rfl rfl ((by first | exact Rd.field rfl F83_1 rfl rfl | exact Rd.fieldE rfl F83_1 rfl (by repeat (first | assumption | exact mS | apply mT)) (by omega) | exact Rd.fieldA rfl F83_1 rfl (by repeat (first | assumption | exact mS | apply mT)) (by omega))) ?_
       refine WA.rd_yes rfl rfl rfl rfl rfl rfl (Rd.row1 (b := b4) (off := 1) (u := vi s0.pl) rfl C3 rfl (by repeat (first | assumption | exact mS | apply mT)) rfl) ?_
       refine WA.rd_yes rfl rfl rfl rfl rfl rfl ((by first | exact Rd.idx1 (k := s0.pl) rfl S57 rfl rfl (by omega) (by repeat (first | assumption | exact mS | apply mT)) (by first | omega | (simp only [List.length_cons, List.length_nil, List.length_append, List.length_map]; omega)) | exact Rd.idxA1 (k := s0.pl) rfl S57 rfl rfl (by omega) (by repeat (first | assumption | exact mS | apply mT)) (by first | omega | (simp only [List.length_cons, List.length_nil, List.length_append, List.length_map]; omega)) | exact Rd.idxR1 (k := s0.pl) rfl S57 rfl rfl (by omega) (by omega))) ?_
       refine WA.rd_yes rfl rfl rfl rfl rfl rfl (Rd.getA (g := vi) (xs := s.nx) (k := s0.pl) (a := ((s0.pl + s0.a.length : Nat) : Int)) rfl C3 rfl (by repeat (first | assumption | exact mS | apply mT)) (get?_of (by omega) hx)) ?_
       refine WA.rd_yes rfl rfl rfl rfl rfl rfl ((by first | exact Rd.idx1 (k := s0.pl + s0.a.length) rfl S38 rfl rfl (by omega) (by repeat (first | assumption | exact mS | apply mT)) (by first | omega | (simp only [List.length_cons, List.length_nil, List.length_append, List.length_map]; omega)) | exact Rd.idxA1 (k := s0.pl + s0.a.length) rfl S38 rfl rfl (by omega) (by repeat (first | assumption | exact mS | apply mT)) (by first | omega | (simp only [List.length_cons, List.length_nil, List.length_append, List.length_map]; omega)) | exact Rd.idxR1 (k := s0.pl + s0.a.length) rfl S38 rfl rfl (by omega) (by omega))) ?_
       refine WA.rd_yes rfl rfl rfl rfl rfl rfl (Rd.getA (g := vs) (xs := lay (s.pre ++ s.suf)) (k := s0.pl + s0.a.length) (a := b) rfl C9 rfl (by repeat (first | assumption | exact mS | apply mT)) hgb) ?_
       refine WA.rd_yes rfl rfl rfl rfl rfl rfl ((by first | exact Rd.field rfl F83_3 rfl rfl | exact Rd.fieldE rfl F83_3 rfl (by repeat (first | assumption | exact mS | apply mT)) (by omega) | exact Rd.fieldA rfl F83_3 rfl (by repeat (first | assumption | exact mS | apply mT)) (by omega))) ?_
       refine WA.rd_yes rfl rfl rfl rfl rfl rfl (Rd.row1 (b := b4) (off := 3) (u := vs s0.b) rfl C9 rfl (by repeat (first | assumption | exact mS | apply mT)) rfl) ?_
       refine WA.rd_yes rfl rfl rfl rfl rfl rfl (Rd.seql rfl rfl rfl) ?_
       refine WA.rd rfl rfl rfl (Rd.pick_t rfl rfl rfl) ?_
       refine WA.nil ?_
       exact ⟨by repeat (first | exact Sub.nil | refine Sub.cons rfl (by first | rfl | (first | exact vb_f (fun ⟨u, v, e, ho⟩ => hg48 (by have h := lay_get (u := u) (a := s0.a) (v := s0.b :: v) (by rw [← e]; exact i1.full); rw [← e, ho] at h; exact get!_some h)) | exact vb_f (fun _ => hg53 hsnd.2.2) | exact vb_f (fun ⟨u', v', e, ho'⟩ => by have h3 := (place i1.full hq1 e (by omega)).2.2; rw [h3, off_cons] at hol; have h4 := len_pos (p := s0.b) (i1.full s0.b (by rw [e]; simp)); omega) | exact vb ⟨fun h => ⟨u, v', by rw [hq1, h], ho⟩, fun ⟨u', v2, e, ho'⟩ => by have h3 := (place i1.full hq1 e (by omega)).2.2; simp only [List.cons.injEq] at h3; exact h3.1⟩)) ?_), by first | exact (fun _ h => h.thin (SubL.mem (by repeat (first | exact SubL.refl | refine SubL.cons (by repeat (first | assumption | exact mS | apply mT)) ?_ | refine SubL.skip ?_)))) | exact (fun w h => OwnL.sat (by repeat (first | exact OwnL.refl | apply OwnL.take (by repeat (first | exact Take.head _ | apply Take.tail)) | apply OwnL.drop)) w (h.thin (SubL.mem (by repeat (first | exact SubL.refl | refine SubL.cons (by repeat (first | assumption | exact mS | apply mT)) ?_ | refine SubL.skip ?_)))))⟩
      ·
       refine WA.no rfl rfl rfl rfl rfl rfl ?_
       refine WA.no rfl rfl rfl rfl rfl rfl ?_
       refine WA.no rfl rfl rfl rfl rfl rfl ?_
       refine WA.no rfl rfl rfl rfl rfl rfl ?_
       refine WA.no rfl rfl rfl rfl rfl rfl ?_
       refine WA.no rfl rfl rfl rfl rfl rfl ?_
       refine WA.no rfl rfl rfl rfl rfl rfl ?_
       refine WA.no rfl rfl rfl rfl rfl rfl ?_
       refine WA.no rfl rfl rfl rfl rfl rfl ?_
       refine WA.no rfl rfl rfl rfl rfl rfl ?_
       refine WA.no rfl rfl rfl rfl rfl rfl ?_
       refine WA.no rfl rfl rfl rfl rfl rfl ?_
       refine WA.no rfl rfl rfl rfl rfl rfl ?_
       refine WA.no rfl rfl rfl rfl rfl rfl ?_
       refine WA.no rfl rfl rfl rfl rfl rfl ?_
       refine WA.no rfl rfl rfl rfl rfl rfl ?_
       refine WA.no rfl rfl rfl rfl rfl rfl ?_
       refine WA.rd rfl rfl rfl (Rd.pick_f rfl rfl rfl) ?_
       refine WA.nil ?_
       exact ⟨by repeat (first | exact Sub.nil | refine Sub.cons rfl (by first | rfl | (first | exact vb_f (fun ⟨u, v, e, ho⟩ => hg48 (by have h := lay_get (u := u) (a := s0.a) (v := s0.b :: v) (by rw [← e]; exact i1.full); rw [← e, ho] at h; exact get!_some h)) | exact vb_f (fun _ => hg53 hsnd.2.2) | exact vb_f (fun ⟨u', v', e, ho'⟩ => by have h3 := (place i1.full hq1 e (by omega)).2.2; rw [h3, off_cons] at hol; have h4 := len_pos (p := s0.b) (i1.full s0.b (by rw [e]; simp)); omega) | exact vb ⟨fun h => ⟨u, v', by rw [hq1, h], ho⟩, fun ⟨u', v2, e, ho'⟩ => by have h3 := (place i1.full hq1 e (by omega)).2.2; simp only [List.cons.injEq] at h3; exact h3.1⟩)) ?_), by first | exact (fun _ h => h.thin (SubL.mem (by repeat (first | exact SubL.refl | refine SubL.cons (by repeat (first | assumption | exact mS | apply mT)) ?_ | refine SubL.skip ?_)))) | exact (fun w h => OwnL.sat (by repeat (first | exact OwnL.refl | apply OwnL.take (by repeat (first | exact Take.head _ | apply Take.tail)) | apply OwnL.drop)) w (h.thin (SubL.mem (by repeat (first | exact SubL.refl | refine SubL.cons (by repeat (first | assumption | exact mS | apply mT)) ?_ | refine SubL.skip ?_)))))⟩
     ·
      refine WA.no rfl rfl rfl rfl rfl rfl ?_
      refine WA.no rfl rfl rfl rfl rfl rfl ?_
      refine WA.no rfl rfl rfl rfl rfl rfl ?_
      refine WA.no rfl rfl rfl rfl rfl rfl ?_
      refine WA.no rfl rfl rfl rfl rfl rfl ?_
      refine WA.no rfl rfl rfl rfl rfl rfl ?_
      refine WA.no rfl rfl rfl rfl rfl rfl ?_
      refine WA.no rfl rfl rfl rfl rfl rfl ?_
      refine WA.no rfl rfl rfl rfl rfl rfl ?_
      refine WA.no rfl rfl rfl rfl rfl rfl ?_
      refine WA.no rfl rfl rfl rfl rfl rfl ?_
      refine WA.no rfl rfl rfl rfl rfl rfl ?_
      refine WA.no rfl rfl rfl rfl rfl rfl ?_
      refine WA.no rfl rfl rfl rfl rfl rfl ?_
      refine WA.rd rfl rfl rfl (Rd.pick_f rfl rfl rfl) ?_
      refine WA.rd rfl rfl rfl (Rd.move rfl rfl) ?_
      refine WA.no rfl rfl rfl rfl rfl rfl ?_
      refine WA.no rfl rfl rfl rfl rfl rfl ?_
      refine WA.no rfl rfl rfl rfl rfl rfl ?_
      refine WA.no rfl rfl rfl rfl rfl rfl ?_
      refine WA.no rfl rfl rfl rfl rfl rfl ?_
      refine WA.no rfl rfl rfl rfl rfl rfl ?_
      refine WA.no rfl rfl rfl rfl rfl rfl ?_
      refine WA.no rfl rfl rfl rfl rfl rfl ?_
      refine WA.no rfl rfl rfl rfl rfl rfl ?_
      refine WA.no rfl rfl rfl rfl rfl rfl ?_
      refine WA.no rfl rfl rfl rfl rfl rfl ?_
      refine WA.no rfl rfl rfl rfl rfl rfl ?_
      refine WA.no rfl rfl rfl rfl rfl rfl ?_
      refine WA.no rfl rfl rfl rfl rfl rfl ?_
      refine WA.no rfl rfl rfl rfl rfl rfl ?_
      refine WA.no rfl rfl rfl rfl rfl rfl ?_
      refine WA.no rfl rfl rfl rfl rfl rfl ?_
      refine WA.rd rfl rfl rfl (Rd.pick_f rfl rfl rfl) ?_
      refine WA.nil ?_
      exact ⟨by repeat (first | exact Sub.nil | refine Sub.cons rfl (by first | rfl | (first | exact vb_f (fun ⟨u, v, e, ho⟩ => hg48 (by have h := lay_get (u := u) (a := s0.a) (v := s0.b :: v) (by rw [← e]; exact i1.full); rw [← e, ho] at h; exact get!_some h)) | exact vb_f (fun _ => hg53 hsnd.2.2) | exact vb_f (fun ⟨u', v', e, ho'⟩ => by have h3 := (place i1.full hq1 e (by omega)).2.2; rw [h3, off_cons] at hol; have h4 := len_pos (p := s0.b) (i1.full s0.b (by rw [e]; simp)); omega) | exact vb ⟨fun h => ⟨u, v', by rw [hq1, h], ho⟩, fun ⟨u', v2, e, ho'⟩ => by have h3 := (place i1.full hq1 e (by omega)).2.2; simp only [List.cons.injEq] at h3; exact h3.1⟩)) ?_), by first | exact (fun _ h => h.thin (SubL.mem (by repeat (first | exact SubL.refl | refine SubL.cons (by repeat (first | assumption | exact mS | apply mT)) ?_ | refine SubL.skip ?_)))) | exact (fun w h => OwnL.sat (by repeat (first | exact OwnL.refl | apply OwnL.take (by repeat (first | exact Take.head _ | apply Take.tail)) | apply OwnL.drop)) w (h.thin (SubL.mem (by repeat (first | exact SubL.refl | refine SubL.cons (by repeat (first | assumption | exact mS | apply mT)) ?_ | refine SubL.skip ?_)))))⟩
    ·
     refine WA.no rfl rfl rfl rfl rfl rfl ?_
     refine WA.no rfl rfl rfl rfl rfl rfl ?_
     refine WA.no rfl rfl rfl rfl rfl rfl ?_
     refine WA.rd rfl rfl rfl (Rd.pick_f rfl rfl rfl) ?_
     refine WA.rd rfl rfl rfl (Rd.move rfl rfl) ?_
     refine WA.no rfl rfl rfl rfl rfl rfl ?_
     refine WA.no rfl rfl rfl rfl rfl rfl ?_
     refine WA.no rfl rfl rfl rfl rfl rfl ?_
     refine WA.no rfl rfl rfl rfl rfl rfl ?_
     refine WA.no rfl rfl rfl rfl rfl rfl ?_
     refine WA.no rfl rfl rfl rfl rfl rfl ?_
     refine WA.no rfl rfl rfl rfl rfl rfl ?_
     refine WA.no rfl rfl rfl rfl rfl rfl ?_
     refine WA.no rfl rfl rfl rfl rfl rfl ?_
     refine WA.no rfl rfl rfl rfl rfl rfl ?_
     refine WA.no rfl rfl rfl rfl rfl rfl ?_
     refine WA.no rfl rfl rfl rfl rfl rfl ?_
     refine WA.no rfl rfl rfl rfl rfl rfl ?_
     refine WA.no rfl rfl rfl rfl rfl rfl ?_
     refine WA.rd rfl rfl rfl (Rd.pick_f rfl rfl rfl) ?_
     refine WA.rd rfl rfl rfl (Rd.move rfl rfl) ?_
     refine WA.no rfl rfl rfl rfl rfl rfl ?_
     refine WA.no rfl rfl rfl rfl rfl rfl ?_
     refine WA.no rfl rfl rfl rfl rfl rfl ?_
     refine WA.no rfl rfl rfl rfl rfl rfl ?_
     refine WA.no rfl rfl rfl rfl rfl rfl ?_
     refine WA.no rfl rfl rfl rfl rfl rfl ?_
     refine WA.no rfl rfl rfl rfl rfl rfl ?_
     refine WA.no rfl rfl rfl rfl rfl rfl ?_
     refine WA.no rfl rfl rfl rfl rfl rfl ?_
     refine WA.no rfl rfl rfl rfl rfl rfl ?_
     refine WA.no rfl rfl rfl rfl rfl rfl ?_
     refine WA.no rfl rfl rfl rfl rfl rfl ?_
     refine WA.no rfl rfl rfl rfl rfl rfl ?_
     refine WA.no rfl rfl rfl rfl rfl rfl ?_
     refine WA.no rfl rfl rfl rfl rfl rfl ?_
     refine WA.no rfl rfl rfl rfl rfl rfl ?_
     refine WA.no rfl rfl rfl rfl rfl rfl ?_
     refine WA.rd rfl rfl rfl (Rd.pick_f rfl rfl rfl) ?_
     refine WA.nil ?_
     exact ⟨by repeat (first | exact Sub.nil | refine Sub.cons rfl (by first | rfl | (first | exact vb_f (fun ⟨u, v, e, ho⟩ => hg48 (by have h := lay_get (u := u) (a := s0.a) (v := s0.b :: v) (by rw [← e]; exact i1.full); rw [← e, ho] at h; exact get!_some h)) | exact vb_f (fun _ => hg53 hsnd.2.2) | exact vb_f (fun ⟨u', v', e, ho'⟩ => by have h3 := (place i1.full hq1 e (by omega)).2.2; rw [h3, off_cons] at hol; have h4 := len_pos (p := s0.b) (i1.full s0.b (by rw [e]; simp)); omega) | exact vb ⟨fun h => ⟨u, v', by rw [hq1, h], ho⟩, fun ⟨u', v2, e, ho'⟩ => by have h3 := (place i1.full hq1 e (by omega)).2.2; simp only [List.cons.injEq] at h3; exact h3.1⟩)) ?_), by first | exact (fun _ h => h.thin (SubL.mem (by repeat (first | exact SubL.refl | refine SubL.cons (by repeat (first | assumption | exact mS | apply mT)) ?_ | refine SubL.skip ?_)))) | exact (fun w h => OwnL.sat (by repeat (first | exact OwnL.refl | apply OwnL.take (by repeat (first | exact Take.head _ | apply Take.tail)) | apply OwnL.drop)) w (h.thin (SubL.mem (by repeat (first | exact SubL.refl | refine SubL.cons (by repeat (first | assumption | exact mS | apply mT)) ?_ | refine SubL.skip ?_)))))⟩
   ·
    first | refine WC.ite rfl (fun hc2 => ?_) (fun hc2 => ?_) | refine WC.cond rfl (fun hc2 => ?_) (fun hc2 => ?_)
    ·
     obtain ⟨u, v, hq1, ho⟩ := hc2
     obtain ⟨ea, eb, pre', suf', hq2, i1'⟩ := i1.good hr hys hmn hc1.2 hq1 ho
     rw [hq1] at i2
     have hfq : Full (u ++ s0.a :: s0.b :: v) := hq1 ▸ i1.full
     have hnq : off (u ++ s0.a :: s0.b :: v) = n := hq1 ▸ i1.len
     have i2' := i2.merge hfq hnq
     rw [ho] at i2'
     refine WC.heap (R' := R) (O' := rowW br pv nv qv bm sv2 :: accT pv (lay (u ++ s0.a :: s0.b :: v)) :: accI nv s.nx :: accI qv s.pr :: accI mv (ints s.M) :: accS sv2 ys :: rowC b4 83 [vi s0.rank, vi s0.pl, vs s0.a, vs s0.b] :: O) (fun w h => by rw [hq1] at h; exact (fun w h => OwnL.sat (by repeat (first | exact OwnL.refl | apply OwnL.take (by repeat (first | exact Take.head _ | apply Take.tail)) | apply OwnL.drop)) w (h.thin (SubL.mem (by repeat (first | exact SubL.refl | refine SubL.cons (by repeat (first | assumption | exact mS | apply mT)) ?_ | refine SubL.skip ?_))))) w h) ?_
     refine WC.seq ?_
     refine WC.region ?_
     refine WL.rd rfl rfl rfl (Rd.move rfl rfl) ?_
     refine WL.rd rfl rfl rfl ((by first | exact Rd.field rfl F83_1 rfl rfl | exact Rd.fieldE rfl F83_1 rfl (by repeat (first | assumption | exact mS | apply mT)) (by omega) | exact Rd.fieldA rfl F83_1 rfl (by repeat (first | assumption | exact mS | apply mT)) (by omega))) ?_
     refine WL.rd rfl rfl rfl (Rd.row1 (b := b4) (off := 1) (u := vi s0.pl) rfl C3 rfl (by repeat (first | assumption | exact mS | apply mT)) rfl) ?_
     refine WL.say 90 (u := vi (off u)) rfl (by rw [ho]) ?_
     refine WL.op rfl ?_
     refine OpW.call rfl rfl (by repeat (first | exact Evs.nil | apply Evs.cons rfl)) (by kernel_rfl) rfl rfl rfl ?_
     refine merge_spec (u := u) (v := v) (a := s0.a) (b := s0.b) i2 hfq hnq hn4 ?_
     refine WL.nil ?_
     refine thenQ.normal ?_
     refine WC.region ?_
     refine WL.rd rfl rfl rfl (Rd.move rfl rfl) ?_
     refine WL.rd rfl rfl rfl ((by first | exact Rd.field rfl F83_1 rfl rfl | exact Rd.fieldE rfl F83_1 rfl (by repeat (first | assumption | exact mS | apply mT)) (by omega) | exact Rd.fieldA rfl F83_1 rfl (by repeat (first | assumption | exact mS | apply mT)) (by omega))) ?_
     refine WL.rd rfl rfl rfl (Rd.row1 (b := b4) (off := 1) (u := vi s0.pl) rfl C3 rfl (by repeat (first | assumption | exact mS | apply mT)) rfl) ?_
     refine WL.op rfl ?_
     refine OpW.buildSl (ps := [(0, _)]) rfl S57 (by repeat (first | exact Evs.nil | apply Evs.cons rfl)) rfl rfl (by repeat (first | exact CellsOf.nil | apply CellsOf.cons rfl)) (by kernel_rfl) rfl rfl rfl ?_; intro b95
     have hml : (ints s.M).length = s.M.length := List.length_map _
     rw [hq1] at hcnt
     refine WL.op rfl ?_
     refine OpW.appendRow (enc := one vi) rfl S57 rfl rfl Z.T Z.T [((s0.pl : Nat) : Int)] rfl (by rfl) rfl (by intro x; first | rfl | (cases x; rfl) | (rcases x with ⟨_, _, _⟩; rfl) | (rcases x with ⟨_, _, _, _⟩; rfl)) (by intro x; first | rfl | (cases x; rfl) | (rcases x with ⟨_, _, _⟩; rfl) | (rcases x with ⟨_, _, _, _⟩; rfl)) ⟨by simp only [maxLen, List.length_append, List.length_nil, List.length_cons, List.length_drop, List.length_take, List.length_map]; omega, by first | omega | (simp only [List.length_append, List.length_nil, List.length_cons, List.length_drop, List.length_take, List.length_map]; omega)⟩ rfl rfl ?_; intro v96 hv96
     refine WL.rd rfl rfl rfl (Rd.assign rfl rfl) ?_
     refine WL.nil ?_
     refine blockQ.normal ?_
     exact loopQ3.mk ⟨pre', suf', ys, s.M ++ [s0.pl], s.nx.set (off u) ((off u + s0.a.length + s0.b.length : Nat) : Int), prSet s.pr v (off u + s0.a.length + s0.b.length) (off u)⟩ sv2 v96
      ⟨i1', by rw [hq2, ← ea, ← eb, ho]; exact i2', hhy, .inr (by show ys.length < _; omega), by rw [hq2, ← i5, hq1, ← ea, ← eb]; simp⟩ (by show ys.length < _; omega) (by repeat (first | exact Sub.nil | refine Sub.cons rfl (by first | rfl | (congr 1; omega) | assumption) ?_)) (by
       show ∀ w, _ → Sat R (accI v96 (ints (s.M ++ [s0.pl])) :: rowO br bm pv nv qv sv2 (pre' ++ suf') _ _ ys O) w
       rw [hq2, ← ea, ← eb, show ints (s.M ++ [s0.pl]) = ints s.M ++ [((s0.pl : Nat) : Int)] from by simp [ints]]; exact (fun w h => OwnL.sat (by repeat (first | exact OwnL.refl | apply OwnL.take (by repeat (first | exact Take.head _ | apply Take.tail)) | apply OwnL.drop)) w (h.thin (SubL.mem (by repeat (first | exact SubL.refl | refine SubL.cons (by repeat (first | assumption | exact mS | apply mT)) ?_ | refine SubL.skip ?_))))))
    ·
     have i1' := i1.bad hys hc2
     refine WC.skip ?_
     refine blockQ.normal ?_
     exact loopQ3.mk ⟨s.pre, s.suf, ys, s.M, s.nx, s.pr⟩ sv2 mv ⟨i1', i2, hhy, .inr (by show ys.length < _; omega), i5⟩ (by show ys.length < _; omega) (by repeat (first | exact Sub.nil | refine Sub.cons rfl (by first | rfl | (congr 1; omega) | assumption) ?_)) (fun w h => OwnL.sat (by repeat (first | exact OwnL.refl | apply OwnL.take (by repeat (first | exact Take.head _ | apply Take.tail)) | apply OwnL.drop)) w (h.thin (SubL.mem (by repeat (first | exact SubL.refl | refine SubL.cons (by repeat (first | assumption | exact mS | apply mT)) ?_ | refine SubL.skip ?_)))))
  ·
   have hh : ∀ t ∈ s.H, t.rank ≠ r := fun t ht e => by
    have hl0 : 0 < s.H.length := List.length_pos_of_mem ht
    have h1 := i3.least spOrd ht
    have h2 := i1.low _ (get!_mem hl0)
    unfold spLt at h1
    exact hc1 ⟨hl0, by omega⟩
   have hfin := i1.finish hr hh
   have hsH : s.H.length < H.length := by
    rcases i4 with h | h
    ·
     exact absurd ⟨by rw [h]; exact h0, by rw [h]; exact hr0⟩ hc1
    ·
     exact h
   have hcnt := i1.cnt
   have hml : (ints s.M).length = s.M.length := List.length_map _
   refine WC.exit ?_
   refine thenQ.exit ?_
   refine loopQ3.exit ?_
   refine blockQ.exit ?_
   refine thenQ.normal ?_
   refine WC.seq ?_
   refine WC.region ?_
   refine WL.rd rfl rfl rfl (Rd.move rfl rfl) ?_
   refine WL.rd rfl rfl rfl (Rd.lenA (enc := one vi) (xs := ints s.M) rfl rfl Try.underlying57 (by repeat (first | assumption | exact mS | apply mT))) ?_
   refine WL.say 98 (u := vi s.M.length) rfl (by rw [hml]) ?_
   refine WL.rd rfl rfl rfl (Rd.move rfl rfl) ?_
   refine WL.nil ?_
   refine thenQ.normal ?_
   refine WC.block ?_
   refine WC.pick [99, 0, 97, 98] (by repeat (first | exact Pick.nil | apply Pick.cons rfl)) ?_
   refine WC.loop3 1 (fun (j : Nat) (sv3 : Value) (H2 : List Sp) => [(99, vi j)]) (fun (j : Nat) (sv3 : Value) (H2 : List Sp) => accI mv (ints s.M) :: rowO br bm pv nv qv sv3 (s.pre ++ s.suf) s.nx s.pr H2 O) (fun (j : Nat) (sv3 : Value) (H2 : List Sp) => j ≤ s.M.length ∧ Sound l n H2 ∧ Hp spLt H2 ∧ Cov l (s.pre ++ s.suf) H2 (s.M.drop j) ∧ H2.length ≤ s.H.length + 2 * j) (fun (j : Nat) (sv3 : Value) (H2 : List Sp) => s.M.length - j) (0) (sv1) (s.H) (by repeat (first | exact Split.zero | apply Split.succ)) ?hinv2 (by repeat (first | exact Sub.nil | refine Sub.cons rfl (by first | rfl | (congr 1; omega) | assumption) ?_)) (fun _ h => h) ?_
   case hinv2 =>
    exact ⟨Nat.zero_le _, i1.sound, i3, i1.cov, by omega⟩
   intro j sv3 H2
   rintro ⟨j1, j2, j3, j4, j5⟩
   refine WC.seq ?_
   refine WC.region ?_
   refine WL.rd rfl rfl rfl (Rd.lss rfl rfl rfl) ?_
   refine WL.nil ?_
   refine thenQ.normal ?_
   refine WC.seq ?_
   first | refine WC.ite rfl (fun hc3 => ?_) (fun hc3 => ?_) | refine WC.cond rfl (fun hc3 => ?_) (fun hc3 => ?_)
   ·
    obtain ⟨hA, hB, u, v, hqm, hom⟩ := i1.mok s.M[j]! (get!_mem (by omega))
    have hjm : (ints s.M)[j]? = some ((off u : Nat) : Int) := by
     rw [List.getElem?_map, get!_of_lt (by omega), hom]; rfl
    rw [hqm] at i2
    have hfq : Full (u ++ (A ++ B) :: v) := hqm ▸ i1.full
    have hnq : off (u ++ (A ++ B) :: v) = n := hqm ▸ i1.len
    have hnq2 := hnq
    rw [off_snoc] at hnq2
    have hAB : A ++ B ≠ [] := hfq.mid
    have hlAB := len_pos hAB
    have hprl := i2.pl
    refine WC.heap (R' := R) (O' := rowO br bm pv nv qv sv3 (u ++ (A ++ B) :: v) s.nx s.pr H2 (accI mv (ints s.M) :: O)) (fun w h => by rw [hqm] at h; exact (fun w h => OwnL.sat (by repeat (first | exact OwnL.refl | apply OwnL.take (by repeat (first | exact Take.head _ | apply Take.tail)) | apply OwnL.drop)) w (h.thin (SubL.mem (by repeat (first | exact SubL.refl | refine SubL.cons (by repeat (first | assumption | exact mS | apply mT)) ?_ | refine SubL.skip ?_))))) w h) ?_
    refine WC.skip ?_
    refine thenQ.normal ?_
    refine WC.seq ?_
    refine WC.block ?_
    refine WC.seq ?_
    refine WC.region ?_
    refine WL.rd rfl rfl rfl (Rd.idxA1 (enc := one vi) (xs := ints s.M) (k := j) rfl S57 rfl rfl rfl (by repeat (first | assumption | exact mS | apply mT)) (by omega)) ?_
    refine WL.rd rfl rfl rfl (Rd.getA (g := vi) (xs := ints s.M) (k := j) (a := ((off u : Nat) : Int)) rfl C3 rfl (by repeat (first | assumption | exact mS | apply mT)) hjm) ?_
    refine WL.rd rfl rfl rfl (Rd.assign rfl rfl) ?_
    refine WL.nil ?_
    refine thenQ.normal ?_
    refine WC.seq ?_
    refine WC.region ?_
    refine WL.rd rfl rfl rfl (Rd.move rfl rfl) ?_
    refine WL.rd rfl rfl rfl (Rd.move rfl rfl) ?_
    refine WL.rd rfl rfl rfl (Rd.nilc rfl rfl) ?_
    refine WL.rd rfl rfl rfl ((by first | exact Rd.field rfl F61_2 rfl rfl | exact Rd.fieldE rfl F61_2 rfl (by repeat (first | assumption | exact mS | apply mT)) (by omega) | exact Rd.fieldA rfl F61_2 rfl (by repeat (first | assumption | exact mS | apply mT)) (by omega))) ?_
    refine WL.rd rfl rfl rfl (Rd.row1 (b := br) (off := 2) (u := qv) rfl C57 rfl (by repeat (first | assumption | exact mS | apply mT)) rfl) ?_
    refine WL.rd rfl rfl rfl (Rd.move rfl rfl) ?_
    refine WL.rd rfl rfl rfl ((by first | exact Rd.idx1 (k := off u) rfl S57 rfl rfl (by omega) (by repeat (first | assumption | exact mS | apply mT)) (by first | omega | (simp only [List.length_cons, List.length_nil, List.length_append, List.length_map]; omega)) | exact Rd.idxA1 (k := off u) rfl S57 rfl rfl (by omega) (by repeat (first | assumption | exact mS | apply mT)) (by first | omega | (simp only [List.length_cons, List.length_nil, List.length_append, List.length_map]; omega)) | exact Rd.idxR1 (k := off u) rfl S57 rfl rfl (by omega) (by omega))) ?_
    refine WL.rd rfl rfl rfl (Rd.getA (g := vi) (xs := s.pr) (k := off u) (a := s.pr[off u]!) rfl C3 rfl (by repeat (first | assumption | exact mS | apply mT)) (get?_of (by omega) rfl)) ?_
    refine WL.op rfl ?_
    refine OpW.call rfl rfl (by repeat (first | exact Evs.nil | apply Evs.cons rfl)) (by kernel_rfl) rfl rfl rfl ?_
    refine meetP_spec i2 hfq hnq hn4 hmap hget j3 (by omega) ?_; intro sv4 H3 p1 p2 p3 p4 p5
    refine WL.nil ?_
    refine thenQ.normal ?_
    refine WC.region ?_
    refine WL.rd rfl rfl rfl (Rd.move rfl rfl) ?_
    refine WL.rd rfl rfl rfl (Rd.move rfl rfl) ?_
    refine WL.op rfl ?_
    refine OpW.call rfl rfl (by repeat (first | exact Evs.nil | apply Evs.cons rfl)) (by kernel_rfl) rfl rfl rfl ?_
    refine meet_spec (u := u) (a := A ++ B) (v := v) i2 hfq hnq hn4 hmap hget p5 (by omega) ?_; intro sv5 H4 hM hh4
    refine WL.nil ?_
    refine blockQ.normal ?_
    refine thenQ.normal ?_
    refine WC.region ?_
    refine WL.rd rfl rfl rfl (Rd.add rfl rfl rfl (by omega)) ?_
    refine WL.rd rfl rfl rfl (Rd.move rfl rfl) ?_
    refine WL.nil ?_
    have hM3 := hM.cnt
    refine loopQ3.mk (j + 1) sv5 H4 ⟨by omega, fun t ht => ?_, hh4, fun u' a b v' r' e hr' => ?_, by omega⟩ (by omega) (by repeat (first | exact Sub.nil | refine Sub.cons rfl (by first | rfl | (congr 1; omega) | assumption) ?_)) (fun w h => by rw [hqm]; exact (fun w h => OwnL.sat (by repeat (first | exact OwnL.refl | apply OwnL.take (by repeat (first | exact Take.head _ | apply Take.tail)) | apply OwnL.drop)) w (h.thin (SubL.mem (by repeat (first | exact SubL.refl | refine SubL.cons (by repeat (first | assumption | exact mS | apply mT)) ?_ | refine SubL.skip ?_))))) w h)
    ·
     rcases hM.new t ht with g | ⟨b, v', r', e, hr', rfl⟩
     ·
      rcases p2 t g with g | g
      ·
       exact j2 t g
      ·
       exact g
     ·
      exact ⟨hr', by show off u < n; omega, hAB⟩
    ·
     have hf1 := i1.full
     rcases j4 u' a b v' r' e hr' with g | g | g
     ·
      exact .inl (hM.old _ (p1 _ g))
     ·
      rcases drop_mem g (by omega) with g | g
      ·
       obtain ⟨e1, e2, e3⟩ := place hf1 e hqm (by omega)
       subst e1; subst e2
       exact .inl (hM.got b v' r' e3.symm hr')
      ·
       exact .inr (.inl g)
     ·
      rcases drop_mem g (by omega) with g | g
      ·
       have e0 : s.pre ++ s.suf = (u' ++ [a]) ++ b :: v' := by rw [e]; simp
       obtain ⟨e1, e2, e3⟩ := place hf1 e0 hqm (by rw [off_snoc, off_nil]; omega)
       subst e2
       exact .inl (hM.old _ (p4 u' a r' e1.symm hr'))
      ·
       exact .inr (.inr g)
   ·
    obtain rfl : j = s.M.length := by omega
    rw [List.drop_length] at j4
    refine WC.heap (R' := R) (O' := rowO br bm pv nv qv sv3 (s.pre ++ s.suf) s.nx s.pr H2 O) (fun w h => OwnL.sat (by repeat (first | exact OwnL.refl | apply OwnL.take (by repeat (first | exact Take.head _ | apply Take.tail)) | apply OwnL.drop)) w (h.thin (SubL.mem (by repeat (first | exact SubL.refl | refine SubL.cons (by repeat (first | assumption | exact mS | apply mT)) ?_ | refine SubL.skip ?_))))) ?_
    refine WC.exit ?_
    refine thenQ.exit ?_
    refine loopQ3.exit ?_
    refine blockQ.exit ?_
    refine Ret.normal (Ret.zero Try.results26 ?_)
    exact hk sv3 _ _ _ H2 ⟨i1.full, i1.len, j2, j4⟩ i2 j3 (fun out h => Spl.round hr hmin (hfin ▸ h)) i5 (by omega)
end
end Go.Proofs.Ytnpkpcjiebiplaa
