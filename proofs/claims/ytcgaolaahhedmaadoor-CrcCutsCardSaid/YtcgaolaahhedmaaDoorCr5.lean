/-
  Layer 3: frames one behind the other, cut off anywhere (CrcCuts).
-/
import Derived.Test.YtcgaolaahhedmaaDoorCr4
namespace Go.Proofs.YtcgaolaahhedmaaDoor
open Go Go.SL

def frm (l : List (List UInt8)) (j : Nat) : List UInt8 := frameE (UInt8.ofNat (j % 256)) l[j]!
def cat (l : List (List UInt8)) : Nat → List UInt8
  | 0 => []
  | n + 1 => cat l n ++ frm l n
def Short (l : List (List UInt8)) (n : Nat) : Prop := ∀ j, j < n → l[j]!.length ≤ 2000
def endsE (l : List (List UInt8)) (n : Nat) : List Int := (List.range n).map fun j => ((cat l (j + 1)).length : Int)
theorem frm_length {l : List (List UInt8)} {n j : Nat} (h : Short l n) (hj : j < n) : 5 ≤ (frm l j).length ∧ (frm l j).length ≤ 2011 := by
  have h1 := h j hj
  have h2 := frame_length (k := UInt8.ofNat (j % 256)) (b := l[j]!) (by omega)
  have h3 := putE_short (n := l[j]!.length) (by omega)
  rw [frm]; omega
theorem cat_length {l : List (List UInt8)} : ∀ {n : Nat}, Short l n → (cat l n).length ≤ 2011 * n ∧ n ≤ (cat l n).length
  | 0, _ => ⟨Nat.le_refl _, Nat.le_refl _⟩
  | n + 1, h => by
    obtain ⟨h1, h2⟩ := cat_length (n := n) fun j hj => h j (by omega)
    have h3 := frm_length h (j := n) (by omega)
    rw [cat, List.length_append]; omega
theorem cat_prefix (l : List (List UInt8)) {k : Nat} : ∀ {n : Nat}, k ≤ n → ∃ r, cat l n = cat l k ++ r
  | 0, h => by obtain rfl : k = 0 := by omega
               exact ⟨[], by simp⟩
  | n + 1, h => by
    rcases Nat.lt_or_ge n k with h1 | h1
    · obtain rfl : k = n + 1 := by omega
      exact ⟨[], by simp⟩
    · obtain ⟨r, hr⟩ := cat_prefix l h1
      exact ⟨r ++ frm l n, by rw [cat, hr, List.append_assoc]⟩
theorem cat_mono (l : List (List UInt8)) {k n : Nat} (h : k ≤ n) : (cat l k).length ≤ (cat l n).length := by
  obtain ⟨r, hr⟩ := cat_prefix l h
  rw [hr, List.length_append]; omega
theorem ends_get (l : List (List UInt8)) {n j : Nat} (h : j < n) : (endsE l n)[j]? = some ((cat l (j + 1)).length : Int) := by
  rw [endsE, List.getElem?_map, List.getElem?_range h]; rfl
theorem ends_snoc (l : List (List UInt8)) (n : Nat) : endsE l (n + 1) = endsE l n ++ [((cat l (n + 1)).length : Int)] := by
  rw [endsE, List.range_succ, List.map_append]; rfl
theorem ends_length (l : List (List UInt8)) (n : Nat) : (endsE l n).length = n := by simp [endsE]
theorem frm_next {l : List (List UInt8)} {n j : Nat} (h : Short l n) (hj : j < n) (t : List UInt8) : (nextF (frm l j ++ t)).2.2 = (((frm l j).length : Int), 0) := by
  have h1 := h j hj
  rw [frm, frame_next (by omega)]
theorem whole_cat {l : List (List UInt8)} {n : Nat} (h : Short l n) {p : List UInt8} (hp : (nextF p).2.2.2 ≠ 0) : wholeE (cat l n ++ p) = ((cat l n).length, n) := by
  have key : ∀ k, k ≤ n → ∀ f, wholeF (f + k) (cat l n ++ p) 0 0 = wholeF f (cat l n ++ p) (cat l k).length k := by
    intro k
    induction k with
    | zero => intro _ f; rfl
    | succ k ih =>
      intro hk f
      obtain ⟨r, hr⟩ := cat_prefix l (k := k + 1) (n := n) hk
      have hd : (cat l n ++ p).drop (cat l k).length = frm l k ++ (r ++ p) := by
        rw [hr, cat, List.append_assoc, List.append_assoc, List.drop_left]
      have hx := frm_next h (j := k) (by omega) (r ++ p)
      rw [show f + (k + 1) = (f + 1) + k from by omega, ih (by omega) (f + 1), wholeF, hd, hx, if_neg (by simp), Int.toNat_natCast, cat, List.length_append]
  have hl := (cat_length h).2
  rw [wholeE, show (cat l n ++ p).length + 1 = ((cat l n ++ p).length + 1 - n) + n from by rw [List.length_append]; omega, key n (Nat.le_refl _)]
  exact wholeF_stop (by rw [List.length_append]; omega) (by rw [List.drop_left]; exact hp)
/-- What is left behind the last whole frame. -/
theorem cat_cut {l : List (List UInt8)} {m n c : Nat} (h : Short l m) (hn : n ≤ m) (h1 : (cat l n).length ≤ c) (hc : c ≤ (cat l m).length) (h2 : n < m → c < (cat l (n + 1)).length) :
    ∃ p, (cat l m).take c = cat l n ++ p ∧ p.length = c - (cat l n).length ∧ (nextF p).2.2.2 = if p.length = 0 then 9 else 3 := by
  rcases Nat.lt_or_ge n m with h3 | h3
  · obtain ⟨r, hr⟩ := cat_prefix l (k := n + 1) (n := m) h3
    have h4 := h2 h3
    have h5 := h n h3
    rw [cat, List.length_append] at h4
    refine ⟨(frm l n).take (c - (cat l n).length), ?_, by rw [List.length_take]; omega, ?_⟩
    · rw [hr, cat, List.take_append_of_le_length (by rw [List.length_append]; omega), List.take_append, List.take_of_length_le h1]
    · have hf := frame_cut (k := UInt8.ofNat (n % 256)) (b := l[n]!) (by omega) (c := c - (cat l n).length) (by rw [← frm]; omega)
      rw [frm, hf, List.length_take, ← frm, Nat.min_eq_left (by omega)]
  · obtain rfl : n = m := by omega
    refine ⟨[], ?_, ?_, rfl⟩
    · rw [List.append_nil, List.take_of_length_le h1]
    · rw [List.length_nil]; omega

set_option maxHeartbeats 4000000 in
theorem cuts_spec {R : List RO} {O : List Own} {POST : Value → List RO → List Own → Prop} {l : List (List UInt8)} {lv : Value} {q : Int} (ht : tabR ∈ R) (hl : SlE (one vs) lv l ∈ R) (hk : POST (.bool true) R O) : Fun Tryd.prog 7 #[lv, .int .i64 q] R O POST := by
  refine Fun.len hl fun hll => ?_
  refine Fun.enter (l := [_, _]) Tryd.func7 rfl Tryd.ntmps7 rfl (L0 := [(0, _), (1, _)]) rfl ?_
  refine WC.seq ?_
  refine WC.region ?_
  refine WL.rd rfl rfl rfl (Rd.assign rfl rfl) ?_
  refine WL.nil ?_
  refine thenQ.normal ?_
  refine WC.seq ?_
  refine WC.seq ?_
  refine WC.region ?_
  refine WL.op rfl ?_
  refine OpW.call rfl rfl (by repeat (first | exact Evs.nil | apply Evs.cons rfl)) (by kernel_rfl) rfl rfl rfl ?_
  refine speaks_spec ht ?_
  refine WL.rd rfl rfl rfl ((by first | exact Rd.notd rfl rfl | exact Rd.not rfl rfl)) ?_
  refine WL.nil ?_
  refine thenQ.normal ?_
  first | refine WC.ite rfl (fun hc1 => ?_) (fun hc1 => ?_) | refine WC.cond rfl (fun hc1 => ?_) (fun hc1 => ?_)
  · skip
    simp at hc1
  · skip
    refine WC.skip ?_
    refine thenQ.normal ?_
    refine WC.seq ?_
    refine WC.region ?_
    refine WL.rd rfl rfl rfl (Rd.assign rfl rfl) ?_
    refine WL.nil ?_
    refine thenQ.normal ?_
    refine WC.seq ?_
    refine WC.region ?_
    refine WL.rd rfl rfl rfl (Rd.assign rfl rfl) ?_
    refine WL.nil ?_
    refine thenQ.normal ?_
    refine WC.seq ?_
    refine WC.seq ?_
    refine WC.region ?_
    refine WL.rd rfl rfl rfl (Rd.assign rfl rfl) ?_
    refine WL.nil ?_
    refine thenQ.normal ?_
    refine WC.block ?_
    refine WC.pick [7, 5, 6, 0, 1] (by repeat (first | exact Pick.nil | apply Pick.cons rfl)) ?_
    refine WC.loop2 3 (fun (i : Nat) (v : Value) => [(7, .int .i64 (i : Int)), (5, vs (cat l i)), (6, v)]) (fun (i : Nat) (v : Value) => accC 3 1 (one vi) v (endsE l i) :: O) (fun (i : Nat) (v : Value) => i ≤ l.length ∧ i ≤ 40 ∧ Short l i ∧ OneV v) (fun (i : Nat) (v : Value) => l.length - i) (0) (.slice none 0 0) (by repeat (first | exact Split.zero | apply Split.succ)) ?hinv1 (by repeat (first | exact Sub.nil | refine Sub.cons rfl (by first | rfl | (congr 1; omega) | assumption) ?_)) (fun w h => h.accNil (α := Int) (e := 3) (size := 1) (enc := one vi)) ?_
    case hinv1 =>
      exact ⟨Nat.zero_le _, Nat.zero_le _, fun j hj => absurd hj (Nat.not_lt_zero _), OneV.sl⟩
    intro i v
    rintro ⟨h1, h2, h3, h4⟩
    
    have hcl := cat_length h3
    have hel := ends_length l i
    refine WC.seq ?_
    refine WC.pick [0, 1, 5, 6, 7] (by repeat (first | exact Pick.nil | apply Pick.cons rfl)) ?_
    refine WC.val 24 (.bool (decide (i < l.length ∧ i < 40))) ?_ ?_
    · skip
      refine WC.region ?_
      refine WL.rd rfl rfl rfl (Rd.move rfl rfl) ?_
      refine WL.rd rfl rfl rfl (Rd.move rfl rfl) ?_
      refine WL.rd rfl rfl rfl ((by first | exact Rd.lenE rfl rfl Tryd.underlying40 (by repeat (first | assumption | exact List.mem_cons_self | refine List.mem_cons_of_mem _ ?_)) | exact Rd.lenA rfl rfl Tryd.underlying40 (by repeat (first | assumption | exact List.mem_cons_self | refine List.mem_cons_of_mem _ ?_)) | exact Rd.len rfl rfl Tryd.underlying40)) ?_
      refine WL.rd rfl rfl rfl (Rd.lss rfl rfl rfl) ?_
      refine WL.rd rfl rfl rfl (Rd.move rfl rfl) ?_
      refine WL.case 21 rfl (fun hg21 => ?_) (fun hg21 => ?_)
      · skip
        refine WL.rd_yes rfl rfl rfl rfl rfl rfl (Rd.move rfl rfl) ?_
        refine WL.rd_yes rfl rfl rfl rfl rfl rfl (Rd.lss rfl rfl rfl) ?_
        refine WL.rd rfl rfl rfl (Rd.pick_t rfl rfl rfl) ?_
        refine WL.nil ?_
        exact ⟨by repeat (first | exact Sub.nil | refine Sub.cons rfl (by first | rfl | (first | rfl | exact vb (by omega) | exact vb_t (by omega) | exact vb_f (by omega) | (simp [*]; done) | (simp_all; done))) ?_), by first | exact (fun _ h => h.thin (SubL.mem (by repeat (first | exact SubL.refl | refine SubL.cons (by repeat (first | assumption | exact List.mem_cons_self | refine List.mem_cons_of_mem _ ?_)) ?_ | refine SubL.skip ?_)))) | exact (fun w h => OwnL.sat (by repeat (first | exact OwnL.refl | apply OwnL.take (by repeat (first | exact Take.head _ | apply Take.tail)) | apply OwnL.drop)) w (h.thin (SubL.mem (by repeat (first | exact SubL.refl | refine SubL.cons (by repeat (first | assumption | exact List.mem_cons_self | refine List.mem_cons_of_mem _ ?_)) ?_ | refine SubL.skip ?_)))))⟩
      · skip
        refine WL.no rfl rfl rfl rfl rfl rfl ?_
        refine WL.no rfl rfl rfl rfl rfl rfl ?_
        refine WL.rd rfl rfl rfl (Rd.pick_f rfl rfl rfl) ?_
        refine WL.nil ?_
        exact ⟨by repeat (first | exact Sub.nil | refine Sub.cons rfl (by first | rfl | (first | rfl | exact vb (by omega) | exact vb_t (by omega) | exact vb_f (by omega) | (simp [*]; done) | (simp_all; done))) ?_), by first | exact (fun _ h => h.thin (SubL.mem (by repeat (first | exact SubL.refl | refine SubL.cons (by repeat (first | assumption | exact List.mem_cons_self | refine List.mem_cons_of_mem _ ?_)) ?_ | refine SubL.skip ?_)))) | exact (fun w h => OwnL.sat (by repeat (first | exact OwnL.refl | apply OwnL.take (by repeat (first | exact Take.head _ | apply Take.tail)) | apply OwnL.drop)) w (h.thin (SubL.mem (by repeat (first | exact SubL.refl | refine SubL.cons (by repeat (first | assumption | exact List.mem_cons_self | refine List.mem_cons_of_mem _ ?_)) ?_ | refine SubL.skip ?_)))))⟩
    · skip
      first | refine WC.ite rfl (fun hc2 => ?_) (fun hc2 => ?_) | refine WC.cond rfl (fun hc2 => ?_) (fun hc2 => ?_)
      · skip
        refine WC.skip ?_
        refine thenQ.normal ?_
        refine WC.seq ?_
        refine WC.block ?_
        refine WC.seq ?_
        refine WC.seq ?_
        refine WC.region ?_
        refine WL.rd rfl rfl rfl (Rd.move rfl rfl) ?_
        refine WL.rd rfl rfl rfl (Rd.move rfl rfl) ?_
        refine WL.rd rfl rfl rfl ((by first | exact Rd.idx1 (k := i) rfl S40 rfl rfl (by omega) (by repeat (first | assumption | exact List.mem_cons_self | refine List.mem_cons_of_mem _ ?_)) (by first | omega | (simp only [List.length_cons, List.length_nil, List.length_append, List.length_map]; omega)) | exact Rd.idxA1 (k := i) rfl S40 rfl rfl (by omega) (by repeat (first | assumption | exact List.mem_cons_self | refine List.mem_cons_of_mem _ ?_)) (by first | omega | (simp only [List.length_cons, List.length_nil, List.length_append, List.length_map]; omega)) | exact Rd.idxR1 (k := i) rfl S40 rfl rfl (by omega) (by omega))) ?_
        refine WL.rd rfl rfl rfl ((by first | exact Rd.get rfl C9 rfl (by repeat (first | assumption | exact List.mem_cons_self | refine List.mem_cons_of_mem _ ?_)) (by first | assumption | rfl | exact get!_of_lt (by omega)) | exact Rd.getA rfl C9 rfl (by repeat (first | assumption | exact List.mem_cons_self | refine List.mem_cons_of_mem _ ?_)) (by first | assumption | rfl | exact get!_of_lt (by omega)) | exact Rd.row1 rfl C9 rfl (by repeat (first | assumption | exact List.mem_cons_self | refine List.mem_cons_of_mem _ ?_)) (by rfl) | exact Rd.getF rfl C9 rfl (by repeat (first | assumption | exact List.mem_cons_self | refine List.mem_cons_of_mem _ ?_)) (by intro x; first | rfl | (cases x; rfl) | (rcases x with ⟨_, _, _⟩; rfl) | (rcases x with ⟨_, _, _, _⟩; rfl)) rfl (by first | assumption | rfl | exact get!_of_lt (by omega)) (by rfl) | exact Rd.getFA rfl C9 rfl (by repeat (first | assumption | exact List.mem_cons_self | refine List.mem_cons_of_mem _ ?_)) (by intro x; first | rfl | (cases x; rfl) | (rcases x with ⟨_, _, _⟩; rfl) | (rcases x with ⟨_, _, _, _⟩; rfl)) rfl (by first | assumption | rfl | exact get!_of_lt (by omega)) (by rfl))) ?_
        refine WL.rd rfl rfl rfl (Rd.slen (ts := #[]) (ty := 0) rfl rfl Tryd.underlying9) ?_
        refine WL.rd rfl rfl rfl (Rd.gtr rfl rfl rfl) ?_
        refine WL.nil ?_
        refine thenQ.normal ?_
        first | refine WC.ite rfl (fun hc3 => ?_) (fun hc3 => ?_) | refine WC.cond rfl (fun hc3 => ?_) (fun hc3 => ?_)
        · skip
          refine WC.seq ?_
          refine WC.region ?_
          refine WL.rd rfl rfl rfl (Rd.assign rfl rfl) ?_
          refine WL.nil ?_
          refine thenQ.normal ?_
          -- ret_1
          refine WC.heap (R' := R) (O' := O) (fun w h => OwnL.sat (by repeat (first | exact OwnL.refl | apply OwnL.take (by repeat (first | exact Take.head _ | apply Take.tail)) | apply OwnL.drop)) w (h.thin (SubL.mem (by repeat (first | exact SubL.refl | refine SubL.cons (by repeat (first | assumption | exact List.mem_cons_self | refine List.mem_cons_of_mem _ ?_)) ?_ | refine SubL.skip ?_))))) ?_
          refine WC.ret (Ret.one Tryd.results7 rfl ?_)
          exact hk
        · skip
          have h3' : Short l (i + 1) := fun j hj => by
            rcases Nat.lt_or_ge j i with h | h
            · exact h3 j h
            · obtain rfl : j = i := by omega
              omega
          have hfl := frm_length h3' (j := i) (by omega)
          refine WC.skip ?_
          refine thenQ.normal ?_
          refine WC.seq ?_
          refine WC.region ?_
          refine WL.rd rfl rfl rfl (Rd.move rfl rfl) ?_
          refine WL.rd rfl rfl rfl (Rd.move rfl rfl) ?_
          refine WL.rd rfl rfl rfl ((by first | exact Rd.conv rfl rfl Tryd.underlying5 (by first | rfl | omega) | exact Rd.convw rfl rfl Tryd.underlying5)) ?_
          refine WL.say 35 (u := vy (UInt8.ofNat (i % 256))) rfl (by rw [wrap_byte]) ?_
          refine WL.rd rfl rfl rfl (Rd.move rfl rfl) ?_
          refine WL.rd rfl rfl rfl (Rd.move rfl rfl) ?_
          refine WL.rd rfl rfl rfl ((by first | exact Rd.idx1 (k := i) rfl S40 rfl rfl (by omega) (by repeat (first | assumption | exact List.mem_cons_self | refine List.mem_cons_of_mem _ ?_)) (by first | omega | (simp only [List.length_cons, List.length_nil, List.length_append, List.length_map]; omega)) | exact Rd.idxA1 (k := i) rfl S40 rfl rfl (by omega) (by repeat (first | assumption | exact List.mem_cons_self | refine List.mem_cons_of_mem _ ?_)) (by first | omega | (simp only [List.length_cons, List.length_nil, List.length_append, List.length_map]; omega)) | exact Rd.idxR1 (k := i) rfl S40 rfl rfl (by omega) (by omega))) ?_
          refine WL.rd rfl rfl rfl ((by first | exact Rd.get rfl C9 rfl (by repeat (first | assumption | exact List.mem_cons_self | refine List.mem_cons_of_mem _ ?_)) (by first | assumption | rfl | exact get!_of_lt (by omega)) | exact Rd.getA rfl C9 rfl (by repeat (first | assumption | exact List.mem_cons_self | refine List.mem_cons_of_mem _ ?_)) (by first | assumption | rfl | exact get!_of_lt (by omega)) | exact Rd.row1 rfl C9 rfl (by repeat (first | assumption | exact List.mem_cons_self | refine List.mem_cons_of_mem _ ?_)) (by rfl) | exact Rd.getF rfl C9 rfl (by repeat (first | assumption | exact List.mem_cons_self | refine List.mem_cons_of_mem _ ?_)) (by intro x; first | rfl | (cases x; rfl) | (rcases x with ⟨_, _, _⟩; rfl) | (rcases x with ⟨_, _, _, _⟩; rfl)) rfl (by first | assumption | rfl | exact get!_of_lt (by omega)) (by rfl) | exact Rd.getFA rfl C9 rfl (by repeat (first | assumption | exact List.mem_cons_self | refine List.mem_cons_of_mem _ ?_)) (by intro x; first | rfl | (cases x; rfl) | (rcases x with ⟨_, _, _⟩; rfl) | (rcases x with ⟨_, _, _, _⟩; rfl)) rfl (by first | assumption | rfl | exact get!_of_lt (by omega)) (by rfl))) ?_
          refine WL.op rfl ?_
          refine OpW.call rfl rfl (by repeat (first | exact Evs.nil | apply Evs.cons rfl)) (by kernel_rfl) rfl rfl rfl ?_
          refine frame_spec ht ?_
          refine WL.rd rfl rfl rfl (Rd.scat rfl rfl rfl (by rw [← frm]; omega)) ?_
          refine WL.rd rfl rfl rfl (Rd.assign rfl rfl) ?_
          refine WL.nil ?_
          refine thenQ.normal ?_
          refine WC.region ?_
          refine WL.rd rfl rfl rfl (Rd.move rfl rfl) ?_
          refine WL.rd rfl rfl rfl (Rd.move rfl rfl) ?_
          refine WL.rd rfl rfl rfl (Rd.slen (ts := #[]) (ty := 0) rfl rfl Tryd.underlying9) ?_
          refine WL.op rfl ?_
          refine OpW.buildSl (ps := [(0, _)]) rfl S41 (by repeat (first | exact Evs.nil | apply Evs.cons rfl)) rfl rfl (by repeat (first | exact CellsOf.nil | apply CellsOf.cons rfl)) (by kernel_rfl) rfl rfl rfl ?_; intro b45
          refine WL.op rfl ?_
          refine OpW.appendRow (enc := one vi) rfl S41 rfl rfl (by repeat (first | assumption | exact Take.head _ | apply Take.tail)) (by repeat (first | assumption | exact Take.head _ | apply Take.tail)) [((cat l (i + 1)).length : Int)] rfl (by rfl) rfl (by intro x; first | rfl | (cases x; rfl) | (rcases x with ⟨_, _, _⟩; rfl) | (rcases x with ⟨_, _, _, _⟩; rfl)) (by intro x; first | rfl | (cases x; rfl) | (rcases x with ⟨_, _, _⟩; rfl) | (rcases x with ⟨_, _, _, _⟩; rfl)) ⟨by simp only [maxLen, List.length_append, List.length_nil, List.length_cons, List.length_drop, List.length_take, List.length_map]; omega, by first | omega | (simp only [List.length_append, List.length_nil, List.length_cons, List.length_drop, List.length_take, List.length_map]; omega)⟩ rfl rfl ?_; intro v46 hv46
          refine WL.rd rfl rfl rfl (Rd.assign rfl rfl) ?_
          refine WL.nil ?_
          refine blockQ.normal ?_
          refine thenQ.normal ?_
          refine WC.region ?_
          refine WL.rd rfl rfl rfl (Rd.move rfl rfl) ?_
          refine WL.rd rfl rfl rfl (Rd.add rfl rfl rfl (by omega)) ?_
          refine WL.rd rfl rfl rfl (Rd.assign rfl rfl) ?_
          refine WL.nil ?_
          -- next1_1
          exact loopQ2.mk (i + 1) v46 ⟨by omega, by omega, h3', hv46⟩ (by omega) (by repeat (first | exact Sub.nil | refine Sub.cons rfl (by first | rfl | (congr 1; omega) | assumption) ?_)) (fun w h => by rw [ends_snoc]; exact (fun w h => OwnL.sat (by repeat (first | exact OwnL.refl | apply OwnL.take (by repeat (first | exact Take.head _ | apply Take.tail)) | apply OwnL.drop)) w (h.thin (SubL.mem (by repeat (first | exact SubL.refl | refine SubL.cons (by repeat (first | assumption | exact List.mem_cons_self | refine List.mem_cons_of_mem _ ?_)) ?_ | refine SubL.skip ?_))))) w h)
      · skip
        refine WC.heap (fun w h => h.shareA (by repeat (first | assumption | exact Take.head _ | apply Take.tail))) ?_
        refine WC.exit ?_
        refine thenQ.exit ?_
        refine loopQ2.exit ?_
        refine blockQ.exit ?_
        refine thenQ.normal ?_
        refine WC.seq ?_
        obtain ⟨c, hcc⟩ : ∃ c : Nat, c = (q.tmod ((cat l i).length + 1 : Nat) + (cat l i).length + 1).toNat % ((cat l i).length + 1) := ⟨_, rfl⟩
        have hcl2 : c ≤ (cat l i).length := by rw [hcc]; exact Nat.le_of_lt_succ (Nat.mod_lt _ (Nat.succ_pos _))
        have htm := tmod_in q (b := (cat l i).length + 1) (Nat.succ_pos _)
        refine WC.region ?_
        refine WL.rd rfl rfl rfl (Rd.move rfl rfl) ?_
        refine WL.rd rfl rfl rfl (Rd.move rfl rfl) ?_
        refine WL.rd rfl rfl rfl (Rd.slen (ts := #[]) (ty := 0) rfl rfl Tryd.underlying9) ?_
        refine WL.rd rfl rfl rfl (Rd.add rfl rfl rfl (by omega)) ?_
        refine WL.rd rfl rfl rfl (Rd.remI (b := (cat l i).length + 1) rfl rfl rfl (by omega) (by omega)) ?_
        refine WL.rd rfl rfl rfl (Rd.move rfl rfl) ?_
        refine WL.rd rfl rfl rfl (Rd.slen (ts := #[]) (ty := 0) rfl rfl Tryd.underlying9) ?_
        refine WL.rd rfl rfl rfl (Rd.add rfl rfl rfl (by omega)) ?_
        refine WL.rd rfl rfl rfl (Rd.add rfl rfl rfl (by omega)) ?_
        refine WL.rd rfl rfl rfl (Rd.move rfl rfl) ?_
        refine WL.rd rfl rfl rfl (Rd.slen (ts := #[]) (ty := 0) rfl rfl Tryd.underlying9) ?_
        refine WL.rd rfl rfl rfl (Rd.add rfl rfl rfl (by omega)) ?_
        refine WL.rd rfl rfl rfl (Rd.remN (a := (q.tmod ((cat l i).length + 1 : Nat) + (cat l i).length + 1).toNat) (b := (cat l i).length + 1) rfl rfl rfl (by omega) (by omega) (by omega)) ?_
        refine WL.say 59 (u := .int .i64 (c : Int)) rfl (by rw [hcc]) ?_
        refine WL.rd rfl rfl rfl (Rd.assign rfl rfl) ?_
        refine WL.nil ?_
        refine thenQ.normal ?_
        refine WC.seq ?_
        refine WC.region ?_
        refine WL.rd rfl rfl rfl (Rd.assign rfl rfl) ?_
        refine WL.nil ?_
        refine thenQ.normal ?_
        refine WC.seq ?_
        refine WC.block ?_
        refine WC.pick [8, 1, 5, 6] (by repeat (first | exact Pick.nil | apply Pick.cons rfl)) ?_
        refine WC.loop1o 1 (fun (n : Nat) => [(8, .int .i64 (n : Int))]) (fun (n : Nat) => n ≤ i ∧ (cat l n).length ≤ c) (fun (n : Nat) => i - n) (0) (by repeat (first | exact Split.zero | apply Split.succ)) ?hinv2 (by repeat (first | exact Sub.nil | refine Sub.cons rfl (by first | rfl | (congr 1; omega) | assumption) ?_)) (fun _ h => h) ?_
        case hinv2 =>
          exact ⟨Nat.zero_le _, Nat.zero_le _⟩
        intro n
        rintro ⟨n1, n2⟩
        refine WC.seq ?_
        refine WC.pick [1, 5, 6, 8] (by repeat (first | exact Pick.nil | apply Pick.cons rfl)) ?_
        refine WC.val 71 (.bool (decide (n < i ∧ (cat l (n + 1)).length ≤ c))) ?_ ?_
        · skip
          refine WC.region ?_
          refine WL.rd rfl rfl rfl (Rd.move rfl rfl) ?_
          refine WL.rd rfl rfl rfl (Rd.move rfl rfl) ?_
          refine WL.rd rfl rfl rfl ((by first | exact Rd.lenE rfl rfl Tryd.underlying41 (by repeat (first | assumption | exact List.mem_cons_self | refine List.mem_cons_of_mem _ ?_)) | exact Rd.lenA rfl rfl Tryd.underlying41 (by repeat (first | assumption | exact List.mem_cons_self | refine List.mem_cons_of_mem _ ?_)) | exact Rd.len rfl rfl Tryd.underlying41)) ?_
          refine WL.rd rfl rfl rfl (Rd.lss rfl rfl rfl) ?_
          refine WL.rd rfl rfl rfl (Rd.move rfl rfl) ?_
          refine WL.case 64 rfl (fun hg64 => ?_) (fun hg64 => ?_)
          · skip
            refine WL.rd_yes rfl rfl rfl rfl rfl rfl (Rd.move rfl rfl) ?_
            refine WL.rd_yes rfl rfl rfl rfl rfl rfl (Rd.move rfl rfl) ?_
            refine WL.rd_yes rfl rfl rfl rfl rfl rfl ((by first | exact Rd.idx1 (k := n) rfl S41 rfl rfl (by omega) (by repeat (first | assumption | exact List.mem_cons_self | refine List.mem_cons_of_mem _ ?_)) (by first | omega | (simp only [List.length_cons, List.length_nil, List.length_append, List.length_map]; omega)) | exact Rd.idxA1 (k := n) rfl S41 rfl rfl (by omega) (by repeat (first | assumption | exact List.mem_cons_self | refine List.mem_cons_of_mem _ ?_)) (by first | omega | (simp only [List.length_cons, List.length_nil, List.length_append, List.length_map]; omega)) | exact Rd.idxR1 (k := n) rfl S41 rfl rfl (by omega) (by omega))) ?_
            refine WL.rd_yes rfl rfl rfl rfl rfl rfl (Rd.get (k := n) rfl C3 rfl (by repeat (first | assumption | exact List.mem_cons_self | refine List.mem_cons_of_mem _ ?_)) (ends_get l (by omega))) ?_
            refine WL.rd_yes rfl rfl rfl rfl rfl rfl (Rd.move rfl rfl) ?_
            refine WL.rd_yes rfl rfl rfl rfl rfl rfl (Rd.leq rfl rfl rfl) ?_
            refine WL.rd rfl rfl rfl (Rd.pick_t rfl rfl rfl) ?_
            refine WL.nil ?_
            exact ⟨by repeat (first | exact Sub.nil | refine Sub.cons rfl (by first | rfl | (first | rfl | exact vb (by omega) | exact vb_t (by omega) | exact vb_f (by omega) | (simp [*]; done) | (simp_all; done))) ?_), by first | exact (fun _ h => h.thin (SubL.mem (by repeat (first | exact SubL.refl | refine SubL.cons (by repeat (first | assumption | exact List.mem_cons_self | refine List.mem_cons_of_mem _ ?_)) ?_ | refine SubL.skip ?_)))) | exact (fun w h => OwnL.sat (by repeat (first | exact OwnL.refl | apply OwnL.take (by repeat (first | exact Take.head _ | apply Take.tail)) | apply OwnL.drop)) w (h.thin (SubL.mem (by repeat (first | exact SubL.refl | refine SubL.cons (by repeat (first | assumption | exact List.mem_cons_self | refine List.mem_cons_of_mem _ ?_)) ?_ | refine SubL.skip ?_)))))⟩
          · skip
            refine WL.no rfl rfl rfl rfl rfl rfl ?_
            refine WL.no rfl rfl rfl rfl rfl rfl ?_
            refine WL.no rfl rfl rfl rfl rfl rfl ?_
            refine WL.no rfl rfl rfl rfl rfl rfl ?_
            refine WL.no rfl rfl rfl rfl rfl rfl ?_
            refine WL.no rfl rfl rfl rfl rfl rfl ?_
            refine WL.rd rfl rfl rfl (Rd.pick_f rfl rfl rfl) ?_
            refine WL.nil ?_
            exact ⟨by repeat (first | exact Sub.nil | refine Sub.cons rfl (by first | rfl | (first | rfl | exact vb (by omega) | exact vb_t (by omega) | exact vb_f (by omega) | (simp [*]; done) | (simp_all; done))) ?_), by first | exact (fun _ h => h.thin (SubL.mem (by repeat (first | exact SubL.refl | refine SubL.cons (by repeat (first | assumption | exact List.mem_cons_self | refine List.mem_cons_of_mem _ ?_)) ?_ | refine SubL.skip ?_)))) | exact (fun w h => OwnL.sat (by repeat (first | exact OwnL.refl | apply OwnL.take (by repeat (first | exact Take.head _ | apply Take.tail)) | apply OwnL.drop)) w (h.thin (SubL.mem (by repeat (first | exact SubL.refl | refine SubL.cons (by repeat (first | assumption | exact List.mem_cons_self | refine List.mem_cons_of_mem _ ?_)) ?_ | refine SubL.skip ?_)))))⟩
        · skip
          first | refine WC.ite rfl (fun hc4 => ?_) (fun hc4 => ?_) | refine WC.cond rfl (fun hc4 => ?_) (fun hc4 => ?_)
          · skip
            refine WC.skip ?_
            refine thenQ.normal ?_
            refine WC.block ?_
            refine WC.region ?_
            refine WL.rd rfl rfl rfl (Rd.move rfl rfl) ?_
            refine WL.rd rfl rfl rfl (Rd.add rfl rfl rfl (by omega)) ?_
            refine WL.rd rfl rfl rfl (Rd.assign rfl rfl) ?_
            refine WL.nil ?_
            refine blockQ.normal ?_
            -- next2_1
            exact loopQ1.mk (n + 1) ⟨by omega, by omega⟩ (by omega) (by repeat (first | exact Sub.nil | refine Sub.cons rfl (by first | rfl | (congr 1; omega) | assumption) ?_)) (fun w h => OwnL.sat (by repeat (first | exact OwnL.refl | apply OwnL.take (by repeat (first | exact Take.head _ | apply Take.tail)) | apply OwnL.drop)) w (h.thin (SubL.mem (by repeat (first | exact SubL.refl | refine SubL.cons (by repeat (first | assumption | exact List.mem_cons_self | refine List.mem_cons_of_mem _ ?_)) ?_ | refine SubL.skip ?_)))))
          · skip
            obtain ⟨p, hp1, hp2, hp3⟩ := cat_cut h3 n1 n2 hcl2 (fun h => by omega)
            have hpe : (nextF p).2.2.2 ≠ 0 := by rw [hp3]; split <;> decide
            have hw := whole_cat (l := l) (n := n) (fun j hj => h3 j (by omega)) hpe
            have hn0 : n = 0 → (cat l n).length = 0 := by rintro rfl; rfl
            have hcn := (cat_length (l := l) (n := n) (fun j hj => h3 j (by omega))).2
            refine WC.exit ?_
            refine thenQ.exit ?_
            refine loopQ1.exit ?_
            refine blockQ.exit ?_
            refine thenQ.normal ?_
            refine WC.seq ?_
            refine WC.region ?_
            refine WL.rd rfl rfl rfl (Rd.move rfl rfl) ?_
            refine WL.rd rfl rfl rfl (Rd.move rfl rfl) ?_
            refine WL.rd rfl rfl rfl (Rd.scut_h (hi := c) rfl Tryd.underlying9 rfl rfl (by omega) (by omega)) ?_
            refine WL.op rfl ?_
            refine OpW.call rfl rfl (by repeat (first | exact Evs.nil | apply Evs.cons rfl)) (by kernel_rfl) rfl rfl rfl ?_
            refine crcWhole_spec (by repeat (first | assumption | exact List.mem_cons_self | refine List.mem_cons_of_mem _ ?_)) (by rw [List.length_take]; omega) ?_
            rw [hp1, hw]
            refine WL.rd rfl rfl rfl (Rd.move rfl rfl) ?_
            refine WL.rd rfl rfl rfl (Rd.extract rfl rfl rfl) ?_
            refine WL.rd rfl rfl rfl (Rd.extract rfl rfl rfl) ?_
            refine WL.rd rfl rfl rfl (Rd.assign rfl rfl) ?_
            refine WL.rd rfl rfl rfl (Rd.assign rfl rfl) ?_
            refine WL.nil ?_
            refine thenQ.normal ?_
            refine WC.seq ?_
            refine WC.pick [1, 5, 6, 8, 9, 10] (by repeat (first | exact Pick.nil | apply Pick.cons rfl)) ?_
            refine WC.val 104 (.bool false) ?_ ?_
            · skip
              refine WC.region ?_
              refine WL.rd rfl rfl rfl (Rd.move rfl rfl) ?_
              refine WL.rd rfl rfl rfl (Rd.move rfl rfl) ?_
              refine WL.rd rfl rfl rfl (Rd.neq rfl rfl rfl) ?_
              refine WL.rd rfl rfl rfl (Rd.move rfl rfl) ?_
              refine WL.case 84 rfl (fun hg84 => ?_) (fun hg84 => ?_)
              · skip
                simp at hg84
              · skip
                refine WL.rd_yes rfl rfl rfl rfl rfl rfl (Rd.move rfl rfl) ?_
                refine WL.rd_yes rfl rfl rfl rfl rfl rfl (Rd.gtr rfl rfl rfl) ?_
                refine WL.rd_yes rfl rfl rfl rfl rfl rfl (Rd.move rfl rfl) ?_
                refine WL.case 87 rfl (fun hg87 => ?_) (fun hg87 => ?_)
                · skip
                  refine WL.rd_yes rfl rfl rfl rfl rfl rfl (Rd.move rfl rfl) ?_
                  refine WL.rd_yes rfl rfl rfl rfl rfl rfl (Rd.move rfl rfl) ?_
                  refine WL.rd_yes rfl rfl rfl rfl rfl rfl (Rd.move rfl rfl) ?_
                  refine WL.rd_yes rfl rfl rfl rfl rfl rfl (Rd.sub rfl rfl rfl (by omega)) ?_
                  refine WL.rd_yes rfl rfl rfl rfl rfl rfl ((by first | exact Rd.idx1 (k := n - 1) rfl S41 rfl rfl (by omega) (by repeat (first | assumption | exact List.mem_cons_self | refine List.mem_cons_of_mem _ ?_)) (by first | omega | (simp only [List.length_cons, List.length_nil, List.length_append, List.length_map]; omega)) | exact Rd.idxA1 (k := n - 1) rfl S41 rfl rfl (by omega) (by repeat (first | assumption | exact List.mem_cons_self | refine List.mem_cons_of_mem _ ?_)) (by first | omega | (simp only [List.length_cons, List.length_nil, List.length_append, List.length_map]; omega)) | exact Rd.idxR1 (k := n - 1) rfl S41 rfl rfl (by omega) (by omega))) ?_
                  refine WL.rd_yes rfl rfl rfl rfl rfl rfl (Rd.get (k := n - 1) rfl C3 rfl (by repeat (first | assumption | exact List.mem_cons_self | refine List.mem_cons_of_mem _ ?_)) (ends_get l (by omega))) ?_
                  refine WL.say 93 (u := .int .i64 ((cat l n).length : Int)) rfl (by rw [show n - 1 + 1 = n from by omega]) ?_
                  refine WL.rd_yes rfl rfl rfl rfl rfl rfl (Rd.neq rfl rfl rfl) ?_
                  refine WL.rd_yes rfl rfl rfl rfl rfl rfl (Rd.pick_t rfl rfl rfl) ?_
                  refine WL.rd rfl rfl rfl (Rd.pick_f rfl rfl rfl) ?_
                  refine WL.rd rfl rfl rfl (Rd.move rfl rfl) ?_
                  refine WL.case 97 rfl (fun hg97 => ?_) (fun hg97 => ?_)
                  · skip
                    refine WL.no rfl rfl rfl rfl rfl rfl ?_
                    refine WL.no rfl rfl rfl rfl rfl rfl ?_
                    refine WL.no rfl rfl rfl rfl rfl rfl ?_
                    refine WL.noU rfl rfl rfl rfl rfl rfl ?_
                    refine WL.noU rfl rfl rfl rfl rfl rfl ?_
                    refine WL.no rfl rfl rfl rfl rfl rfl ?_
                    refine WL.rd rfl rfl rfl (Rd.pick_t rfl rfl rfl) ?_
                    refine WL.nil ?_
                    exact ⟨by repeat (first | exact Sub.nil | refine Sub.cons rfl (by first | rfl | (first | exact congrArg Value.bool (decide_eq_false (by omega)) | (exfalso; omega))) ?_), by first | exact (fun _ h => h.thin (SubL.mem (by repeat (first | exact SubL.refl | refine SubL.cons (by repeat (first | assumption | exact List.mem_cons_self | refine List.mem_cons_of_mem _ ?_)) ?_ | refine SubL.skip ?_)))) | exact (fun w h => OwnL.sat (by repeat (first | exact OwnL.refl | apply OwnL.take (by repeat (first | exact Take.head _ | apply Take.tail)) | apply OwnL.drop)) w (h.thin (SubL.mem (by repeat (first | exact SubL.refl | refine SubL.cons (by repeat (first | assumption | exact List.mem_cons_self | refine List.mem_cons_of_mem _ ?_)) ?_ | refine SubL.skip ?_)))))⟩
                  · skip
                    refine WL.rd_yes rfl rfl rfl rfl rfl rfl (Rd.move rfl rfl) ?_
                    refine WL.rd_yes rfl rfl rfl rfl rfl rfl (Rd.eql rfl rfl rfl) ?_
                    refine WL.rd_yes rfl rfl rfl rfl rfl rfl (Rd.move rfl rfl) ?_
                    refine WL.case 100 rfl (fun hg100 => ?_) (fun hg100 => ?_)
                    · skip
                      refine WL.rd_yes rfl rfl rfl rfl rfl rfl (Rd.move rfl rfl) ?_
                      refine WL.rd_yes rfl rfl rfl rfl rfl rfl (Rd.neq rfl rfl rfl) ?_
                      refine WL.rd_yes rfl rfl rfl rfl rfl rfl (Rd.pick_t rfl rfl rfl) ?_
                      refine WL.rd rfl rfl rfl (Rd.pick_f rfl rfl rfl) ?_
                      refine WL.nil ?_
                      exact ⟨by repeat (first | exact Sub.nil | refine Sub.cons rfl (by first | rfl | (first | exact congrArg Value.bool (decide_eq_false (by omega)) | (exfalso; omega))) ?_), by first | exact (fun _ h => h.thin (SubL.mem (by repeat (first | exact SubL.refl | refine SubL.cons (by repeat (first | assumption | exact List.mem_cons_self | refine List.mem_cons_of_mem _ ?_)) ?_ | refine SubL.skip ?_)))) | exact (fun w h => OwnL.sat (by repeat (first | exact OwnL.refl | apply OwnL.take (by repeat (first | exact Take.head _ | apply Take.tail)) | apply OwnL.drop)) w (h.thin (SubL.mem (by repeat (first | exact SubL.refl | refine SubL.cons (by repeat (first | assumption | exact List.mem_cons_self | refine List.mem_cons_of_mem _ ?_)) ?_ | refine SubL.skip ?_)))))⟩
                    · skip
                      refine WL.no rfl rfl rfl rfl rfl rfl ?_
                      refine WL.no rfl rfl rfl rfl rfl rfl ?_
                      refine WL.rd_yes rfl rfl rfl rfl rfl rfl (Rd.pick_f rfl rfl rfl) ?_
                      refine WL.rd rfl rfl rfl (Rd.pick_f rfl rfl rfl) ?_
                      refine WL.nil ?_
                      exact ⟨by repeat (first | exact Sub.nil | refine Sub.cons rfl (by first | rfl | (first | exact congrArg Value.bool (decide_eq_false (by omega)) | (exfalso; omega))) ?_), by first | exact (fun _ h => h.thin (SubL.mem (by repeat (first | exact SubL.refl | refine SubL.cons (by repeat (first | assumption | exact List.mem_cons_self | refine List.mem_cons_of_mem _ ?_)) ?_ | refine SubL.skip ?_)))) | exact (fun w h => OwnL.sat (by repeat (first | exact OwnL.refl | apply OwnL.take (by repeat (first | exact Take.head _ | apply Take.tail)) | apply OwnL.drop)) w (h.thin (SubL.mem (by repeat (first | exact SubL.refl | refine SubL.cons (by repeat (first | assumption | exact List.mem_cons_self | refine List.mem_cons_of_mem _ ?_)) ?_ | refine SubL.skip ?_)))))⟩
                · skip
                  refine WL.no rfl rfl rfl rfl rfl rfl ?_
                  refine WL.no rfl rfl rfl rfl rfl rfl ?_
                  refine WL.no rfl rfl rfl rfl rfl rfl ?_
                  refine WL.no rfl rfl rfl rfl rfl rfl ?_
                  refine WL.no rfl rfl rfl rfl rfl rfl ?_
                  refine WL.no rfl rfl rfl rfl rfl rfl ?_
                  refine WL.no rfl rfl rfl rfl rfl rfl ?_
                  refine WL.rd_yes rfl rfl rfl rfl rfl rfl (Rd.pick_f rfl rfl rfl) ?_
                  refine WL.rd rfl rfl rfl (Rd.pick_f rfl rfl rfl) ?_
                  refine WL.rd rfl rfl rfl (Rd.move rfl rfl) ?_
                  refine WL.rd_yes rfl rfl rfl rfl rfl rfl (Rd.move rfl rfl) ?_
                  refine WL.rd_yes rfl rfl rfl rfl rfl rfl (Rd.eql rfl rfl rfl) ?_
                  refine WL.rd_yes rfl rfl rfl rfl rfl rfl (Rd.move rfl rfl) ?_
                  refine WL.case 100 rfl (fun hg100 => ?_) (fun hg100 => ?_)
                  · skip
                    refine WL.rd_yes rfl rfl rfl rfl rfl rfl (Rd.move rfl rfl) ?_
                    refine WL.rd_yes rfl rfl rfl rfl rfl rfl (Rd.neq rfl rfl rfl) ?_
                    refine WL.rd_yes rfl rfl rfl rfl rfl rfl (Rd.pick_t rfl rfl rfl) ?_
                    refine WL.rd rfl rfl rfl (Rd.pick_f rfl rfl rfl) ?_
                    refine WL.nil ?_
                    exact ⟨by repeat (first | exact Sub.nil | refine Sub.cons rfl (by first | rfl | (first | exact congrArg Value.bool (decide_eq_false (by omega)) | (exfalso; omega))) ?_), by first | exact (fun _ h => h.thin (SubL.mem (by repeat (first | exact SubL.refl | refine SubL.cons (by repeat (first | assumption | exact List.mem_cons_self | refine List.mem_cons_of_mem _ ?_)) ?_ | refine SubL.skip ?_)))) | exact (fun w h => OwnL.sat (by repeat (first | exact OwnL.refl | apply OwnL.take (by repeat (first | exact Take.head _ | apply Take.tail)) | apply OwnL.drop)) w (h.thin (SubL.mem (by repeat (first | exact SubL.refl | refine SubL.cons (by repeat (first | assumption | exact List.mem_cons_self | refine List.mem_cons_of_mem _ ?_)) ?_ | refine SubL.skip ?_)))))⟩
                  · skip
                    refine WL.no rfl rfl rfl rfl rfl rfl ?_
                    refine WL.no rfl rfl rfl rfl rfl rfl ?_
                    refine WL.rd_yes rfl rfl rfl rfl rfl rfl (Rd.pick_f rfl rfl rfl) ?_
                    refine WL.rd rfl rfl rfl (Rd.pick_f rfl rfl rfl) ?_
                    refine WL.nil ?_
                    exact ⟨by repeat (first | exact Sub.nil | refine Sub.cons rfl (by first | rfl | (first | exact congrArg Value.bool (decide_eq_false (by omega)) | (exfalso; omega))) ?_), by first | exact (fun _ h => h.thin (SubL.mem (by repeat (first | exact SubL.refl | refine SubL.cons (by repeat (first | assumption | exact List.mem_cons_self | refine List.mem_cons_of_mem _ ?_)) ?_ | refine SubL.skip ?_)))) | exact (fun w h => OwnL.sat (by repeat (first | exact OwnL.refl | apply OwnL.take (by repeat (first | exact Take.head _ | apply Take.tail)) | apply OwnL.drop)) w (h.thin (SubL.mem (by repeat (first | exact SubL.refl | refine SubL.cons (by repeat (first | assumption | exact List.mem_cons_self | refine List.mem_cons_of_mem _ ?_)) ?_ | refine SubL.skip ?_)))))⟩
            · skip
              first | refine WC.ite rfl (fun hc5 => ?_) (fun hc5 => ?_) | refine WC.cond rfl (fun hc5 => ?_) (fun hc5 => ?_)
              · skip
                cases hc5
              · skip
                refine WC.skip ?_
                refine thenQ.normal ?_
                refine WC.seq ?_
                refine WC.region ?_
                refine WL.rd rfl rfl rfl (Rd.move rfl rfl) ?_
                refine WL.rd rfl rfl rfl (Rd.move rfl rfl) ?_
                refine WL.rd rfl rfl rfl (Rd.move rfl rfl) ?_
                refine WL.rd rfl rfl rfl (Rd.scut_lh (lo := (cat l n).length) (hi := c) rfl Tryd.underlying9 rfl rfl rfl (by omega) (by omega) (by omega) (by omega)) ?_
                refine WL.say 109 (u := vs p) rfl (by rw [hp1, List.drop_left]) ?_
                refine WL.op rfl ?_
                refine OpW.call rfl rfl (by repeat (first | exact Evs.nil | apply Evs.cons rfl)) (by kernel_rfl) rfl rfl rfl ?_
                refine crcNext_spec (s := p) (by repeat (first | assumption | exact List.mem_cons_self | refine List.mem_cons_of_mem _ ?_)) (by omega) ?_
                rw [hp3]
                refine WL.rd rfl rfl rfl (Rd.move rfl rfl) ?_
                refine WL.rd rfl rfl rfl (Rd.extract rfl rfl rfl) ?_
                refine WL.rd rfl rfl rfl (Rd.extract rfl rfl rfl) ?_
                refine WL.rd rfl rfl rfl (Rd.extract rfl rfl rfl) ?_
                refine WL.rd rfl rfl rfl (Rd.extract rfl rfl rfl) ?_
                refine WL.rd rfl rfl rfl (Rd.assign rfl rfl) ?_
                refine WL.rd rfl rfl rfl (Rd.assign rfl rfl) ?_
                refine WL.rd rfl rfl rfl (Rd.assign rfl rfl) ?_
                refine WL.rd rfl rfl rfl (Rd.assign rfl rfl) ?_
                refine WL.nil ?_
                refine thenQ.normal ?_
                refine WC.seq ?_
                refine WC.region ?_
                refine WL.rd rfl rfl rfl (Rd.move rfl rfl) ?_
                refine WL.rd rfl rfl rfl (Rd.eql rfl rfl rfl) ?_
                refine WL.rd rfl rfl rfl (Rd.move rfl rfl) ?_
                refine WL.rd rfl rfl rfl (Rd.move rfl rfl) ?_
                refine WL.rd rfl rfl rfl (Rd.eql rfl rfl rfl) ?_
                refine WL.rd rfl rfl rfl (Rd.beql rfl rfl rfl Tryd.underlying4) ?_
                refine WL.say 120 (u := .bool (decide True)) rfl (by
                by_cases hz : p.length = 0
                · have e1 : ((cat l n).length : Int) = c := by omega
                  simp [hz, e1]
                · have e1 : ¬ ((cat l n).length : Int) = c := by omega
                  simp [hz, e1]) ?_
                refine WL.rd rfl rfl rfl (Rd.move rfl rfl) ?_
                refine WL.case 121 rfl (fun hg121 => ?_) (fun hg121 => ?_)
                · skip
                  refine WL.rd_yes rfl rfl rfl rfl rfl rfl (Rd.move rfl rfl) ?_
                  refine WL.rd_yes rfl rfl rfl rfl rfl rfl (Rd.eql rfl rfl rfl) ?_
                  refine WL.rd_yes rfl rfl rfl rfl rfl rfl (Rd.move rfl rfl) ?_
                  refine WL.case 124 rfl (fun hg124 => ?_) (fun hg124 => ?_)
                  · skip
                    refine WL.no rfl rfl rfl rfl rfl rfl ?_
                    refine WL.no rfl rfl rfl rfl rfl rfl ?_
                    refine WL.rd_yes rfl rfl rfl rfl rfl rfl (Rd.pick_t rfl rfl rfl) ?_
                    refine WL.rd rfl rfl rfl (Rd.pick_t rfl rfl rfl) ?_
                    refine WL.rd rfl rfl rfl (Rd.assign rfl rfl) ?_
                    refine WL.nil ?_
                    refine thenQ.normal ?_
                    -- ret_2
                    refine WC.heap (R' := R) (O' := O) (fun w h => OwnL.sat (by repeat (first | exact OwnL.refl | apply OwnL.take (by repeat (first | exact Take.head _ | apply Take.tail)) | apply OwnL.drop)) w (h.thin (SubL.mem (by repeat (first | exact SubL.refl | refine SubL.cons (by repeat (first | assumption | exact List.mem_cons_self | refine List.mem_cons_of_mem _ ?_)) ?_ | refine SubL.skip ?_))))) ?_
                    refine WC.ret (Ret.one Tryd.results7 rfl ?_)
                    exact hk
                  · skip
                    refine WL.rd_yes rfl rfl rfl rfl rfl rfl (Rd.move rfl rfl) ?_
                    refine WL.rd_yes rfl rfl rfl rfl rfl rfl (Rd.eql rfl rfl rfl) ?_
                    refine WL.rd_yes rfl rfl rfl rfl rfl rfl (Rd.pick_f rfl rfl rfl) ?_
                    refine WL.rd rfl rfl rfl (Rd.pick_t rfl rfl rfl) ?_
                    refine WL.rd rfl rfl rfl (Rd.assign rfl rfl) ?_
                    refine WL.nil ?_
                    refine thenQ.normal ?_
                    -- ret_3
                    refine WC.heap (R' := R) (O' := O) (fun w h => OwnL.sat (by repeat (first | exact OwnL.refl | apply OwnL.take (by repeat (first | exact Take.head _ | apply Take.tail)) | apply OwnL.drop)) w (h.thin (SubL.mem (by repeat (first | exact SubL.refl | refine SubL.cons (by repeat (first | assumption | exact List.mem_cons_self | refine List.mem_cons_of_mem _ ?_)) ?_ | refine SubL.skip ?_))))) ?_
                    refine WC.ret (Ret.one Tryd.results7 rfl ?_)
                    have hz : ¬ p.length = 0 := fun h => hg124 (by rw [if_pos h])
                    rw [if_neg hz]
                    exact hk
                · skip
                  simp at hg121
end Go.Proofs.YtcgaolaahhedmaaDoor
