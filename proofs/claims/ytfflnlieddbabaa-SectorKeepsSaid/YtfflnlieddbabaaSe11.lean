/-
  Layer 4: SectorLasts.
-/
import Derived.Test.YtfflnlieddbabaaSe10
namespace Go.Proofs.Ytfflnlieddbabaa
open Go Go.SL

abbrev VK := Value × List Int
def encK (x : VK) : List Value := [x.1]
def QK (w : World) (x : VK) : Prop := SlE (one vi) x.1 x.2 w ∧ x.2.length ≤ 17592186043904
theorem elsK : ElsW Try.prog 23 encK QK := by
  have h4 := elsW_slice Try.underlying23 (size := 1) (by kernel_rfl) (by decide) (elsW_int Try.underlying3) (fun _ => rfl)
  refine elsW_map (fun x => x) h4 (fun _ => rfl) (fun w a ⟨q4, q5, _⟩ => ⟨q4, ?_⟩)
  rw [show Try.prog.bytesOf 3 = 8 from by kernel_rfl] at q5
  show a.2.length ≤ _
  omega
theorem QK.stable {W : World} {a : VK} (w' : World) (h : QK W a) (ha : Agree (· ∈ owned []) W w') : QK w' a := ⟨h.1.stable w' ha, h.2⟩
theorem keep_of {ks : List VK} {i : Nat} {w : World} (hi : i < ks.length) (h : AllQ QK ks w) : SlE (one vi) ks[i]!.1 ks[i]!.2 w := by
  rw [getElem!_pos ks i hi]
  exact (h _ (List.getElem_mem _)).1
theorem keep_len {ks : List VK} {i : Nat} {w : World} (hi : i < ks.length) (h : AllQ QK ks w) : ks[i]!.2.length ≤ 17592186043904 := by
  rw [getElem!_pos ks i hi]
  exact (h _ (List.getElem_mem hi)).2
theorem short_spec {R : List RO} {O : List Own} {POST : Value → List RO → List Own → Prop} {x : List UInt8} (hk : POST (vs (x.take 512)) R O) : Fun Try.prog 10 #[vs x] R O POST := by
  refine Fun.enter (l := [_]) Try.func10 rfl Try.ntmps10 rfl (L0 := [(0, _)]) rfl ?_
  refine WC.seq ?_
  refine WC.region ?_
  refine WL.rd rfl rfl rfl (Rd.assign rfl rfl) ?_
  refine WL.nil ?_
  refine thenQ.normal ?_
  refine WC.seq ?_
  refine WC.region ?_
  refine WL.rd rfl rfl rfl (Rd.move rfl rfl) ?_
  refine WL.rd rfl rfl rfl (Rd.move rfl rfl) ?_
  refine WL.rd rfl rfl rfl (Rd.slen (ts := #[]) (ty := 0) rfl rfl Try.underlying9) ?_
  refine WL.rd rfl rfl rfl (Rd.min2 rfl rfl rfl) ?_
  refine WL.say 6 (u := .int .i64 ((min x.length 512 : Nat) : Int)) rfl (by congr 1; split <;> omega) ?_
  refine WL.rd rfl rfl rfl (Rd.scut_h (hi := min x.length 512) rfl Try.underlying9 rfl rfl rfl (by omega)) ?_
  refine WL.rd rfl rfl rfl (Rd.assign rfl rfl) ?_
  refine WL.nil ?_
  refine thenQ.normal ?_
  -- ret_1
  refine WC.ret (Ret.one Try.results10 rfl ?_)
  have e : x.take (min x.length 512) = x.take 512 := by
    rcases Nat.le_total x.length 512 with h | h
    · rw [Nat.min_eq_left h, List.take_of_length_le (Nat.le_refl _), List.take_of_length_le h]
    · rw [Nat.min_eq_right h]
  rw [e]
  exact hk
/-- One write after the other. -/
def putA (s : DSt) (a : Act) : DSt := putS s ((land .i64 a.2.1 3 : Nat) : Int) (a.2.2.1.take 512)
def putN (acts : List Act) (n : Nat) (s : DSt) : DSt := (List.range n).foldl (fun s i => putA s acts[i]!) s
theorem putN_succ (acts : List Act) (n : Nat) (s : DSt) : putN acts (n + 1) s = putA (putN acts n s) acts[n]! := by
  unfold putN
  rw [List.range_succ, List.foldl_append]; rfl
/-- Four sectors; the power is on. -/
structure On4 (s : DSt) : Prop where
  off : s.off = false
  left : s.left = 0
  len : s.lasts.length = 4
  at4 : ∀ w ∈ s.since, w.1 < 4
theorem On4.new : On4 (newS 4) := ⟨rfl, rfl, List.length_replicate, fun _ h => absurd h List.not_mem_nil⟩
theorem On4.step {s : DSt} (h : On4 s) : stepE s = 0 ∧ stepS s = { s with done := s.done + 1 } := by
  have h1 := stepE_on (s := s) (by rw [h.off]; exact Bool.false_ne_true) (by rw [h.left]; omega)
  refine ⟨h1.1, ?_⟩
  rw [h1.2, h.left]
theorem land3 (v : Int) : land .i64 v 3 < 4 := Nat.lt_succ_of_le (land_le .i64 v 3)
theorem On4.put {s : DSt} (h : On4 s) (a : Act) : putA s a = { s with done := s.done + 1, since := s.since ++ [(land .i64 a.2.1 3, fullE (a.2.2.1.take 512))] } := by
  have hb : badB s ((land .i64 a.2.1 3 : Nat) : Int) (a.2.2.1.take 512) = false := by
    have h3 := land3 a.2.1
    have h4 := h.len
    have h5 : (a.2.2.1.take 512).length ≤ 512 := by rw [List.length_take]; omega
    unfold badB hasB
    simp only [decide_eq_false_iff_not, decide_eq_true_eq]
    omega
  unfold putA putS
  rw [hb, h.step.1, h.step.2, if_neg Bool.false_ne_true, if_pos rfl]
  rfl
theorem On4.putOn {s : DSt} (h : On4 s) (a : Act) : On4 (putA s a) := by
  rw [h.put]
  exact ⟨h.off, h.left, h.len, fun w hw => by
    rcases List.mem_append.1 hw with hw | hw
    · exact h.at4 w hw
    · rw [List.mem_singleton] at hw; subst hw; exact land3 _⟩
theorem On4.putN {s : DSt} (h : On4 s) (acts : List Act) : ∀ n, On4 (Go.Proofs.Ytfflnlieddbabaa.putN acts n s)
  | 0 => h
  | n + 1 => by rw [putN_succ]; exact (h.putN acts n).putOn _
theorem failN_all {since : List (Nat × List UInt8)} {k1 k2 : List Int} {l : List (List UInt8)} (h1 : ∀ n, oddB k1 n = true) (h2 : ∀ n, oddB k2 n = true) : ∀ n, failN since k1 l n = failN since k2 l n
  | 0 => rfl
  | n + 1 => by rw [failN_succ, failN_succ, h1, h2, failN_all h1 h2 n]
theorem odd_13 (n : Nat) : oddB [1, 3] n = true := by
  unfold oddB
  have : n % 2 = 0 ∨ n % 2 = 1 := by omega
  rcases this with h | h <;> simp [h]
def crashN (ks : List VK) (n : Nat) (s : DSt) : DSt := (List.range n).foldl (fun s i => crashS s ks[i]!.2) s
theorem crashN_succ (ks : List VK) (n : Nat) (s : DSt) : crashN ks (n + 1) s = crashS (crashN ks n s) ks[n]!.2 := by
  unfold crashN
  rw [List.range_succ, List.foldl_append]; rfl
theorem crashN_is {s : DSt} (h0 : s.since = []) (h1 : s.off = false) (h2 : s.left = 0) (ks : List VK) : ∀ n, crashN ks n s = s
  | 0 => rfl
  | n + 1 => by
    rw [crashN_succ, crashN_is h0 h1 h2 ks n]
    obtain ⟨l, si, le, k, o, dn⟩ := s
    simp only at h0 h1 h2
    subst h0; subst h1; subst h2; rfl
theorem same_reads {s : DSt} (h : On4 s) {z : Nat} (hz : z ≤ 4) (hc : (z : Int) < 4) : (readE (crashS s [1, 3]) z).1 = (readE (syncS s) z).1 := by
  have e : (syncS s).since = [] ∧ (syncS s).off = false ∧ (syncS s).lasts = failN s.since [1] s.lasts s.since.length := by
    unfold syncS
    rw [h.step.1, h.step.2, if_pos rfl]
    exact ⟨rfl, h.off, rfl⟩
  have el : (crashS s [1, 3]).lasts = (syncS s).lasts := by
    rw [e.2.2]
    exact failN_all odd_13 odd_one _
  unfold readE lookN hasB
  rw [e.1, e.2.1, el]
  rfl
section
variable {R : List RO} {O : List Own} {POST : Value → List RO → List Own → Prop}
set_option maxHeartbeats 4000000 in
set_option maxRecDepth 20000 in
theorem lasts_spec {acts : List Act} {ks : List VK} {sv kv : Value} (hs : SlE encA sv acts ∈ R) (hkk : SlE encK kv ks ∈ R) (hqk : AllQ QK ks ∈ R) (hk : POST (.bool true) R O) : Fun Try.prog 4 #[sv, kv] R O POST := by
  refine Fun.enter (l := [_, _]) Try.func4 rfl Try.ntmps4 rfl (L0 := [(0, _), (1, _)]) rfl ?_
  refine WC.seq ?_
  refine WC.region ?_
  refine WL.rd rfl rfl rfl (Rd.assign rfl rfl) ?_
  refine WL.nil ?_
  refine thenQ.normal ?_
  refine WC.seq ?_
  refine WC.seq ?_
  refine WC.region ?_
  refine WL.op rfl ?_
  refine OpW.call rfl rfl (by repeat (first | exact Evs.nil | apply Evs.cons rfl)) (by kernel_rfl) rfl rfl rfl ?_
  refine speaks_spec ?_
  refine WL.say 18 (u := .bool (decide True)) rfl (by simp) ?_
  refine WL.rd rfl rfl rfl ((by first | exact Rd.notd rfl rfl | exact Rd.not rfl rfl)) ?_
  refine WL.nil ?_
  refine thenQ.normal ?_
  first | refine WC.ite rfl (fun hc1 => ?_) (fun hc1 => ?_) | refine WC.cond rfl (fun hc1 => ?_) (fun hc1 => ?_)
  · skip
    exact absurd trivial hc1
  · skip
    refine WC.skip ?_
    refine thenQ.normal ?_
    refine WC.seq ?_
    refine WC.region ?_
    refine WL.op rfl ?_
    refine OpW.call rfl rfl (by repeat (first | exact Evs.nil | apply Evs.cons rfl)) (by kernel_rfl) rfl rfl rfl ?_
    refine new_spec (fun h => by exfalso; omega) (fun n hn _ _ d V hv => ?_); obtain rfl : n = 4 := by omega
    refine WL.rd rfl rfl rfl (Rd.move rfl rfl) ?_
    refine WL.rd rfl rfl rfl (Rd.extract rfl rfl rfl) ?_
    refine WL.rd rfl rfl rfl (Rd.extract rfl rfl rfl) ?_
    refine WL.rd rfl rfl rfl (Rd.assign rfl rfl) ?_
    refine WL.rd rfl rfl rfl (Rd.assign rfl rfl) ?_
    refine WL.nil ?_
    refine thenQ.normal ?_
    refine WC.seq ?_
    refine WC.region ?_
    refine WL.op rfl ?_
    refine OpW.call rfl rfl (by repeat (first | exact Evs.nil | apply Evs.cons rfl)) (by kernel_rfl) rfl rfl rfl ?_
    refine new_spec (fun h => by exfalso; omega) (fun n hn _ _ e U hu => ?_); obtain rfl : n = 4 := by omega
    refine WL.rd rfl rfl rfl (Rd.move rfl rfl) ?_
    refine WL.rd rfl rfl rfl (Rd.extract rfl rfl rfl) ?_
    refine WL.rd rfl rfl rfl (Rd.extract rfl rfl rfl) ?_
    refine WL.rd rfl rfl rfl (Rd.assign rfl rfl) ?_
    refine WL.rd rfl rfl rfl (Rd.assign rfl rfl) ?_
    refine WL.nil ?_
    refine thenQ.normal ?_
    refine WC.seq ?_
    refine WC.seq ?_
    refine WC.region ?_
    refine WL.rd rfl rfl rfl (Rd.assign rfl rfl) ?_
    refine WL.nil ?_
    refine thenQ.normal ?_
    refine WC.block ?_
    refine WC.pick [9, 0, 1, 5, 7] (by repeat (first | exact Pick.nil | apply Pick.cons rfl)) ?_
    refine WC.loop3r 1 (fun (i : Nat) (V : DV) (U : DV) => [(9, .int .i64 (i : Int))]) (fun (i : Nat) (V : DV) (U : DV) => SlE (one vi) V.kv [] :: SlE (one vi) U.kv [] :: R) (fun (i : Nat) (V : DV) (U : DV) => dO d V (putN acts i (newS 4)) (dO e U (putN acts i (newS 4)) O)) (fun (i : Nat) (V : DV) (U : DV) => i ≤ 30 ∧ DOk (putN acts i (newS 4)) i ∧ VOk V (putN acts i (newS 4)) ∧ VOk U (putN acts i (newS 4)) ∧ (putN acts i (newS 4)).keep = []) (fun (i : Nat) (V : DV) (U : DV) => 30 - i) (0) (V) (U) (by repeat (first | exact Split.zero | apply Split.succ)) ?hinv1 (by repeat (first | exact Sub.nil | refine Sub.cons rfl (by first | rfl | (congr 1; omega) | assumption) ?_)) (fun w h => by exact (fun w h => OwnL.sat (by repeat (first | exact OwnL.refl | apply OwnL.take (by repeat (first | exact Take.head _ | apply Take.tail)) | apply OwnL.drop)) w (h.thin (SubL.mem (by repeat (first | exact SubL.refl | refine SubL.cons (by repeat (first | assumption | exact List.mem_cons_self | refine List.mem_cons_of_mem _ ?_)) ?_ | refine SubL.skip ?_))))) w h) ?_
    case hinv1 =>
      exact ⟨Nat.zero_le _, DOk.new (by omega), hv, hu, rfl⟩
    intro i V U
    rintro ⟨i1, ok, hv, hu, hkp⟩
    
    obtain ⟨s, hss⟩ : ∃ s, s = putN acts i (newS 4) := ⟨_, rfl⟩
    have hsn : putN acts (i + 1) (newS 4) = putA s acts[i]! := by rw [putN_succ, ← hss]
    have hs4 : On4 s := by rw [hss]; exact On4.new.putN acts i
    rw [← hss] at ok hv hu hkp ⊢
    refine WC.seq ?_
    refine WC.seq ?_
    refine WC.region ?_
    refine WL.rd rfl rfl rfl (Rd.move rfl rfl) ?_
    refine WL.rd rfl rfl rfl (Rd.move rfl rfl) ?_
    refine WL.rd rfl rfl rfl ((by first | exact Rd.lenE rfl rfl Try.underlying22 (by repeat (first | assumption | exact List.mem_cons_self | refine List.mem_cons_of_mem _ ?_)) | exact Rd.lenA rfl rfl Try.underlying22 (by repeat (first | assumption | exact List.mem_cons_self | refine List.mem_cons_of_mem _ ?_)) | exact Rd.len rfl rfl Try.underlying22)) ?_
    refine WL.rd rfl rfl rfl (Rd.lss rfl rfl rfl) ?_
    refine WL.rd rfl rfl rfl (Rd.move rfl rfl) ?_
    refine WL.case 32 rfl (fun hg32 => ?_) (fun hg32 => ?_)
    · skip
      refine WL.rd_yes rfl rfl rfl rfl rfl rfl (Rd.move rfl rfl) ?_
      refine WL.rd_yes rfl rfl rfl rfl rfl rfl (Rd.lss rfl rfl rfl) ?_
      refine WL.rd rfl rfl rfl (Rd.pick_t rfl rfl rfl) ?_
      refine WL.nil ?_
      refine thenQ.normal ?_
      first | refine WC.ite rfl (fun hc2 => ?_) (fun hc2 => ?_) | refine WC.cond rfl (fun hc2 => ?_) (fun hc2 => ?_)
      · skip
        refine WC.skip ?_
        refine thenQ.normal ?_
        refine WC.seq ?_
        refine WC.block ?_
        refine WC.seq ?_
        have hil : i < acts.length := by omega
        obtain ⟨a, ha⟩ : ∃ a, a = acts[i]! := ⟨_, rfl⟩
        have hkpp : (putA s a).keep = [] := by unfold putA; rw [put_keep, hkp]
        rw [← ha] at hsn
        refine WC.drawn (O) 14 rfl mixed ?_
        refine WD.take 0 rfl (by kernel_rfl) (Held.mk' (by repeat (first | exact SubL.refl | refine SubL.cons (by repeat (first | assumption | exact List.mem_cons_self | refine List.mem_cons_of_mem _ ?_)) ?_ | refine SubL.skip ?_)) (by repeat (first | exact OwnL.refl | apply OwnL.take (by repeat (first | exact Take.head _ | apply Take.tail)) | apply OwnL.drop))) rfl rfl rfl (Rd.move rfl rfl) ?_
        refine WD.take 1 rfl (by kernel_rfl) (Held.mk' (by repeat (first | exact SubL.refl | refine SubL.cons (by repeat (first | assumption | exact List.mem_cons_self | refine List.mem_cons_of_mem _ ?_)) ?_ | refine SubL.skip ?_)) (by repeat (first | exact OwnL.refl | apply OwnL.take (by repeat (first | exact Take.head _ | apply Take.tail)) | apply OwnL.drop))) rfl rfl rfl (Rd.move rfl rfl) ?_
        refine WD.take 2 rfl (by kernel_rfl) (Held.mk' (by repeat (first | exact SubL.refl | refine SubL.cons (by repeat (first | assumption | exact List.mem_cons_self | refine List.mem_cons_of_mem _ ?_)) ?_ | refine SubL.skip ?_)) (by repeat (first | exact OwnL.refl | apply OwnL.take (by repeat (first | exact Take.head _ | apply Take.tail)) | apply OwnL.drop))) rfl rfl rfl (Rd.move rfl rfl) ?_
        refine WD.take 3 rfl (by kernel_rfl) (Held.mk' (by repeat (first | exact SubL.refl | refine SubL.cons (by repeat (first | assumption | exact List.mem_cons_self | refine List.mem_cons_of_mem _ ?_)) ?_ | refine SubL.skip ?_)) (by repeat (first | exact OwnL.refl | apply OwnL.take (by repeat (first | exact Take.head _ | apply Take.tail)) | apply OwnL.drop))) rfl rfl rfl ((by first | exact Rd.idx rfl S22 rfl rfl rfl (by repeat (first | assumption | exact List.mem_cons_self | refine List.mem_cons_of_mem _ ?_)) (by first | omega | (simp only [List.length_cons, List.length_nil, List.length_append, List.length_map]; omega)) | exact Rd.idxA rfl S22 rfl rfl rfl (by repeat (first | assumption | exact List.mem_cons_self | refine List.mem_cons_of_mem _ ?_)) (by first | omega | (simp only [List.length_cons, List.length_nil, List.length_append, List.length_map]; omega)) | exact Rd.idxR rfl S22 rfl rfl rfl (by omega))) ?_
        refine WD.take 4 rfl (by kernel_rfl) (Held.mk' (by repeat (first | exact SubL.refl | refine SubL.cons (by repeat (first | assumption | exact List.mem_cons_self | refine List.mem_cons_of_mem _ ?_)) ?_ | refine SubL.skip ?_)) (by repeat (first | exact OwnL.refl | apply OwnL.take (by repeat (first | exact Take.head _ | apply Take.tail)) | apply OwnL.drop))) rfl rfl rfl ((by first | exact Rd.field rfl F31_1 rfl rfl | exact Rd.fieldE rfl F31_1 rfl (by repeat (first | assumption | exact List.mem_cons_self | refine List.mem_cons_of_mem _ ?_)) (by omega) | exact Rd.fieldA rfl F31_1 rfl (by repeat (first | assumption | exact List.mem_cons_self | refine List.mem_cons_of_mem _ ?_)) (by omega))) ?_
        refine WD.take 5 rfl (by kernel_rfl) (Held.mk' (by repeat (first | exact SubL.refl | refine SubL.cons (by repeat (first | assumption | exact List.mem_cons_self | refine List.mem_cons_of_mem _ ?_)) ?_ | refine SubL.skip ?_)) (by repeat (first | exact OwnL.refl | apply OwnL.take (by repeat (first | exact Take.head _ | apply Take.tail)) | apply OwnL.drop))) rfl rfl rfl ((by first | exact Rd.get rfl C3 rfl (by repeat (first | assumption | exact List.mem_cons_self | refine List.mem_cons_of_mem _ ?_)) (by first | assumption | rfl | exact get!_of_lt (by omega)) | exact Rd.getA rfl C3 rfl (by repeat (first | assumption | exact List.mem_cons_self | refine List.mem_cons_of_mem _ ?_)) (by first | assumption | rfl | exact get!_of_lt (by omega)) | exact Rd.row1 rfl C3 rfl (by repeat (first | assumption | exact List.mem_cons_self | refine List.mem_cons_of_mem _ ?_)) (by rfl) | exact Rd.getF rfl C3 rfl (by repeat (first | assumption | exact List.mem_cons_self | refine List.mem_cons_of_mem _ ?_)) (by intro x; first | rfl | (cases x; rfl) | (rcases x with ⟨_, _, _⟩; rfl) | (rcases x with ⟨_, _, _, _⟩; rfl)) rfl (by first | assumption | rfl | exact get!_of_lt (by omega)) (by rfl) | exact Rd.getFA rfl C3 rfl (by repeat (first | assumption | exact List.mem_cons_self | refine List.mem_cons_of_mem _ ?_)) (by intro x; first | rfl | (cases x; rfl) | (rcases x with ⟨_, _, _⟩; rfl) | (rcases x with ⟨_, _, _, _⟩; rfl)) rfl (by first | assumption | rfl | exact get!_of_lt (by omega)) (by rfl))) ?_
        refine WD.take 6 rfl (by kernel_rfl) (Held.mk' (by repeat (first | exact SubL.refl | refine SubL.cons (by repeat (first | assumption | exact List.mem_cons_self | refine List.mem_cons_of_mem _ ?_)) ?_ | refine SubL.skip ?_)) (by repeat (first | exact OwnL.refl | apply OwnL.take (by repeat (first | exact Take.head _ | apply Take.tail)) | apply OwnL.drop))) rfl rfl rfl (Rd.andm (m := 3) rfl rfl rfl rfl (by decide)) ?_
        refine WD.take 7 rfl (by kernel_rfl) (Held.mk' (by repeat (first | exact SubL.refl | refine SubL.cons (by repeat (first | assumption | exact List.mem_cons_self | refine List.mem_cons_of_mem _ ?_)) ?_ | refine SubL.skip ?_)) (by repeat (first | exact OwnL.refl | apply OwnL.take (by repeat (first | exact Take.head _ | apply Take.tail)) | apply OwnL.drop))) rfl rfl rfl (Rd.move rfl rfl) ?_
        refine WD.take 8 rfl (by kernel_rfl) (Held.mk' (by repeat (first | exact SubL.refl | refine SubL.cons (by repeat (first | assumption | exact List.mem_cons_self | refine List.mem_cons_of_mem _ ?_)) ?_ | refine SubL.skip ?_)) (by repeat (first | exact OwnL.refl | apply OwnL.take (by repeat (first | exact Take.head _ | apply Take.tail)) | apply OwnL.drop))) rfl rfl rfl (Rd.move rfl rfl) ?_
        refine WD.take 9 rfl (by kernel_rfl) (Held.mk' (by repeat (first | exact SubL.refl | refine SubL.cons (by repeat (first | assumption | exact List.mem_cons_self | refine List.mem_cons_of_mem _ ?_)) ?_ | refine SubL.skip ?_)) (by repeat (first | exact OwnL.refl | apply OwnL.take (by repeat (first | exact Take.head _ | apply Take.tail)) | apply OwnL.drop))) rfl rfl rfl ((by first | exact Rd.idx rfl S22 rfl rfl rfl (by repeat (first | assumption | exact List.mem_cons_self | refine List.mem_cons_of_mem _ ?_)) (by first | omega | (simp only [List.length_cons, List.length_nil, List.length_append, List.length_map]; omega)) | exact Rd.idxA rfl S22 rfl rfl rfl (by repeat (first | assumption | exact List.mem_cons_self | refine List.mem_cons_of_mem _ ?_)) (by first | omega | (simp only [List.length_cons, List.length_nil, List.length_append, List.length_map]; omega)) | exact Rd.idxR rfl S22 rfl rfl rfl (by omega))) ?_
        refine WD.take 10 rfl (by kernel_rfl) (Held.mk' (by repeat (first | exact SubL.refl | refine SubL.cons (by repeat (first | assumption | exact List.mem_cons_self | refine List.mem_cons_of_mem _ ?_)) ?_ | refine SubL.skip ?_)) (by repeat (first | exact OwnL.refl | apply OwnL.take (by repeat (first | exact Take.head _ | apply Take.tail)) | apply OwnL.drop))) rfl rfl rfl ((by first | exact Rd.field rfl F31_2 rfl rfl | exact Rd.fieldE rfl F31_2 rfl (by repeat (first | assumption | exact List.mem_cons_self | refine List.mem_cons_of_mem _ ?_)) (by omega) | exact Rd.fieldA rfl F31_2 rfl (by repeat (first | assumption | exact List.mem_cons_self | refine List.mem_cons_of_mem _ ?_)) (by omega))) ?_
        refine WD.take 11 rfl (by kernel_rfl) (Held.mk' (by repeat (first | exact SubL.refl | refine SubL.cons (by repeat (first | assumption | exact List.mem_cons_self | refine List.mem_cons_of_mem _ ?_)) ?_ | refine SubL.skip ?_)) (by repeat (first | exact OwnL.refl | apply OwnL.take (by repeat (first | exact Take.head _ | apply Take.tail)) | apply OwnL.drop))) rfl rfl rfl ((by first | exact Rd.get rfl C9 rfl (by repeat (first | assumption | exact List.mem_cons_self | refine List.mem_cons_of_mem _ ?_)) (by first | assumption | rfl | exact get!_of_lt (by omega)) | exact Rd.getA rfl C9 rfl (by repeat (first | assumption | exact List.mem_cons_self | refine List.mem_cons_of_mem _ ?_)) (by first | assumption | rfl | exact get!_of_lt (by omega)) | exact Rd.row1 rfl C9 rfl (by repeat (first | assumption | exact List.mem_cons_self | refine List.mem_cons_of_mem _ ?_)) (by rfl) | exact Rd.getF rfl C9 rfl (by repeat (first | assumption | exact List.mem_cons_self | refine List.mem_cons_of_mem _ ?_)) (by intro x; first | rfl | (cases x; rfl) | (rcases x with ⟨_, _, _⟩; rfl) | (rcases x with ⟨_, _, _, _⟩; rfl)) rfl (by first | assumption | rfl | exact get!_of_lt (by omega)) (by rfl) | exact Rd.getFA rfl C9 rfl (by repeat (first | assumption | exact List.mem_cons_self | refine List.mem_cons_of_mem _ ?_)) (by intro x; first | rfl | (cases x; rfl) | (rcases x with ⟨_, _, _⟩; rfl) | (rcases x with ⟨_, _, _, _⟩; rfl)) rfl (by first | assumption | rfl | exact get!_of_lt (by omega)) (by rfl))) ?_
        refine WD.one 12 rfl (by kernel_rfl) rfl ?_
        refine OpW.call rfl rfl (by repeat (first | exact Evs.nil | apply Evs.cons rfl)) (by kernel_rfl) rfl rfl rfl ?_
        refine short_spec ?_
        refine ⟨(Held.mk' (by repeat (first | exact SubL.refl | refine SubL.cons (by repeat (first | assumption | exact List.mem_cons_self | refine List.mem_cons_of_mem _ ?_)) ?_ | refine SubL.skip ?_)) (by repeat (first | exact OwnL.refl | apply OwnL.take (by repeat (first | exact Take.head _ | apply Take.tail)) | apply OwnL.drop))), ?_⟩
        refine WD.one 13 rfl (by kernel_rfl) rfl ?_
        refine OpW.call rfl rfl (by repeat (first | exact Evs.nil | apply Evs.cons rfl)) (by kernel_rfl) rfl rfl rfl ?_
        rw [← ha]
        refine write_spec (s := s) (dd := a.2.2.1.take 512) (i := ((land .i64 a.2.1 3 : Nat) : Int)) ok (by omega) hv (by rw [hkp]; exact (by repeat (first | assumption | exact List.mem_cons_self | refine List.mem_cons_of_mem _ ?_))) ?_; intro V1 hv1 hkv1
        refine ⟨(Held.mk' (by repeat (first | exact SubL.refl | refine SubL.cons (by repeat (first | assumption | exact List.mem_cons_self | refine List.mem_cons_of_mem _ ?_)) ?_ | refine SubL.skip ?_)) (by repeat (first | exact OwnL.refl | apply OwnL.take (by repeat (first | exact Take.head _ | apply Take.tail)) | apply OwnL.drop))), ?_⟩
        refine WD.done (by kernel_rfl) ?_
        refine thenQ.normal ?_
        refine WC.drawn (O) 14 rfl mixed ?_
        refine WD.take 0 rfl (by kernel_rfl) (Held.mk' (by repeat (first | exact SubL.refl | refine SubL.cons (by repeat (first | assumption | exact List.mem_cons_self | refine List.mem_cons_of_mem _ ?_)) ?_ | refine SubL.skip ?_)) (by repeat (first | exact OwnL.refl | apply OwnL.take (by repeat (first | exact Take.head _ | apply Take.tail)) | apply OwnL.drop))) rfl rfl rfl (Rd.move rfl rfl) ?_
        refine WD.take 1 rfl (by kernel_rfl) (Held.mk' (by repeat (first | exact SubL.refl | refine SubL.cons (by repeat (first | assumption | exact List.mem_cons_self | refine List.mem_cons_of_mem _ ?_)) ?_ | refine SubL.skip ?_)) (by repeat (first | exact OwnL.refl | apply OwnL.take (by repeat (first | exact Take.head _ | apply Take.tail)) | apply OwnL.drop))) rfl rfl rfl (Rd.move rfl rfl) ?_
        refine WD.take 2 rfl (by kernel_rfl) (Held.mk' (by repeat (first | exact SubL.refl | refine SubL.cons (by repeat (first | assumption | exact List.mem_cons_self | refine List.mem_cons_of_mem _ ?_)) ?_ | refine SubL.skip ?_)) (by repeat (first | exact OwnL.refl | apply OwnL.take (by repeat (first | exact Take.head _ | apply Take.tail)) | apply OwnL.drop))) rfl rfl rfl (Rd.move rfl rfl) ?_
        refine WD.take 3 rfl (by kernel_rfl) (Held.mk' (by repeat (first | exact SubL.refl | refine SubL.cons (by repeat (first | assumption | exact List.mem_cons_self | refine List.mem_cons_of_mem _ ?_)) ?_ | refine SubL.skip ?_)) (by repeat (first | exact OwnL.refl | apply OwnL.take (by repeat (first | exact Take.head _ | apply Take.tail)) | apply OwnL.drop))) rfl rfl rfl ((by first | exact Rd.idx rfl S22 rfl rfl rfl (by repeat (first | assumption | exact List.mem_cons_self | refine List.mem_cons_of_mem _ ?_)) (by first | omega | (simp only [List.length_cons, List.length_nil, List.length_append, List.length_map]; omega)) | exact Rd.idxA rfl S22 rfl rfl rfl (by repeat (first | assumption | exact List.mem_cons_self | refine List.mem_cons_of_mem _ ?_)) (by first | omega | (simp only [List.length_cons, List.length_nil, List.length_append, List.length_map]; omega)) | exact Rd.idxR rfl S22 rfl rfl rfl (by omega))) ?_
        refine WD.take 4 rfl (by kernel_rfl) (Held.mk' (by repeat (first | exact SubL.refl | refine SubL.cons (by repeat (first | assumption | exact List.mem_cons_self | refine List.mem_cons_of_mem _ ?_)) ?_ | refine SubL.skip ?_)) (by repeat (first | exact OwnL.refl | apply OwnL.take (by repeat (first | exact Take.head _ | apply Take.tail)) | apply OwnL.drop))) rfl rfl rfl ((by first | exact Rd.field rfl F31_1 rfl rfl | exact Rd.fieldE rfl F31_1 rfl (by repeat (first | assumption | exact List.mem_cons_self | refine List.mem_cons_of_mem _ ?_)) (by omega) | exact Rd.fieldA rfl F31_1 rfl (by repeat (first | assumption | exact List.mem_cons_self | refine List.mem_cons_of_mem _ ?_)) (by omega))) ?_
        refine WD.take 5 rfl (by kernel_rfl) (Held.mk' (by repeat (first | exact SubL.refl | refine SubL.cons (by repeat (first | assumption | exact List.mem_cons_self | refine List.mem_cons_of_mem _ ?_)) ?_ | refine SubL.skip ?_)) (by repeat (first | exact OwnL.refl | apply OwnL.take (by repeat (first | exact Take.head _ | apply Take.tail)) | apply OwnL.drop))) rfl rfl rfl ((by first | exact Rd.get rfl C3 rfl (by repeat (first | assumption | exact List.mem_cons_self | refine List.mem_cons_of_mem _ ?_)) (by first | assumption | rfl | exact get!_of_lt (by omega)) | exact Rd.getA rfl C3 rfl (by repeat (first | assumption | exact List.mem_cons_self | refine List.mem_cons_of_mem _ ?_)) (by first | assumption | rfl | exact get!_of_lt (by omega)) | exact Rd.row1 rfl C3 rfl (by repeat (first | assumption | exact List.mem_cons_self | refine List.mem_cons_of_mem _ ?_)) (by rfl) | exact Rd.getF rfl C3 rfl (by repeat (first | assumption | exact List.mem_cons_self | refine List.mem_cons_of_mem _ ?_)) (by intro x; first | rfl | (cases x; rfl) | (rcases x with ⟨_, _, _⟩; rfl) | (rcases x with ⟨_, _, _, _⟩; rfl)) rfl (by first | assumption | rfl | exact get!_of_lt (by omega)) (by rfl) | exact Rd.getFA rfl C3 rfl (by repeat (first | assumption | exact List.mem_cons_self | refine List.mem_cons_of_mem _ ?_)) (by intro x; first | rfl | (cases x; rfl) | (rcases x with ⟨_, _, _⟩; rfl) | (rcases x with ⟨_, _, _, _⟩; rfl)) rfl (by first | assumption | rfl | exact get!_of_lt (by omega)) (by rfl))) ?_
        refine WD.take 6 rfl (by kernel_rfl) (Held.mk' (by repeat (first | exact SubL.refl | refine SubL.cons (by repeat (first | assumption | exact List.mem_cons_self | refine List.mem_cons_of_mem _ ?_)) ?_ | refine SubL.skip ?_)) (by repeat (first | exact OwnL.refl | apply OwnL.take (by repeat (first | exact Take.head _ | apply Take.tail)) | apply OwnL.drop))) rfl rfl rfl (Rd.andm (m := 3) rfl rfl rfl rfl (by decide)) ?_
        refine WD.take 7 rfl (by kernel_rfl) (Held.mk' (by repeat (first | exact SubL.refl | refine SubL.cons (by repeat (first | assumption | exact List.mem_cons_self | refine List.mem_cons_of_mem _ ?_)) ?_ | refine SubL.skip ?_)) (by repeat (first | exact OwnL.refl | apply OwnL.take (by repeat (first | exact Take.head _ | apply Take.tail)) | apply OwnL.drop))) rfl rfl rfl (Rd.move rfl rfl) ?_
        refine WD.take 8 rfl (by kernel_rfl) (Held.mk' (by repeat (first | exact SubL.refl | refine SubL.cons (by repeat (first | assumption | exact List.mem_cons_self | refine List.mem_cons_of_mem _ ?_)) ?_ | refine SubL.skip ?_)) (by repeat (first | exact OwnL.refl | apply OwnL.take (by repeat (first | exact Take.head _ | apply Take.tail)) | apply OwnL.drop))) rfl rfl rfl (Rd.move rfl rfl) ?_
        refine WD.take 9 rfl (by kernel_rfl) (Held.mk' (by repeat (first | exact SubL.refl | refine SubL.cons (by repeat (first | assumption | exact List.mem_cons_self | refine List.mem_cons_of_mem _ ?_)) ?_ | refine SubL.skip ?_)) (by repeat (first | exact OwnL.refl | apply OwnL.take (by repeat (first | exact Take.head _ | apply Take.tail)) | apply OwnL.drop))) rfl rfl rfl ((by first | exact Rd.idx rfl S22 rfl rfl rfl (by repeat (first | assumption | exact List.mem_cons_self | refine List.mem_cons_of_mem _ ?_)) (by first | omega | (simp only [List.length_cons, List.length_nil, List.length_append, List.length_map]; omega)) | exact Rd.idxA rfl S22 rfl rfl rfl (by repeat (first | assumption | exact List.mem_cons_self | refine List.mem_cons_of_mem _ ?_)) (by first | omega | (simp only [List.length_cons, List.length_nil, List.length_append, List.length_map]; omega)) | exact Rd.idxR rfl S22 rfl rfl rfl (by omega))) ?_
        refine WD.take 10 rfl (by kernel_rfl) (Held.mk' (by repeat (first | exact SubL.refl | refine SubL.cons (by repeat (first | assumption | exact List.mem_cons_self | refine List.mem_cons_of_mem _ ?_)) ?_ | refine SubL.skip ?_)) (by repeat (first | exact OwnL.refl | apply OwnL.take (by repeat (first | exact Take.head _ | apply Take.tail)) | apply OwnL.drop))) rfl rfl rfl ((by first | exact Rd.field rfl F31_2 rfl rfl | exact Rd.fieldE rfl F31_2 rfl (by repeat (first | assumption | exact List.mem_cons_self | refine List.mem_cons_of_mem _ ?_)) (by omega) | exact Rd.fieldA rfl F31_2 rfl (by repeat (first | assumption | exact List.mem_cons_self | refine List.mem_cons_of_mem _ ?_)) (by omega))) ?_
        refine WD.take 11 rfl (by kernel_rfl) (Held.mk' (by repeat (first | exact SubL.refl | refine SubL.cons (by repeat (first | assumption | exact List.mem_cons_self | refine List.mem_cons_of_mem _ ?_)) ?_ | refine SubL.skip ?_)) (by repeat (first | exact OwnL.refl | apply OwnL.take (by repeat (first | exact Take.head _ | apply Take.tail)) | apply OwnL.drop))) rfl rfl rfl ((by first | exact Rd.get rfl C9 rfl (by repeat (first | assumption | exact List.mem_cons_self | refine List.mem_cons_of_mem _ ?_)) (by first | assumption | rfl | exact get!_of_lt (by omega)) | exact Rd.getA rfl C9 rfl (by repeat (first | assumption | exact List.mem_cons_self | refine List.mem_cons_of_mem _ ?_)) (by first | assumption | rfl | exact get!_of_lt (by omega)) | exact Rd.row1 rfl C9 rfl (by repeat (first | assumption | exact List.mem_cons_self | refine List.mem_cons_of_mem _ ?_)) (by rfl) | exact Rd.getF rfl C9 rfl (by repeat (first | assumption | exact List.mem_cons_self | refine List.mem_cons_of_mem _ ?_)) (by intro x; first | rfl | (cases x; rfl) | (rcases x with ⟨_, _, _⟩; rfl) | (rcases x with ⟨_, _, _, _⟩; rfl)) rfl (by first | assumption | rfl | exact get!_of_lt (by omega)) (by rfl) | exact Rd.getFA rfl C9 rfl (by repeat (first | assumption | exact List.mem_cons_self | refine List.mem_cons_of_mem _ ?_)) (by intro x; first | rfl | (cases x; rfl) | (rcases x with ⟨_, _, _⟩; rfl) | (rcases x with ⟨_, _, _, _⟩; rfl)) rfl (by first | assumption | rfl | exact get!_of_lt (by omega)) (by rfl))) ?_
        refine WD.one 12 rfl (by kernel_rfl) rfl ?_
        refine OpW.call rfl rfl (by repeat (first | exact Evs.nil | apply Evs.cons rfl)) (by kernel_rfl) rfl rfl rfl ?_
        refine short_spec ?_
        refine ⟨(Held.mk' (by repeat (first | exact SubL.refl | refine SubL.cons (by repeat (first | assumption | exact List.mem_cons_self | refine List.mem_cons_of_mem _ ?_)) ?_ | refine SubL.skip ?_)) (by repeat (first | exact OwnL.refl | apply OwnL.take (by repeat (first | exact Take.head _ | apply Take.tail)) | apply OwnL.drop))), ?_⟩
        refine WD.one 13 rfl (by kernel_rfl) rfl ?_
        refine OpW.call rfl rfl (by repeat (first | exact Evs.nil | apply Evs.cons rfl)) (by kernel_rfl) rfl rfl rfl ?_
        rw [← ha]
        refine Fun.heap (O' := dO e U s (dO d V1 (putA s a) O)) (fun w h => OwnL.sat (by repeat (first | exact OwnL.refl | apply OwnL.take (by repeat (first | exact Take.head _ | apply Take.tail)) | apply OwnL.drop)) w (h.thin (SubL.mem (by repeat (first | exact SubL.refl | refine SubL.cons (by repeat (first | assumption | exact List.mem_cons_self | refine List.mem_cons_of_mem _ ?_)) ?_ | refine SubL.skip ?_))))) ?_
        refine write_spec (s := s) (dd := a.2.2.1.take 512) (i := ((land .i64 a.2.1 3 : Nat) : Int)) ok (by omega) hu (by rw [hkp]; exact (by repeat (first | assumption | exact List.mem_cons_self | refine List.mem_cons_of_mem _ ?_))) ?_; intro U1 hu1 hku1
        refine ⟨(Held.mk' (by repeat (first | exact SubL.refl | refine SubL.cons (by repeat (first | assumption | exact List.mem_cons_self | refine List.mem_cons_of_mem _ ?_)) ?_ | refine SubL.skip ?_)) (by repeat (first | exact OwnL.refl | apply OwnL.take (by repeat (first | exact Take.head _ | apply Take.tail)) | apply OwnL.drop))), ?_⟩
        refine WD.done (by kernel_rfl) ?_
        refine blockQ.normal ?_
        refine thenQ.normal ?_
        refine WC.region ?_
        refine WL.rd rfl rfl rfl (Rd.move rfl rfl) ?_
        refine WL.rd rfl rfl rfl (Rd.add rfl rfl rfl (by omega)) ?_
        refine WL.rd rfl rfl rfl (Rd.assign rfl rfl) ?_
        refine WL.nil ?_
        -- next1_1
        exact loopQ3.mk (i + 1) V1 U1 (by rw [hsn]; exact ⟨by omega, ok.put _ _, hv1, hu1, hkpp⟩) (by omega) (by repeat (first | exact Sub.nil | refine Sub.cons rfl (by first | rfl | (congr 1; omega) | assumption) ?_)) (fun w h => by simp only [hkv1, hku1, hsn]; exact (fun w h => OwnL.sat (by repeat (first | exact OwnL.refl | apply OwnL.take (by repeat (first | exact Take.head _ | apply Take.tail)) | apply OwnL.drop)) w (h.thin (SubL.mem (by repeat (first | exact SubL.refl | refine SubL.cons (by repeat (first | assumption | exact List.mem_cons_self | refine List.mem_cons_of_mem _ ?_)) ?_ | refine SubL.skip ?_))))) w h)
      · skip
        refine WC.exit ?_
        refine thenQ.exit ?_
        refine loopQ3.exit ?_
        refine blockQ.exit ?_
        refine thenQ.normal ?_
        refine WC.seq ?_
        refine WC.region ?_
        refine WL.rd rfl rfl rfl (Rd.move rfl rfl) ?_
        refine WL.op rfl ?_
        refine OpW.call rfl rfl (by repeat (first | exact Evs.nil | apply Evs.cons rfl)) (by kernel_rfl) rfl rfl rfl ?_
        refine Fun.heap (O' := dO e U s (dO d V s O)) (fun w h => OwnL.sat (by repeat (first | exact OwnL.refl | apply OwnL.take (by repeat (first | exact Take.head _ | apply Take.tail)) | apply OwnL.drop)) w (h.thin (SubL.mem (by repeat (first | exact SubL.refl | refine SubL.cons (by repeat (first | assumption | exact List.mem_cons_self | refine List.mem_cons_of_mem _ ?_)) ?_ | refine SubL.skip ?_))))) ?_
        refine sync_spec ok (by omega) hu (by rw [hkp]; exact (by repeat (first | assumption | exact List.mem_cons_self | refine List.mem_cons_of_mem _ ?_))) ?_; intro U1 hu1 hku1
        refine WL.nil ?_
        refine thenQ.normal ?_
        refine WC.seq ?_
        refine WC.region ?_
        refine WL.rd rfl rfl rfl (Rd.move rfl rfl) ?_
        refine WL.op rfl ?_
        refine OpW.buildSl (ps := [(0, _), (1, _)]) rfl S23 (by repeat (first | exact Evs.nil | apply Evs.cons rfl)) rfl rfl (by repeat (first | exact CellsOf.nil | apply CellsOf.cons rfl)) (by kernel_rfl) rfl rfl rfl ?_; intro b69
        refine WL.heap (fun w h => Sat.shareRow (enc := one vi) (xs := [1, 3]) (m := 2) (by repeat (first | assumption | exact Take.head _ | apply Take.tail)) rfl rfl (by decide) h) ?_
        refine WL.op rfl ?_
        refine OpW.call rfl rfl (by repeat (first | exact Evs.nil | apply Evs.cons rfl)) (by kernel_rfl) rfl rfl rfl ?_
        refine Fun.heap (O' := dO d V s (dO e U1 (syncS s) O)) (fun w h => OwnL.sat (by repeat (first | exact OwnL.refl | apply OwnL.take (by repeat (first | exact Take.head _ | apply Take.tail)) | apply OwnL.drop)) w (h.thin (SubL.mem (by repeat (first | exact SubL.refl | refine SubL.cons (by repeat (first | assumption | exact List.mem_cons_self | refine List.mem_cons_of_mem _ ?_)) ?_ | refine SubL.skip ?_))))) ?_
        refine crash_spec (keep := [1, 3]) ok (by omega) hv (by repeat (first | assumption | exact List.mem_cons_self | refine List.mem_cons_of_mem _ ?_)) ?_; intro hv1
        refine WL.nil ?_
        refine thenQ.normal ?_
        refine WC.seq ?_
        refine WC.seq ?_
        refine WC.region ?_
        have okS := ok.sync
        have hsy : (syncS s).since = [] ∧ (syncS s).off = false ∧ (syncS s).left = 0 ∧ (syncS s).lasts = failN s.since [1] s.lasts s.since.length := by
          unfold syncS
          rw [hs4.step.1, hs4.step.2, if_pos rfl]
          exact ⟨rfl, hs4.off, hs4.left, rfl⟩
        refine WL.rd rfl rfl rfl (Rd.assign rfl rfl) ?_
        refine WL.nil ?_
        refine thenQ.normal ?_
        refine WC.block ?_
        refine WC.pick [10, 1, 5, 7] (by repeat (first | exact Pick.nil | apply Pick.cons rfl)) ?_
        refine WC.loop2r 1 (fun (k : Nat) (U : DV) => [(10, .int .i64 (k : Int))]) (fun (k : Nat) (U : DV) => R) (fun (k : Nat) (U : DV) => dO e U (syncS s) (dO d ⟨V.lv, .slice none 0 0, V.kv, none⟩ (crashS s [1, 3]) O)) (fun (k : Nat) (U : DV) => k ≤ 5 ∧ VOk U (syncS s)) (fun (k : Nat) (U : DV) => 5 - k) (0) (U1) (by repeat (first | exact Split.zero | apply Split.succ)) ?hinv2 (by repeat (first | exact Sub.nil | refine Sub.cons rfl (by first | rfl | (congr 1; omega) | assumption) ?_)) (fun w h => by exact (fun w h => OwnL.sat (by repeat (first | exact OwnL.refl | apply OwnL.take (by repeat (first | exact Take.head _ | apply Take.tail)) | apply OwnL.drop)) w (h.thin (SubL.mem (by repeat (first | exact SubL.refl | refine SubL.cons (by repeat (first | assumption | exact List.mem_cons_self | refine List.mem_cons_of_mem _ ?_)) ?_ | refine SubL.skip ?_))))) w h) ?_
        case hinv2 =>
          exact ⟨Nat.zero_le _, hu1⟩
        intro k U
        rintro ⟨j1, hu⟩
        refine WC.seq ?_
        refine WC.seq ?_
        refine WC.region ?_
        refine WL.rd rfl rfl rfl (Rd.move rfl rfl) ?_
        refine WL.rd rfl rfl rfl (Rd.move rfl rfl) ?_
        refine WL.rd rfl rfl rfl ((by first | exact Rd.lenE rfl rfl Try.underlying40 (by repeat (first | assumption | exact List.mem_cons_self | refine List.mem_cons_of_mem _ ?_)) | exact Rd.lenA rfl rfl Try.underlying40 (by repeat (first | assumption | exact List.mem_cons_self | refine List.mem_cons_of_mem _ ?_)) | exact Rd.len rfl rfl Try.underlying40)) ?_
        refine WL.rd rfl rfl rfl (Rd.lss rfl rfl rfl) ?_
        refine WL.rd rfl rfl rfl (Rd.move rfl rfl) ?_
        refine WL.case 75 rfl (fun hg75 => ?_) (fun hg75 => ?_)
        · skip
          refine WL.rd_yes rfl rfl rfl rfl rfl rfl (Rd.move rfl rfl) ?_
          refine WL.rd_yes rfl rfl rfl rfl rfl rfl (Rd.lss rfl rfl rfl) ?_
          refine WL.rd rfl rfl rfl (Rd.pick_t rfl rfl rfl) ?_
          refine WL.nil ?_
          refine thenQ.normal ?_
          first | refine WC.ite rfl (fun hc3 => ?_) (fun hc3 => ?_) | refine WC.cond rfl (fun hc3 => ?_) (fun hc3 => ?_)
          · skip
            refine WC.skip ?_
            refine thenQ.normal ?_
            refine WC.seq ?_
            refine WC.block ?_
            have hil : k < ks.length := by omega
            refine WC.know (p := AllQ QK ks) (by repeat (first | assumption | exact List.mem_cons_self | refine List.mem_cons_of_mem _ ?_)) (fun w h => keep_len hil h) fun hal => ?_
            refine WC.heap (fun w h => h.derive (q := SlE (one vi) ks[k]!.1 ks[k]!.2) (fun w hR => keep_of hil (hR (AllQ QK ks) (by repeat (first | assumption | exact List.mem_cons_self | refine List.mem_cons_of_mem _ ?_))))) ?_
            obtain ⟨q, hqq⟩ : ∃ q, q = ks[k]! := ⟨_, rfl⟩
            rw [← hqq] at hal ⊢
            obtain ⟨qv, ql⟩ := q
            have hal2 : ql.length ≤ 17592186043904 := hal
            refine WC.region ?_
            refine WL.rd rfl rfl rfl (Rd.move rfl rfl) ?_
            refine WL.op rfl ?_
            refine OpW.buildSl (ps := []) rfl S23 (by repeat (first | exact Evs.nil | apply Evs.cons rfl)) rfl rfl (by repeat (first | exact CellsOf.nil | apply CellsOf.cons rfl)) (by kernel_rfl) rfl rfl rfl ?_; intro b82
            refine WL.heap (fun w h => Sat.accRow (α := Int) (b := b82) (enc := one vi) (xs := []) (by repeat (first | assumption | exact Take.head _ | apply Take.tail)) rfl rfl (fun _ => rfl) (Nat.zero_le _) h) ?_
            refine WL.rd rfl rfl rfl (Rd.move rfl rfl) ?_
            refine WL.rd rfl rfl rfl (Rd.move rfl rfl) ?_
            refine WL.rd rfl rfl rfl ((by first | exact Rd.idx1 rfl S40 rfl rfl rfl (by repeat (first | assumption | exact List.mem_cons_self | refine List.mem_cons_of_mem _ ?_)) (by first | omega | (simp only [List.length_cons, List.length_nil, List.length_append, List.length_map]; omega)) | exact Rd.idxA1 rfl S40 rfl rfl rfl (by repeat (first | assumption | exact List.mem_cons_self | refine List.mem_cons_of_mem _ ?_)) (by first | omega | (simp only [List.length_cons, List.length_nil, List.length_append, List.length_map]; omega)) | exact Rd.idxR1 rfl S40 rfl rfl rfl (by omega))) ?_
            refine WL.rd rfl rfl rfl (Rd.get (k := k) (g := fun x : VK => x.1) (a := (qv, ql)) (xs := ks) rfl C23 rfl (by repeat (first | assumption | exact List.mem_cons_self | refine List.mem_cons_of_mem _ ?_)) (by rw [hqq]; exact get!_of_lt (by omega))) ?_
            refine WL.op rfl ?_
            refine OpW.appendE (enc := one vi) (ys := ql) (xs := []) rfl S23 Try.underlying23 rfl rfl (by repeat (first | assumption | exact Take.head _ | apply Take.tail)) (by repeat (first | assumption | exact List.mem_cons_self | refine List.mem_cons_of_mem _ ?_)) (by intro x; first | rfl | (cases x; rfl) | (rcases x with ⟨_, _, _⟩; rfl) | (rcases x with ⟨_, _, _, _⟩; rfl)) (by intro x; first | rfl | (cases x; rfl) | (rcases x with ⟨_, _, _⟩; rfl) | (rcases x with ⟨_, _, _, _⟩; rfl)) ⟨by simp only [maxLen, List.length_append, List.length_nil, List.length_cons, List.length_drop, List.length_take, List.length_map]; omega, by first | omega | (simp only [List.length_append, List.length_nil, List.length_cons, List.length_drop, List.length_take, List.length_map]; omega)⟩ rfl rfl ?_; intro v87 hv87
            rw [List.nil_append]
            refine WL.heap (fun w h => Sat.shareA (xs := ql) (by repeat (first | assumption | exact Take.head _ | apply Take.tail)) h) ?_
            refine WL.op rfl ?_
            refine OpW.call rfl rfl (by repeat (first | exact Evs.nil | apply Evs.cons rfl)) (by kernel_rfl) rfl rfl rfl ?_
            refine crash_spec (keep := ql) okS (by omega) hu (by repeat (first | assumption | exact List.mem_cons_self | refine List.mem_cons_of_mem _ ?_)) ?_; intro hu3; rw [show crashS (syncS s) ql = syncS s from crashN_is hsy.1 hsy.2.1 hsy.2.2.1 [(qv, ql)] 1] at *
            refine WL.nil ?_
            refine blockQ.normal ?_
            refine thenQ.normal ?_
            refine WC.region ?_
            refine WL.rd rfl rfl rfl (Rd.move rfl rfl) ?_
            refine WL.rd rfl rfl rfl (Rd.add rfl rfl rfl (by omega)) ?_
            have okS := ok.sync
            have hsy : (syncS s).since = [] ∧ (syncS s).off = false ∧ (syncS s).left = 0 ∧ (syncS s).lasts = failN s.since [1] s.lasts s.since.length := by
              unfold syncS
              rw [hs4.step.1, hs4.step.2, if_pos rfl]
              exact ⟨rfl, hs4.off, hs4.left, rfl⟩
            refine WL.rd rfl rfl rfl (Rd.assign rfl rfl) ?_
            refine WL.nil ?_
            -- next2_1
            exact loopQ2.mk (k + 1) _ ⟨by omega, hu3⟩ (by omega) (by repeat (first | exact Sub.nil | refine Sub.cons rfl (by first | rfl | (congr 1; omega) | assumption) ?_)) (fun w h => OwnL.sat (by repeat (first | exact OwnL.refl | apply OwnL.take (by repeat (first | exact Take.head _ | apply Take.tail)) | apply OwnL.drop)) w (h.thin (SubL.mem (by repeat (first | exact SubL.refl | refine SubL.cons (by repeat (first | assumption | exact List.mem_cons_self | refine List.mem_cons_of_mem _ ?_)) ?_ | refine SubL.skip ?_)))))
          · skip
            refine WC.exit ?_
            refine thenQ.exit ?_
            refine loopQ2.exit ?_
            refine blockQ.exit ?_
            refine thenQ.normal ?_
            refine WC.seq ?_
            refine WC.seq ?_
            refine WC.region ?_
            refine WL.rd rfl rfl rfl (Rd.assign rfl rfl) ?_
            refine WL.nil ?_
            refine thenQ.normal ?_
            refine WC.block ?_
            refine WC.pick [11, 5, 7] (by repeat (first | exact Pick.nil | apply Pick.cons rfl)) ?_
            refine WC.loop1o 1 (fun (z : Nat) => [(11, .int .i64 (z : Int))]) (fun (z : Nat) => z ≤ 4) (fun (z : Nat) => 4 - z) (0) (by repeat (first | exact Split.zero | apply Split.succ)) ?hinv3 (by repeat (first | exact Sub.nil | refine Sub.cons rfl (by first | rfl | (congr 1; omega) | assumption) ?_)) (fun _ h => h) ?_
            case hinv3 =>
              exact Nat.zero_le _
            intro z
            rintro z1
            refine WC.seq ?_
            refine WC.seq ?_
            refine WC.region ?_
            refine WL.rd rfl rfl rfl (Rd.move rfl rfl) ?_
            refine WL.rd rfl rfl rfl (Rd.lss rfl rfl rfl) ?_
            refine WL.nil ?_
            refine thenQ.normal ?_
            first | refine WC.ite rfl (fun hc4 => ?_) (fun hc4 => ?_) | refine WC.cond rfl (fun hc4 => ?_) (fun hc4 => ?_)
            · skip
              refine WC.skip ?_
              refine thenQ.normal ?_
              refine WC.seq ?_
              refine WC.block ?_
              refine WC.seq ?_
              refine WC.region ?_
              refine WL.rd rfl rfl rfl (Rd.move rfl rfl) ?_
              refine WL.rd rfl rfl rfl (Rd.move rfl rfl) ?_
              refine WL.op rfl ?_
              refine OpW.call rfl rfl (by repeat (first | exact Evs.nil | apply Evs.cons rfl)) (by kernel_rfl) rfl rfl rfl ?_
              refine Fun.heap (O' := dO d ⟨V.lv, .slice none 0 0, V.kv, none⟩ (crashS s [1, 3]) (dO e U (syncS s) O)) (fun w h => OwnL.sat (by repeat (first | exact OwnL.refl | apply OwnL.take (by repeat (first | exact Take.head _ | apply Take.tail)) | apply OwnL.drop)) w (h.thin (SubL.mem (by repeat (first | exact SubL.refl | refine SubL.cons (by repeat (first | assumption | exact List.mem_cons_self | refine List.mem_cons_of_mem _ ?_)) ?_ | refine SubL.skip ?_))))) ?_
              refine read_spec ((ok.crash _).mono (by omega)) ?_
              refine WL.rd rfl rfl rfl (Rd.move rfl rfl) ?_
              refine WL.rd rfl rfl rfl (Rd.extract rfl rfl rfl) ?_
              refine WL.rd rfl rfl rfl (Rd.extract rfl rfl rfl) ?_
              refine WL.rd rfl rfl rfl (Rd.assign rfl rfl) ?_
              refine WL.rd rfl rfl rfl (Rd.assign rfl rfl) ?_
              refine WL.nil ?_
              refine thenQ.normal ?_
              refine WC.seq ?_
              refine WC.region ?_
              refine WL.rd rfl rfl rfl (Rd.move rfl rfl) ?_
              refine WL.rd rfl rfl rfl (Rd.move rfl rfl) ?_
              refine WL.op rfl ?_
              refine OpW.call rfl rfl (by repeat (first | exact Evs.nil | apply Evs.cons rfl)) (by kernel_rfl) rfl rfl rfl ?_
              refine Fun.heap (O' := dO e U (syncS s) (dO d ⟨V.lv, .slice none 0 0, V.kv, none⟩ (crashS s [1, 3]) O)) (fun w h => OwnL.sat (by repeat (first | exact OwnL.refl | apply OwnL.take (by repeat (first | exact Take.head _ | apply Take.tail)) | apply OwnL.drop)) w (h.thin (SubL.mem (by repeat (first | exact SubL.refl | refine SubL.cons (by repeat (first | assumption | exact List.mem_cons_self | refine List.mem_cons_of_mem _ ?_)) ?_ | refine SubL.skip ?_))))) ?_
              refine read_spec (okS.mono (by omega)) ?_
              refine WL.rd rfl rfl rfl (Rd.move rfl rfl) ?_
              refine WL.rd rfl rfl rfl (Rd.extract rfl rfl rfl) ?_
              refine WL.rd rfl rfl rfl (Rd.extract rfl rfl rfl) ?_
              refine WL.rd rfl rfl rfl (Rd.assign rfl rfl) ?_
              refine WL.rd rfl rfl rfl (Rd.assign rfl rfl) ?_
              refine WL.nil ?_
              refine thenQ.normal ?_
              refine WC.seq ?_
              refine WC.region ?_
              refine WL.rd rfl rfl rfl (Rd.move rfl rfl) ?_
              refine WL.rd rfl rfl rfl (Rd.move rfl rfl) ?_
              refine WL.rd rfl rfl rfl (Rd.sneq rfl rfl rfl) ?_
              refine WL.nil ?_
              refine thenQ.normal ?_
              first | refine WC.ite rfl (fun hc5 => ?_) (fun hc5 => ?_) | refine WC.cond rfl (fun hc5 => ?_) (fun hc5 => ?_)
              · skip
                exact absurd (same_reads hs4 z1 hc4) hc5
              · skip
                refine WC.skip ?_
                refine blockQ.normal ?_
                refine thenQ.normal ?_
                refine WC.region ?_
                refine WL.rd rfl rfl rfl (Rd.move rfl rfl) ?_
                refine WL.rd rfl rfl rfl (Rd.add rfl rfl rfl (by omega)) ?_
                refine WL.rd rfl rfl rfl (Rd.assign rfl rfl) ?_
                refine WL.nil ?_
                -- next3_1
                exact loopQ1.mk (z + 1) (by omega) (by omega) (by repeat (first | exact Sub.nil | refine Sub.cons rfl (by first | rfl | (congr 1; omega) | assumption) ?_)) (fun w h => OwnL.sat (by repeat (first | exact OwnL.refl | apply OwnL.take (by repeat (first | exact Take.head _ | apply Take.tail)) | apply OwnL.drop)) w (h.thin (SubL.mem (by repeat (first | exact SubL.refl | refine SubL.cons (by repeat (first | assumption | exact List.mem_cons_self | refine List.mem_cons_of_mem _ ?_)) ?_ | refine SubL.skip ?_)))))
            · skip
              refine WC.exit ?_
              refine thenQ.exit ?_
              refine loopQ1.exit ?_
              refine blockQ.exit ?_
              refine thenQ.normal ?_
              refine WC.seq ?_
              refine WC.region ?_
              refine WL.rd rfl rfl rfl (Rd.move rfl rfl) ?_
              refine WL.op rfl ?_
              refine OpW.call rfl rfl (by repeat (first | exact Evs.nil | apply Evs.cons rfl)) (by kernel_rfl) rfl rfl rfl ?_
              refine counts_spec ?_
              refine WL.rd rfl rfl rfl (Rd.move rfl rfl) ?_
              refine WL.rd rfl rfl rfl (Rd.extract rfl rfl rfl) ?_
              refine WL.rd rfl rfl rfl (Rd.extract rfl rfl rfl) ?_
              refine WL.rd rfl rfl rfl (Rd.assign rfl rfl) ?_
              refine WL.rd rfl rfl rfl (Rd.assign rfl rfl) ?_
              refine WL.nil ?_
              refine thenQ.normal ?_
              refine WC.seq ?_
              refine WC.region ?_
              refine WL.rd rfl rfl rfl (Rd.move rfl rfl) ?_
              refine WL.rd rfl rfl rfl (Rd.eql rfl rfl rfl) ?_
              refine WL.say 114 (u := .bool true) rfl (by rw [hsy.1]; rfl) ?_
              refine WL.rd rfl rfl rfl (Rd.assign rfl rfl) ?_
              refine WL.nil ?_
              refine thenQ.normal ?_
              -- ret_1
              refine WC.heap (R' := R) (O' := O) (fun w h => OwnL.sat (by repeat (first | exact OwnL.refl | apply OwnL.take (by repeat (first | exact Take.head _ | apply Take.tail)) | apply OwnL.drop)) w (h.thin (SubL.mem (by repeat (first | exact SubL.refl | refine SubL.cons (by repeat (first | assumption | exact List.mem_cons_self | refine List.mem_cons_of_mem _ ?_)) ?_ | refine SubL.skip ?_))))) ?_
              refine WC.ret (Ret.one Try.results4 rfl ?_)
              exact hk
        · skip
          refine WL.no rfl rfl rfl rfl rfl rfl ?_
          refine WL.no rfl rfl rfl rfl rfl rfl ?_
          refine WL.rd rfl rfl rfl (Rd.pick_f rfl rfl rfl) ?_
          refine WL.nil ?_
          refine thenQ.normal ?_
          refine WC.no rfl ?_
          refine WC.exit ?_
          refine thenQ.exit ?_
          refine loopQ2.exit ?_
          refine blockQ.exit ?_
          refine thenQ.normal ?_
          refine WC.seq ?_
          refine WC.seq ?_
          refine WC.region ?_
          refine WL.rd rfl rfl rfl (Rd.assign rfl rfl) ?_
          refine WL.nil ?_
          refine thenQ.normal ?_
          refine WC.block ?_
          refine WC.pick [11, 5, 7] (by repeat (first | exact Pick.nil | apply Pick.cons rfl)) ?_
          refine WC.loop1o 1 (fun (z : Nat) => [(11, .int .i64 (z : Int))]) (fun (z : Nat) => z ≤ 4) (fun (z : Nat) => 4 - z) (0) (by repeat (first | exact Split.zero | apply Split.succ)) ?hinv3 (by repeat (first | exact Sub.nil | refine Sub.cons rfl (by first | rfl | (congr 1; omega) | assumption) ?_)) (fun _ h => h) ?_
          case hinv3 =>
            exact Nat.zero_le _
          intro z
          rintro z1
          refine WC.seq ?_
          refine WC.seq ?_
          refine WC.region ?_
          refine WL.rd rfl rfl rfl (Rd.move rfl rfl) ?_
          refine WL.rd rfl rfl rfl (Rd.lss rfl rfl rfl) ?_
          refine WL.nil ?_
          refine thenQ.normal ?_
          first | refine WC.ite rfl (fun hc4 => ?_) (fun hc4 => ?_) | refine WC.cond rfl (fun hc4 => ?_) (fun hc4 => ?_)
          · skip
            refine WC.skip ?_
            refine thenQ.normal ?_
            refine WC.seq ?_
            refine WC.block ?_
            refine WC.seq ?_
            refine WC.region ?_
            refine WL.rd rfl rfl rfl (Rd.move rfl rfl) ?_
            refine WL.rd rfl rfl rfl (Rd.move rfl rfl) ?_
            refine WL.op rfl ?_
            refine OpW.call rfl rfl (by repeat (first | exact Evs.nil | apply Evs.cons rfl)) (by kernel_rfl) rfl rfl rfl ?_
            refine Fun.heap (O' := dO d ⟨V.lv, .slice none 0 0, V.kv, none⟩ (crashS s [1, 3]) (dO e U (syncS s) O)) (fun w h => OwnL.sat (by repeat (first | exact OwnL.refl | apply OwnL.take (by repeat (first | exact Take.head _ | apply Take.tail)) | apply OwnL.drop)) w (h.thin (SubL.mem (by repeat (first | exact SubL.refl | refine SubL.cons (by repeat (first | assumption | exact List.mem_cons_self | refine List.mem_cons_of_mem _ ?_)) ?_ | refine SubL.skip ?_))))) ?_
            refine read_spec ((ok.crash _).mono (by omega)) ?_
            refine WL.rd rfl rfl rfl (Rd.move rfl rfl) ?_
            refine WL.rd rfl rfl rfl (Rd.extract rfl rfl rfl) ?_
            refine WL.rd rfl rfl rfl (Rd.extract rfl rfl rfl) ?_
            refine WL.rd rfl rfl rfl (Rd.assign rfl rfl) ?_
            refine WL.rd rfl rfl rfl (Rd.assign rfl rfl) ?_
            refine WL.nil ?_
            refine thenQ.normal ?_
            refine WC.seq ?_
            refine WC.region ?_
            refine WL.rd rfl rfl rfl (Rd.move rfl rfl) ?_
            refine WL.rd rfl rfl rfl (Rd.move rfl rfl) ?_
            refine WL.op rfl ?_
            refine OpW.call rfl rfl (by repeat (first | exact Evs.nil | apply Evs.cons rfl)) (by kernel_rfl) rfl rfl rfl ?_
            refine Fun.heap (O' := dO e U (syncS s) (dO d ⟨V.lv, .slice none 0 0, V.kv, none⟩ (crashS s [1, 3]) O)) (fun w h => OwnL.sat (by repeat (first | exact OwnL.refl | apply OwnL.take (by repeat (first | exact Take.head _ | apply Take.tail)) | apply OwnL.drop)) w (h.thin (SubL.mem (by repeat (first | exact SubL.refl | refine SubL.cons (by repeat (first | assumption | exact List.mem_cons_self | refine List.mem_cons_of_mem _ ?_)) ?_ | refine SubL.skip ?_))))) ?_
            refine read_spec (okS.mono (by omega)) ?_
            refine WL.rd rfl rfl rfl (Rd.move rfl rfl) ?_
            refine WL.rd rfl rfl rfl (Rd.extract rfl rfl rfl) ?_
            refine WL.rd rfl rfl rfl (Rd.extract rfl rfl rfl) ?_
            refine WL.rd rfl rfl rfl (Rd.assign rfl rfl) ?_
            refine WL.rd rfl rfl rfl (Rd.assign rfl rfl) ?_
            refine WL.nil ?_
            refine thenQ.normal ?_
            refine WC.seq ?_
            refine WC.region ?_
            refine WL.rd rfl rfl rfl (Rd.move rfl rfl) ?_
            refine WL.rd rfl rfl rfl (Rd.move rfl rfl) ?_
            refine WL.rd rfl rfl rfl (Rd.sneq rfl rfl rfl) ?_
            refine WL.nil ?_
            refine thenQ.normal ?_
            first | refine WC.ite rfl (fun hc5 => ?_) (fun hc5 => ?_) | refine WC.cond rfl (fun hc5 => ?_) (fun hc5 => ?_)
            · skip
              exact absurd (same_reads hs4 z1 hc4) hc5
            · skip
              refine WC.skip ?_
              refine blockQ.normal ?_
              refine thenQ.normal ?_
              refine WC.region ?_
              refine WL.rd rfl rfl rfl (Rd.move rfl rfl) ?_
              refine WL.rd rfl rfl rfl (Rd.add rfl rfl rfl (by omega)) ?_
              refine WL.rd rfl rfl rfl (Rd.assign rfl rfl) ?_
              refine WL.nil ?_
              -- next3_2
              exact loopQ1.mk (z + 1) (by omega) (by omega) (by repeat (first | exact Sub.nil | refine Sub.cons rfl (by first | rfl | (congr 1; omega) | assumption) ?_)) (fun w h => OwnL.sat (by repeat (first | exact OwnL.refl | apply OwnL.take (by repeat (first | exact Take.head _ | apply Take.tail)) | apply OwnL.drop)) w (h.thin (SubL.mem (by repeat (first | exact SubL.refl | refine SubL.cons (by repeat (first | assumption | exact List.mem_cons_self | refine List.mem_cons_of_mem _ ?_)) ?_ | refine SubL.skip ?_)))))
          · skip
            refine WC.exit ?_
            refine thenQ.exit ?_
            refine loopQ1.exit ?_
            refine blockQ.exit ?_
            refine thenQ.normal ?_
            refine WC.seq ?_
            refine WC.region ?_
            refine WL.rd rfl rfl rfl (Rd.move rfl rfl) ?_
            refine WL.op rfl ?_
            refine OpW.call rfl rfl (by repeat (first | exact Evs.nil | apply Evs.cons rfl)) (by kernel_rfl) rfl rfl rfl ?_
            refine counts_spec ?_
            refine WL.rd rfl rfl rfl (Rd.move rfl rfl) ?_
            refine WL.rd rfl rfl rfl (Rd.extract rfl rfl rfl) ?_
            refine WL.rd rfl rfl rfl (Rd.extract rfl rfl rfl) ?_
            refine WL.rd rfl rfl rfl (Rd.assign rfl rfl) ?_
            refine WL.rd rfl rfl rfl (Rd.assign rfl rfl) ?_
            refine WL.nil ?_
            refine thenQ.normal ?_
            refine WC.seq ?_
            refine WC.region ?_
            refine WL.rd rfl rfl rfl (Rd.move rfl rfl) ?_
            refine WL.rd rfl rfl rfl (Rd.eql rfl rfl rfl) ?_
            refine WL.say 114 (u := .bool true) rfl (by rw [hsy.1]; rfl) ?_
            refine WL.rd rfl rfl rfl (Rd.assign rfl rfl) ?_
            refine WL.nil ?_
            refine thenQ.normal ?_
            -- ret_2
            refine WC.heap (R' := R) (O' := O) (fun w h => OwnL.sat (by repeat (first | exact OwnL.refl | apply OwnL.take (by repeat (first | exact Take.head _ | apply Take.tail)) | apply OwnL.drop)) w (h.thin (SubL.mem (by repeat (first | exact SubL.refl | refine SubL.cons (by repeat (first | assumption | exact List.mem_cons_self | refine List.mem_cons_of_mem _ ?_)) ?_ | refine SubL.skip ?_))))) ?_
            refine WC.ret (Ret.one Try.results4 rfl ?_)
            exact hk
    · skip
      refine WL.no rfl rfl rfl rfl rfl rfl ?_
      refine WL.no rfl rfl rfl rfl rfl rfl ?_
      refine WL.rd rfl rfl rfl (Rd.pick_f rfl rfl rfl) ?_
      refine WL.nil ?_
      refine thenQ.normal ?_
      refine WC.no rfl ?_
      refine WC.exit ?_
      refine thenQ.exit ?_
      refine loopQ3.exit ?_
      refine blockQ.exit ?_
      refine thenQ.normal ?_
      refine WC.seq ?_
      refine WC.region ?_
      refine WL.rd rfl rfl rfl (Rd.move rfl rfl) ?_
      refine WL.op rfl ?_
      refine OpW.call rfl rfl (by repeat (first | exact Evs.nil | apply Evs.cons rfl)) (by kernel_rfl) rfl rfl rfl ?_
      refine Fun.heap (O' := dO e U s (dO d V s O)) (fun w h => OwnL.sat (by repeat (first | exact OwnL.refl | apply OwnL.take (by repeat (first | exact Take.head _ | apply Take.tail)) | apply OwnL.drop)) w (h.thin (SubL.mem (by repeat (first | exact SubL.refl | refine SubL.cons (by repeat (first | assumption | exact List.mem_cons_self | refine List.mem_cons_of_mem _ ?_)) ?_ | refine SubL.skip ?_))))) ?_
      refine sync_spec ok (by omega) hu (by rw [hkp]; exact (by repeat (first | assumption | exact List.mem_cons_self | refine List.mem_cons_of_mem _ ?_))) ?_; intro U1 hu1 hku1
      refine WL.nil ?_
      refine thenQ.normal ?_
      refine WC.seq ?_
      refine WC.region ?_
      refine WL.rd rfl rfl rfl (Rd.move rfl rfl) ?_
      refine WL.op rfl ?_
      refine OpW.buildSl (ps := [(0, _), (1, _)]) rfl S23 (by repeat (first | exact Evs.nil | apply Evs.cons rfl)) rfl rfl (by repeat (first | exact CellsOf.nil | apply CellsOf.cons rfl)) (by kernel_rfl) rfl rfl rfl ?_; intro b69
      refine WL.heap (fun w h => Sat.shareRow (enc := one vi) (xs := [1, 3]) (m := 2) (by repeat (first | assumption | exact Take.head _ | apply Take.tail)) rfl rfl (by decide) h) ?_
      refine WL.op rfl ?_
      refine OpW.call rfl rfl (by repeat (first | exact Evs.nil | apply Evs.cons rfl)) (by kernel_rfl) rfl rfl rfl ?_
      refine Fun.heap (O' := dO d V s (dO e U1 (syncS s) O)) (fun w h => OwnL.sat (by repeat (first | exact OwnL.refl | apply OwnL.take (by repeat (first | exact Take.head _ | apply Take.tail)) | apply OwnL.drop)) w (h.thin (SubL.mem (by repeat (first | exact SubL.refl | refine SubL.cons (by repeat (first | assumption | exact List.mem_cons_self | refine List.mem_cons_of_mem _ ?_)) ?_ | refine SubL.skip ?_))))) ?_
      refine crash_spec (keep := [1, 3]) ok (by omega) hv (by repeat (first | assumption | exact List.mem_cons_self | refine List.mem_cons_of_mem _ ?_)) ?_; intro hv1
      refine WL.nil ?_
      refine thenQ.normal ?_
      refine WC.seq ?_
      refine WC.seq ?_
      refine WC.region ?_
      have okS := ok.sync
      have hsy : (syncS s).since = [] ∧ (syncS s).off = false ∧ (syncS s).left = 0 ∧ (syncS s).lasts = failN s.since [1] s.lasts s.since.length := by
        unfold syncS
        rw [hs4.step.1, hs4.step.2, if_pos rfl]
        exact ⟨rfl, hs4.off, hs4.left, rfl⟩
      refine WL.rd rfl rfl rfl (Rd.assign rfl rfl) ?_
      refine WL.nil ?_
      refine thenQ.normal ?_
      refine WC.block ?_
      refine WC.pick [10, 1, 5, 7] (by repeat (first | exact Pick.nil | apply Pick.cons rfl)) ?_
      refine WC.loop2r 1 (fun (k : Nat) (U : DV) => [(10, .int .i64 (k : Int))]) (fun (k : Nat) (U : DV) => R) (fun (k : Nat) (U : DV) => dO e U (syncS s) (dO d ⟨V.lv, .slice none 0 0, V.kv, none⟩ (crashS s [1, 3]) O)) (fun (k : Nat) (U : DV) => k ≤ 5 ∧ VOk U (syncS s)) (fun (k : Nat) (U : DV) => 5 - k) (0) (U1) (by repeat (first | exact Split.zero | apply Split.succ)) ?hinv2 (by repeat (first | exact Sub.nil | refine Sub.cons rfl (by first | rfl | (congr 1; omega) | assumption) ?_)) (fun w h => by exact (fun w h => OwnL.sat (by repeat (first | exact OwnL.refl | apply OwnL.take (by repeat (first | exact Take.head _ | apply Take.tail)) | apply OwnL.drop)) w (h.thin (SubL.mem (by repeat (first | exact SubL.refl | refine SubL.cons (by repeat (first | assumption | exact List.mem_cons_self | refine List.mem_cons_of_mem _ ?_)) ?_ | refine SubL.skip ?_))))) w h) ?_
      case hinv2 =>
        exact ⟨Nat.zero_le _, hu1⟩
      intro k U
      rintro ⟨j1, hu⟩
      refine WC.seq ?_
      refine WC.seq ?_
      refine WC.region ?_
      refine WL.rd rfl rfl rfl (Rd.move rfl rfl) ?_
      refine WL.rd rfl rfl rfl (Rd.move rfl rfl) ?_
      refine WL.rd rfl rfl rfl ((by first | exact Rd.lenE rfl rfl Try.underlying40 (by repeat (first | assumption | exact List.mem_cons_self | refine List.mem_cons_of_mem _ ?_)) | exact Rd.lenA rfl rfl Try.underlying40 (by repeat (first | assumption | exact List.mem_cons_self | refine List.mem_cons_of_mem _ ?_)) | exact Rd.len rfl rfl Try.underlying40)) ?_
      refine WL.rd rfl rfl rfl (Rd.lss rfl rfl rfl) ?_
      refine WL.rd rfl rfl rfl (Rd.move rfl rfl) ?_
      refine WL.case 75 rfl (fun hg75 => ?_) (fun hg75 => ?_)
      · skip
        refine WL.rd_yes rfl rfl rfl rfl rfl rfl (Rd.move rfl rfl) ?_
        refine WL.rd_yes rfl rfl rfl rfl rfl rfl (Rd.lss rfl rfl rfl) ?_
        refine WL.rd rfl rfl rfl (Rd.pick_t rfl rfl rfl) ?_
        refine WL.nil ?_
        refine thenQ.normal ?_
        first | refine WC.ite rfl (fun hc3 => ?_) (fun hc3 => ?_) | refine WC.cond rfl (fun hc3 => ?_) (fun hc3 => ?_)
        · skip
          refine WC.skip ?_
          refine thenQ.normal ?_
          refine WC.seq ?_
          refine WC.block ?_
          have hil : k < ks.length := by omega
          refine WC.know (p := AllQ QK ks) (by repeat (first | assumption | exact List.mem_cons_self | refine List.mem_cons_of_mem _ ?_)) (fun w h => keep_len hil h) fun hal => ?_
          refine WC.heap (fun w h => h.derive (q := SlE (one vi) ks[k]!.1 ks[k]!.2) (fun w hR => keep_of hil (hR (AllQ QK ks) (by repeat (first | assumption | exact List.mem_cons_self | refine List.mem_cons_of_mem _ ?_))))) ?_
          obtain ⟨q, hqq⟩ : ∃ q, q = ks[k]! := ⟨_, rfl⟩
          rw [← hqq] at hal ⊢
          obtain ⟨qv, ql⟩ := q
          have hal2 : ql.length ≤ 17592186043904 := hal
          refine WC.region ?_
          refine WL.rd rfl rfl rfl (Rd.move rfl rfl) ?_
          refine WL.op rfl ?_
          refine OpW.buildSl (ps := []) rfl S23 (by repeat (first | exact Evs.nil | apply Evs.cons rfl)) rfl rfl (by repeat (first | exact CellsOf.nil | apply CellsOf.cons rfl)) (by kernel_rfl) rfl rfl rfl ?_; intro b82
          refine WL.heap (fun w h => Sat.accRow (α := Int) (b := b82) (enc := one vi) (xs := []) (by repeat (first | assumption | exact Take.head _ | apply Take.tail)) rfl rfl (fun _ => rfl) (Nat.zero_le _) h) ?_
          refine WL.rd rfl rfl rfl (Rd.move rfl rfl) ?_
          refine WL.rd rfl rfl rfl (Rd.move rfl rfl) ?_
          refine WL.rd rfl rfl rfl ((by first | exact Rd.idx1 rfl S40 rfl rfl rfl (by repeat (first | assumption | exact List.mem_cons_self | refine List.mem_cons_of_mem _ ?_)) (by first | omega | (simp only [List.length_cons, List.length_nil, List.length_append, List.length_map]; omega)) | exact Rd.idxA1 rfl S40 rfl rfl rfl (by repeat (first | assumption | exact List.mem_cons_self | refine List.mem_cons_of_mem _ ?_)) (by first | omega | (simp only [List.length_cons, List.length_nil, List.length_append, List.length_map]; omega)) | exact Rd.idxR1 rfl S40 rfl rfl rfl (by omega))) ?_
          refine WL.rd rfl rfl rfl (Rd.get (k := k) (g := fun x : VK => x.1) (a := (qv, ql)) (xs := ks) rfl C23 rfl (by repeat (first | assumption | exact List.mem_cons_self | refine List.mem_cons_of_mem _ ?_)) (by rw [hqq]; exact get!_of_lt (by omega))) ?_
          refine WL.op rfl ?_
          refine OpW.appendE (enc := one vi) (ys := ql) (xs := []) rfl S23 Try.underlying23 rfl rfl (by repeat (first | assumption | exact Take.head _ | apply Take.tail)) (by repeat (first | assumption | exact List.mem_cons_self | refine List.mem_cons_of_mem _ ?_)) (by intro x; first | rfl | (cases x; rfl) | (rcases x with ⟨_, _, _⟩; rfl) | (rcases x with ⟨_, _, _, _⟩; rfl)) (by intro x; first | rfl | (cases x; rfl) | (rcases x with ⟨_, _, _⟩; rfl) | (rcases x with ⟨_, _, _, _⟩; rfl)) ⟨by simp only [maxLen, List.length_append, List.length_nil, List.length_cons, List.length_drop, List.length_take, List.length_map]; omega, by first | omega | (simp only [List.length_append, List.length_nil, List.length_cons, List.length_drop, List.length_take, List.length_map]; omega)⟩ rfl rfl ?_; intro v87 hv87
          rw [List.nil_append]
          refine WL.heap (fun w h => Sat.shareA (xs := ql) (by repeat (first | assumption | exact Take.head _ | apply Take.tail)) h) ?_
          refine WL.op rfl ?_
          refine OpW.call rfl rfl (by repeat (first | exact Evs.nil | apply Evs.cons rfl)) (by kernel_rfl) rfl rfl rfl ?_
          refine crash_spec (keep := ql) okS (by omega) hu (by repeat (first | assumption | exact List.mem_cons_self | refine List.mem_cons_of_mem _ ?_)) ?_; intro hu3; rw [show crashS (syncS s) ql = syncS s from crashN_is hsy.1 hsy.2.1 hsy.2.2.1 [(qv, ql)] 1] at *
          refine WL.nil ?_
          refine blockQ.normal ?_
          refine thenQ.normal ?_
          refine WC.region ?_
          refine WL.rd rfl rfl rfl (Rd.move rfl rfl) ?_
          refine WL.rd rfl rfl rfl (Rd.add rfl rfl rfl (by omega)) ?_
          have okS := ok.sync
          have hsy : (syncS s).since = [] ∧ (syncS s).off = false ∧ (syncS s).left = 0 ∧ (syncS s).lasts = failN s.since [1] s.lasts s.since.length := by
            unfold syncS
            rw [hs4.step.1, hs4.step.2, if_pos rfl]
            exact ⟨rfl, hs4.off, hs4.left, rfl⟩
          refine WL.rd rfl rfl rfl (Rd.assign rfl rfl) ?_
          refine WL.nil ?_
          -- next2_2
          exact loopQ2.mk (k + 1) _ ⟨by omega, hu3⟩ (by omega) (by repeat (first | exact Sub.nil | refine Sub.cons rfl (by first | rfl | (congr 1; omega) | assumption) ?_)) (fun w h => OwnL.sat (by repeat (first | exact OwnL.refl | apply OwnL.take (by repeat (first | exact Take.head _ | apply Take.tail)) | apply OwnL.drop)) w (h.thin (SubL.mem (by repeat (first | exact SubL.refl | refine SubL.cons (by repeat (first | assumption | exact List.mem_cons_self | refine List.mem_cons_of_mem _ ?_)) ?_ | refine SubL.skip ?_)))))
        · skip
          refine WC.exit ?_
          refine thenQ.exit ?_
          refine loopQ2.exit ?_
          refine blockQ.exit ?_
          refine thenQ.normal ?_
          refine WC.seq ?_
          refine WC.seq ?_
          refine WC.region ?_
          refine WL.rd rfl rfl rfl (Rd.assign rfl rfl) ?_
          refine WL.nil ?_
          refine thenQ.normal ?_
          refine WC.block ?_
          refine WC.pick [11, 5, 7] (by repeat (first | exact Pick.nil | apply Pick.cons rfl)) ?_
          refine WC.loop1o 1 (fun (z : Nat) => [(11, .int .i64 (z : Int))]) (fun (z : Nat) => z ≤ 4) (fun (z : Nat) => 4 - z) (0) (by repeat (first | exact Split.zero | apply Split.succ)) ?hinv3 (by repeat (first | exact Sub.nil | refine Sub.cons rfl (by first | rfl | (congr 1; omega) | assumption) ?_)) (fun _ h => h) ?_
          case hinv3 =>
            exact Nat.zero_le _
          intro z
          rintro z1
          refine WC.seq ?_
          refine WC.seq ?_
          refine WC.region ?_
          refine WL.rd rfl rfl rfl (Rd.move rfl rfl) ?_
          refine WL.rd rfl rfl rfl (Rd.lss rfl rfl rfl) ?_
          refine WL.nil ?_
          refine thenQ.normal ?_
          first | refine WC.ite rfl (fun hc4 => ?_) (fun hc4 => ?_) | refine WC.cond rfl (fun hc4 => ?_) (fun hc4 => ?_)
          · skip
            refine WC.skip ?_
            refine thenQ.normal ?_
            refine WC.seq ?_
            refine WC.block ?_
            refine WC.seq ?_
            refine WC.region ?_
            refine WL.rd rfl rfl rfl (Rd.move rfl rfl) ?_
            refine WL.rd rfl rfl rfl (Rd.move rfl rfl) ?_
            refine WL.op rfl ?_
            refine OpW.call rfl rfl (by repeat (first | exact Evs.nil | apply Evs.cons rfl)) (by kernel_rfl) rfl rfl rfl ?_
            refine Fun.heap (O' := dO d ⟨V.lv, .slice none 0 0, V.kv, none⟩ (crashS s [1, 3]) (dO e U (syncS s) O)) (fun w h => OwnL.sat (by repeat (first | exact OwnL.refl | apply OwnL.take (by repeat (first | exact Take.head _ | apply Take.tail)) | apply OwnL.drop)) w (h.thin (SubL.mem (by repeat (first | exact SubL.refl | refine SubL.cons (by repeat (first | assumption | exact List.mem_cons_self | refine List.mem_cons_of_mem _ ?_)) ?_ | refine SubL.skip ?_))))) ?_
            refine read_spec ((ok.crash _).mono (by omega)) ?_
            refine WL.rd rfl rfl rfl (Rd.move rfl rfl) ?_
            refine WL.rd rfl rfl rfl (Rd.extract rfl rfl rfl) ?_
            refine WL.rd rfl rfl rfl (Rd.extract rfl rfl rfl) ?_
            refine WL.rd rfl rfl rfl (Rd.assign rfl rfl) ?_
            refine WL.rd rfl rfl rfl (Rd.assign rfl rfl) ?_
            refine WL.nil ?_
            refine thenQ.normal ?_
            refine WC.seq ?_
            refine WC.region ?_
            refine WL.rd rfl rfl rfl (Rd.move rfl rfl) ?_
            refine WL.rd rfl rfl rfl (Rd.move rfl rfl) ?_
            refine WL.op rfl ?_
            refine OpW.call rfl rfl (by repeat (first | exact Evs.nil | apply Evs.cons rfl)) (by kernel_rfl) rfl rfl rfl ?_
            refine Fun.heap (O' := dO e U (syncS s) (dO d ⟨V.lv, .slice none 0 0, V.kv, none⟩ (crashS s [1, 3]) O)) (fun w h => OwnL.sat (by repeat (first | exact OwnL.refl | apply OwnL.take (by repeat (first | exact Take.head _ | apply Take.tail)) | apply OwnL.drop)) w (h.thin (SubL.mem (by repeat (first | exact SubL.refl | refine SubL.cons (by repeat (first | assumption | exact List.mem_cons_self | refine List.mem_cons_of_mem _ ?_)) ?_ | refine SubL.skip ?_))))) ?_
            refine read_spec (okS.mono (by omega)) ?_
            refine WL.rd rfl rfl rfl (Rd.move rfl rfl) ?_
            refine WL.rd rfl rfl rfl (Rd.extract rfl rfl rfl) ?_
            refine WL.rd rfl rfl rfl (Rd.extract rfl rfl rfl) ?_
            refine WL.rd rfl rfl rfl (Rd.assign rfl rfl) ?_
            refine WL.rd rfl rfl rfl (Rd.assign rfl rfl) ?_
            refine WL.nil ?_
            refine thenQ.normal ?_
            refine WC.seq ?_
            refine WC.region ?_
            refine WL.rd rfl rfl rfl (Rd.move rfl rfl) ?_
            refine WL.rd rfl rfl rfl (Rd.move rfl rfl) ?_
            refine WL.rd rfl rfl rfl (Rd.sneq rfl rfl rfl) ?_
            refine WL.nil ?_
            refine thenQ.normal ?_
            first | refine WC.ite rfl (fun hc5 => ?_) (fun hc5 => ?_) | refine WC.cond rfl (fun hc5 => ?_) (fun hc5 => ?_)
            · skip
              exact absurd (same_reads hs4 z1 hc4) hc5
            · skip
              refine WC.skip ?_
              refine blockQ.normal ?_
              refine thenQ.normal ?_
              refine WC.region ?_
              refine WL.rd rfl rfl rfl (Rd.move rfl rfl) ?_
              refine WL.rd rfl rfl rfl (Rd.add rfl rfl rfl (by omega)) ?_
              refine WL.rd rfl rfl rfl (Rd.assign rfl rfl) ?_
              refine WL.nil ?_
              -- next3_3
              exact loopQ1.mk (z + 1) (by omega) (by omega) (by repeat (first | exact Sub.nil | refine Sub.cons rfl (by first | rfl | (congr 1; omega) | assumption) ?_)) (fun w h => OwnL.sat (by repeat (first | exact OwnL.refl | apply OwnL.take (by repeat (first | exact Take.head _ | apply Take.tail)) | apply OwnL.drop)) w (h.thin (SubL.mem (by repeat (first | exact SubL.refl | refine SubL.cons (by repeat (first | assumption | exact List.mem_cons_self | refine List.mem_cons_of_mem _ ?_)) ?_ | refine SubL.skip ?_)))))
          · skip
            refine WC.exit ?_
            refine thenQ.exit ?_
            refine loopQ1.exit ?_
            refine blockQ.exit ?_
            refine thenQ.normal ?_
            refine WC.seq ?_
            refine WC.region ?_
            refine WL.rd rfl rfl rfl (Rd.move rfl rfl) ?_
            refine WL.op rfl ?_
            refine OpW.call rfl rfl (by repeat (first | exact Evs.nil | apply Evs.cons rfl)) (by kernel_rfl) rfl rfl rfl ?_
            refine counts_spec ?_
            refine WL.rd rfl rfl rfl (Rd.move rfl rfl) ?_
            refine WL.rd rfl rfl rfl (Rd.extract rfl rfl rfl) ?_
            refine WL.rd rfl rfl rfl (Rd.extract rfl rfl rfl) ?_
            refine WL.rd rfl rfl rfl (Rd.assign rfl rfl) ?_
            refine WL.rd rfl rfl rfl (Rd.assign rfl rfl) ?_
            refine WL.nil ?_
            refine thenQ.normal ?_
            refine WC.seq ?_
            refine WC.region ?_
            refine WL.rd rfl rfl rfl (Rd.move rfl rfl) ?_
            refine WL.rd rfl rfl rfl (Rd.eql rfl rfl rfl) ?_
            refine WL.say 114 (u := .bool true) rfl (by rw [hsy.1]; rfl) ?_
            refine WL.rd rfl rfl rfl (Rd.assign rfl rfl) ?_
            refine WL.nil ?_
            refine thenQ.normal ?_
            -- ret_3
            refine WC.heap (R' := R) (O' := O) (fun w h => OwnL.sat (by repeat (first | exact OwnL.refl | apply OwnL.take (by repeat (first | exact Take.head _ | apply Take.tail)) | apply OwnL.drop)) w (h.thin (SubL.mem (by repeat (first | exact SubL.refl | refine SubL.cons (by repeat (first | assumption | exact List.mem_cons_self | refine List.mem_cons_of_mem _ ?_)) ?_ | refine SubL.skip ?_))))) ?_
            refine WC.ret (Ret.one Try.results4 rfl ?_)
            exact hk
      · skip
        refine WL.no rfl rfl rfl rfl rfl rfl ?_
        refine WL.no rfl rfl rfl rfl rfl rfl ?_
        refine WL.rd rfl rfl rfl (Rd.pick_f rfl rfl rfl) ?_
        refine WL.nil ?_
        refine thenQ.normal ?_
        refine WC.no rfl ?_
        refine WC.exit ?_
        refine thenQ.exit ?_
        refine loopQ2.exit ?_
        refine blockQ.exit ?_
        refine thenQ.normal ?_
        refine WC.seq ?_
        refine WC.seq ?_
        refine WC.region ?_
        refine WL.rd rfl rfl rfl (Rd.assign rfl rfl) ?_
        refine WL.nil ?_
        refine thenQ.normal ?_
        refine WC.block ?_
        refine WC.pick [11, 5, 7] (by repeat (first | exact Pick.nil | apply Pick.cons rfl)) ?_
        refine WC.loop1o 1 (fun (z : Nat) => [(11, .int .i64 (z : Int))]) (fun (z : Nat) => z ≤ 4) (fun (z : Nat) => 4 - z) (0) (by repeat (first | exact Split.zero | apply Split.succ)) ?hinv3 (by repeat (first | exact Sub.nil | refine Sub.cons rfl (by first | rfl | (congr 1; omega) | assumption) ?_)) (fun _ h => h) ?_
        case hinv3 =>
          exact Nat.zero_le _
        intro z
        rintro z1
        refine WC.seq ?_
        refine WC.seq ?_
        refine WC.region ?_
        refine WL.rd rfl rfl rfl (Rd.move rfl rfl) ?_
        refine WL.rd rfl rfl rfl (Rd.lss rfl rfl rfl) ?_
        refine WL.nil ?_
        refine thenQ.normal ?_
        first | refine WC.ite rfl (fun hc4 => ?_) (fun hc4 => ?_) | refine WC.cond rfl (fun hc4 => ?_) (fun hc4 => ?_)
        · skip
          refine WC.skip ?_
          refine thenQ.normal ?_
          refine WC.seq ?_
          refine WC.block ?_
          refine WC.seq ?_
          refine WC.region ?_
          refine WL.rd rfl rfl rfl (Rd.move rfl rfl) ?_
          refine WL.rd rfl rfl rfl (Rd.move rfl rfl) ?_
          refine WL.op rfl ?_
          refine OpW.call rfl rfl (by repeat (first | exact Evs.nil | apply Evs.cons rfl)) (by kernel_rfl) rfl rfl rfl ?_
          refine Fun.heap (O' := dO d ⟨V.lv, .slice none 0 0, V.kv, none⟩ (crashS s [1, 3]) (dO e U (syncS s) O)) (fun w h => OwnL.sat (by repeat (first | exact OwnL.refl | apply OwnL.take (by repeat (first | exact Take.head _ | apply Take.tail)) | apply OwnL.drop)) w (h.thin (SubL.mem (by repeat (first | exact SubL.refl | refine SubL.cons (by repeat (first | assumption | exact List.mem_cons_self | refine List.mem_cons_of_mem _ ?_)) ?_ | refine SubL.skip ?_))))) ?_
          refine read_spec ((ok.crash _).mono (by omega)) ?_
          refine WL.rd rfl rfl rfl (Rd.move rfl rfl) ?_
          refine WL.rd rfl rfl rfl (Rd.extract rfl rfl rfl) ?_
          refine WL.rd rfl rfl rfl (Rd.extract rfl rfl rfl) ?_
          refine WL.rd rfl rfl rfl (Rd.assign rfl rfl) ?_
          refine WL.rd rfl rfl rfl (Rd.assign rfl rfl) ?_
          refine WL.nil ?_
          refine thenQ.normal ?_
          refine WC.seq ?_
          refine WC.region ?_
          refine WL.rd rfl rfl rfl (Rd.move rfl rfl) ?_
          refine WL.rd rfl rfl rfl (Rd.move rfl rfl) ?_
          refine WL.op rfl ?_
          refine OpW.call rfl rfl (by repeat (first | exact Evs.nil | apply Evs.cons rfl)) (by kernel_rfl) rfl rfl rfl ?_
          refine Fun.heap (O' := dO e U (syncS s) (dO d ⟨V.lv, .slice none 0 0, V.kv, none⟩ (crashS s [1, 3]) O)) (fun w h => OwnL.sat (by repeat (first | exact OwnL.refl | apply OwnL.take (by repeat (first | exact Take.head _ | apply Take.tail)) | apply OwnL.drop)) w (h.thin (SubL.mem (by repeat (first | exact SubL.refl | refine SubL.cons (by repeat (first | assumption | exact List.mem_cons_self | refine List.mem_cons_of_mem _ ?_)) ?_ | refine SubL.skip ?_))))) ?_
          refine read_spec (okS.mono (by omega)) ?_
          refine WL.rd rfl rfl rfl (Rd.move rfl rfl) ?_
          refine WL.rd rfl rfl rfl (Rd.extract rfl rfl rfl) ?_
          refine WL.rd rfl rfl rfl (Rd.extract rfl rfl rfl) ?_
          refine WL.rd rfl rfl rfl (Rd.assign rfl rfl) ?_
          refine WL.rd rfl rfl rfl (Rd.assign rfl rfl) ?_
          refine WL.nil ?_
          refine thenQ.normal ?_
          refine WC.seq ?_
          refine WC.region ?_
          refine WL.rd rfl rfl rfl (Rd.move rfl rfl) ?_
          refine WL.rd rfl rfl rfl (Rd.move rfl rfl) ?_
          refine WL.rd rfl rfl rfl (Rd.sneq rfl rfl rfl) ?_
          refine WL.nil ?_
          refine thenQ.normal ?_
          first | refine WC.ite rfl (fun hc5 => ?_) (fun hc5 => ?_) | refine WC.cond rfl (fun hc5 => ?_) (fun hc5 => ?_)
          · skip
            exact absurd (same_reads hs4 z1 hc4) hc5
          · skip
            refine WC.skip ?_
            refine blockQ.normal ?_
            refine thenQ.normal ?_
            refine WC.region ?_
            refine WL.rd rfl rfl rfl (Rd.move rfl rfl) ?_
            refine WL.rd rfl rfl rfl (Rd.add rfl rfl rfl (by omega)) ?_
            refine WL.rd rfl rfl rfl (Rd.assign rfl rfl) ?_
            refine WL.nil ?_
            -- next3_4
            exact loopQ1.mk (z + 1) (by omega) (by omega) (by repeat (first | exact Sub.nil | refine Sub.cons rfl (by first | rfl | (congr 1; omega) | assumption) ?_)) (fun w h => OwnL.sat (by repeat (first | exact OwnL.refl | apply OwnL.take (by repeat (first | exact Take.head _ | apply Take.tail)) | apply OwnL.drop)) w (h.thin (SubL.mem (by repeat (first | exact SubL.refl | refine SubL.cons (by repeat (first | assumption | exact List.mem_cons_self | refine List.mem_cons_of_mem _ ?_)) ?_ | refine SubL.skip ?_)))))
        · skip
          refine WC.exit ?_
          refine thenQ.exit ?_
          refine loopQ1.exit ?_
          refine blockQ.exit ?_
          refine thenQ.normal ?_
          refine WC.seq ?_
          refine WC.region ?_
          refine WL.rd rfl rfl rfl (Rd.move rfl rfl) ?_
          refine WL.op rfl ?_
          refine OpW.call rfl rfl (by repeat (first | exact Evs.nil | apply Evs.cons rfl)) (by kernel_rfl) rfl rfl rfl ?_
          refine counts_spec ?_
          refine WL.rd rfl rfl rfl (Rd.move rfl rfl) ?_
          refine WL.rd rfl rfl rfl (Rd.extract rfl rfl rfl) ?_
          refine WL.rd rfl rfl rfl (Rd.extract rfl rfl rfl) ?_
          refine WL.rd rfl rfl rfl (Rd.assign rfl rfl) ?_
          refine WL.rd rfl rfl rfl (Rd.assign rfl rfl) ?_
          refine WL.nil ?_
          refine thenQ.normal ?_
          refine WC.seq ?_
          refine WC.region ?_
          refine WL.rd rfl rfl rfl (Rd.move rfl rfl) ?_
          refine WL.rd rfl rfl rfl (Rd.eql rfl rfl rfl) ?_
          refine WL.say 114 (u := .bool true) rfl (by rw [hsy.1]; rfl) ?_
          refine WL.rd rfl rfl rfl (Rd.assign rfl rfl) ?_
          refine WL.nil ?_
          refine thenQ.normal ?_
          -- ret_4
          refine WC.heap (R' := R) (O' := O) (fun w h => OwnL.sat (by repeat (first | exact OwnL.refl | apply OwnL.take (by repeat (first | exact Take.head _ | apply Take.tail)) | apply OwnL.drop)) w (h.thin (SubL.mem (by repeat (first | exact SubL.refl | refine SubL.cons (by repeat (first | assumption | exact List.mem_cons_self | refine List.mem_cons_of_mem _ ?_)) ?_ | refine SubL.skip ?_))))) ?_
          refine WC.ret (Ret.one Try.results4 rfl ?_)
          exact hk
end
end Go.Proofs.Ytfflnlieddbabaa
