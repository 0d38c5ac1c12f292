/-
  Layer 4: SectorKeeps.
-/
import Derived.Test.YtfflnlieddbabaaSe11
import Derived.Test.YtfflnlieddbabaaAcs
namespace Go.Proofs.Ytfflnlieddbabaa
open Go Go.SL

/-- What sector z may be, behind the first n of the writes since. -/
def mayN (since : List (Nat × List UInt8)) (lasts : List (List UInt8)) (z n : Nat) : List (List UInt8) := lasts[z]! :: ((since.take n).filter (fun w => decide (w.1 = z))).map (·.2)
theorem mayN_succ {since : List (Nat × List UInt8)} {lasts : List (List UInt8)} {z n : Nat} (h : n < since.length) : mayN since lasts z (n + 1) = mayN since lasts z n ++ if since[n]!.1 = z then [since[n]!.2] else [] := by
  unfold mayN
  rw [filterW_next _ h, List.map_append, List.cons_append]
  split <;> simp_all
theorem failN_mem {since : List (Nat × List UInt8)} {lasts : List (List UInt8)} {keep : List Int} {z : Nat} (hz : z < lasts.length) : ∀ n, n ≤ since.length → (failN since keep lasts n)[z]! ∈ mayN since lasts z n
  | 0, _ => by unfold mayN; exact List.mem_cons_self
  | n + 1, h => by
    have ih := failN_mem (since := since) (keep := keep) hz n (by omega)
    rw [failN_succ, mayN_succ (by omega)]
    have hl := failN_len since keep lasts n
    by_cases ho : oddB keep n = true
    · rw [if_pos ho]
      by_cases e : since[n]!.1 = z
      · rw [e, if_pos rfl, getElem!_pos _ z (by rw [List.length_set]; omega), List.getElem_set_self]
        exact List.mem_append_right _ List.mem_cons_self
      · rw [if_neg e, List.append_nil]
        have : ((failN since keep lasts n).set since[n]!.1 since[n]!.2)[z]! = (failN since keep lasts n)[z]! := by
          rw [getElem!_pos _ z (by rw [List.length_set]; omega), getElem!_pos _ z (by omega), List.getElem_set_ne e]
        rw [this]; exact ih
    · rw [if_neg ho]; exact List.mem_append_left _ ih
theorem failN_last {since : List (Nat × List UInt8)} {lasts : List (List UInt8)} {keep : List Int} (ho : ∀ n, oddB keep n = true) {z : Nat} (hz : z < lasts.length) : ∀ n, n ≤ since.length → (failN since keep lasts n)[z]! = (mayN since lasts z n)[(mayN since lasts z n).length - 1]!
  | 0, _ => by unfold mayN; simp [failN]
  | n + 1, h => by
    have ih := failN_last (since := since) ho hz n (by omega)
    rw [failN_succ, mayN_succ (by omega), if_pos (ho n)]
    have hl := failN_len since keep lasts n
    by_cases e : since[n]!.1 = z
    · rw [e, if_pos rfl, getElem!_pos _ z (by rw [List.length_set]; omega), List.getElem_set_self]
      simp
    · rw [if_neg e, List.append_nil]
      have : ((failN since keep lasts n).set since[n]!.1 since[n]!.2)[z]! = (failN since keep lasts n)[z]! := by
        rw [getElem!_pos _ z (by rw [List.length_set]; omega), getElem!_pos _ z (by omega), List.getElem_set_ne e]
      rw [this]; exact ih
theorem lookN_last (s : DSt) (z : Nat) : ∀ n, n ≤ s.since.length → lookN s z n = (mayN s.since s.lasts z n)[(mayN s.since s.lasts z n).length - 1]!
  | 0, _ => by unfold mayN; simp [lookN]
  | n + 1, h => by
    have ih := lookN_last s z n (by omega)
    rw [lookN_succ, mayN_succ (by omega)]
    by_cases e : s.since[n]!.1 = z
    · rw [if_pos e, if_pos e]; simp
    · rw [if_neg e, if_neg e, List.append_nil]; exact ih
def mayOf (s : DSt) (z : Nat) : List (List UInt8) := mayN s.since s.lasts z s.since.length
theorem On4.read {s : DSt} (h : On4 s) {z : Nat} (hz : z < 4) : (readE s z).1 = lookN s z s.since.length := by
  have hl := h.len
  have hb : hasB s z = true := by unfold hasB; simp; omega
  unfold readE
  rw [if_neg (by rw [hb]; simp), if_neg (by rw [h.off]; exact Bool.false_ne_true)]
  rfl
theorem On4.readCrash {s : DSt} (h : On4 s) (keep : List Int) {z : Nat} (hz : z < 4) : (readE (crashS s keep) z).1 = (failN s.since keep s.lasts s.since.length)[z]! := by
  have h2 : On4 (crashS s keep) := ⟨rfl, rfl, by show (failN _ _ _ _).length = 4; rw [failN_len]; exact h.len, fun _ hw => absurd hw List.not_mem_nil⟩
  rw [h2.read hz]; rfl
theorem On4.sync {s : DSt} (h : On4 s) : On4 (syncS s) ∧ (syncS s).since = [] := by
  unfold syncS
  rw [h.step.1, h.step.2, if_pos rfl]
  exact ⟨⟨h.off, h.left, by show (failN _ _ _ _).length = 4; rw [failN_len]; exact h.len, fun _ hw => absurd hw List.not_mem_nil⟩, rfl⟩
theorem take_old {since : List (Nat × List UInt8)} (x : Nat × List UInt8) (lasts : List (List UInt8)) (z n : Nat) (h : n ≤ since.length) : mayN (since ++ [x]) lasts z n = mayN since lasts z n := by
  unfold mayN; rw [List.take_append_of_le_length h]
/-- What a write adds. -/
theorem On4.mayPut {s : DSt} (h : On4 s) (a : Act) (z : Nat) : mayOf (putA s a) z = mayOf s z ++ if land .i64 a.2.1 3 = z then [fullE (a.2.2.1.take 512)] else [] := by
  rw [h.put]
  unfold mayOf
  simp only [List.length_append, List.length_singleton]
  rw [mayN_succ (by simp), take_old _ _ _ _ (Nat.le_refl _)]
  have e : (s.since ++ [(land .i64 a.2.1 3, fullE (a.2.2.1.take 512))])[s.since.length]! = (land .i64 a.2.1 3, fullE (a.2.2.1.take 512)) := by simp
  rw [e]
theorem On4.readPut {s : DSt} (h : On4 s) (a : Act) : (readE (putA s a) ((land .i64 a.2.1 3 : Nat) : Int)).1 = fullE (a.2.2.1.take 512) := by
  rw [(h.putOn a).read (land3 _), lookN_last _ _ _ (Nat.le_refl _)]
  show (mayOf (putA s a) _)[(mayOf (putA s a) _).length - 1]! = _
  rw [h.mayPut, if_pos rfl]; simp
abbrev VL := Value × List (List UInt8)
/-- The four slices hold what their sectors may be. -/
def Mays (L : List VL) (s : DSt) (k : Nat) : Prop := L.length = 4 ∧ (∀ j, j < 4 → L[j]!.2 = if j < k then mayOf s j else []) ∧ ∀ j, j < 4 → OneV L[j]!.1
theorem Mays.new (s : DSt) : Mays (List.replicate 4 (.slice none 0 0, [])) s 0 := ⟨rfl, fun j hj => by
  have : j = 0 ∨ j = 1 ∨ j = 2 ∨ j = 3 := by omega
  rcases this with rfl | rfl | rfl | rfl <;> rfl, fun j hj => by
  have : j = 0 ∨ j = 1 ∨ j = 2 ∨ j = 3 := by omega
  rcases this with rfl | rfl | rfl | rfl <;> exact OneV.sl⟩
theorem set_get (L : List VL) (k j : Nat) (x : VL) (hk : k < L.length) (hj : j < L.length) : (L.set k x)[j]! = if k = j then x else L[j]! := by
  rw [getElem!_pos _ j (by rw [List.length_set]; exact hj), getElem!_pos _ j hj, List.getElem_set]
theorem Mays.next {L : List VL} {s : DSt} {k : Nat} (h : Mays L s k) (hk : k < 4) {v : Value} (hv : OneV v) {x : List UInt8} (hx : mayOf s k = [x]) : Mays (L.set k (v, L[k]!.2 ++ [x])) s (k + 1) := by
  obtain ⟨h1, h2, h3⟩ := h
  refine ⟨by rw [List.length_set, h1], fun j hj => ?_, fun j hj => ?_⟩
  · rw [set_get _ _ _ _ (by omega) (by omega)]
    by_cases e : k = j
    · subst e
      rw [if_pos rfl, if_pos (by omega), hx]
      show L[k]!.2 ++ [x] = [x]
      rw [h2 k hk, if_neg (by omega)]; rfl
    · rw [if_neg e, h2 j hj]
      by_cases e2 : j < k
      · rw [if_pos e2, if_pos (by omega)]
      · rw [if_neg e2, if_neg (by omega)]
  · rw [set_get _ _ _ _ (by omega) (by omega)]
    split
    · exact hv
    · exact h3 j hj
theorem Mays.add {L : List VL} {s : DSt} (h : Mays L s 4) (hs : On4 s) (a : Act) {v : Value} (hv : OneV v) : Mays (L.set (land .i64 a.2.1 3) (v, L[land .i64 a.2.1 3]!.2 ++ [fullE (a.2.2.1.take 512)])) (putA s a) 4 := by
  obtain ⟨h1, h2, h3⟩ := h
  have hk := land3 a.2.1
  refine ⟨by rw [List.length_set, h1], fun j hj => ?_, fun j hj => ?_⟩
  · rw [set_get _ _ _ _ (by omega) (by omega), if_pos hj, hs.mayPut]
    split
    · rename_i e
      subst e
      show L[land .i64 a.2.1 3]!.2 ++ _ = _
      rw [h2 _ hk, if_pos hk]
    · rw [h2 j hj, if_pos hj, List.append_nil]
  · rw [set_get _ _ _ _ (by omega) (by omega)]
    split
    · exact hv
    · exact h3 j hj
theorem set_map (L : List VL) (k : Nat) (v : Value) (xs : List (List UInt8)) : (L.map (·.1)).set k v = (L.set k (v, xs)).map (·.1) := by rw [List.map_set]
theorem map_get (L : List VL) (k : Nat) (h : k < L.length) : (L.map (·.1))[k]? = some L[k]!.1 := by
  rw [List.getElem?_map, List.getElem?_eq_getElem h, getElem!_pos L k h]; rfl
section
variable {R : List RO} {O : List Own} {POST : Value → List RO → List Own → Prop}
set_option maxHeartbeats 8000000 in
set_option maxRecDepth 20000 in
theorem keeps_spec {acts more : List Act} {keep : List Int} {sv mv kv : Value} (hs : SlE encA sv acts ∈ R) (hm : SlE encA mv more ∈ R) (hkk : SlE (one vi) kv keep ∈ R) (hkl : keep.length ≤ 17592186043904) (hk : POST (.bool true) R O) : Fun Try.prog 3 #[sv, mv, kv] R O POST := by
  refine Fun.enter (l := [_, _, _]) Try.func3 rfl Try.ntmps3 rfl (L0 := [(0, _), (1, _), (2, _)]) rfl ?_
  refine WC.seq ?_
  refine WC.region ?_
  refine WL.rd rfl rfl rfl (Rd.assign rfl rfl) ?_
  refine WL.nil ?_
  refine thenQ.normal ?_
  refine WC.seq ?_
  refine WC.seq ?_
  refine WC.region ?_
  refine WL.op rfl ?_
  refine OpW.call rfl rfl (by repeat (first | exact Evs.nil | apply Evs.cons rfl)) (by kernel_rfl) rfl rfl rfl ?_
  refine speaks_spec ?_
  refine WL.say 27 (u := .bool (decide True)) rfl (by simp) ?_
  refine WL.rd rfl rfl rfl ((by first | exact Rd.notd rfl rfl | exact Rd.not rfl rfl)) ?_
  refine WL.nil ?_
  refine thenQ.normal ?_
  first | refine WC.ite rfl (fun hc1 => ?_) (fun hc1 => ?_) | refine WC.cond rfl (fun hc1 => ?_) (fun hc1 => ?_)
  · skip
    exact absurd trivial hc1
  · skip
    refine WC.skip ?_
    refine thenQ.normal ?_
    refine WC.seq ?_
    refine WC.region ?_
    refine WL.op rfl ?_
    refine OpW.call rfl rfl (by repeat (first | exact Evs.nil | apply Evs.cons rfl)) (by kernel_rfl) rfl rfl rfl ?_
    refine new_spec (fun h => by exfalso; omega) (fun n hn _ _ d V hv => ?_); obtain rfl : n = 4 := by omega
    refine WL.rd rfl rfl rfl (Rd.move rfl rfl) ?_
    refine WL.rd rfl rfl rfl (Rd.extract rfl rfl rfl) ?_
    refine WL.rd rfl rfl rfl (Rd.extract rfl rfl rfl) ?_
    refine WL.rd rfl rfl rfl (Rd.assign rfl rfl) ?_
    refine WL.rd rfl rfl rfl (Rd.assign rfl rfl) ?_
    refine WL.nil ?_
    refine thenQ.normal ?_
    refine WC.seq ?_
    refine WC.region ?_
    refine WL.op rfl ?_
    refine OpW.call rfl rfl (by repeat (first | exact Evs.nil | apply Evs.cons rfl)) (by kernel_rfl) rfl rfl rfl ?_
    refine new_spec (fun h => by exfalso; omega) (fun n hn _ _ e U hu => ?_); obtain rfl : n = 4 := by omega
    refine WL.rd rfl rfl rfl (Rd.move rfl rfl) ?_
    refine WL.rd rfl rfl rfl (Rd.extract rfl rfl rfl) ?_
    refine WL.rd rfl rfl rfl (Rd.extract rfl rfl rfl) ?_
    refine WL.rd rfl rfl rfl (Rd.assign rfl rfl) ?_
    refine WL.rd rfl rfl rfl (Rd.assign rfl rfl) ?_
    refine WL.nil ?_
    refine thenQ.normal ?_
    refine WC.cut (α := Nat × DV × DV) (fun _ => [(1, mv), (2, kv), (7, dp d), (9, dp e)]) (fun x => SlE (one vi) x.2.1.kv [] :: SlE (one vi) x.2.2.kv [] :: R) (fun x => dO d x.2.1 (putN acts x.1 (newS 4)) (dO e x.2.2 (putN acts x.1 (newS 4)) O)) (fun x => x.1 ≤ 30 ∧ DOk (putN acts x.1 (newS 4)) x.1 ∧ VOk x.2.1 (putN acts x.1 (newS 4)) ∧ VOk x.2.2 (putN acts x.1 (newS 4)) ∧ (putN acts x.1 (newS 4)).keep = []) ?_ ?_
    · skip
      refine WC.seq ?_
      refine WC.region ?_
      refine WL.rd rfl rfl rfl (Rd.assign rfl rfl) ?_
      refine WL.nil ?_
      refine thenQ.normal ?_
      refine WC.block ?_
      refine WC.pick [11, 0, 1, 2, 7, 9] (by repeat (first | exact Pick.nil | apply Pick.cons rfl)) ?_
      refine WC.loop3r 1 (fun (i : Nat) (V : DV) (U : DV) => [(11, .int .i64 (i : Int))]) (fun (i : Nat) (V : DV) (U : DV) => SlE (one vi) V.kv [] :: SlE (one vi) U.kv [] :: R) (fun (i : Nat) (V : DV) (U : DV) => dO d V (putN acts i (newS 4)) (dO e U (putN acts i (newS 4)) O)) (fun (i : Nat) (V : DV) (U : DV) => i ≤ 30 ∧ DOk (putN acts i (newS 4)) i ∧ VOk V (putN acts i (newS 4)) ∧ VOk U (putN acts i (newS 4)) ∧ (putN acts i (newS 4)).keep = []) (fun (i : Nat) (V : DV) (U : DV) => 30 - i) (0) (V) (U) (by repeat (first | exact Split.zero | apply Split.succ)) ?hinv1 (by repeat (first | exact Sub.nil | refine Sub.cons rfl (by first | rfl | (congr 1; omega) | assumption) ?_)) (fun w h => by exact (fun w h => OwnL.sat (by repeat (first | exact OwnL.refl | apply OwnL.take (by repeat (first | exact Take.head _ | apply Take.tail)) | apply OwnL.drop)) w (h.thin (SubL.mem (by repeat (first | exact SubL.refl | refine SubL.cons (by repeat (first | assumption | exact List.mem_cons_self | refine List.mem_cons_of_mem _ ?_)) ?_ | refine SubL.skip ?_))))) w h) ?_
      case hinv1 =>
        exact ⟨Nat.zero_le _, DOk.new (by omega), hv, hu, rfl⟩
      intro i V U
      rintro ⟨i1, ok, hv, hu, hkp⟩
      refine WC.seq ?_
      refine WC.seq ?_
      refine WC.region ?_
      refine WL.rd rfl rfl rfl (Rd.move rfl rfl) ?_
      refine WL.rd rfl rfl rfl (Rd.move rfl rfl) ?_
      refine WL.rd rfl rfl rfl ((by first | exact Rd.lenE rfl rfl Try.underlying22 (by repeat (first | assumption | exact List.mem_cons_self | refine List.mem_cons_of_mem _ ?_)) | exact Rd.lenA rfl rfl Try.underlying22 (by repeat (first | assumption | exact List.mem_cons_self | refine List.mem_cons_of_mem _ ?_)) | exact Rd.len rfl rfl Try.underlying22)) ?_
      refine WL.rd rfl rfl rfl (Rd.lss rfl rfl rfl) ?_
      refine WL.rd rfl rfl rfl (Rd.move rfl rfl) ?_
      refine WL.case 41 rfl (fun hg41 => ?_) (fun hg41 => ?_)
      · skip
        refine WL.rd_yes rfl rfl rfl rfl rfl rfl (Rd.move rfl rfl) ?_
        refine WL.rd_yes rfl rfl rfl rfl rfl rfl (Rd.lss rfl rfl rfl) ?_
        refine WL.rd rfl rfl rfl (Rd.pick_t rfl rfl rfl) ?_
        refine WL.nil ?_
        refine thenQ.normal ?_
        first | refine WC.ite rfl (fun hc2 => ?_) (fun hc2 => ?_) | refine WC.cond rfl (fun hc2 => ?_) (fun hc2 => ?_)
        · skip
          refine WC.skip ?_
          refine thenQ.normal ?_
          refine WC.seq ?_
          refine WC.block ?_
          refine WC.seq ?_
          obtain ⟨s, hss⟩ : ∃ s, s = putN acts i (newS 4) := ⟨_, rfl⟩
          have hsn : putN acts (i + 1) (newS 4) = putA s acts[i]! := by rw [putN_succ, ← hss]
          rw [← hss] at ok hv hu hkp ⊢
          have hil : i < acts.length := by omega
          obtain ⟨a, ha⟩ : ∃ a, a = acts[i]! := ⟨_, rfl⟩
          have hkpp : (putA s a).keep = [] := by unfold putA; rw [put_keep, hkp]
          rw [← ha] at hsn
          refine WC.drawn (O) 14 rfl mixed ?_
          refine WD.take 0 rfl (by kernel_rfl) (Held.mk' (by repeat (first | exact SubL.refl | refine SubL.cons (by repeat (first | assumption | exact List.mem_cons_self | refine List.mem_cons_of_mem _ ?_)) ?_ | refine SubL.skip ?_)) (by repeat (first | exact OwnL.refl | apply OwnL.take (by repeat (first | exact Take.head _ | apply Take.tail)) | apply OwnL.drop))) rfl rfl rfl (Rd.move rfl rfl) ?_
          refine WD.take 1 rfl (by kernel_rfl) (Held.mk' (by repeat (first | exact SubL.refl | refine SubL.cons (by repeat (first | assumption | exact List.mem_cons_self | refine List.mem_cons_of_mem _ ?_)) ?_ | refine SubL.skip ?_)) (by repeat (first | exact OwnL.refl | apply OwnL.take (by repeat (first | exact Take.head _ | apply Take.tail)) | apply OwnL.drop))) rfl rfl rfl (Rd.move rfl rfl) ?_
          refine WD.take 2 rfl (by kernel_rfl) (Held.mk' (by repeat (first | exact SubL.refl | refine SubL.cons (by repeat (first | assumption | exact List.mem_cons_self | refine List.mem_cons_of_mem _ ?_)) ?_ | refine SubL.skip ?_)) (by repeat (first | exact OwnL.refl | apply OwnL.take (by repeat (first | exact Take.head _ | apply Take.tail)) | apply OwnL.drop))) rfl rfl rfl (Rd.move rfl rfl) ?_
          refine WD.take 3 rfl (by kernel_rfl) (Held.mk' (by repeat (first | exact SubL.refl | refine SubL.cons (by repeat (first | assumption | exact List.mem_cons_self | refine List.mem_cons_of_mem _ ?_)) ?_ | refine SubL.skip ?_)) (by repeat (first | exact OwnL.refl | apply OwnL.take (by repeat (first | exact Take.head _ | apply Take.tail)) | apply OwnL.drop))) rfl rfl rfl ((by first | exact Rd.idx rfl S22 rfl rfl rfl (by repeat (first | assumption | exact List.mem_cons_self | refine List.mem_cons_of_mem _ ?_)) (by first | omega | (simp only [List.length_cons, List.length_nil, List.length_append, List.length_map]; omega)) | exact Rd.idxA rfl S22 rfl rfl rfl (by repeat (first | assumption | exact List.mem_cons_self | refine List.mem_cons_of_mem _ ?_)) (by first | omega | (simp only [List.length_cons, List.length_nil, List.length_append, List.length_map]; omega)) | exact Rd.idxR rfl S22 rfl rfl rfl (by omega))) ?_
          refine WD.take 4 rfl (by kernel_rfl) (Held.mk' (by repeat (first | exact SubL.refl | refine SubL.cons (by repeat (first | assumption | exact List.mem_cons_self | refine List.mem_cons_of_mem _ ?_)) ?_ | refine SubL.skip ?_)) (by repeat (first | exact OwnL.refl | apply OwnL.take (by repeat (first | exact Take.head _ | apply Take.tail)) | apply OwnL.drop))) rfl rfl rfl ((by first | exact Rd.field rfl F31_1 rfl rfl | exact Rd.fieldE rfl F31_1 rfl (by repeat (first | assumption | exact List.mem_cons_self | refine List.mem_cons_of_mem _ ?_)) (by omega) | exact Rd.fieldA rfl F31_1 rfl (by repeat (first | assumption | exact List.mem_cons_self | refine List.mem_cons_of_mem _ ?_)) (by omega))) ?_
          refine WD.take 5 rfl (by kernel_rfl) (Held.mk' (by repeat (first | exact SubL.refl | refine SubL.cons (by repeat (first | assumption | exact List.mem_cons_self | refine List.mem_cons_of_mem _ ?_)) ?_ | refine SubL.skip ?_)) (by repeat (first | exact OwnL.refl | apply OwnL.take (by repeat (first | exact Take.head _ | apply Take.tail)) | apply OwnL.drop))) rfl rfl rfl ((by first | exact Rd.get rfl C3 rfl (by repeat (first | assumption | exact List.mem_cons_self | refine List.mem_cons_of_mem _ ?_)) (by first | assumption | rfl | exact get!_of_lt (by omega)) | exact Rd.getA rfl C3 rfl (by repeat (first | assumption | exact List.mem_cons_self | refine List.mem_cons_of_mem _ ?_)) (by first | assumption | rfl | exact get!_of_lt (by omega)) | exact Rd.row1 rfl C3 rfl (by repeat (first | assumption | exact List.mem_cons_self | refine List.mem_cons_of_mem _ ?_)) (by rfl) | exact Rd.getF rfl C3 rfl (by repeat (first | assumption | exact List.mem_cons_self | refine List.mem_cons_of_mem _ ?_)) (by intro x; first | rfl | (cases x; rfl) | (rcases x with ⟨_, _, _⟩; rfl) | (rcases x with ⟨_, _, _, _⟩; rfl)) rfl (by first | assumption | rfl | exact get!_of_lt (by omega)) (by rfl) | exact Rd.getFA rfl C3 rfl (by repeat (first | assumption | exact List.mem_cons_self | refine List.mem_cons_of_mem _ ?_)) (by intro x; first | rfl | (cases x; rfl) | (rcases x with ⟨_, _, _⟩; rfl) | (rcases x with ⟨_, _, _, _⟩; rfl)) rfl (by first | assumption | rfl | exact get!_of_lt (by omega)) (by rfl))) ?_
          refine WD.take 6 rfl (by kernel_rfl) (Held.mk' (by repeat (first | exact SubL.refl | refine SubL.cons (by repeat (first | assumption | exact List.mem_cons_self | refine List.mem_cons_of_mem _ ?_)) ?_ | refine SubL.skip ?_)) (by repeat (first | exact OwnL.refl | apply OwnL.take (by repeat (first | exact Take.head _ | apply Take.tail)) | apply OwnL.drop))) rfl rfl rfl (Rd.andm (m := 3) rfl rfl rfl rfl (by decide)) ?_
          refine WD.take 7 rfl (by kernel_rfl) (Held.mk' (by repeat (first | exact SubL.refl | refine SubL.cons (by repeat (first | assumption | exact List.mem_cons_self | refine List.mem_cons_of_mem _ ?_)) ?_ | refine SubL.skip ?_)) (by repeat (first | exact OwnL.refl | apply OwnL.take (by repeat (first | exact Take.head _ | apply Take.tail)) | apply OwnL.drop))) rfl rfl rfl (Rd.move rfl rfl) ?_
          refine WD.take 8 rfl (by kernel_rfl) (Held.mk' (by repeat (first | exact SubL.refl | refine SubL.cons (by repeat (first | assumption | exact List.mem_cons_self | refine List.mem_cons_of_mem _ ?_)) ?_ | refine SubL.skip ?_)) (by repeat (first | exact OwnL.refl | apply OwnL.take (by repeat (first | exact Take.head _ | apply Take.tail)) | apply OwnL.drop))) rfl rfl rfl (Rd.move rfl rfl) ?_
          refine WD.take 9 rfl (by kernel_rfl) (Held.mk' (by repeat (first | exact SubL.refl | refine SubL.cons (by repeat (first | assumption | exact List.mem_cons_self | refine List.mem_cons_of_mem _ ?_)) ?_ | refine SubL.skip ?_)) (by repeat (first | exact OwnL.refl | apply OwnL.take (by repeat (first | exact Take.head _ | apply Take.tail)) | apply OwnL.drop))) rfl rfl rfl ((by first | exact Rd.idx rfl S22 rfl rfl rfl (by repeat (first | assumption | exact List.mem_cons_self | refine List.mem_cons_of_mem _ ?_)) (by first | omega | (simp only [List.length_cons, List.length_nil, List.length_append, List.length_map]; omega)) | exact Rd.idxA rfl S22 rfl rfl rfl (by repeat (first | assumption | exact List.mem_cons_self | refine List.mem_cons_of_mem _ ?_)) (by first | omega | (simp only [List.length_cons, List.length_nil, List.length_append, List.length_map]; omega)) | exact Rd.idxR rfl S22 rfl rfl rfl (by omega))) ?_
          refine WD.take 10 rfl (by kernel_rfl) (Held.mk' (by repeat (first | exact SubL.refl | refine SubL.cons (by repeat (first | assumption | exact List.mem_cons_self | refine List.mem_cons_of_mem _ ?_)) ?_ | refine SubL.skip ?_)) (by repeat (first | exact OwnL.refl | apply OwnL.take (by repeat (first | exact Take.head _ | apply Take.tail)) | apply OwnL.drop))) rfl rfl rfl ((by first | exact Rd.field rfl F31_2 rfl rfl | exact Rd.fieldE rfl F31_2 rfl (by repeat (first | assumption | exact List.mem_cons_self | refine List.mem_cons_of_mem _ ?_)) (by omega) | exact Rd.fieldA rfl F31_2 rfl (by repeat (first | assumption | exact List.mem_cons_self | refine List.mem_cons_of_mem _ ?_)) (by omega))) ?_
          refine WD.take 11 rfl (by kernel_rfl) (Held.mk' (by repeat (first | exact SubL.refl | refine SubL.cons (by repeat (first | assumption | exact List.mem_cons_self | refine List.mem_cons_of_mem _ ?_)) ?_ | refine SubL.skip ?_)) (by repeat (first | exact OwnL.refl | apply OwnL.take (by repeat (first | exact Take.head _ | apply Take.tail)) | apply OwnL.drop))) rfl rfl rfl ((by first | exact Rd.get rfl C9 rfl (by repeat (first | assumption | exact List.mem_cons_self | refine List.mem_cons_of_mem _ ?_)) (by first | assumption | rfl | exact get!_of_lt (by omega)) | exact Rd.getA rfl C9 rfl (by repeat (first | assumption | exact List.mem_cons_self | refine List.mem_cons_of_mem _ ?_)) (by first | assumption | rfl | exact get!_of_lt (by omega)) | exact Rd.row1 rfl C9 rfl (by repeat (first | assumption | exact List.mem_cons_self | refine List.mem_cons_of_mem _ ?_)) (by rfl) | exact Rd.getF rfl C9 rfl (by repeat (first | assumption | exact List.mem_cons_self | refine List.mem_cons_of_mem _ ?_)) (by intro x; first | rfl | (cases x; rfl) | (rcases x with ⟨_, _, _⟩; rfl) | (rcases x with ⟨_, _, _, _⟩; rfl)) rfl (by first | assumption | rfl | exact get!_of_lt (by omega)) (by rfl) | exact Rd.getFA rfl C9 rfl (by repeat (first | assumption | exact List.mem_cons_self | refine List.mem_cons_of_mem _ ?_)) (by intro x; first | rfl | (cases x; rfl) | (rcases x with ⟨_, _, _⟩; rfl) | (rcases x with ⟨_, _, _, _⟩; rfl)) rfl (by first | assumption | rfl | exact get!_of_lt (by omega)) (by rfl))) ?_
          refine WD.one 12 rfl (by kernel_rfl) rfl ?_
          refine OpW.call rfl rfl (by repeat (first | exact Evs.nil | apply Evs.cons rfl)) (by kernel_rfl) rfl rfl rfl ?_
          refine short_spec ?_
          refine ⟨(Held.mk' (by repeat (first | exact SubL.refl | refine SubL.cons (by repeat (first | assumption | exact List.mem_cons_self | refine List.mem_cons_of_mem _ ?_)) ?_ | refine SubL.skip ?_)) (by repeat (first | exact OwnL.refl | apply OwnL.take (by repeat (first | exact Take.head _ | apply Take.tail)) | apply OwnL.drop))), ?_⟩
          refine WD.one 13 rfl (by kernel_rfl) rfl ?_
          refine OpW.call rfl rfl (by repeat (first | exact Evs.nil | apply Evs.cons rfl)) (by kernel_rfl) rfl rfl rfl ?_
          rw [← ha]
          refine write_spec (s := s) (dd := a.2.2.1.take 512) (i := ((land .i64 a.2.1 3 : Nat) : Int)) ok (by omega) hv (by rw [hkp]; exact (by repeat (first | assumption | exact List.mem_cons_self | refine List.mem_cons_of_mem _ ?_))) ?_; intro V1 hv1 hkv1
          refine ⟨(Held.mk' (by repeat (first | exact SubL.refl | refine SubL.cons (by repeat (first | assumption | exact List.mem_cons_self | refine List.mem_cons_of_mem _ ?_)) ?_ | refine SubL.skip ?_)) (by repeat (first | exact OwnL.refl | apply OwnL.take (by repeat (first | exact Take.head _ | apply Take.tail)) | apply OwnL.drop))), ?_⟩
          refine WD.done (by kernel_rfl) ?_
          refine thenQ.normal ?_
          refine WC.drawn (O) 14 rfl mixed ?_
          refine WD.take 0 rfl (by kernel_rfl) (Held.mk' (by repeat (first | exact SubL.refl | refine SubL.cons (by repeat (first | assumption | exact List.mem_cons_self | refine List.mem_cons_of_mem _ ?_)) ?_ | refine SubL.skip ?_)) (by repeat (first | exact OwnL.refl | apply OwnL.take (by repeat (first | exact Take.head _ | apply Take.tail)) | apply OwnL.drop))) rfl rfl rfl (Rd.move rfl rfl) ?_
          refine WD.take 1 rfl (by kernel_rfl) (Held.mk' (by repeat (first | exact SubL.refl | refine SubL.cons (by repeat (first | assumption | exact List.mem_cons_self | refine List.mem_cons_of_mem _ ?_)) ?_ | refine SubL.skip ?_)) (by repeat (first | exact OwnL.refl | apply OwnL.take (by repeat (first | exact Take.head _ | apply Take.tail)) | apply OwnL.drop))) rfl rfl rfl (Rd.move rfl rfl) ?_
          refine WD.take 2 rfl (by kernel_rfl) (Held.mk' (by repeat (first | exact SubL.refl | refine SubL.cons (by repeat (first | assumption | exact List.mem_cons_self | refine List.mem_cons_of_mem _ ?_)) ?_ | refine SubL.skip ?_)) (by repeat (first | exact OwnL.refl | apply OwnL.take (by repeat (first | exact Take.head _ | apply Take.tail)) | apply OwnL.drop))) rfl rfl rfl (Rd.move rfl rfl) ?_
          refine WD.take 3 rfl (by kernel_rfl) (Held.mk' (by repeat (first | exact SubL.refl | refine SubL.cons (by repeat (first | assumption | exact List.mem_cons_self | refine List.mem_cons_of_mem _ ?_)) ?_ | refine SubL.skip ?_)) (by repeat (first | exact OwnL.refl | apply OwnL.take (by repeat (first | exact Take.head _ | apply Take.tail)) | apply OwnL.drop))) rfl rfl rfl ((by first | exact Rd.idx rfl S22 rfl rfl rfl (by repeat (first | assumption | exact List.mem_cons_self | refine List.mem_cons_of_mem _ ?_)) (by first | omega | (simp only [List.length_cons, List.length_nil, List.length_append, List.length_map]; omega)) | exact Rd.idxA rfl S22 rfl rfl rfl (by repeat (first | assumption | exact List.mem_cons_self | refine List.mem_cons_of_mem _ ?_)) (by first | omega | (simp only [List.length_cons, List.length_nil, List.length_append, List.length_map]; omega)) | exact Rd.idxR rfl S22 rfl rfl rfl (by omega))) ?_
          refine WD.take 4 rfl (by kernel_rfl) (Held.mk' (by repeat (first | exact SubL.refl | refine SubL.cons (by repeat (first | assumption | exact List.mem_cons_self | refine List.mem_cons_of_mem _ ?_)) ?_ | refine SubL.skip ?_)) (by repeat (first | exact OwnL.refl | apply OwnL.take (by repeat (first | exact Take.head _ | apply Take.tail)) | apply OwnL.drop))) rfl rfl rfl ((by first | exact Rd.field rfl F31_1 rfl rfl | exact Rd.fieldE rfl F31_1 rfl (by repeat (first | assumption | exact List.mem_cons_self | refine List.mem_cons_of_mem _ ?_)) (by omega) | exact Rd.fieldA rfl F31_1 rfl (by repeat (first | assumption | exact List.mem_cons_self | refine List.mem_cons_of_mem _ ?_)) (by omega))) ?_
          refine WD.take 5 rfl (by kernel_rfl) (Held.mk' (by repeat (first | exact SubL.refl | refine SubL.cons (by repeat (first | assumption | exact List.mem_cons_self | refine List.mem_cons_of_mem _ ?_)) ?_ | refine SubL.skip ?_)) (by repeat (first | exact OwnL.refl | apply OwnL.take (by repeat (first | exact Take.head _ | apply Take.tail)) | apply OwnL.drop))) rfl rfl rfl ((by first | exact Rd.get rfl C3 rfl (by repeat (first | assumption | exact List.mem_cons_self | refine List.mem_cons_of_mem _ ?_)) (by first | assumption | rfl | exact get!_of_lt (by omega)) | exact Rd.getA rfl C3 rfl (by repeat (first | assumption | exact List.mem_cons_self | refine List.mem_cons_of_mem _ ?_)) (by first | assumption | rfl | exact get!_of_lt (by omega)) | exact Rd.row1 rfl C3 rfl (by repeat (first | assumption | exact List.mem_cons_self | refine List.mem_cons_of_mem _ ?_)) (by rfl) | exact Rd.getF rfl C3 rfl (by repeat (first | assumption | exact List.mem_cons_self | refine List.mem_cons_of_mem _ ?_)) (by intro x; first | rfl | (cases x; rfl) | (rcases x with ⟨_, _, _⟩; rfl) | (rcases x with ⟨_, _, _, _⟩; rfl)) rfl (by first | assumption | rfl | exact get!_of_lt (by omega)) (by rfl) | exact Rd.getFA rfl C3 rfl (by repeat (first | assumption | exact List.mem_cons_self | refine List.mem_cons_of_mem _ ?_)) (by intro x; first | rfl | (cases x; rfl) | (rcases x with ⟨_, _, _⟩; rfl) | (rcases x with ⟨_, _, _, _⟩; rfl)) rfl (by first | assumption | rfl | exact get!_of_lt (by omega)) (by rfl))) ?_
          refine WD.take 6 rfl (by kernel_rfl) (Held.mk' (by repeat (first | exact SubL.refl | refine SubL.cons (by repeat (first | assumption | exact List.mem_cons_self | refine List.mem_cons_of_mem _ ?_)) ?_ | refine SubL.skip ?_)) (by repeat (first | exact OwnL.refl | apply OwnL.take (by repeat (first | exact Take.head _ | apply Take.tail)) | apply OwnL.drop))) rfl rfl rfl (Rd.andm (m := 3) rfl rfl rfl rfl (by decide)) ?_
          refine WD.take 7 rfl (by kernel_rfl) (Held.mk' (by repeat (first | exact SubL.refl | refine SubL.cons (by repeat (first | assumption | exact List.mem_cons_self | refine List.mem_cons_of_mem _ ?_)) ?_ | refine SubL.skip ?_)) (by repeat (first | exact OwnL.refl | apply OwnL.take (by repeat (first | exact Take.head _ | apply Take.tail)) | apply OwnL.drop))) rfl rfl rfl (Rd.move rfl rfl) ?_
          refine WD.take 8 rfl (by kernel_rfl) (Held.mk' (by repeat (first | exact SubL.refl | refine SubL.cons (by repeat (first | assumption | exact List.mem_cons_self | refine List.mem_cons_of_mem _ ?_)) ?_ | refine SubL.skip ?_)) (by repeat (first | exact OwnL.refl | apply OwnL.take (by repeat (first | exact Take.head _ | apply Take.tail)) | apply OwnL.drop))) rfl rfl rfl (Rd.move rfl rfl) ?_
          refine WD.take 9 rfl (by kernel_rfl) (Held.mk' (by repeat (first | exact SubL.refl | refine SubL.cons (by repeat (first | assumption | exact List.mem_cons_self | refine List.mem_cons_of_mem _ ?_)) ?_ | refine SubL.skip ?_)) (by repeat (first | exact OwnL.refl | apply OwnL.take (by repeat (first | exact Take.head _ | apply Take.tail)) | apply OwnL.drop))) rfl rfl rfl ((by first | exact Rd.idx rfl S22 rfl rfl rfl (by repeat (first | assumption | exact List.mem_cons_self | refine List.mem_cons_of_mem _ ?_)) (by first | omega | (simp only [List.length_cons, List.length_nil, List.length_append, List.length_map]; omega)) | exact Rd.idxA rfl S22 rfl rfl rfl (by repeat (first | assumption | exact List.mem_cons_self | refine List.mem_cons_of_mem _ ?_)) (by first | omega | (simp only [List.length_cons, List.length_nil, List.length_append, List.length_map]; omega)) | exact Rd.idxR rfl S22 rfl rfl rfl (by omega))) ?_
          refine WD.take 10 rfl (by kernel_rfl) (Held.mk' (by repeat (first | exact SubL.refl | refine SubL.cons (by repeat (first | assumption | exact List.mem_cons_self | refine List.mem_cons_of_mem _ ?_)) ?_ | refine SubL.skip ?_)) (by repeat (first | exact OwnL.refl | apply OwnL.take (by repeat (first | exact Take.head _ | apply Take.tail)) | apply OwnL.drop))) rfl rfl rfl ((by first | exact Rd.field rfl F31_2 rfl rfl | exact Rd.fieldE rfl F31_2 rfl (by repeat (first | assumption | exact List.mem_cons_self | refine List.mem_cons_of_mem _ ?_)) (by omega) | exact Rd.fieldA rfl F31_2 rfl (by repeat (first | assumption | exact List.mem_cons_self | refine List.mem_cons_of_mem _ ?_)) (by omega))) ?_
          refine WD.take 11 rfl (by kernel_rfl) (Held.mk' (by repeat (first | exact SubL.refl | refine SubL.cons (by repeat (first | assumption | exact List.mem_cons_self | refine List.mem_cons_of_mem _ ?_)) ?_ | refine SubL.skip ?_)) (by repeat (first | exact OwnL.refl | apply OwnL.take (by repeat (first | exact Take.head _ | apply Take.tail)) | apply OwnL.drop))) rfl rfl rfl ((by first | exact Rd.get rfl C9 rfl (by repeat (first | assumption | exact List.mem_cons_self | refine List.mem_cons_of_mem _ ?_)) (by first | assumption | rfl | exact get!_of_lt (by omega)) | exact Rd.getA rfl C9 rfl (by repeat (first | assumption | exact List.mem_cons_self | refine List.mem_cons_of_mem _ ?_)) (by first | assumption | rfl | exact get!_of_lt (by omega)) | exact Rd.row1 rfl C9 rfl (by repeat (first | assumption | exact List.mem_cons_self | refine List.mem_cons_of_mem _ ?_)) (by rfl) | exact Rd.getF rfl C9 rfl (by repeat (first | assumption | exact List.mem_cons_self | refine List.mem_cons_of_mem _ ?_)) (by intro x; first | rfl | (cases x; rfl) | (rcases x with ⟨_, _, _⟩; rfl) | (rcases x with ⟨_, _, _, _⟩; rfl)) rfl (by first | assumption | rfl | exact get!_of_lt (by omega)) (by rfl) | exact Rd.getFA rfl C9 rfl (by repeat (first | assumption | exact List.mem_cons_self | refine List.mem_cons_of_mem _ ?_)) (by intro x; first | rfl | (cases x; rfl) | (rcases x with ⟨_, _, _⟩; rfl) | (rcases x with ⟨_, _, _, _⟩; rfl)) rfl (by first | assumption | rfl | exact get!_of_lt (by omega)) (by rfl))) ?_
          refine WD.one 12 rfl (by kernel_rfl) rfl ?_
          refine OpW.call rfl rfl (by repeat (first | exact Evs.nil | apply Evs.cons rfl)) (by kernel_rfl) rfl rfl rfl ?_
          refine short_spec ?_
          refine ⟨(Held.mk' (by repeat (first | exact SubL.refl | refine SubL.cons (by repeat (first | assumption | exact List.mem_cons_self | refine List.mem_cons_of_mem _ ?_)) ?_ | refine SubL.skip ?_)) (by repeat (first | exact OwnL.refl | apply OwnL.take (by repeat (first | exact Take.head _ | apply Take.tail)) | apply OwnL.drop))), ?_⟩
          refine WD.one 13 rfl (by kernel_rfl) rfl ?_
          refine OpW.call rfl rfl (by repeat (first | exact Evs.nil | apply Evs.cons rfl)) (by kernel_rfl) rfl rfl rfl ?_
          rw [← ha]
          refine Fun.heap (O' := dO e U s (dO d V1 (putA s a) O)) (fun w h => OwnL.sat (by repeat (first | exact OwnL.refl | apply OwnL.take (by repeat (first | exact Take.head _ | apply Take.tail)) | apply OwnL.drop)) w (h.thin (SubL.mem (by repeat (first | exact SubL.refl | refine SubL.cons (by repeat (first | assumption | exact List.mem_cons_self | refine List.mem_cons_of_mem _ ?_)) ?_ | refine SubL.skip ?_))))) ?_
          refine write_spec (s := s) (dd := a.2.2.1.take 512) (i := ((land .i64 a.2.1 3 : Nat) : Int)) ok (by omega) hu (by rw [hkp]; exact (by repeat (first | assumption | exact List.mem_cons_self | refine List.mem_cons_of_mem _ ?_))) ?_; intro U1 hu1 hku1
          refine ⟨(Held.mk' (by repeat (first | exact SubL.refl | refine SubL.cons (by repeat (first | assumption | exact List.mem_cons_self | refine List.mem_cons_of_mem _ ?_)) ?_ | refine SubL.skip ?_)) (by repeat (first | exact OwnL.refl | apply OwnL.take (by repeat (first | exact Take.head _ | apply Take.tail)) | apply OwnL.drop))), ?_⟩
          refine WD.done (by kernel_rfl) ?_
          refine blockQ.normal ?_
          refine thenQ.normal ?_
          refine WC.region ?_
          refine WL.rd rfl rfl rfl (Rd.move rfl rfl) ?_
          refine WL.rd rfl rfl rfl (Rd.add rfl rfl rfl (by omega)) ?_
          refine WL.rd rfl rfl rfl (Rd.assign rfl rfl) ?_
          refine WL.nil ?_
          -- next1_1
          exact loopQ3.mk (i + 1) V1 U1 (by rw [hsn]; exact ⟨by omega, ok.put _ _, hv1, hu1, hkpp⟩) (by omega) (by repeat (first | exact Sub.nil | refine Sub.cons rfl (by first | rfl | (congr 1; omega) | assumption) ?_)) (fun w h => by simp only [hkv1, hku1, hsn]; exact (fun w h => OwnL.sat (by repeat (first | exact OwnL.refl | apply OwnL.take (by repeat (first | exact Take.head _ | apply Take.tail)) | apply OwnL.drop)) w (h.thin (SubL.mem (by repeat (first | exact SubL.refl | refine SubL.cons (by repeat (first | assumption | exact List.mem_cons_self | refine List.mem_cons_of_mem _ ?_)) ?_ | refine SubL.skip ?_))))) w h)
        · skip
          refine WC.exit ?_
          refine thenQ.exit ?_
          refine loopQ3.exit ?_
          refine blockQ.exit ?_
          -- cut_l1 1
          exact ⟨(i, V, U), ⟨i1, ok, hv, hu, hkp⟩, (by repeat (first | exact Sub.nil | refine Sub.cons rfl (by first | rfl | (congr 1; omega) | assumption) ?_)), (fun w h => OwnL.sat (by repeat (first | exact OwnL.refl | apply OwnL.take (by repeat (first | exact Take.head _ | apply Take.tail)) | apply OwnL.drop)) w (h.thin (SubL.mem (by repeat (first | exact SubL.refl | refine SubL.cons (by repeat (first | assumption | exact List.mem_cons_self | refine List.mem_cons_of_mem _ ?_)) ?_ | refine SubL.skip ?_)))))⟩
      · skip
        refine WL.no rfl rfl rfl rfl rfl rfl ?_
        refine WL.no rfl rfl rfl rfl rfl rfl ?_
        refine WL.rd rfl rfl rfl (Rd.pick_f rfl rfl rfl) ?_
        refine WL.nil ?_
        refine thenQ.normal ?_
        refine WC.no rfl ?_
        refine WC.exit ?_
        refine thenQ.exit ?_
        refine loopQ3.exit ?_
        refine blockQ.exit ?_
        -- cut_l1 2
        exact ⟨(i, V, U), ⟨i1, ok, hv, hu, hkp⟩, (by repeat (first | exact Sub.nil | refine Sub.cons rfl (by first | rfl | (congr 1; omega) | assumption) ?_)), (fun w h => OwnL.sat (by repeat (first | exact OwnL.refl | apply OwnL.take (by repeat (first | exact Take.head _ | apply Take.tail)) | apply OwnL.drop)) w (h.thin (SubL.mem (by repeat (first | exact SubL.refl | refine SubL.cons (by repeat (first | assumption | exact List.mem_cons_self | refine List.mem_cons_of_mem _ ?_)) ?_ | refine SubL.skip ?_)))))⟩
    · skip
      rintro ⟨i, V, U⟩ ⟨i1, ok, hv, hu, hkp⟩
      simp only at ok hv hu hkp i1 ⊢
      obtain ⟨s, hss⟩ : ∃ s, s = putN acts i (newS 4) := ⟨_, rfl⟩
      have hs4 : On4 s := by rw [hss]; exact On4.new.putN acts i
      rw [← hss] at ok hv hu hkp ⊢
      refine WC.seq ?_
      refine WC.region ?_
      refine WL.rd rfl rfl rfl (Rd.move rfl rfl) ?_
      refine WL.op rfl ?_
      refine OpW.call rfl rfl (by repeat (first | exact Evs.nil | apply Evs.cons rfl)) (by kernel_rfl) rfl rfl rfl ?_
      refine sync_spec ok (by omega) hv (by rw [hkp]; exact (by repeat (first | assumption | exact List.mem_cons_self | refine List.mem_cons_of_mem _ ?_))) ?_; intro V1 hv1 hkv1
      refine WL.nil ?_
      refine thenQ.normal ?_
      refine WC.seq ?_
      refine WC.region ?_
      refine WL.rd rfl rfl rfl (Rd.move rfl rfl) ?_
      refine WL.op rfl ?_
      refine OpW.call rfl rfl (by repeat (first | exact Evs.nil | apply Evs.cons rfl)) (by kernel_rfl) rfl rfl rfl ?_
      refine Fun.heap (O' := dO e U s (dO d V1 (syncS s) O)) (fun w h => OwnL.sat (by repeat (first | exact OwnL.refl | apply OwnL.take (by repeat (first | exact Take.head _ | apply Take.tail)) | apply OwnL.drop)) w (h.thin (SubL.mem (by repeat (first | exact SubL.refl | refine SubL.cons (by repeat (first | assumption | exact List.mem_cons_self | refine List.mem_cons_of_mem _ ?_)) ?_ | refine SubL.skip ?_))))) ?_
      refine sync_spec ok (by omega) hu (by rw [hkp]; exact (by repeat (first | assumption | exact List.mem_cons_self | refine List.mem_cons_of_mem _ ?_))) ?_; intro U1 hu1 hku1
      obtain ⟨s1, hs1⟩ : ∃ s1, s1 = syncS s := ⟨_, rfl⟩
      have h14 : On4 s1 := by rw [hs1]; exact hs4.sync.1
      have h15 : s1.since = [] := by rw [hs1]; exact hs4.sync.2
      have ok1 : DOk s1 31 := by rw [hs1]; exact ok.sync.mono (by omega)
      have hkp1 : s1.keep = [] := by rw [hs1, sync_keep, hkp]
      rw [← hs1] at hv1 hu1 ⊢
      refine WL.nil ?_
      refine thenQ.normal ?_
      refine WC.seq ?_
      refine WC.region ?_
      refine WL.op rfl ?_
      refine OpW.alloc rfl I35 rfl (by repeat (first | exact NF.nil | apply NF.cons)) rfl rfl ?_; intro b12
      refine WL.nil ?_
      refine thenQ.normal ?_
      refine WC.seq ?_
      refine WC.seq ?_
      refine WC.region ?_
      refine WL.rd rfl rfl rfl (Rd.assign rfl rfl) ?_
      refine WL.nil ?_
      refine thenQ.normal ?_
      refine WC.block ?_
      refine WC.pick [13, 1, 2, 7, 9, 12] (by repeat (first | exact Pick.nil | apply Pick.cons rfl)) ?_
      refine WC.loop2 1 (fun (k : Nat) (L : List VL) => [(13, .int .i64 (k : Int))]) (fun (k : Nat) (L : List VL) => dO d V1 s1 (dO e U1 s1 (rowC b12 35 (L.map (·.1)) :: (accsL 9 1 (one vs) L ++ O)))) (fun (k : Nat) (L : List VL) => k ≤ 4 ∧ Mays L s1 k) (fun (k : Nat) (L : List VL) => 4 - k) (0) (List.replicate 4 (.slice none 0 0, [])) (by repeat (first | exact Split.zero | apply Split.succ)) ?hinv2 (by repeat (first | exact Sub.nil | refine Sub.cons rfl (by first | rfl | (congr 1; omega) | assumption) ?_)) (fun w h => by
      have g1 := h.accNil (α := List UInt8) (e := 9) (size := 1) (enc := one vs)
      have g2 := g1.accNil (α := List UInt8) (e := 9) (size := 1) (enc := one vs)
      have g3 := g2.accNil (α := List UInt8) (e := 9) (size := 1) (enc := one vs)
      have g4 := g3.accNil (α := List UInt8) (e := 9) (size := 1) (enc := one vs)
      exact OwnL.sat (O' := dO d V1 s1 (dO e U1 s1 (rowC b12 35 [.slice none 0 0, .slice none 0 0, .slice none 0 0, .slice none 0 0] :: accC 9 1 (one vs) (.slice none 0 0) [] :: accC 9 1 (one vs) (.slice none 0 0) [] :: accC 9 1 (one vs) (.slice none 0 0) [] :: accC 9 1 (one vs) (.slice none 0 0) [] :: O))) (by repeat (first | exact OwnL.refl | apply OwnL.take (by repeat (first | exact Take.head _ | apply Take.tail)) | apply OwnL.drop)) w g4) ?_
      case hinv2 =>
        exact ⟨Nat.zero_le _, Mays.new s1⟩
      intro k L
      rintro ⟨k1, hM⟩
      refine WC.seq ?_
      refine WC.seq ?_
      refine WC.region ?_
      refine WL.rd rfl rfl rfl (Rd.move rfl rfl) ?_
      refine WL.rd rfl rfl rfl (Rd.lss rfl rfl rfl) ?_
      refine WL.nil ?_
      refine thenQ.normal ?_
      first | refine WC.ite rfl (fun hc3 => ?_) (fun hc3 => ?_) | refine WC.cond rfl (fun hc3 => ?_) (fun hc3 => ?_)
      · skip
        have hLl := hM.1
        have hLk : L[k]!.2.length = 0 := by rw [hM.2.1 k (by omega), if_neg (by omega)]; rfl
        have hmp : mayOf s1 k = [(readE s1 (k : Int)).1] := by rw [h14.read (by omega)]; unfold mayOf mayN lookN; rw [h15]; rfl
        refine WC.skip ?_
        refine thenQ.normal ?_
        refine WC.seq ?_
        refine WC.block ?_
        refine WC.seq ?_
        refine WC.region ?_
        refine WL.rd rfl rfl rfl (Rd.move rfl rfl) ?_
        refine WL.rd rfl rfl rfl (Rd.move rfl rfl) ?_
        refine WL.op rfl ?_
        refine OpW.call rfl rfl (by repeat (first | exact Evs.nil | apply Evs.cons rfl)) (by kernel_rfl) rfl rfl rfl ?_
        refine read_spec (ok1.mono (by omega)) ?_
        refine WL.rd rfl rfl rfl (Rd.move rfl rfl) ?_
        refine WL.rd rfl rfl rfl (Rd.extract rfl rfl rfl) ?_
        refine WL.rd rfl rfl rfl (Rd.extract rfl rfl rfl) ?_
        refine WL.rd rfl rfl rfl (Rd.assign rfl rfl) ?_
        refine WL.rd rfl rfl rfl (Rd.assign rfl rfl) ?_
        refine WL.nil ?_
        refine thenQ.normal ?_
        refine WC.region ?_
        refine WL.rd rfl rfl rfl (Rd.move rfl rfl) ?_
        refine WL.rd rfl rfl rfl (Rd.move rfl rfl) ?_
        refine WL.rd rfl rfl rfl (Rd.idxArr1 (k := k) rfl A35 rfl rfl rfl (by omega)) ?_
        refine WL.rd rfl rfl rfl (Rd.row1 (off := k) (u := L[k]!.1) rfl C34 rfl (by repeat (first | assumption | exact List.mem_cons_self | refine List.mem_cons_of_mem _ ?_)) (map_get L k (by omega))) ?_
        refine WL.rd rfl rfl rfl (Rd.move rfl rfl) ?_
        refine WL.op rfl ?_
        refine OpW.buildSl (ps := [(0, _)]) rfl S34 (by repeat (first | exact Evs.nil | apply Evs.cons rfl)) rfl rfl (by repeat (first | exact CellsOf.nil | apply CellsOf.cons rfl)) (by kernel_rfl) rfl rfl rfl ?_; intro b94
        refine WL.heap (fun w h => Sat.accsTake (L := L) (e := 9) (size := 1) (enc := one vs) (O := O) k (by omega) h (by repeat (first | exact TailP.here | apply TailP.cons))) ?_
        refine WL.op rfl ?_
        refine OpW.appendRow (enc := one vs) rfl S34 rfl rfl (by repeat (first | assumption | exact Take.head _ | apply Take.tail)) (by repeat (first | assumption | exact Take.head _ | apply Take.tail)) [(readE s1 (k : Int)).1] rfl (by rfl) rfl (by intro x; first | rfl | (cases x; rfl) | (rcases x with ⟨_, _, _⟩; rfl) | (rcases x with ⟨_, _, _, _⟩; rfl)) (by intro x; first | rfl | (cases x; rfl) | (rcases x with ⟨_, _, _⟩; rfl) | (rcases x with ⟨_, _, _, _⟩; rfl)) ⟨by simp only [maxLen, List.length_append, List.length_nil, List.length_cons, List.length_drop, List.length_take, List.length_map]; omega, by first | omega | (simp only [List.length_append, List.length_nil, List.length_cons, List.length_drop, List.length_take, List.length_map]; omega)⟩ rfl rfl ?_; intro v95 hv95
        refine WL.rd rfl rfl rfl (Rd.idxArr1 (k := k) rfl A35 rfl rfl rfl (by omega)) ?_
        refine WL.op rfl ?_
        refine OpW.store1 (off := k) rfl Z34 rfl rfl hv95 (by repeat (first | assumption | exact Take.head _ | apply Take.tail)) (by rw [List.length_map]; omega) rfl ?_
        refine WL.nil ?_
        refine blockQ.normal ?_
        refine thenQ.normal ?_
        refine WC.region ?_
        refine WL.rd rfl rfl rfl (Rd.move rfl rfl) ?_
        refine WL.rd rfl rfl rfl (Rd.add rfl rfl rfl (by omega)) ?_
        refine WL.rd rfl rfl rfl (Rd.assign rfl rfl) ?_
        refine WL.nil ?_
        -- next2_1
        exact loopQ2.mk (k + 1) (L.set k (v95, L[k]!.2 ++ [(readE s1 (k : Int)).1])) ⟨by omega, hM.next (by omega) hv95 hmp⟩ (by omega) (by repeat (first | exact Sub.nil | refine Sub.cons rfl (by first | rfl | (congr 1; omega) | assumption) ?_)) (fun w h => by
        rw [set_map L k v95 (L[k]!.2 ++ [(readE s1 (k : Int)).1])] at h
        have g1 : Sat _ (dO d V1 s1 (dO e U1 s1 (rowC b12 35 ((L.set k (v95, L[k]!.2 ++ [(readE s1 (k : Int)).1])).map (·.1)) :: accC 9 1 (one vs) v95 (L[k]!.2 ++ [(readE s1 (k : Int)).1]) :: (accsL 9 1 (one vs) (L.eraseIdx k) ++ O)))) w := (fun w h => OwnL.sat (by repeat (first | exact OwnL.refl | apply OwnL.take (by repeat (first | exact Take.head _ | apply Take.tail)) | apply OwnL.drop)) w (h.thin (SubL.mem (by repeat (first | exact SubL.refl | refine SubL.cons (by repeat (first | assumption | exact List.mem_cons_self | refine List.mem_cons_of_mem _ ?_)) ?_ | refine SubL.skip ?_))))) w h
        exact Sat.accsPut (L := L) (e := 9) (size := 1) (enc := one vs) (O := O) k (by omega) v95 _ g1 (by repeat (first | exact TailP.here | apply TailP.cons)))
      · skip
        refine WC.exit ?_
        refine thenQ.exit ?_
        refine loopQ2.exit ?_
        refine blockQ.exit ?_
        refine thenQ.normal ?_
        refine WC.cut (α := Nat × DV × DV × DSt × List VL) (fun _ => [(2, kv), (7, dp d), (9, dp e), (12, dp b12)]) (fun x => R) (fun x => dO d x.2.1 x.2.2.2.1 (dO e x.2.2.1 x.2.2.2.1 (rowC b12 35 (x.2.2.2.2.map (·.1)) :: (accsL 9 1 (one vs) x.2.2.2.2 ++ O)))) (fun x => x.1 ≤ 30 ∧ DOk x.2.2.2.1 61 ∧ VOk x.2.1 x.2.2.2.1 ∧ VOk x.2.2.1 x.2.2.2.1 ∧ On4 x.2.2.2.1 ∧ Mays x.2.2.2.2 x.2.2.2.1 4) ?_ ?_
        · skip
          refine WC.seq ?_
          refine WC.region ?_
          obtain rfl : k = 4 := by omega
          refine WL.heap (R' := SlE (one vi) V1.kv [] :: SlE (one vi) U1.kv [] :: R) (O' := dO d V1 s1 (dO e U1 s1 (rowC b12 35 (L.map (·.1)) :: (accsL 9 1 (one vs) L ++ O)))) (fun w h => by rw [hkv1, hku1]; exact (fun w h => OwnL.sat (by repeat (first | exact OwnL.refl | apply OwnL.take (by repeat (first | exact Take.head _ | apply Take.tail)) | apply OwnL.drop)) w (h.thin (SubL.mem (by repeat (first | exact SubL.refl | refine SubL.cons (by repeat (first | assumption | exact List.mem_cons_self | refine List.mem_cons_of_mem _ ?_)) ?_ | refine SubL.skip ?_))))) w h) ?_
          refine WL.rd rfl rfl rfl (Rd.assign rfl rfl) ?_
          refine WL.nil ?_
          refine thenQ.normal ?_
          refine WC.block ?_
          refine WC.pick [16, 1, 2, 7, 9, 12] (by repeat (first | exact Pick.nil | apply Pick.cons rfl)) ?_
          refine WC.loop5r 1 (fun (i : Nat) (V : DV) (U : DV) (s : DSt) (L : List VL) => [(16, .int .i64 (i : Int))]) (fun (i : Nat) (V : DV) (U : DV) (s : DSt) (L : List VL) => SlE (one vi) V.kv [] :: SlE (one vi) U.kv [] :: R) (fun (i : Nat) (V : DV) (U : DV) (s : DSt) (L : List VL) => dO d V s (dO e U s (rowC b12 35 (L.map (·.1)) :: (accsL 9 1 (one vs) L ++ O)))) (fun (i : Nat) (V : DV) (U : DV) (s : DSt) (L : List VL) => i ≤ 30 ∧ DOk s (31 + i) ∧ VOk V s ∧ VOk U s ∧ s.keep = [] ∧ On4 s ∧ Mays L s 4 ∧ s.since.length ≤ i) (fun (i : Nat) (V : DV) (U : DV) (s : DSt) (L : List VL) => 30 - i) (0) (V1) (U1) (s1) (L) (by repeat (first | exact Split.zero | apply Split.succ)) ?hinv3 (by repeat (first | exact Sub.nil | refine Sub.cons rfl (by first | rfl | (congr 1; omega) | assumption) ?_)) (fun w h => by exact (fun w h => OwnL.sat (by repeat (first | exact OwnL.refl | apply OwnL.take (by repeat (first | exact Take.head _ | apply Take.tail)) | apply OwnL.drop)) w (h.thin (SubL.mem (by repeat (first | exact SubL.refl | refine SubL.cons (by repeat (first | assumption | exact List.mem_cons_self | refine List.mem_cons_of_mem _ ?_)) ?_ | refine SubL.skip ?_))))) w h) ?_
          case hinv3 =>
            exact ⟨Nat.zero_le _, ok1, hv1, hu1, hkp1, h14, hM, by rw [h15]; exact Nat.le_refl _⟩
          intro i V U s L
          rintro ⟨i1, ok, hv, hu, hkp, h4, hM, hsl⟩
          refine WC.seq ?_
          refine WC.seq ?_
          refine WC.region ?_
          refine WL.rd rfl rfl rfl (Rd.move rfl rfl) ?_
          refine WL.rd rfl rfl rfl (Rd.move rfl rfl) ?_
          refine WL.rd rfl rfl rfl ((by first | exact Rd.lenE rfl rfl Try.underlying22 (by repeat (first | assumption | exact List.mem_cons_self | refine List.mem_cons_of_mem _ ?_)) | exact Rd.lenA rfl rfl Try.underlying22 (by repeat (first | assumption | exact List.mem_cons_self | refine List.mem_cons_of_mem _ ?_)) | exact Rd.len rfl rfl Try.underlying22)) ?_
          refine WL.rd rfl rfl rfl (Rd.lss rfl rfl rfl) ?_
          refine WL.rd rfl rfl rfl (Rd.move rfl rfl) ?_
          refine WL.case 101 rfl (fun hg101 => ?_) (fun hg101 => ?_)
          · skip
            refine WL.rd_yes rfl rfl rfl rfl rfl rfl (Rd.move rfl rfl) ?_
            refine WL.rd_yes rfl rfl rfl rfl rfl rfl (Rd.lss rfl rfl rfl) ?_
            refine WL.rd rfl rfl rfl (Rd.pick_t rfl rfl rfl) ?_
            refine WL.nil ?_
            refine thenQ.normal ?_
            first | refine WC.ite rfl (fun hc4 => ?_) (fun hc4 => ?_) | refine WC.cond rfl (fun hc4 => ?_) (fun hc4 => ?_)
            · skip
              refine WC.skip ?_
              refine thenQ.normal ?_
              refine WC.seq ?_
              refine WC.block ?_
              refine WC.seq ?_
              have hil : i < more.length := by omega
              obtain ⟨a, ha⟩ : ∃ a, a = more[i]! := ⟨_, rfl⟩
              obtain ⟨z, hz⟩ : ∃ z, z = land .i64 a.2.1 3 := ⟨_, rfl⟩
              have hz4 : z < 4 := by rw [hz]; exact land3 _
              have hkpp : (putA s a).keep = [] := by unfold putA; rw [put_keep, hkp]
              have hLl := hM.1
              have hLk : L[z]!.2.length ≤ 31 := by
                rw [hM.2.1 z hz4, if_pos hz4]
                unfold mayOf mayN
                rw [List.length_cons, List.length_map]
                have := List.length_filter_le (fun w : Nat × List UInt8 => decide (w.1 = z)) (s.since.take s.since.length)
                rw [List.length_take] at this
                omega
              have hrp : (readE (putA s a) (z : Int)).1 = fullE (a.2.2.1.take 512) := by rw [hz]; exact h4.readPut a
              have hadd := fun v hv => hM.add h4 a (v := v) hv
              rw [← hz] at hadd
              have hput : putS s (z : Int) (a.2.2.1.take 512) = putA s a := by rw [hz]; rfl
              refine WC.region ?_
              refine WL.rd rfl rfl rfl (Rd.move rfl rfl) ?_
              refine WL.rd rfl rfl rfl (Rd.move rfl rfl) ?_
              refine WL.rd rfl rfl rfl ((by first | exact Rd.idx rfl S22 rfl rfl rfl (by repeat (first | assumption | exact List.mem_cons_self | refine List.mem_cons_of_mem _ ?_)) (by first | omega | (simp only [List.length_cons, List.length_nil, List.length_append, List.length_map]; omega)) | exact Rd.idxA rfl S22 rfl rfl rfl (by repeat (first | assumption | exact List.mem_cons_self | refine List.mem_cons_of_mem _ ?_)) (by first | omega | (simp only [List.length_cons, List.length_nil, List.length_append, List.length_map]; omega)) | exact Rd.idxR rfl S22 rfl rfl rfl (by omega))) ?_
              refine WL.rd rfl rfl rfl ((by first | exact Rd.field rfl F31_1 rfl rfl | exact Rd.fieldE rfl F31_1 rfl (by repeat (first | assumption | exact List.mem_cons_self | refine List.mem_cons_of_mem _ ?_)) (by omega) | exact Rd.fieldA rfl F31_1 rfl (by repeat (first | assumption | exact List.mem_cons_self | refine List.mem_cons_of_mem _ ?_)) (by omega))) ?_
              refine WL.rd rfl rfl rfl ((by first | exact Rd.get rfl C3 rfl (by repeat (first | assumption | exact List.mem_cons_self | refine List.mem_cons_of_mem _ ?_)) (by first | assumption | rfl | exact get!_of_lt (by omega)) | exact Rd.getA rfl C3 rfl (by repeat (first | assumption | exact List.mem_cons_self | refine List.mem_cons_of_mem _ ?_)) (by first | assumption | rfl | exact get!_of_lt (by omega)) | exact Rd.row1 rfl C3 rfl (by repeat (first | assumption | exact List.mem_cons_self | refine List.mem_cons_of_mem _ ?_)) (by rfl) | exact Rd.getF rfl C3 rfl (by repeat (first | assumption | exact List.mem_cons_self | refine List.mem_cons_of_mem _ ?_)) (by intro x; first | rfl | (cases x; rfl) | (rcases x with ⟨_, _, _⟩; rfl) | (rcases x with ⟨_, _, _, _⟩; rfl)) rfl (by first | assumption | rfl | exact get!_of_lt (by omega)) (by rfl) | exact Rd.getFA rfl C3 rfl (by repeat (first | assumption | exact List.mem_cons_self | refine List.mem_cons_of_mem _ ?_)) (by intro x; first | rfl | (cases x; rfl) | (rcases x with ⟨_, _, _⟩; rfl) | (rcases x with ⟨_, _, _, _⟩; rfl)) rfl (by first | assumption | rfl | exact get!_of_lt (by omega)) (by rfl))) ?_
              refine WL.rd rfl rfl rfl (Rd.andm (m := 3) rfl rfl rfl rfl (by decide)) ?_
              refine WL.say 112 (u := .int .i64 (z : Int)) rfl (by rw [hz, ha]) ?_
              refine WL.rd rfl rfl rfl (Rd.assign rfl rfl) ?_
              refine WL.nil ?_
              refine thenQ.normal ?_
              refine WC.seq ?_
              refine WC.region ?_
              refine WL.rd rfl rfl rfl (Rd.move rfl rfl) ?_
              refine WL.rd rfl rfl rfl (Rd.move rfl rfl) ?_
              refine WL.rd rfl rfl rfl (Rd.move rfl rfl) ?_
              refine WL.rd rfl rfl rfl (Rd.move rfl rfl) ?_
              refine WL.rd rfl rfl rfl ((by first | exact Rd.idx rfl S22 rfl rfl rfl (by repeat (first | assumption | exact List.mem_cons_self | refine List.mem_cons_of_mem _ ?_)) (by first | omega | (simp only [List.length_cons, List.length_nil, List.length_append, List.length_map]; omega)) | exact Rd.idxA rfl S22 rfl rfl rfl (by repeat (first | assumption | exact List.mem_cons_self | refine List.mem_cons_of_mem _ ?_)) (by first | omega | (simp only [List.length_cons, List.length_nil, List.length_append, List.length_map]; omega)) | exact Rd.idxR rfl S22 rfl rfl rfl (by omega))) ?_
              refine WL.rd rfl rfl rfl ((by first | exact Rd.field rfl F31_2 rfl rfl | exact Rd.fieldE rfl F31_2 rfl (by repeat (first | assumption | exact List.mem_cons_self | refine List.mem_cons_of_mem _ ?_)) (by omega) | exact Rd.fieldA rfl F31_2 rfl (by repeat (first | assumption | exact List.mem_cons_self | refine List.mem_cons_of_mem _ ?_)) (by omega))) ?_
              refine WL.rd rfl rfl rfl ((by first | exact Rd.get rfl C9 rfl (by repeat (first | assumption | exact List.mem_cons_self | refine List.mem_cons_of_mem _ ?_)) (by first | assumption | rfl | exact get!_of_lt (by omega)) | exact Rd.getA rfl C9 rfl (by repeat (first | assumption | exact List.mem_cons_self | refine List.mem_cons_of_mem _ ?_)) (by first | assumption | rfl | exact get!_of_lt (by omega)) | exact Rd.row1 rfl C9 rfl (by repeat (first | assumption | exact List.mem_cons_self | refine List.mem_cons_of_mem _ ?_)) (by rfl) | exact Rd.getF rfl C9 rfl (by repeat (first | assumption | exact List.mem_cons_self | refine List.mem_cons_of_mem _ ?_)) (by intro x; first | rfl | (cases x; rfl) | (rcases x with ⟨_, _, _⟩; rfl) | (rcases x with ⟨_, _, _, _⟩; rfl)) rfl (by first | assumption | rfl | exact get!_of_lt (by omega)) (by rfl) | exact Rd.getFA rfl C9 rfl (by repeat (first | assumption | exact List.mem_cons_self | refine List.mem_cons_of_mem _ ?_)) (by intro x; first | rfl | (cases x; rfl) | (rcases x with ⟨_, _, _⟩; rfl) | (rcases x with ⟨_, _, _, _⟩; rfl)) rfl (by first | assumption | rfl | exact get!_of_lt (by omega)) (by rfl))) ?_
              refine WL.op rfl ?_
              refine OpW.call rfl rfl (by repeat (first | exact Evs.nil | apply Evs.cons rfl)) (by kernel_rfl) rfl rfl rfl ?_
              refine short_spec ?_
              refine WL.op rfl ?_
              refine OpW.call rfl rfl (by repeat (first | exact Evs.nil | apply Evs.cons rfl)) (by kernel_rfl) rfl rfl rfl ?_
              rw [← ha]
              refine write_spec (s := s) (dd := a.2.2.1.take 512) (i := (z : Int)) ok (by omega) hv (by rw [hkp]; exact (by repeat (first | assumption | exact List.mem_cons_self | refine List.mem_cons_of_mem _ ?_))) ?_; rw [hput]; intro V2 hv2 hkv2
              refine WL.nil ?_
              refine thenQ.normal ?_
              refine WC.seq ?_
              refine WC.region ?_
              refine WL.rd rfl rfl rfl (Rd.move rfl rfl) ?_
              refine WL.rd rfl rfl rfl (Rd.move rfl rfl) ?_
              refine WL.rd rfl rfl rfl (Rd.move rfl rfl) ?_
              refine WL.rd rfl rfl rfl (Rd.move rfl rfl) ?_
              refine WL.rd rfl rfl rfl ((by first | exact Rd.idx rfl S22 rfl rfl rfl (by repeat (first | assumption | exact List.mem_cons_self | refine List.mem_cons_of_mem _ ?_)) (by first | omega | (simp only [List.length_cons, List.length_nil, List.length_append, List.length_map]; omega)) | exact Rd.idxA rfl S22 rfl rfl rfl (by repeat (first | assumption | exact List.mem_cons_self | refine List.mem_cons_of_mem _ ?_)) (by first | omega | (simp only [List.length_cons, List.length_nil, List.length_append, List.length_map]; omega)) | exact Rd.idxR rfl S22 rfl rfl rfl (by omega))) ?_
              refine WL.rd rfl rfl rfl ((by first | exact Rd.field rfl F31_2 rfl rfl | exact Rd.fieldE rfl F31_2 rfl (by repeat (first | assumption | exact List.mem_cons_self | refine List.mem_cons_of_mem _ ?_)) (by omega) | exact Rd.fieldA rfl F31_2 rfl (by repeat (first | assumption | exact List.mem_cons_self | refine List.mem_cons_of_mem _ ?_)) (by omega))) ?_
              refine WL.rd rfl rfl rfl ((by first | exact Rd.get rfl C9 rfl (by repeat (first | assumption | exact List.mem_cons_self | refine List.mem_cons_of_mem _ ?_)) (by first | assumption | rfl | exact get!_of_lt (by omega)) | exact Rd.getA rfl C9 rfl (by repeat (first | assumption | exact List.mem_cons_self | refine List.mem_cons_of_mem _ ?_)) (by first | assumption | rfl | exact get!_of_lt (by omega)) | exact Rd.row1 rfl C9 rfl (by repeat (first | assumption | exact List.mem_cons_self | refine List.mem_cons_of_mem _ ?_)) (by rfl) | exact Rd.getF rfl C9 rfl (by repeat (first | assumption | exact List.mem_cons_self | refine List.mem_cons_of_mem _ ?_)) (by intro x; first | rfl | (cases x; rfl) | (rcases x with ⟨_, _, _⟩; rfl) | (rcases x with ⟨_, _, _, _⟩; rfl)) rfl (by first | assumption | rfl | exact get!_of_lt (by omega)) (by rfl) | exact Rd.getFA rfl C9 rfl (by repeat (first | assumption | exact List.mem_cons_self | refine List.mem_cons_of_mem _ ?_)) (by intro x; first | rfl | (cases x; rfl) | (rcases x with ⟨_, _, _⟩; rfl) | (rcases x with ⟨_, _, _, _⟩; rfl)) rfl (by first | assumption | rfl | exact get!_of_lt (by omega)) (by rfl))) ?_
              refine WL.op rfl ?_
              refine OpW.call rfl rfl (by repeat (first | exact Evs.nil | apply Evs.cons rfl)) (by kernel_rfl) rfl rfl rfl ?_
              refine short_spec ?_
              refine WL.op rfl ?_
              refine OpW.call rfl rfl (by repeat (first | exact Evs.nil | apply Evs.cons rfl)) (by kernel_rfl) rfl rfl rfl ?_
              rw [← ha]
              refine Fun.heap (O' := dO e U s (dO d V2 (putA s a) (rowC b12 35 (L.map (·.1)) :: (accsL 9 1 (one vs) L ++ O)))) (fun w h => OwnL.sat (by repeat (first | exact OwnL.refl | apply OwnL.take (by repeat (first | exact Take.head _ | apply Take.tail)) | apply OwnL.drop)) w (h.thin (SubL.mem (by repeat (first | exact SubL.refl | refine SubL.cons (by repeat (first | assumption | exact List.mem_cons_self | refine List.mem_cons_of_mem _ ?_)) ?_ | refine SubL.skip ?_))))) ?_
              refine write_spec (s := s) (dd := a.2.2.1.take 512) (i := (z : Int)) ok (by omega) hu (by rw [hkp]; exact (by repeat (first | assumption | exact List.mem_cons_self | refine List.mem_cons_of_mem _ ?_))) ?_; rw [hput]; intro U2 hu2 hku2
              refine WL.nil ?_
              refine thenQ.normal ?_
              refine WC.seq ?_
              refine WC.region ?_
              refine WL.rd rfl rfl rfl (Rd.move rfl rfl) ?_
              refine WL.rd rfl rfl rfl (Rd.move rfl rfl) ?_
              refine WL.op rfl ?_
              refine OpW.call rfl rfl (by repeat (first | exact Evs.nil | apply Evs.cons rfl)) (by kernel_rfl) rfl rfl rfl ?_
              refine Fun.heap (O' := dO d V2 (putA s a) (dO e U2 (putA s a) (rowC b12 35 (L.map (·.1)) :: (accsL 9 1 (one vs) L ++ O)))) (fun w h => OwnL.sat (by repeat (first | exact OwnL.refl | apply OwnL.take (by repeat (first | exact Take.head _ | apply Take.tail)) | apply OwnL.drop)) w (h.thin (SubL.mem (by repeat (first | exact SubL.refl | refine SubL.cons (by repeat (first | assumption | exact List.mem_cons_self | refine List.mem_cons_of_mem _ ?_)) ?_ | refine SubL.skip ?_))))) ?_
              refine read_spec ((ok.put _ _).mono (by omega)) ?_
              refine WL.rd rfl rfl rfl (Rd.move rfl rfl) ?_
              refine WL.rd rfl rfl rfl (Rd.extract rfl rfl rfl) ?_
              refine WL.say 135 (u := vs (fullE (a.2.2.1.take 512))) rfl (by rw [← hrp]; rfl) ?_
              refine WL.rd rfl rfl rfl (Rd.extract rfl rfl rfl) ?_
              refine WL.rd rfl rfl rfl (Rd.assign rfl rfl) ?_
              refine WL.rd rfl rfl rfl (Rd.assign rfl rfl) ?_
              refine WL.nil ?_
              refine thenQ.normal ?_
              refine WC.region ?_
              refine WL.rd rfl rfl rfl (Rd.move rfl rfl) ?_
              refine WL.rd rfl rfl rfl (Rd.move rfl rfl) ?_
              refine WL.rd rfl rfl rfl (Rd.idxArr1 (k := z) rfl A35 rfl rfl rfl (by omega)) ?_
              refine WL.rd rfl rfl rfl (Rd.row1 (off := z) (u := L[z]!.1) rfl C34 rfl (by repeat (first | assumption | exact List.mem_cons_self | refine List.mem_cons_of_mem _ ?_)) (map_get L z (by omega))) ?_
              refine WL.rd rfl rfl rfl (Rd.move rfl rfl) ?_
              refine WL.op rfl ?_
              refine OpW.buildSl (ps := [(0, _)]) rfl S34 (by repeat (first | exact Evs.nil | apply Evs.cons rfl)) rfl rfl (by repeat (first | exact CellsOf.nil | apply CellsOf.cons rfl)) (by kernel_rfl) rfl rfl rfl ?_; intro b142
              refine WL.heap (fun w h => Sat.accsTake (L := L) (e := 9) (size := 1) (enc := one vs) (O := O) z (by omega) h (by repeat (first | exact TailP.here | apply TailP.cons))) ?_
              refine WL.op rfl ?_
              refine OpW.appendRow (enc := one vs) rfl S34 rfl rfl (by repeat (first | assumption | exact Take.head _ | apply Take.tail)) (by repeat (first | assumption | exact Take.head _ | apply Take.tail)) [fullE (a.2.2.1.take 512)] rfl (by rfl) rfl (by intro x; first | rfl | (cases x; rfl) | (rcases x with ⟨_, _, _⟩; rfl) | (rcases x with ⟨_, _, _, _⟩; rfl)) (by intro x; first | rfl | (cases x; rfl) | (rcases x with ⟨_, _, _⟩; rfl) | (rcases x with ⟨_, _, _, _⟩; rfl)) ⟨by simp only [maxLen, List.length_append, List.length_nil, List.length_cons, List.length_drop, List.length_take, List.length_map]; omega, by first | omega | (simp only [List.length_append, List.length_nil, List.length_cons, List.length_drop, List.length_take, List.length_map]; omega)⟩ rfl rfl ?_; intro v143 hv143
              refine WL.rd rfl rfl rfl (Rd.idxArr1 (k := z) rfl A35 rfl rfl rfl (by omega)) ?_
              refine WL.op rfl ?_
              refine OpW.store1 (off := z) rfl Z34 rfl rfl hv143 (by repeat (first | assumption | exact Take.head _ | apply Take.tail)) (by rw [List.length_map]; omega) rfl ?_
              refine WL.nil ?_
              refine blockQ.normal ?_
              refine thenQ.normal ?_
              refine WC.region ?_
              refine WL.rd rfl rfl rfl (Rd.move rfl rfl) ?_
              refine WL.rd rfl rfl rfl (Rd.add rfl rfl rfl (by omega)) ?_
              refine WL.rd rfl rfl rfl (Rd.assign rfl rfl) ?_
              refine WL.nil ?_
              -- next3_1
              exact loopQ5.mk (i + 1) V2 U2 (putA s a) (L.set z (v143, L[z]!.2 ++ [fullE (a.2.2.1.take 512)])) ⟨by omega, ok.put _ _, hv2, hu2, hkpp, h4.putOn a, hadd _ hv143, by rw [h4.put]; simp; omega⟩ (by omega) (by repeat (first | exact Sub.nil | refine Sub.cons rfl (by first | rfl | (congr 1; omega) | assumption) ?_)) (fun w h => by
              simp only [hkv2, hku2]
              rw [set_map L z v143 (L[z]!.2 ++ [fullE (a.2.2.1.take 512)])] at h
              have g1 : Sat (SlE (one vi) V.kv [] :: SlE (one vi) U.kv [] :: R) (dO d V2 (putA s a) (dO e U2 (putA s a) (rowC b12 35 ((L.set z (v143, L[z]!.2 ++ [fullE (a.2.2.1.take 512)])).map (·.1)) :: accC 9 1 (one vs) v143 (L[z]!.2 ++ [fullE (a.2.2.1.take 512)]) :: (accsL 9 1 (one vs) (L.eraseIdx z) ++ O)))) w := (fun w h => OwnL.sat (by repeat (first | exact OwnL.refl | apply OwnL.take (by repeat (first | exact Take.head _ | apply Take.tail)) | apply OwnL.drop)) w (h.thin (SubL.mem (by repeat (first | exact SubL.refl | refine SubL.cons (by repeat (first | assumption | exact List.mem_cons_self | refine List.mem_cons_of_mem _ ?_)) ?_ | refine SubL.skip ?_))))) w h
              exact Sat.accsPut (L := L) (e := 9) (size := 1) (enc := one vs) (O := O) z (by omega) v143 _ g1 (by repeat (first | exact TailP.here | apply TailP.cons)))
            · skip
              refine WC.exit ?_
              refine thenQ.exit ?_
              refine loopQ5.exit ?_
              refine blockQ.exit ?_
              -- kut_l3 1
              exact ⟨(i, V, U, s, L), ⟨i1, ok.mono (by omega), hv, hu, h4, hM⟩, (by repeat (first | exact Sub.nil | refine Sub.cons rfl (by first | rfl | (congr 1; omega) | assumption) ?_)), (fun w h => OwnL.sat (by repeat (first | exact OwnL.refl | apply OwnL.take (by repeat (first | exact Take.head _ | apply Take.tail)) | apply OwnL.drop)) w (h.thin (SubL.mem (by repeat (first | exact SubL.refl | refine SubL.cons (by repeat (first | assumption | exact List.mem_cons_self | refine List.mem_cons_of_mem _ ?_)) ?_ | refine SubL.skip ?_)))))⟩
          · skip
            refine WL.no rfl rfl rfl rfl rfl rfl ?_
            refine WL.no rfl rfl rfl rfl rfl rfl ?_
            refine WL.rd rfl rfl rfl (Rd.pick_f rfl rfl rfl) ?_
            refine WL.nil ?_
            refine thenQ.normal ?_
            refine WC.no rfl ?_
            refine WC.exit ?_
            refine thenQ.exit ?_
            refine loopQ5.exit ?_
            refine blockQ.exit ?_
            -- kut_l3 2
            exact ⟨(i, V, U, s, L), ⟨i1, ok.mono (by omega), hv, hu, h4, hM⟩, (by repeat (first | exact Sub.nil | refine Sub.cons rfl (by first | rfl | (congr 1; omega) | assumption) ?_)), (fun w h => OwnL.sat (by repeat (first | exact OwnL.refl | apply OwnL.take (by repeat (first | exact Take.head _ | apply Take.tail)) | apply OwnL.drop)) w (h.thin (SubL.mem (by repeat (first | exact SubL.refl | refine SubL.cons (by repeat (first | assumption | exact List.mem_cons_self | refine List.mem_cons_of_mem _ ?_)) ?_ | refine SubL.skip ?_)))))⟩
        · skip
          rintro ⟨i, V, U, s, L⟩ ⟨i1, ok, hv, hu, h4, hM⟩
          simp only at ok hv hu h4 hM i1 ⊢
          have hLl := hM.1
          refine WC.seq ?_
          refine WC.region ?_
          refine WL.rd rfl rfl rfl (Rd.move rfl rfl) ?_
          refine WL.op rfl ?_
          refine OpW.buildSl (ps := []) rfl S23 (by repeat (first | exact Evs.nil | apply Evs.cons rfl)) rfl rfl (by repeat (first | exact CellsOf.nil | apply CellsOf.cons rfl)) (by kernel_rfl) rfl rfl rfl ?_; intro b146
          refine WL.heap (fun w h => Sat.accRow (α := Int) (b := b146) (enc := one vi) (xs := []) (by repeat (first | assumption | exact Take.head _ | apply Take.tail)) rfl rfl (fun _ => rfl) (Nat.zero_le _) h) ?_
          refine WL.rd rfl rfl rfl (Rd.move rfl rfl) ?_
          refine WL.op rfl ?_
          refine OpW.appendE (enc := one vi) (ys := keep) (xs := []) rfl S23 Try.underlying23 rfl rfl (by repeat (first | assumption | exact Take.head _ | apply Take.tail)) (by repeat (first | assumption | exact List.mem_cons_self | refine List.mem_cons_of_mem _ ?_)) (by intro x; first | rfl | (cases x; rfl) | (rcases x with ⟨_, _, _⟩; rfl) | (rcases x with ⟨_, _, _, _⟩; rfl)) (by intro x; first | rfl | (cases x; rfl) | (rcases x with ⟨_, _, _⟩; rfl) | (rcases x with ⟨_, _, _, _⟩; rfl)) ⟨by simp only [maxLen, List.length_append, List.length_nil, List.length_cons, List.length_drop, List.length_take, List.length_map]; omega, by first | omega | (simp only [List.length_append, List.length_nil, List.length_cons, List.length_drop, List.length_take, List.length_map]; omega)⟩ rfl rfl ?_; intro v148 hv148
          rw [List.nil_append]
          refine WL.heap (fun w h => Sat.shareA (xs := keep) (by repeat (first | assumption | exact Take.head _ | apply Take.tail)) h) ?_
          refine WL.op rfl ?_
          refine OpW.call rfl rfl (by repeat (first | exact Evs.nil | apply Evs.cons rfl)) (by kernel_rfl) rfl rfl rfl ?_
          refine crash_spec (keep := keep) ok (by omega) hv (by repeat (first | assumption | exact List.mem_cons_self | refine List.mem_cons_of_mem _ ?_)) ?_; intro hv2
          refine WL.nil ?_
          refine thenQ.normal ?_
          refine WC.seq ?_
          refine WC.region ?_
          refine WL.rd rfl rfl rfl (Rd.move rfl rfl) ?_
          refine WL.op rfl ?_
          refine OpW.buildSl (ps := [(0, _)]) rfl S23 (by repeat (first | exact Evs.nil | apply Evs.cons rfl)) rfl rfl (by repeat (first | exact CellsOf.nil | apply CellsOf.cons rfl)) (by kernel_rfl) rfl rfl rfl ?_; intro b151
          refine WL.heap (fun w h => Sat.shareRow (enc := one vi) (xs := [1]) (m := 1) (by repeat (first | assumption | exact Take.head _ | apply Take.tail)) rfl rfl (by decide) h) ?_
          refine WL.op rfl ?_
          refine OpW.call rfl rfl (by repeat (first | exact Evs.nil | apply Evs.cons rfl)) (by kernel_rfl) rfl rfl rfl ?_
          refine Fun.heap (O' := dO e U s (dO d ⟨V.lv, .slice none 0 0, V.kv, none⟩ (crashS s keep) (rowC b12 35 (L.map (·.1)) :: (accsL 9 1 (one vs) L ++ O)))) (fun w h => OwnL.sat (by repeat (first | exact OwnL.refl | apply OwnL.take (by repeat (first | exact Take.head _ | apply Take.tail)) | apply OwnL.drop)) w (h.thin (SubL.mem (by repeat (first | exact SubL.refl | refine SubL.cons (by repeat (first | assumption | exact List.mem_cons_self | refine List.mem_cons_of_mem _ ?_)) ?_ | refine SubL.skip ?_))))) ?_
          refine crash_spec (keep := [1]) ok (by omega) hu (by repeat (first | assumption | exact List.mem_cons_self | refine List.mem_cons_of_mem _ ?_)) ?_; intro hu2
          refine WL.heap (R' := AllSl (one vs) L :: R) (O' := dO d ⟨V.lv, .slice none 0 0, V.kv, none⟩ (crashS s keep) (dO e ⟨U.lv, .slice none 0 0, U.kv, none⟩ (crashS s [1]) (rowC b12 35 (L.map (·.1)) :: O))) (fun w h => by
          have g1 : Sat R (dO d ⟨V.lv, .slice none 0 0, V.kv, none⟩ (crashS s keep) (dO e ⟨U.lv, .slice none 0 0, U.kv, none⟩ (crashS s [1]) (rowC b12 35 (L.map (·.1)) :: (accsL 9 1 (one vs) L ++ O)))) w := (fun w h => OwnL.sat (by repeat (first | exact OwnL.refl | apply OwnL.take (by repeat (first | exact Take.head _ | apply Take.tail)) | apply OwnL.drop)) w (h.thin (SubL.mem (by repeat (first | exact SubL.refl | refine SubL.cons (by repeat (first | assumption | exact List.mem_cons_self | refine List.mem_cons_of_mem _ ?_)) ?_ | refine SubL.skip ?_))))) w h
          exact accs_owned (L := L) (e := 9) (size := 1) (O := O) (by repeat (first | exact TailP.here | apply TailP.cons)) g1) ?_
          refine WL.nil ?_
          refine thenQ.normal ?_
          refine WC.seq ?_
          refine WC.seq ?_
          refine WC.region ?_
          refine WL.rd rfl rfl rfl (Rd.assign rfl rfl) ?_
          refine WL.nil ?_
          refine thenQ.normal ?_
          refine WC.block ?_
          refine WC.pick [20, 7, 9, 12] (by repeat (first | exact Pick.nil | apply Pick.cons rfl)) ?_
          refine WC.loop1o 1 (fun (z : Nat) => [(20, .int .i64 (z : Int))]) (fun (z : Nat) => z ≤ 4) (fun (z : Nat) => 4 - z) (0) (by repeat (first | exact Split.zero | apply Split.succ)) ?hinv4 (by repeat (first | exact Sub.nil | refine Sub.cons rfl (by first | rfl | (congr 1; omega) | assumption) ?_)) (fun _ h => h) ?_
          case hinv4 =>
            exact Nat.zero_le _
          intro z
          rintro z1
          refine WC.seq ?_
          refine WC.seq ?_
          refine WC.region ?_
          refine WL.rd rfl rfl rfl (Rd.move rfl rfl) ?_
          refine WL.rd rfl rfl rfl (Rd.lss rfl rfl rfl) ?_
          refine WL.nil ?_
          refine thenQ.normal ?_
          first | refine WC.ite rfl (fun hc5 => ?_) (fun hc5 => ?_) | refine WC.cond rfl (fun hc5 => ?_) (fun hc5 => ?_)
          · skip
            have hz4 : z < 4 := by omega
            have okd := ok.crash keep
            have oke := ok.crash [1]
            have hmz : L[z]!.2 = mayOf s z := by rw [hM.2.1 z hz4, if_pos hz4]
            have hin : (readE (crashS s keep) (z : Int)).1 ∈ L[z]!.2 := by
              rw [h4.readCrash keep hz4, hmz]
              exact failN_mem (by rw [h4.len]; exact hz4) _ (Nat.le_refl _)
            have hlast : (readE (crashS s [1]) (z : Int)).1 = L[z]!.2[L[z]!.2.length - 1]! := by
              rw [h4.readCrash [1] hz4, hmz]
              exact failN_last odd_one (by rw [h4.len]; exact hz4) _ (Nat.le_refl _)
            have hpos : 0 < L[z]!.2.length := List.length_pos_of_mem hin
            refine WC.know (p := AllSl (one vs) L) (by repeat (first | assumption | exact List.mem_cons_self | refine List.mem_cons_of_mem _ ?_)) (fun w h => (h.get (i := z) (by omega)).len) fun hlen => ?_
            refine WC.heap (fun w h => h.derive (q := SlE (one vs) L[z]!.1 L[z]!.2) (fun w hR => AllSl.get (by omega) (hR (AllSl (one vs) L) (by repeat (first | assumption | exact List.mem_cons_self | refine List.mem_cons_of_mem _ ?_))))) ?_
            obtain ⟨x, hx⟩ : ∃ x, x = (readE (crashS s keep) (z : Int)).1 := ⟨_, rfl⟩
            obtain ⟨y, hy⟩ : ∃ y, y = (readE (crashS s [1]) (z : Int)).1 := ⟨_, rfl⟩
            obtain ⟨l, hl⟩ : ∃ l, l = L[z]!.2 := ⟨_, rfl⟩
            rw [← hx] at hin
            rw [← hy] at hlast
            rw [← hl] at hin hlast hpos hlen ⊢
            refine WC.skip ?_
            refine thenQ.normal ?_
            refine WC.seq ?_
            refine WC.block ?_
            refine WC.seq ?_
            refine WC.region ?_
            refine WL.rd rfl rfl rfl (Rd.move rfl rfl) ?_
            refine WL.rd rfl rfl rfl (Rd.move rfl rfl) ?_
            refine WL.op rfl ?_
            refine OpW.call rfl rfl (by repeat (first | exact Evs.nil | apply Evs.cons rfl)) (by kernel_rfl) rfl rfl rfl ?_
            refine read_spec (okd.mono (by omega)) ?_
            refine WL.rd rfl rfl rfl (Rd.move rfl rfl) ?_
            refine WL.rd rfl rfl rfl (Rd.extract rfl rfl rfl) ?_
            refine WL.say 161 (u := vs x) rfl (by rw [hx]; rfl) ?_
            refine WL.rd rfl rfl rfl (Rd.extract rfl rfl rfl) ?_
            refine WL.rd rfl rfl rfl (Rd.assign rfl rfl) ?_
            refine WL.rd rfl rfl rfl (Rd.assign rfl rfl) ?_
            refine WL.nil ?_
            refine thenQ.normal ?_
            refine WC.seq ?_
            refine WC.region ?_
            refine WL.rd rfl rfl rfl (Rd.move rfl rfl) ?_
            refine WL.rd rfl rfl rfl (Rd.move rfl rfl) ?_
            refine WL.op rfl ?_
            refine OpW.call rfl rfl (by repeat (first | exact Evs.nil | apply Evs.cons rfl)) (by kernel_rfl) rfl rfl rfl ?_
            refine Fun.heap (O' := dO e ⟨U.lv, .slice none 0 0, U.kv, none⟩ (crashS s [1]) (dO d ⟨V.lv, .slice none 0 0, V.kv, none⟩ (crashS s keep) (rowC b12 35 (L.map (·.1)) :: O))) (fun w h => OwnL.sat (by repeat (first | exact OwnL.refl | apply OwnL.take (by repeat (first | exact Take.head _ | apply Take.tail)) | apply OwnL.drop)) w (h.thin (SubL.mem (by repeat (first | exact SubL.refl | refine SubL.cons (by repeat (first | assumption | exact List.mem_cons_self | refine List.mem_cons_of_mem _ ?_)) ?_ | refine SubL.skip ?_))))) ?_
            refine read_spec (oke.mono (by omega)) ?_
            refine WL.heap (O' := dO d ⟨V.lv, .slice none 0 0, V.kv, none⟩ (crashS s keep) (dO e ⟨U.lv, .slice none 0 0, U.kv, none⟩ (crashS s [1]) (rowC b12 35 (L.map (·.1)) :: O))) (fun w h => OwnL.sat (by repeat (first | exact OwnL.refl | apply OwnL.take (by repeat (first | exact Take.head _ | apply Take.tail)) | apply OwnL.drop)) w (h.thin (SubL.mem (by repeat (first | exact SubL.refl | refine SubL.cons (by repeat (first | assumption | exact List.mem_cons_self | refine List.mem_cons_of_mem _ ?_)) ?_ | refine SubL.skip ?_))))) ?_
            refine WL.rd rfl rfl rfl (Rd.move rfl rfl) ?_
            refine WL.rd rfl rfl rfl (Rd.extract rfl rfl rfl) ?_
            refine WL.say 167 (u := vs y) rfl (by rw [hy]; rfl) ?_
            refine WL.rd rfl rfl rfl (Rd.extract rfl rfl rfl) ?_
            refine WL.rd rfl rfl rfl (Rd.assign rfl rfl) ?_
            refine WL.rd rfl rfl rfl (Rd.assign rfl rfl) ?_
            refine WL.nil ?_
            refine thenQ.normal ?_
            refine WC.seq ?_
            refine WC.region ?_
            refine WL.rd rfl rfl rfl (Rd.assign rfl rfl) ?_
            refine WL.nil ?_
            refine thenQ.normal ?_
            refine WC.seq ?_
            refine WC.seq ?_
            refine WC.region ?_
            refine WL.rd rfl rfl rfl (Rd.assign rfl rfl) ?_
            refine WL.nil ?_
            refine thenQ.normal ?_
            refine WC.block ?_
            refine WC.pick [25, 26, 7, 9, 12, 20, 21, 23] (by repeat (first | exact Pick.nil | apply Pick.cons rfl)) ?_
            refine WC.loop1o 2 (fun (k : Nat) => [(25, .bool (decide (x ∈ l.take k))), (26, .int .i64 (k : Int))]) (fun (k : Nat) => k ≤ l.length) (fun (k : Nat) => l.length - k) (0) (by repeat (first | exact Split.zero | apply Split.succ)) ?hinv5 (by repeat (first | exact Sub.nil | refine Sub.cons rfl (by first | rfl | (congr 1; omega) | assumption) ?_)) (fun _ h => h) ?_
            case hinv5 =>
              exact Nat.zero_le _
            intro k
            rintro k1
            refine WC.seq ?_
            refine WC.seq ?_
            refine WC.region ?_
            refine WL.rd rfl rfl rfl (Rd.move rfl rfl) ?_
            refine WL.rd rfl rfl rfl (Rd.move rfl rfl) ?_
            refine WL.rd rfl rfl rfl (Rd.idxArr1 (k := z) rfl A35 rfl rfl rfl (by omega)) ?_
            refine WL.rd rfl rfl rfl (Rd.row1 (off := z) (u := L[z]!.1) rfl C34 rfl (by repeat (first | assumption | exact List.mem_cons_self | refine List.mem_cons_of_mem _ ?_)) (map_get L z (by omega))) ?_
            refine WL.rd rfl rfl rfl (Rd.lenE (enc := one vs) (xs := l) rfl rfl Try.underlying34 (by repeat (first | assumption | exact List.mem_cons_self | refine List.mem_cons_of_mem _ ?_))) ?_
            refine WL.rd rfl rfl rfl (Rd.lss rfl rfl rfl) ?_
            refine WL.nil ?_
            refine thenQ.normal ?_
            first | refine WC.ite rfl (fun hc6 => ?_) (fun hc6 => ?_) | refine WC.cond rfl (fun hc6 => ?_) (fun hc6 => ?_)
            · skip
              have hstep : l.take (k + 1) = l.take k ++ [l[k]!] := by rw [List.take_add_one, get!_of_lt (by omega)]; rfl
              refine WC.skip ?_
              refine thenQ.normal ?_
              refine WC.seq ?_
              refine WC.block ?_
              refine WC.region ?_
              refine WL.rd rfl rfl rfl (Rd.move rfl rfl) ?_
              refine WL.rd rfl rfl rfl (Rd.move rfl rfl) ?_
              refine WL.case 178 rfl (fun hg178 => ?_) (fun hg178 => ?_)
              · skip
                refine WL.no rfl rfl rfl rfl rfl rfl ?_
                refine WL.no rfl rfl rfl rfl rfl rfl ?_
                refine WL.no rfl rfl rfl rfl rfl rfl ?_
                refine WL.no rfl rfl rfl rfl rfl rfl ?_
                refine WL.no rfl rfl rfl rfl rfl rfl ?_
                refine WL.no rfl rfl rfl rfl rfl rfl ?_
                refine WL.no rfl rfl rfl rfl rfl rfl ?_
                refine WL.no rfl rfl rfl rfl rfl rfl ?_
                refine WL.rd rfl rfl rfl (Rd.pick_t rfl rfl rfl) ?_
                refine WL.rd rfl rfl rfl (Rd.assign rfl rfl) ?_
                refine WL.nil ?_
                refine blockQ.normal ?_
                refine thenQ.normal ?_
                refine WC.region ?_
                refine WL.rd rfl rfl rfl (Rd.move rfl rfl) ?_
                refine WL.rd rfl rfl rfl (Rd.add rfl rfl rfl (by omega)) ?_
                refine WL.rd rfl rfl rfl (Rd.assign rfl rfl) ?_
                refine WL.nil ?_
                -- next5_1
                exact loopQ1.mk (k + 1) (by omega) (by omega) (by refine Sub.cons rfl (vb_t (by rw [hstep]; exact List.mem_append_left _ hg178)) ?_; exact (by repeat (first | exact Sub.nil | refine Sub.cons rfl (by first | rfl | (congr 1; omega) | assumption) ?_))) (fun w h => OwnL.sat (by repeat (first | exact OwnL.refl | apply OwnL.take (by repeat (first | exact Take.head _ | apply Take.tail)) | apply OwnL.drop)) w (h.thin (SubL.mem (by repeat (first | exact SubL.refl | refine SubL.cons (by repeat (first | assumption | exact List.mem_cons_self | refine List.mem_cons_of_mem _ ?_)) ?_ | refine SubL.skip ?_)))))
              · skip
                refine WL.rd_yes rfl rfl rfl rfl rfl rfl (Rd.move rfl rfl) ?_
                refine WL.rd_yes rfl rfl rfl rfl rfl rfl (Rd.idxArr1 (k := z) rfl A35 rfl rfl rfl (by omega)) ?_
                refine WL.rd_yes rfl rfl rfl rfl rfl rfl (Rd.row1 (off := z) (u := L[z]!.1) rfl C34 rfl (by repeat (first | assumption | exact List.mem_cons_self | refine List.mem_cons_of_mem _ ?_)) (map_get L z (by omega))) ?_
                refine WL.rd_yes rfl rfl rfl rfl rfl rfl (Rd.move rfl rfl) ?_
                refine WL.rd_yes rfl rfl rfl rfl rfl rfl (Rd.idx1 (k := k) rfl S34 rfl rfl rfl (enc := one vs) (xs := l) (by repeat (first | assumption | exact List.mem_cons_self | refine List.mem_cons_of_mem _ ?_)) (by omega)) ?_
                refine WL.rd_yes rfl rfl rfl rfl rfl rfl (Rd.get (k := k) (g := vs) (xs := l) rfl C9 rfl (by repeat (first | assumption | exact List.mem_cons_self | refine List.mem_cons_of_mem _ ?_)) (get!_of_lt (by omega))) ?_
                refine WL.rd_yes rfl rfl rfl rfl rfl rfl (Rd.move rfl rfl) ?_
                refine WL.rd_yes rfl rfl rfl rfl rfl rfl (Rd.seql rfl rfl rfl) ?_
                refine WL.rd rfl rfl rfl (Rd.pick_f rfl rfl rfl) ?_
                refine WL.rd rfl rfl rfl (Rd.assign rfl rfl) ?_
                refine WL.nil ?_
                refine blockQ.normal ?_
                refine thenQ.normal ?_
                refine WC.region ?_
                refine WL.rd rfl rfl rfl (Rd.move rfl rfl) ?_
                refine WL.rd rfl rfl rfl (Rd.add rfl rfl rfl (by omega)) ?_
                refine WL.rd rfl rfl rfl (Rd.assign rfl rfl) ?_
                refine WL.nil ?_
                -- next5_2
                exact loopQ1.mk (k + 1) (by omega) (by omega) (by refine Sub.cons rfl (vb (by rw [hstep, List.mem_append, List.mem_singleton]; constructor; intro h; exact .inr h.symm; intro h; rcases h with h | h; exact absurd h hg178; exact h.symm)) ?_; exact (by repeat (first | exact Sub.nil | refine Sub.cons rfl (by first | rfl | (congr 1; omega) | assumption) ?_))) (fun w h => OwnL.sat (by repeat (first | exact OwnL.refl | apply OwnL.take (by repeat (first | exact Take.head _ | apply Take.tail)) | apply OwnL.drop)) w (h.thin (SubL.mem (by repeat (first | exact SubL.refl | refine SubL.cons (by repeat (first | assumption | exact List.mem_cons_self | refine List.mem_cons_of_mem _ ?_)) ?_ | refine SubL.skip ?_)))))
            · skip
              obtain rfl : k = l.length := by omega
              refine WC.say 25 (u := .bool (decide True)) rfl (by rw [List.take_length]; simp [hin]) ?_
              refine WC.exit ?_
              refine thenQ.exit ?_
              refine loopQ1.exit ?_
              refine blockQ.exit ?_
              refine thenQ.normal ?_
              refine WC.seq ?_
              refine WC.still mixed (by kernel_rfl) ?_
              refine WA.rd rfl rfl rfl (Rd.move rfl rfl) ?_
              refine WA.rd rfl rfl rfl ((by first | exact Rd.notd rfl rfl | exact Rd.not rfl rfl)) ?_
              refine WA.say 189 (u := .bool (decide False)) rfl (by simp) ?_
              refine WA.rd rfl rfl rfl (Rd.move rfl rfl) ?_
              refine WA.case 190 rfl (fun hg190 => ?_) (fun hg190 => ?_)
              · skip
                exact hg190.elim
              · skip
                refine WA.rd_yes rfl rfl rfl rfl rfl rfl (Rd.move rfl rfl) ?_
                refine WA.rd_yes rfl rfl rfl rfl rfl rfl (Rd.move rfl rfl) ?_
                refine WA.rd_yes rfl rfl rfl rfl rfl rfl (Rd.idxArr1 (k := z) rfl A35 rfl rfl rfl (by omega)) ?_
                refine WA.rd_yes rfl rfl rfl rfl rfl rfl (Rd.row1 (off := z) (u := L[z]!.1) rfl C34 rfl (by repeat (first | assumption | exact List.mem_cons_self | refine List.mem_cons_of_mem _ ?_)) (map_get L z (by omega))) ?_
                refine WA.rd_yes rfl rfl rfl rfl rfl rfl (Rd.move rfl rfl) ?_
                refine WA.rd_yes rfl rfl rfl rfl rfl rfl (Rd.idxArr1 (k := z) rfl A35 rfl rfl rfl (by omega)) ?_
                refine WA.rd_yes rfl rfl rfl rfl rfl rfl (Rd.row1 (off := z) (u := L[z]!.1) rfl C34 rfl (by repeat (first | assumption | exact List.mem_cons_self | refine List.mem_cons_of_mem _ ?_)) (map_get L z (by omega))) ?_
                refine WA.rd_yes rfl rfl rfl rfl rfl rfl (Rd.lenE (enc := one vs) (xs := l) rfl rfl Try.underlying34 (by repeat (first | assumption | exact List.mem_cons_self | refine List.mem_cons_of_mem _ ?_))) ?_
                refine WA.rd_yes rfl rfl rfl rfl rfl rfl (Rd.sub rfl rfl rfl (by omega)) ?_
                refine WA.rd_yes rfl rfl rfl rfl rfl rfl (Rd.idx1 (k := l.length - 1) rfl S34 rfl rfl (by omega) (enc := one vs) (xs := l) (by repeat (first | assumption | exact List.mem_cons_self | refine List.mem_cons_of_mem _ ?_)) (by omega)) ?_
                refine WA.rd_yes rfl rfl rfl rfl rfl rfl (Rd.get (k := l.length - 1) (g := vs) (xs := l) rfl C9 rfl (by repeat (first | assumption | exact List.mem_cons_self | refine List.mem_cons_of_mem _ ?_)) (get!_of_lt (by omega))) ?_
                refine WA.rd_yes rfl rfl rfl rfl rfl rfl (Rd.sneq rfl rfl rfl) ?_
                refine WA.rd rfl rfl rfl (Rd.pick_f rfl rfl rfl) ?_
                refine WA.nil ?_
                refine thenQ.normal ?_
                first | refine WC.ite rfl (fun hc7 => ?_) (fun hc7 => ?_) | refine WC.cond rfl (fun hc7 => ?_) (fun hc7 => ?_)
                · skip
                  exact absurd hlast hc7
                · skip
                  refine WC.skip ?_
                  refine blockQ.normal ?_
                  refine thenQ.normal ?_
                  refine WC.region ?_
                  refine WL.rd rfl rfl rfl (Rd.move rfl rfl) ?_
                  refine WL.rd rfl rfl rfl (Rd.add rfl rfl rfl (by omega)) ?_
                  refine WL.rd rfl rfl rfl (Rd.assign rfl rfl) ?_
                  refine WL.nil ?_
                  -- next4_1
                  exact loopQ1.mk (z + 1) (by omega) (by omega) (by repeat (first | exact Sub.nil | refine Sub.cons rfl (by first | rfl | (congr 1; omega) | assumption) ?_)) (fun w h => OwnL.sat (by repeat (first | exact OwnL.refl | apply OwnL.take (by repeat (first | exact Take.head _ | apply Take.tail)) | apply OwnL.drop)) w (h.thin (SubL.mem (by repeat (first | exact SubL.refl | refine SubL.cons (by repeat (first | assumption | exact List.mem_cons_self | refine List.mem_cons_of_mem _ ?_)) ?_ | refine SubL.skip ?_)))))
          · skip
            refine WC.exit ?_
            refine thenQ.exit ?_
            refine loopQ1.exit ?_
            refine blockQ.exit ?_
            refine thenQ.normal ?_
            refine WC.seq ?_
            refine WC.region ?_
            refine WL.rd rfl rfl rfl (Rd.assign rfl rfl) ?_
            refine WL.nil ?_
            refine thenQ.normal ?_
            -- ret_1
            refine WC.heap (R' := R) (O' := O) (fun w h => OwnL.sat (by repeat (first | exact OwnL.refl | apply OwnL.take (by repeat (first | exact Take.head _ | apply Take.tail)) | apply OwnL.drop)) w (h.thin (SubL.mem (by repeat (first | exact SubL.refl | refine SubL.cons (by repeat (first | assumption | exact List.mem_cons_self | refine List.mem_cons_of_mem _ ?_)) ?_ | refine SubL.skip ?_))))) ?_
            refine WC.ret (Ret.one Try.results3 rfl ?_)
            exact hk
end
end Go.Proofs.Ytfflnlieddbabaa
