/-
  Layer 18: the document's Log.
-/
import Derived.Test.YtfenbhaehkkkeaaGr12
namespace Go.Proofs.Ytfenbhaehkkkeaa
open Go Go.SL
def AheadN (L : List Nd) (i b : Nat) : Prop := L[b]!.2.2 < L[i]!.2.2 ∨ (L[i]!.2.2 = L[b]!.2.2 ∧ L[i]!.1 < L[b]!.1)
theorem ahead_iff {L : List Nd} (hn : (ids L).Nodup) {i b : Nat} (hi : i < L.length) (hb : b < L.length) : Ahead (gOf L) L[i]!.1 L[b]!.1 ↔ AheadN L i b := by
  show (ndOf L L[b]!.1).2.2 < (ndOf L L[i]!.1).2.2 ∨ ((ndOf L L[i]!.1).2.2 = (ndOf L L[b]!.1).2.2 ∧ _) ↔ _
  rw [ndOf_get hn hi, ndOf_get hn hb]
  exact Iff.rfl
theorem AheadN.trans {L : List Nd} {i j k : Nat} (h : AheadN L i j) (g : AheadN L j k) : AheadN L i k := by
  rcases h with h | ⟨h1, h2⟩ <;> rcases g with g | ⟨g1, g2⟩
  · exact .inl (by omega)
  · exact .inl (by omega)
  · exact .inl (by omega)
  · exact .inr ⟨by omega, List.lt_trans h2 g2⟩
def FreeTo (L : List Nd) (A : T → Prop) (done : List T) (i n : Nat) : Prop := (A L[i]!.1 ∧ L[i]!.1 ∉ done) ∧ ∀ m, m < n → A L[m]!.1 → L[m]!.1 ∉ done → L[i]!.1 ∉ L[m]!.2.1
theorem FreeTo.all {L : List Nd} {A : T → Prop} {done : List T} (hn : (ids L).Nodup) (hA : ∀ x, A x → x ∈ ids L) {i : Nat} : FreeTo L A done i L.length ↔ Free (gOf L) A done L[i]!.1 := by
  unfold FreeTo Free
  constructor
  · rintro ⟨⟨h1, h2⟩, h3⟩
    refine ⟨h1, h2, fun c hc hd hp => ?_⟩
    obtain ⟨m, hm, rfl⟩ := mem_ids.1 (hA c hc)
    exact h3 m hm hc hd ((pars_at hn hm).1 hp)
  · rintro ⟨h1, h2, h3⟩
    exact ⟨⟨h1, h2⟩, fun m hm hc hd hp => h3 _ hc hd ((pars_at hn hm).2 hp)⟩
theorem FreeTo.next {L : List Nd} {A : T → Prop} {done : List T} {i n : Nat} : FreeTo L A done i (n + 1) ↔ FreeTo L A done i n ∧ (A L[n]!.1 → L[n]!.1 ∉ done → L[i]!.1 ∉ L[n]!.2.1) := by
  unfold FreeTo
  constructor
  · rintro ⟨h1, h2⟩
    exact ⟨⟨h1, fun m hm => h2 m (by omega)⟩, h2 n (by omega)⟩
  · rintro ⟨⟨h1, h2⟩, h3⟩
    exact ⟨h1, fun m hm => by
      rcases Nat.lt_or_ge m n with g | g
      · exact h2 m g
      · obtain rfl : m = n := by omega
        exact h3⟩
def BestIs (L : List Nd) (F : Nat → Prop) (n : Nat) (best : Int) : Prop := (best = -1 ∧ ∀ j, j < n → ¬ F j) ∨ ∃ b : Nat, best = b ∧ b < n ∧ F b ∧ ∀ j, j < n → F j → j = b ∨ AheadN L b j
theorem BestIs.skip {L : List Nd} {F : Nat → Prop} {n : Nat} {best : Int} (h : BestIs L F n best) (hf : ¬ F n) : BestIs L F (n + 1) best := by
  rcases h with ⟨h1, h2⟩ | ⟨b, h1, h2, h3, h4⟩
  · exact .inl ⟨h1, fun j hj => by
      rcases Nat.lt_or_ge j n with g | g
      · exact h2 j g
      · obtain rfl : j = n := by omega
        exact hf⟩
  · exact .inr ⟨b, h1, by omega, h3, fun j hj hF => by
      rcases Nat.lt_or_ge j n with g | g
      · exact h4 j g hF
      · obtain rfl : j = n := by omega
        exact absurd hF hf⟩
theorem BestIs.keep {L : List Nd} {F : Nat → Prop} {n b : Nat} (h : BestIs L F n (b : Int)) (hf : AheadN L b n) : BestIs L F (n + 1) (b : Int) := by
  rcases h with ⟨h1, h2⟩ | ⟨c, h1, h2, h3, h4⟩
  · omega
  · obtain rfl : b = c := by omega
    exact .inr ⟨b, rfl, by omega, h3, fun j hj hF => by
      rcases Nat.lt_or_ge j n with g | g
      · exact h4 j g hF
      · obtain rfl : j = n := by omega
        exact .inr hf⟩
theorem BestIs.take {L : List Nd} {F : Nat → Prop} {n b : Nat} (h : BestIs L F n (b : Int)) (hF : F n) (hf : AheadN L n b) : BestIs L F (n + 1) (n : Int) := by
  rcases h with ⟨h1, h2⟩ | ⟨c, h1, h2, h3, h4⟩
  · omega
  · obtain rfl : b = c := by omega
    exact .inr ⟨n, rfl, by omega, hF, fun j hj hFj => by
      rcases Nat.lt_or_ge j n with g | g
      · rcases h4 j g hFj with rfl | g2
        · exact .inr hf
        · exact .inr (hf.trans g2)
      · exact .inl (by omega)⟩
theorem BestIs.first {L : List Nd} {F : Nat → Prop} {n : Nat} {best : Int} (h : BestIs L F n best) (hb : best < 0) (hF : F n) : BestIs L F (n + 1) (n : Int) := by
  rcases h with ⟨h1, h2⟩ | ⟨c, h1, h2, h3, h4⟩
  · exact .inr ⟨n, rfl, by omega, hF, fun j hj hFj => by
      rcases Nat.lt_or_ge j n with g | g
      · exact absurd hFj (h2 j g)
      · exact .inl (by omega)⟩
  · omega
section
variable {R : List RO} {O O' : List Own} {POST : Value → List RO → List Own → Prop} {v : Value} {L : List Nd} {nvs : List Nv}
set_option maxRecDepth 20000 in
set_option maxHeartbeats 16000000 in
theorem rlog_spec {fs : List T} {fv : Value} (hN : NLs v L R nvs) (hn : (ids L).Nodup) (hc : Closed (gOf L)) (hf : SlE (SL.one vs) fv fs ∈ R) (hl : L.length ≤ 1000) (hfl : fs.length ≤ 1000000) (hps : ∀ n ∈ L, n.2.1.length ≤ 1000) (hk : ∀ u out, Kahn (gOf L) (Come (gOf L) fs) [] out → POST u R (accT u out :: O)) : Fun Try.prog 24 #[v, fv] R O POST := by
  have hlen := hN.len
  have hA : ∀ x, Come (gOf L) fs x → x ∈ ids L := fun x h => h.mem hc
  refine Fun.enter (l := [_, _]) Try.func24 rfl Try.ntmps24 rfl (L0 := [(0, _), (1, _)]) rfl ?_
  refine WC.seq ?_
  refine WC.region ?_
  refine WL.rd rfl rfl rfl (Rd.assign rfl rfl) ?_
  refine WL.nil ?_
  refine thenQ.normal ?_
  refine WC.seq ?_
  refine WC.region ?_
  refine WL.rd rfl rfl rfl (Rd.move rfl rfl) ?_
  refine WL.rd rfl rfl rfl (Rd.move rfl rfl) ?_
  refine WL.op rfl ?_
  refine OpW.call rfl rfl (by repeat (first | exact Evs.nil | apply Evs.cons rfl)) (by kernel_rfl) rfl rfl rfl ?_
  refine rcome_spec hN hn hf hl hfl hps ?_; intro v15 xs hxs
  refine WL.heap (fun w h => Sat.shareA (xs := xs) (by repeat (first | assumption | exact Take.head _ | apply Take.tail)) h) ?_
  refine WL.rd rfl rfl rfl (Rd.assign rfl rfl) ?_
  refine WL.nil ?_
  refine thenQ.normal ?_
  refine WC.seq ?_
  have hN2 : NLs v L (SlE (SL.one vbl) v15 xs :: R) nvs := hN.mono fun p hp => List.mem_cons_of_mem _ hp
  have hxl := hxs.1
  refine WC.region ?_
  refine WL.rd rfl rfl rfl (Rd.move rfl rfl) ?_
  refine WL.rd rfl rfl rfl (hN2.rdLen rfl rfl Try.underlying25) ?_
  refine WL.op rfl ?_
  refine OpW.make1 (m := L.length) (c := L.length) rfl S45 rfl rfl rfl rfl rfl (Nat.le_refl _) (by omega) (by omega) rfl rfl ?_; intro b18
  refine WL.heap (fun w h => Sat.accRow (enc := SL.one vbl) (size := 1) (m := L.length) (xs := List.replicate L.length false) (by repeat (first | assumption | exact Take.head _ | apply Take.tail)) (by rw [flat_one, List.map_replicate]) (by simp) (fun _ => rfl) (by omega) h) ?_
  refine WL.heap (fun w h => Sat.accNil (e := 9) (size := 1) (enc := SL.one vs) h) ?_
  refine WL.rd rfl rfl rfl (Rd.assign rfl rfl) ?_
  refine WL.nil ?_
  refine thenQ.normal ?_
  refine WC.seq ?_
  refine WC.region ?_
  refine WL.rd rfl rfl rfl (Rd.assign rfl rfl) ?_
  refine WL.nil ?_
  refine thenQ.normal ?_
  refine WC.block ?_
  refine WC.pick [7, 0, 5, 6] (by repeat (first | exact Pick.nil | apply Pick.cons rfl)) ?_
  refine WC.loop3 1 (fun (done : List T) (ov : Value) (ds : List Bool) => [(7, ov)]) (fun (done : List T) (ov : Value) (ds : List Bool) => accT ov done :: accB (.slice (some ⟨b18, 0, none⟩) L.length L.length) ds :: O) (fun (done : List T) (ov : Value) (ds : List Bool) => ds.length = L.length ∧ (∀ j, j < L.length → (ds[j]! = true ↔ L[j]!.1 ∈ done)) ∧ done.Nodup ∧ (∀ x ∈ done, Come (gOf L) fs x) ∧ (∀ o, Kahn (gOf L) (Come (gOf L) fs) done o → Kahn (gOf L) (Come (gOf L) fs) [] o)) (fun (done : List T) (ov : Value) (ds : List Bool) => L.length - done.length) ([]) (nilS) (List.replicate L.length false) (by repeat (first | exact Split.zero | apply Split.succ)) ?hinv1 (by repeat (first | exact Sub.nil | refine Sub.cons rfl (by first | rfl | (congr 1; omega) | assumption) ?_)) (fun w h => OwnL.sat (by repeat (first | exact OwnL.refl | apply OwnL.take (by repeat (first | exact Take.head _ | apply Take.tail)) | apply OwnL.drop)) w (h.thin (SubL.mem (by repeat (first | exact SubL.refl | refine SubL.cons (by repeat (first | assumption | exact mS | apply mT)) ?_ | refine SubL.skip ?_))))) ?_
  case hinv1 =>
    exact ⟨by simp, fun j hj => by simp [hj], List.nodup_nil, fun x h => (by cases h), fun _ h => h⟩
  intro done ov ds
  rintro ⟨i1, i2, i3, i4, i5⟩
  refine WC.block ?_
  refine WC.seq ?_
  have hdl : done.length ≤ L.length := by
    have := nodup_len' i3 (l' := ids L) (fun x hx => hA x (i4 x hx))
    unfold ids at this; rwa [List.length_map] at this
  refine WC.region ?_
  refine WL.rd rfl rfl rfl (Rd.assign rfl rfl) ?_
  refine WL.nil ?_
  refine thenQ.normal ?_
  refine WC.seq ?_
  refine WC.seq ?_
  refine WC.region ?_
  refine WL.rd rfl rfl rfl (Rd.assign rfl rfl) ?_
  refine WL.nil ?_
  refine thenQ.normal ?_
  refine WC.block ?_
  refine WC.pick [9, 8, 0, 5, 6, 7] (by repeat (first | exact Pick.nil | apply Pick.cons rfl)) ?_
  refine WC.loop2o 2 (fun (i : Nat) (best : Int) => [(9, vi i), (8, vi best)]) (fun (i : Nat) (best : Int) => i ≤ L.length ∧ BestIs L (fun j => FreeTo L (Come (gOf L) fs) done j L.length) i best) (fun (i : Nat) (best : Int) => L.length - i) (0) (-1) (by repeat (first | exact Split.zero | apply Split.succ)) ?hinv2 (by repeat (first | exact Sub.nil | refine Sub.cons rfl (by first | rfl | (congr 1; omega) | assumption) ?_)) (fun _ h => h) ?_
  case hinv2 =>
    exact ⟨Nat.zero_le _, .inl ⟨rfl, fun j h => absurd h (Nat.not_lt_zero _)⟩⟩
  intro i best
  rintro ⟨j1, j2⟩
  refine WC.seq ?_
  refine WC.seq ?_
  refine WC.region ?_
  refine WL.rd rfl rfl rfl (Rd.move rfl rfl) ?_
  refine WL.rd rfl rfl rfl (Rd.move rfl rfl) ?_
  refine WL.rd rfl rfl rfl (hN2.rdLen rfl rfl Try.underlying25) ?_
  refine WL.rd rfl rfl rfl (Rd.lss rfl rfl rfl) ?_
  refine WL.nil ?_
  refine thenQ.normal ?_
  first | refine WC.ite rfl (fun hc1 => ?_) (fun hc1 => ?_) | refine WC.cond rfl (fun hc1 => ?_) (fun hc1 => ?_)
  · skip
    have hil : i < L.length := by omega
    refine WC.skip ?_
    refine thenQ.normal ?_
    refine WC.seq ?_
    refine WC.block ?_
    refine WC.seq ?_
    refine WC.region ?_
    refine WL.rd rfl rfl rfl (Rd.move rfl rfl) ?_
    refine WL.rd rfl rfl rfl (Rd.move rfl rfl) ?_
    refine WL.rd rfl rfl rfl (Rd.idx1 (enc := SL.one vbl) (xs := xs) (k := i) rfl S45 rfl rfl rfl (by repeat (first | assumption | exact mS | apply mT)) (by omega)) ?_
    refine WL.rd rfl rfl rfl (Rd.get (g := vbl) (xs := xs) (k := i) rfl C4 rfl (by repeat (first | assumption | exact mS | apply mT)) (get!_of_lt (by omega))) ?_
    refine WL.say 28 (u := .bool (decide (xs[i]! = true))) rfl (vbl_dec _) ?_
    refine WL.rd rfl rfl rfl (Rd.move rfl rfl) ?_
    refine WL.case 29 rfl (fun hg29 => ?_) (fun hg29 => ?_)
    · skip
      refine WL.rd_yes rfl rfl rfl rfl rfl rfl (Rd.move rfl rfl) ?_
      refine WL.rd_yes rfl rfl rfl rfl rfl rfl (Rd.move rfl rfl) ?_
      refine WL.rd_yes rfl rfl rfl rfl rfl rfl (Rd.idxA1 (enc := SL.one vbl) (xs := ds) (k := i) rfl S45 rfl rfl rfl (by repeat (first | assumption | exact mS | apply mT)) (by omega)) ?_
      refine WL.rd_yes rfl rfl rfl rfl rfl rfl (Rd.getA (g := vbl) (xs := ds) (k := i) rfl C4 rfl (by repeat (first | assumption | exact mS | apply mT)) (get!_of_lt (by omega))) ?_
      refine WL.say 33 (u := .bool (decide (ds[i]! = true))) rfl (vbl_dec _) ?_
      refine WL.rd_yes rfl rfl rfl rfl rfl rfl ((by first | exact Rd.notd rfl rfl | exact Rd.not rfl rfl)) ?_
      refine WL.rd rfl rfl rfl (Rd.pick_t rfl rfl rfl) ?_
      refine WL.say 35 (u := .bool (decide ((xs[i]! && !ds[i]!) = true))) rfl (by first | (rw [show xs[i]! = true from hg29, Bool.true_and]; exact vb (by simp)) | (rw [show xs[i]! = false from by simpa using hg29, Bool.false_and]; rfl)) ?_
      refine WL.rd rfl rfl rfl (Rd.assign rfl rfl) ?_
      refine WL.nil ?_
      refine thenQ.normal ?_
      refine WC.seq ?_
      refine WC.seq ?_
      refine WC.region ?_
      refine WL.rd rfl rfl rfl (Rd.assign rfl rfl) ?_
      refine WL.nil ?_
      refine thenQ.normal ?_
      refine WC.block ?_
      refine WC.pick [11, 10, 0, 5, 6, 7, 8, 9] (by repeat (first | exact Pick.nil | apply Pick.cons rfl)) ?_
      refine WC.loop2o 2 (fun (k : Nat) (f : Bool) => [(11, vi k), (10, .bool (decide (f = true)))]) (fun (k : Nat) (f : Bool) => k ≤ L.length ∧ (f = true ↔ FreeTo L (Come (gOf L) fs) done i k)) (fun (k : Nat) (f : Bool) => L.length - k) (0) (xs[i]! && !ds[i]!) (by repeat (first | exact Split.zero | apply Split.succ)) ?hinv3 (by repeat (first | exact Sub.nil | refine Sub.cons rfl (by first | rfl | (congr 1; omega) | assumption) ?_)) (fun _ h => h) ?_
      case hinv3 =>
        exact ⟨Nat.zero_le _, by unfold FreeTo; rw [Bool.and_eq_true, hxs.2 i hil, Bool.not_eq_true', ← Bool.not_eq_true, i2 i hil]; exact ⟨fun h => ⟨h, fun m hm => absurd hm (Nat.not_lt_zero _)⟩, fun h => h.1⟩⟩
      intro k f
      rintro ⟨l1, l2⟩
      refine WC.seq ?_
      refine WC.seq ?_
      refine WC.region ?_
      refine WL.rd rfl rfl rfl (Rd.move rfl rfl) ?_
      refine WL.rd rfl rfl rfl (Rd.move rfl rfl) ?_
      refine WL.rd rfl rfl rfl (hN2.rdLen rfl rfl Try.underlying25) ?_
      refine WL.rd rfl rfl rfl (Rd.lss rfl rfl rfl) ?_
      refine WL.nil ?_
      refine thenQ.normal ?_
      first | refine WC.ite rfl (fun hc2 => ?_) (fun hc2 => ?_) | refine WC.cond rfl (fun hc2 => ?_) (fun hc2 => ?_)
      · skip
        have hkl : k < L.length := by omega
        have hpl := hps _ (get!_mem hkl)
        refine WC.skip ?_
        refine thenQ.normal ?_
        refine WC.seq ?_
        refine WC.block ?_
        refine WC.seq ?_
        refine WC.region ?_
        refine WL.rd rfl rfl rfl (Rd.assign rfl rfl) ?_
        refine WL.nil ?_
        refine thenQ.normal ?_
        refine WC.block ?_
        refine WC.pick [12, 10, 0, 5, 6, 7, 8, 9, 11] (by repeat (first | exact Pick.nil | apply Pick.cons rfl)) ?_
        refine WC.loop2o 2 (fun (p : Nat) (f4 : Bool) => [(12, vi p), (10, .bool (decide (f4 = true)))]) (fun (p : Nat) (f4 : Bool) => p ≤ L[k]!.2.1.length ∧ (f4 = true ↔ FreeTo L (Come (gOf L) fs) done i k ∧ (xs[k]! = true → ¬ ds[k]! = true → ∀ q, q < p → L[k]!.2.1[q]! ≠ L[i]!.1))) (fun (p : Nat) (f4 : Bool) => L[k]!.2.1.length - p) (0) (f) (by repeat (first | exact Split.zero | apply Split.succ)) ?hinv4 (by repeat (first | exact Sub.nil | refine Sub.cons rfl (by first | rfl | (congr 1; omega) | assumption) ?_)) (fun _ h => h) ?_
        case hinv4 =>
          exact ⟨Nat.zero_le _, l2.trans ⟨fun h => ⟨h, fun _ _ q hq => absurd hq (Nat.not_lt_zero _)⟩, fun h => h.1⟩⟩
        intro p f4
        rintro ⟨n1, n2⟩
        refine WC.seq ?_
        refine WC.seq ?_
        refine WC.region ?_
        refine WL.rd rfl rfl rfl (Rd.move rfl rfl) ?_
        refine WL.rd rfl rfl rfl (Rd.move rfl rfl) ?_
        refine WL.rd rfl rfl rfl (Rd.idx1 (enc := SL.one vbl) (xs := xs) (k := k) rfl S45 rfl rfl rfl (by repeat (first | assumption | exact mS | apply mT)) (by omega)) ?_
        refine WL.rd rfl rfl rfl (Rd.get (g := vbl) (xs := xs) (k := k) rfl C4 rfl (by repeat (first | assumption | exact mS | apply mT)) (get!_of_lt (by omega))) ?_
        refine WL.say 45 (u := .bool (decide (xs[k]! = true))) rfl (vbl_dec _) ?_
        refine WL.rd rfl rfl rfl (Rd.move rfl rfl) ?_
        refine WL.case 46 rfl (fun hg46 => ?_) (fun hg46 => ?_)
        · skip
          refine WL.rd_yes rfl rfl rfl rfl rfl rfl (Rd.move rfl rfl) ?_
          refine WL.rd_yes rfl rfl rfl rfl rfl rfl (Rd.move rfl rfl) ?_
          refine WL.rd_yes rfl rfl rfl rfl rfl rfl (Rd.idxA1 (enc := SL.one vbl) (xs := ds) (k := k) rfl S45 rfl rfl rfl (by repeat (first | assumption | exact mS | apply mT)) (by omega)) ?_
          refine WL.rd_yes rfl rfl rfl rfl rfl rfl (Rd.getA (g := vbl) (xs := ds) (k := k) rfl C4 rfl (by repeat (first | assumption | exact mS | apply mT)) (get!_of_lt (by omega))) ?_
          refine WL.say 50 (u := .bool (decide (ds[k]! = true))) rfl (vbl_dec _) ?_
          refine WL.rd_yes rfl rfl rfl rfl rfl rfl ((by first | exact Rd.notd rfl rfl | exact Rd.not rfl rfl)) ?_
          refine WL.rd rfl rfl rfl (Rd.pick_t rfl rfl rfl) ?_
          refine WL.rd rfl rfl rfl (Rd.move rfl rfl) ?_
          refine WL.case 53 rfl (fun hg53 => ?_) (fun hg53 => ?_)
          · skip
            refine WL.rd_yes rfl rfl rfl rfl rfl rfl (Rd.move rfl rfl) ?_
            refine WL.rd_yes rfl rfl rfl rfl rfl rfl (Rd.move rfl rfl) ?_
            refine WL.rd_yes rfl rfl rfl rfl rfl rfl (Rd.move rfl rfl) ?_
            refine WL.rd_yes rfl rfl rfl rfl rfl rfl (hN2.rdIdx (i := k) hkl rfl S25 rfl rfl rfl) ?_
            refine WL.rd_yes rfl rfl rfl rfl rfl rfl (Rd.fieldE rfl F31_1 rfl hN2.sl (by omega)) ?_
            refine WL.rd_yes rfl rfl rfl rfl rfl rfl (hN2.rdPs (i := k) hkl rfl C28 rfl rfl) ?_
            refine WL.rd_yes rfl rfl rfl rfl rfl rfl (hN2.rdPLen (i := k) hkl rfl rfl Try.underlying28) ?_
            refine WL.rd_yes rfl rfl rfl rfl rfl rfl (Rd.lss rfl rfl rfl) ?_
            refine WL.rd rfl rfl rfl (Rd.pick_t rfl rfl rfl) ?_
            refine WL.nil ?_
            refine thenQ.normal ?_
            first | refine WC.ite rfl (fun hc3 => ?_) (fun hc3 => ?_) | refine WC.cond rfl (fun hc3 => ?_) (fun hc3 => ?_)
            · skip
              refine WC.skip ?_
              refine thenQ.normal ?_
              refine WC.seq ?_
              refine WC.block ?_
              refine WC.still mixed (by kernel_rfl) ?_
              refine WA.rd rfl rfl rfl (Rd.move rfl rfl) ?_
              refine WA.rd rfl rfl rfl (Rd.move rfl rfl) ?_
              refine WA.case 66 rfl (fun hg66 => ?_) (fun hg66 => ?_)
              · skip
                refine WA.rd_yes rfl rfl rfl rfl rfl rfl (Rd.move rfl rfl) ?_
                refine WA.rd_yes rfl rfl rfl rfl rfl rfl (Rd.move rfl rfl) ?_
                refine WA.rd_yes rfl rfl rfl rfl rfl rfl (hN2.rdIdx (i := k) hkl rfl S25 rfl rfl rfl) ?_
                refine WA.rd_yes rfl rfl rfl rfl rfl rfl (Rd.fieldE rfl F31_1 rfl hN2.sl (by omega)) ?_
                refine WA.rd_yes rfl rfl rfl rfl rfl rfl (hN2.rdPs (i := k) hkl rfl C28 rfl rfl) ?_
                refine WA.rd_yes rfl rfl rfl rfl rfl rfl (Rd.move rfl rfl) ?_
                refine WA.rd_yes rfl rfl rfl rfl rfl rfl (hN2.rdPIdx (i := k) (k := p) hkl (by omega) rfl S28 rfl rfl rfl) ?_
                refine WA.rd_yes rfl rfl rfl rfl rfl rfl (hN2.rdP (i := k) (k := p) hkl (by omega) rfl C9 rfl) ?_
                refine WA.rd_yes rfl rfl rfl rfl rfl rfl (Rd.move rfl rfl) ?_
                refine WA.rd_yes rfl rfl rfl rfl rfl rfl (Rd.move rfl rfl) ?_
                refine WA.rd_yes rfl rfl rfl rfl rfl rfl (hN2.rdIdx (i := i) hil rfl S25 rfl rfl rfl) ?_
                refine WA.rd_yes rfl rfl rfl rfl rfl rfl (Rd.fieldE rfl F31_0 rfl hN2.sl (by omega)) ?_
                refine WA.rd_yes rfl rfl rfl rfl rfl rfl (hN2.rdId (i := i) hil rfl C9 rfl rfl) ?_
                refine WA.rd_yes rfl rfl rfl rfl rfl rfl (Rd.sneq rfl rfl rfl) ?_
                refine WA.rd rfl rfl rfl (Rd.pick_t rfl rfl rfl) ?_
                refine WA.say 81 (u := .bool (decide ((f4 && decide (L[k]!.2.1[p]! ≠ L[i]!.1)) = true))) rfl (by first | (rw [show f4 = true from hg66, Bool.true_and]; exact vb (by simp)) | (rw [show f4 = false from by simpa using hg66, Bool.false_and]; rfl)) ?_
                refine WA.rd rfl rfl rfl (Rd.assign rfl rfl) ?_
                refine WA.nil ?_
                refine blockQ.normal ?_
                refine thenQ.normal ?_
                refine WC.region ?_
                refine WL.rd rfl rfl rfl (Rd.move rfl rfl) ?_
                refine WL.rd rfl rfl rfl (Rd.add rfl rfl rfl (by omega)) ?_
                refine WL.rd rfl rfl rfl (Rd.assign rfl rfl) ?_
                refine WL.nil ?_
                exact loopQ2.mk (p + 1) (f4 && decide (L[k]!.2.1[p]! ≠ L[i]!.1)) ⟨by omega, by
                rw [Bool.and_eq_true, n2, decide_eq_true_eq]
                constructor
                · rintro ⟨⟨h1, h2⟩, h3⟩
                  exact ⟨h1, fun ha hd q hq => by
                    rcases Nat.lt_or_ge q p with g | g
                    · exact h2 ha hd q g
                    · obtain rfl : q = p := by omega
                      exact h3⟩
                · rintro ⟨h1, h2⟩
                  exact ⟨⟨h1, fun ha hd q hq => h2 ha hd q (by omega)⟩, h2 hg46 hg53 p (by omega)⟩⟩ (by omega) (by repeat (first | exact Sub.nil | refine Sub.cons rfl (by first | rfl | (congr 1; omega) | assumption) ?_)) (fun w h => OwnL.sat (by repeat (first | exact OwnL.refl | apply OwnL.take (by repeat (first | exact Take.head _ | apply Take.tail)) | apply OwnL.drop)) w (h.thin (SubL.mem (by repeat (first | exact SubL.refl | refine SubL.cons (by repeat (first | assumption | exact mS | apply mT)) ?_ | refine SubL.skip ?_)))))
              · skip
                refine WA.no rfl rfl rfl rfl rfl rfl ?_
                refine WA.no rfl rfl rfl rfl rfl rfl ?_
                refine WA.no rfl rfl rfl rfl rfl rfl ?_
                refine WA.no rfl rfl rfl rfl rfl rfl ?_
                refine WA.no rfl rfl rfl rfl rfl rfl ?_
                refine WA.no rfl rfl rfl rfl rfl rfl ?_
                refine WA.no rfl rfl rfl rfl rfl rfl ?_
                refine WA.no rfl rfl rfl rfl rfl rfl ?_
                refine WA.no rfl rfl rfl rfl rfl rfl ?_
                refine WA.no rfl rfl rfl rfl rfl rfl ?_
                refine WA.no rfl rfl rfl rfl rfl rfl ?_
                refine WA.no rfl rfl rfl rfl rfl rfl ?_
                refine WA.no rfl rfl rfl rfl rfl rfl ?_
                refine WA.no rfl rfl rfl rfl rfl rfl ?_
                refine WA.rd rfl rfl rfl (Rd.pick_f rfl rfl rfl) ?_
                refine WA.say 81 (u := .bool (decide ((f4 && decide (L[k]!.2.1[p]! ≠ L[i]!.1)) = true))) rfl (by first | (rw [show f4 = true from hg66, Bool.true_and]; exact vb (by simp)) | (rw [show f4 = false from by simpa using hg66, Bool.false_and]; rfl)) ?_
                refine WA.rd rfl rfl rfl (Rd.assign rfl rfl) ?_
                refine WA.nil ?_
                refine blockQ.normal ?_
                refine thenQ.normal ?_
                refine WC.region ?_
                refine WL.rd rfl rfl rfl (Rd.move rfl rfl) ?_
                refine WL.rd rfl rfl rfl (Rd.add rfl rfl rfl (by omega)) ?_
                refine WL.rd rfl rfl rfl (Rd.assign rfl rfl) ?_
                refine WL.nil ?_
                exact loopQ2.mk (p + 1) (f4 && decide (L[k]!.2.1[p]! ≠ L[i]!.1)) ⟨by omega, by
                rw [Bool.and_eq_true, n2, decide_eq_true_eq]
                constructor
                · rintro ⟨⟨h1, h2⟩, h3⟩
                  exact ⟨h1, fun ha hd q hq => by
                    rcases Nat.lt_or_ge q p with g | g
                    · exact h2 ha hd q g
                    · obtain rfl : q = p := by omega
                      exact h3⟩
                · rintro ⟨h1, h2⟩
                  exact ⟨⟨h1, fun ha hd q hq => h2 ha hd q (by omega)⟩, h2 hg46 hg53 p (by omega)⟩⟩ (by omega) (by repeat (first | exact Sub.nil | refine Sub.cons rfl (by first | rfl | (congr 1; omega) | assumption) ?_)) (fun w h => OwnL.sat (by repeat (first | exact OwnL.refl | apply OwnL.take (by repeat (first | exact Take.head _ | apply Take.tail)) | apply OwnL.drop)) w (h.thin (SubL.mem (by repeat (first | exact SubL.refl | refine SubL.cons (by repeat (first | assumption | exact mS | apply mT)) ?_ | refine SubL.skip ?_)))))
            · skip
              refine WC.exit ?_
              refine thenQ.exit ?_
              refine loopQ2.exit ?_
              refine blockQ.exit ?_
              refine blockQ.normal ?_
              refine thenQ.normal ?_
              refine WC.region ?_
              refine WL.rd rfl rfl rfl (Rd.move rfl rfl) ?_
              refine WL.rd rfl rfl rfl (Rd.add rfl rfl rfl (by omega)) ?_
              refine WL.rd rfl rfl rfl (Rd.assign rfl rfl) ?_
              refine WL.nil ?_
              have hcx := hxs.2 k hkl
              have hdx := i2 k hkl
              have hnx : f4 = true ↔ FreeTo L (Come (gOf L) fs) done i (k + 1) := by
                rw [FreeTo.next, n2, ← hcx, ← hdx]
                refine and_congr_right fun _ => ?_
                first
                  | exact ⟨fun h ha => absurd ha hg46, fun h ha => absurd ha hg46⟩
                  | exact ⟨fun h ha hd => absurd hd hg53, fun h ha hd => absurd hd hg53⟩
                  | exact ⟨fun h ha hd hm => by
                      obtain ⟨q, hq, e⟩ := mem_get! hm
                      exact h ha hd q (by omega) e, fun h ha hd q hq e => h ha hd (e ▸ get!_mem (by omega))⟩
              exact loopQ2.mk (k + 1) f4 ⟨by omega, hnx⟩ (by omega) (by repeat (first | exact Sub.nil | refine Sub.cons rfl (by first | rfl | (congr 1; omega) | assumption) ?_)) (fun w h => OwnL.sat (by repeat (first | exact OwnL.refl | apply OwnL.take (by repeat (first | exact Take.head _ | apply Take.tail)) | apply OwnL.drop)) w (h.thin (SubL.mem (by repeat (first | exact SubL.refl | refine SubL.cons (by repeat (first | assumption | exact mS | apply mT)) ?_ | refine SubL.skip ?_)))))
          · skip
            refine WL.no rfl rfl rfl rfl rfl rfl ?_
            refine WL.no rfl rfl rfl rfl rfl rfl ?_
            refine WL.no rfl rfl rfl rfl rfl rfl ?_
            refine WL.no rfl rfl rfl rfl rfl rfl ?_
            refine WL.no rfl rfl rfl rfl rfl rfl ?_
            refine WL.no rfl rfl rfl rfl rfl rfl ?_
            refine WL.no rfl rfl rfl rfl rfl rfl ?_
            refine WL.no rfl rfl rfl rfl rfl rfl ?_
            refine WL.rd rfl rfl rfl (Rd.pick_f rfl rfl rfl) ?_
            refine WL.nil ?_
            refine thenQ.normal ?_
            refine WC.no rfl ?_
            refine WC.exit ?_
            refine thenQ.exit ?_
            refine loopQ2.exit ?_
            refine blockQ.exit ?_
            refine blockQ.normal ?_
            refine thenQ.normal ?_
            refine WC.region ?_
            refine WL.rd rfl rfl rfl (Rd.move rfl rfl) ?_
            refine WL.rd rfl rfl rfl (Rd.add rfl rfl rfl (by omega)) ?_
            refine WL.rd rfl rfl rfl (Rd.assign rfl rfl) ?_
            refine WL.nil ?_
            have hcx := hxs.2 k hkl
            have hdx := i2 k hkl
            have hnx : f4 = true ↔ FreeTo L (Come (gOf L) fs) done i (k + 1) := by
              rw [FreeTo.next, n2, ← hcx, ← hdx]
              refine and_congr_right fun _ => ?_
              first
                | exact ⟨fun h ha => absurd ha hg46, fun h ha => absurd ha hg46⟩
                | exact ⟨fun h ha hd => absurd hd hg53, fun h ha hd => absurd hd hg53⟩
                | exact ⟨fun h ha hd hm => by
                    obtain ⟨q, hq, e⟩ := mem_get! hm
                    exact h ha hd q (by omega) e, fun h ha hd q hq e => h ha hd (e ▸ get!_mem (by omega))⟩
            exact loopQ2.mk (k + 1) f4 ⟨by omega, hnx⟩ (by omega) (by repeat (first | exact Sub.nil | refine Sub.cons rfl (by first | rfl | (congr 1; omega) | assumption) ?_)) (fun w h => OwnL.sat (by repeat (first | exact OwnL.refl | apply OwnL.take (by repeat (first | exact Take.head _ | apply Take.tail)) | apply OwnL.drop)) w (h.thin (SubL.mem (by repeat (first | exact SubL.refl | refine SubL.cons (by repeat (first | assumption | exact mS | apply mT)) ?_ | refine SubL.skip ?_)))))
        · skip
          refine WL.no rfl rfl rfl rfl rfl rfl ?_
          refine WL.no rfl rfl rfl rfl rfl rfl ?_
          refine WL.no rfl rfl rfl rfl rfl rfl ?_
          refine WL.no rfl rfl rfl rfl rfl rfl ?_
          refine WL.no rfl rfl rfl rfl rfl rfl ?_
          refine WL.rd rfl rfl rfl (Rd.pick_f rfl rfl rfl) ?_
          refine WL.rd rfl rfl rfl (Rd.move rfl rfl) ?_
          refine WL.no rfl rfl rfl rfl rfl rfl ?_
          refine WL.no rfl rfl rfl rfl rfl rfl ?_
          refine WL.no rfl rfl rfl rfl rfl rfl ?_
          refine WL.no rfl rfl rfl rfl rfl rfl ?_
          refine WL.no rfl rfl rfl rfl rfl rfl ?_
          refine WL.no rfl rfl rfl rfl rfl rfl ?_
          refine WL.no rfl rfl rfl rfl rfl rfl ?_
          refine WL.no rfl rfl rfl rfl rfl rfl ?_
          refine WL.rd rfl rfl rfl (Rd.pick_f rfl rfl rfl) ?_
          refine WL.nil ?_
          refine thenQ.normal ?_
          refine WC.no rfl ?_
          refine WC.exit ?_
          refine thenQ.exit ?_
          refine loopQ2.exit ?_
          refine blockQ.exit ?_
          refine blockQ.normal ?_
          refine thenQ.normal ?_
          refine WC.region ?_
          refine WL.rd rfl rfl rfl (Rd.move rfl rfl) ?_
          refine WL.rd rfl rfl rfl (Rd.add rfl rfl rfl (by omega)) ?_
          refine WL.rd rfl rfl rfl (Rd.assign rfl rfl) ?_
          refine WL.nil ?_
          have hcx := hxs.2 k hkl
          have hdx := i2 k hkl
          have hnx : f4 = true ↔ FreeTo L (Come (gOf L) fs) done i (k + 1) := by
            rw [FreeTo.next, n2, ← hcx, ← hdx]
            refine and_congr_right fun _ => ?_
            first
              | exact ⟨fun h ha => absurd ha hg46, fun h ha => absurd ha hg46⟩
              | exact ⟨fun h ha hd => absurd hd hg53, fun h ha hd => absurd hd hg53⟩
              | exact ⟨fun h ha hd hm => by
                  obtain ⟨q, hq, e⟩ := mem_get! hm
                  exact h ha hd q (by omega) e, fun h ha hd q hq e => h ha hd (e ▸ get!_mem (by omega))⟩
          exact loopQ2.mk (k + 1) f4 ⟨by omega, hnx⟩ (by omega) (by repeat (first | exact Sub.nil | refine Sub.cons rfl (by first | rfl | (congr 1; omega) | assumption) ?_)) (fun w h => OwnL.sat (by repeat (first | exact OwnL.refl | apply OwnL.take (by repeat (first | exact Take.head _ | apply Take.tail)) | apply OwnL.drop)) w (h.thin (SubL.mem (by repeat (first | exact SubL.refl | refine SubL.cons (by repeat (first | assumption | exact mS | apply mT)) ?_ | refine SubL.skip ?_)))))
      · skip
        obtain rfl : k = L.length := by omega
        refine WC.exit ?_
        refine thenQ.exit ?_
        refine loopQ2.exit ?_
        refine blockQ.exit ?_
        refine thenQ.normal ?_
        refine WC.seq ?_
        refine WC.still mixed (by kernel_rfl) ?_
        refine WA.rd rfl rfl rfl (Rd.move rfl rfl) ?_
        refine WA.rd rfl rfl rfl (Rd.move rfl rfl) ?_
        refine WA.case 83 rfl (fun hg83 => ?_) (fun hg83 => ?_)
        · skip
          refine WA.rd_yes rfl rfl rfl rfl rfl rfl (Rd.move rfl rfl) ?_
          refine WA.rd_yes rfl rfl rfl rfl rfl rfl (Rd.lss rfl rfl rfl) ?_
          refine WA.rd_yes rfl rfl rfl rfl rfl rfl (Rd.move rfl rfl) ?_
          refine WA.case 86 rfl (fun hg86 => ?_) (fun hg86 => ?_)
          · skip
            refine WA.no rfl rfl rfl rfl rfl rfl ?_
            refine WA.no rfl rfl rfl rfl rfl rfl ?_
            refine WA.no rfl rfl rfl rfl rfl rfl ?_
            refine WA.no rfl rfl rfl rfl rfl rfl ?_
            refine WA.no rfl rfl rfl rfl rfl rfl ?_
            refine WA.no rfl rfl rfl rfl rfl rfl ?_
            refine WA.no rfl rfl rfl rfl rfl rfl ?_
            refine WA.no rfl rfl rfl rfl rfl rfl ?_
            refine WA.no rfl rfl rfl rfl rfl rfl ?_
            refine WA.no rfl rfl rfl rfl rfl rfl ?_
            refine WA.no rfl rfl rfl rfl rfl rfl ?_
            refine WA.rd_yes rfl rfl rfl rfl rfl rfl (Rd.pick_t rfl rfl rfl) ?_
            refine WA.rd_yes rfl rfl rfl rfl rfl rfl (Rd.move rfl rfl) ?_
            refine WA.no rfl rfl rfl rfl rfl rfl ?_
            refine WA.no rfl rfl rfl rfl rfl rfl ?_
            refine WA.no rfl rfl rfl rfl rfl rfl ?_
            refine WA.no rfl rfl rfl rfl rfl rfl ?_
            refine WA.no rfl rfl rfl rfl rfl rfl ?_
            refine WA.no rfl rfl rfl rfl rfl rfl ?_
            refine WA.no rfl rfl rfl rfl rfl rfl ?_
            refine WA.no rfl rfl rfl rfl rfl rfl ?_
            refine WA.no rfl rfl rfl rfl rfl rfl ?_
            refine WA.no rfl rfl rfl rfl rfl rfl ?_
            refine WA.no rfl rfl rfl rfl rfl rfl ?_
            refine WA.no rfl rfl rfl rfl rfl rfl ?_
            refine WA.noU rfl rfl rfl rfl rfl rfl ?_
            refine WA.noU rfl rfl rfl rfl rfl rfl ?_
            refine WA.noU rfl rfl rfl rfl rfl rfl ?_
            refine WA.noU rfl rfl rfl rfl rfl rfl ?_
            refine WA.noU rfl rfl rfl rfl rfl rfl ?_
            refine WA.noU rfl rfl rfl rfl rfl rfl ?_
            refine WA.noU rfl rfl rfl rfl rfl rfl ?_
            refine WA.noU rfl rfl rfl rfl rfl rfl ?_
            refine WA.noU rfl rfl rfl rfl rfl rfl ?_
            refine WA.noU rfl rfl rfl rfl rfl rfl ?_
            refine WA.noU rfl rfl rfl rfl rfl rfl ?_
            refine WA.no rfl rfl rfl rfl rfl rfl ?_
            refine WA.rd_yes rfl rfl rfl rfl rfl rfl (Rd.pick_t rfl rfl rfl) ?_
            refine WA.rd rfl rfl rfl (Rd.pick_t rfl rfl rfl) ?_
            refine WA.nil ?_
            refine thenQ.normal ?_
            refine WC.yes rfl ?_
            refine WC.region ?_
            refine WL.rd rfl rfl rfl (Rd.move rfl rfl) ?_
            refine WL.rd rfl rfl rfl (Rd.assign rfl rfl) ?_
            refine WL.nil ?_
            refine blockQ.normal ?_
            refine thenQ.normal ?_
            refine WC.region ?_
            refine WL.rd rfl rfl rfl (Rd.move rfl rfl) ?_
            refine WL.rd rfl rfl rfl (Rd.add rfl rfl rfl (by omega)) ?_
            refine WL.rd rfl rfl rfl (Rd.assign rfl rfl) ?_
            refine WL.nil ?_
            exact loopQ2.mk (i + 1) (i : Int) ⟨by omega, j2.first hg86 (l2.1 hg83)⟩ (by omega) (by repeat (first | exact Sub.nil | refine Sub.cons rfl (by first | rfl | (congr 1; omega) | assumption) ?_)) (fun w h => OwnL.sat (by repeat (first | exact OwnL.refl | apply OwnL.take (by repeat (first | exact Take.head _ | apply Take.tail)) | apply OwnL.drop)) w (h.thin (SubL.mem (by repeat (first | exact SubL.refl | refine SubL.cons (by repeat (first | assumption | exact mS | apply mT)) ?_ | refine SubL.skip ?_)))))
          · skip
            obtain ⟨b, rfl, hbi⟩ : ∃ b : Nat, best = b ∧ b < i := by
              rcases j2 with ⟨h, _⟩ | ⟨b, h1, h2, _⟩
              · omega
              · exact ⟨b, h1, h2⟩
            have hbl : b < L.length := by omega
            have hne : L[i]!.1 ≠ L[b]!.1 := fun e => by have := ids_inj hn hil hbl e; omega
            refine WA.rd_yes rfl rfl rfl rfl rfl rfl (Rd.move rfl rfl) ?_
            refine WA.rd_yes rfl rfl rfl rfl rfl rfl (Rd.move rfl rfl) ?_
            refine WA.rd_yes rfl rfl rfl rfl rfl rfl (hN2.rdIdx (i := i) hil rfl S25 rfl rfl rfl) ?_
            refine WA.rd_yes rfl rfl rfl rfl rfl rfl (Rd.fieldE rfl F31_2 rfl hN2.sl (by omega)) ?_
            refine WA.rd_yes rfl rfl rfl rfl rfl rfl (hN2.rdTm (i := i) hil rfl C3 rfl rfl) ?_
            refine WA.rd_yes rfl rfl rfl rfl rfl rfl (Rd.move rfl rfl) ?_
            refine WA.rd_yes rfl rfl rfl rfl rfl rfl (Rd.move rfl rfl) ?_
            refine WA.rd_yes rfl rfl rfl rfl rfl rfl (hN2.rdIdx (i := b) hbl rfl S25 rfl rfl rfl) ?_
            refine WA.rd_yes rfl rfl rfl rfl rfl rfl (Rd.fieldE rfl F31_2 rfl hN2.sl (by omega)) ?_
            refine WA.rd_yes rfl rfl rfl rfl rfl rfl (hN2.rdTm (i := b) hbl rfl C3 rfl rfl) ?_
            refine WA.rd_yes rfl rfl rfl rfl rfl rfl (Rd.gtr rfl rfl rfl) ?_
            refine WA.rd_yes rfl rfl rfl rfl rfl rfl (Rd.pick_f rfl rfl rfl) ?_
            refine WA.rd_yes rfl rfl rfl rfl rfl rfl (Rd.move rfl rfl) ?_
            refine WA.case 99 rfl (fun hg99 => ?_) (fun hg99 => ?_)
            · skip
              refine WA.no rfl rfl rfl rfl rfl rfl ?_
              refine WA.no rfl rfl rfl rfl rfl rfl ?_
              refine WA.no rfl rfl rfl rfl rfl rfl ?_
              refine WA.no rfl rfl rfl rfl rfl rfl ?_
              refine WA.no rfl rfl rfl rfl rfl rfl ?_
              refine WA.no rfl rfl rfl rfl rfl rfl ?_
              refine WA.no rfl rfl rfl rfl rfl rfl ?_
              refine WA.no rfl rfl rfl rfl rfl rfl ?_
              refine WA.no rfl rfl rfl rfl rfl rfl ?_
              refine WA.no rfl rfl rfl rfl rfl rfl ?_
              refine WA.no rfl rfl rfl rfl rfl rfl ?_
              refine WA.no rfl rfl rfl rfl rfl rfl ?_
              refine WA.noU rfl rfl rfl rfl rfl rfl ?_
              refine WA.noU rfl rfl rfl rfl rfl rfl ?_
              refine WA.noU rfl rfl rfl rfl rfl rfl ?_
              refine WA.noU rfl rfl rfl rfl rfl rfl ?_
              refine WA.noU rfl rfl rfl rfl rfl rfl ?_
              refine WA.noU rfl rfl rfl rfl rfl rfl ?_
              refine WA.noU rfl rfl rfl rfl rfl rfl ?_
              refine WA.noU rfl rfl rfl rfl rfl rfl ?_
              refine WA.noU rfl rfl rfl rfl rfl rfl ?_
              refine WA.noU rfl rfl rfl rfl rfl rfl ?_
              refine WA.noU rfl rfl rfl rfl rfl rfl ?_
              refine WA.no rfl rfl rfl rfl rfl rfl ?_
              refine WA.rd_yes rfl rfl rfl rfl rfl rfl (Rd.pick_t rfl rfl rfl) ?_
              refine WA.rd rfl rfl rfl (Rd.pick_t rfl rfl rfl) ?_
              refine WA.nil ?_
              refine thenQ.normal ?_
              refine WC.yes rfl ?_
              refine WC.region ?_
              refine WL.rd rfl rfl rfl (Rd.move rfl rfl) ?_
              refine WL.rd rfl rfl rfl (Rd.assign rfl rfl) ?_
              refine WL.nil ?_
              refine blockQ.normal ?_
              refine thenQ.normal ?_
              refine WC.region ?_
              refine WL.rd rfl rfl rfl (Rd.move rfl rfl) ?_
              refine WL.rd rfl rfl rfl (Rd.add rfl rfl rfl (by omega)) ?_
              refine WL.rd rfl rfl rfl (Rd.assign rfl rfl) ?_
              refine WL.nil ?_
              exact loopQ2.mk (i + 1) (i : Int) ⟨by omega, j2.take (l2.1 hg83) (.inl (by omega))⟩ (by omega) (by repeat (first | exact Sub.nil | refine Sub.cons rfl (by first | rfl | (congr 1; omega) | assumption) ?_)) (fun w h => OwnL.sat (by repeat (first | exact OwnL.refl | apply OwnL.take (by repeat (first | exact Take.head _ | apply Take.tail)) | apply OwnL.drop)) w (h.thin (SubL.mem (by repeat (first | exact SubL.refl | refine SubL.cons (by repeat (first | assumption | exact mS | apply mT)) ?_ | refine SubL.skip ?_)))))
            · skip
              refine WA.rd_yes rfl rfl rfl rfl rfl rfl (Rd.move rfl rfl) ?_
              refine WA.rd_yes rfl rfl rfl rfl rfl rfl (Rd.move rfl rfl) ?_
              refine WA.rd_yes rfl rfl rfl rfl rfl rfl (hN2.rdIdx (i := i) hil rfl S25 rfl rfl rfl) ?_
              refine WA.rd_yes rfl rfl rfl rfl rfl rfl (Rd.fieldE rfl F31_2 rfl hN2.sl (by omega)) ?_
              refine WA.rd_yes rfl rfl rfl rfl rfl rfl (hN2.rdTm (i := i) hil rfl C3 rfl rfl) ?_
              refine WA.rd_yes rfl rfl rfl rfl rfl rfl (Rd.move rfl rfl) ?_
              refine WA.rd_yes rfl rfl rfl rfl rfl rfl (Rd.move rfl rfl) ?_
              refine WA.rd_yes rfl rfl rfl rfl rfl rfl (hN2.rdIdx (i := b) hbl rfl S25 rfl rfl rfl) ?_
              refine WA.rd_yes rfl rfl rfl rfl rfl rfl (Rd.fieldE rfl F31_2 rfl hN2.sl (by omega)) ?_
              refine WA.rd_yes rfl rfl rfl rfl rfl rfl (hN2.rdTm (i := b) hbl rfl C3 rfl rfl) ?_
              refine WA.rd_yes rfl rfl rfl rfl rfl rfl (Rd.eql rfl rfl rfl) ?_
              refine WA.rd_yes rfl rfl rfl rfl rfl rfl (Rd.move rfl rfl) ?_
              refine WA.case 111 rfl (fun hg111 => ?_) (fun hg111 => ?_)
              · skip
                refine WA.rd_yes rfl rfl rfl rfl rfl rfl (Rd.move rfl rfl) ?_
                refine WA.rd_yes rfl rfl rfl rfl rfl rfl (Rd.move rfl rfl) ?_
                refine WA.rd_yes rfl rfl rfl rfl rfl rfl (hN2.rdIdx (i := i) hil rfl S25 rfl rfl rfl) ?_
                refine WA.rd_yes rfl rfl rfl rfl rfl rfl (Rd.fieldE rfl F31_0 rfl hN2.sl (by omega)) ?_
                refine WA.rd_yes rfl rfl rfl rfl rfl rfl (hN2.rdId (i := i) hil rfl C9 rfl rfl) ?_
                refine WA.rd_yes rfl rfl rfl rfl rfl rfl (Rd.move rfl rfl) ?_
                refine WA.rd_yes rfl rfl rfl rfl rfl rfl (Rd.move rfl rfl) ?_
                refine WA.rd_yes rfl rfl rfl rfl rfl rfl (hN2.rdIdx (i := b) hbl rfl S25 rfl rfl rfl) ?_
                refine WA.rd_yes rfl rfl rfl rfl rfl rfl (Rd.fieldE rfl F31_0 rfl hN2.sl (by omega)) ?_
                refine WA.rd_yes rfl rfl rfl rfl rfl rfl (hN2.rdId (i := b) hbl rfl C9 rfl rfl) ?_
                refine WA.rd_yes rfl rfl rfl rfl rfl rfl (Rd.sltD rfl rfl rfl) ?_
                refine WA.rd_yes rfl rfl rfl rfl rfl rfl (Rd.pick_t rfl rfl rfl) ?_
                refine WA.rd_yes rfl rfl rfl rfl rfl rfl (Rd.pick_f rfl rfl rfl) ?_
                refine WA.rd rfl rfl rfl (Rd.pick_t rfl rfl rfl) ?_
                refine WA.nil ?_
                refine thenQ.normal ?_
                first | refine WC.ite rfl (fun hc4 => ?_) (fun hc4 => ?_) | refine WC.cond rfl (fun hc4 => ?_) (fun hc4 => ?_)
                · skip
                  refine WC.region ?_
                  refine WL.rd rfl rfl rfl (Rd.move rfl rfl) ?_
                  refine WL.rd rfl rfl rfl (Rd.assign rfl rfl) ?_
                  refine WL.nil ?_
                  refine blockQ.normal ?_
                  refine thenQ.normal ?_
                  refine WC.region ?_
                  refine WL.rd rfl rfl rfl (Rd.move rfl rfl) ?_
                  refine WL.rd rfl rfl rfl (Rd.add rfl rfl rfl (by omega)) ?_
                  refine WL.rd rfl rfl rfl (Rd.assign rfl rfl) ?_
                  refine WL.nil ?_
                  exact loopQ2.mk (i + 1) (i : Int) ⟨by omega, j2.take (l2.1 hg83) (.inr ⟨hg111, hc4⟩)⟩ (by omega) (by repeat (first | exact Sub.nil | refine Sub.cons rfl (by first | rfl | (congr 1; omega) | assumption) ?_)) (fun w h => OwnL.sat (by repeat (first | exact OwnL.refl | apply OwnL.take (by repeat (first | exact Take.head _ | apply Take.tail)) | apply OwnL.drop)) w (h.thin (SubL.mem (by repeat (first | exact SubL.refl | refine SubL.cons (by repeat (first | assumption | exact mS | apply mT)) ?_ | refine SubL.skip ?_)))))
                · skip
                  refine WC.skip ?_
                  refine blockQ.normal ?_
                  refine thenQ.normal ?_
                  refine WC.region ?_
                  refine WL.rd rfl rfl rfl (Rd.move rfl rfl) ?_
                  refine WL.rd rfl rfl rfl (Rd.add rfl rfl rfl (by omega)) ?_
                  refine WL.rd rfl rfl rfl (Rd.assign rfl rfl) ?_
                  refine WL.nil ?_
                  exact loopQ2.mk (i + 1) (b : Int) ⟨by omega, j2.keep (.inr ⟨hg111.symm, (tlt_tri L[b]!.1 L[i]!.1).resolve_right (fun g => g.elim (fun e => hne e.symm) hc4)⟩)⟩ (by omega) (by repeat (first | exact Sub.nil | refine Sub.cons rfl (by first | rfl | (congr 1; omega) | assumption) ?_)) (fun w h => OwnL.sat (by repeat (first | exact OwnL.refl | apply OwnL.take (by repeat (first | exact Take.head _ | apply Take.tail)) | apply OwnL.drop)) w (h.thin (SubL.mem (by repeat (first | exact SubL.refl | refine SubL.cons (by repeat (first | assumption | exact mS | apply mT)) ?_ | refine SubL.skip ?_)))))
              · skip
                refine WA.no rfl rfl rfl rfl rfl rfl ?_
                refine WA.no rfl rfl rfl rfl rfl rfl ?_
                refine WA.no rfl rfl rfl rfl rfl rfl ?_
                refine WA.no rfl rfl rfl rfl rfl rfl ?_
                refine WA.no rfl rfl rfl rfl rfl rfl ?_
                refine WA.no rfl rfl rfl rfl rfl rfl ?_
                refine WA.no rfl rfl rfl rfl rfl rfl ?_
                refine WA.no rfl rfl rfl rfl rfl rfl ?_
                refine WA.no rfl rfl rfl rfl rfl rfl ?_
                refine WA.no rfl rfl rfl rfl rfl rfl ?_
                refine WA.no rfl rfl rfl rfl rfl rfl ?_
                refine WA.rd_yes rfl rfl rfl rfl rfl rfl (Rd.pick_f rfl rfl rfl) ?_
                refine WA.rd_yes rfl rfl rfl rfl rfl rfl (Rd.pick_f rfl rfl rfl) ?_
                refine WA.rd rfl rfl rfl (Rd.pick_t rfl rfl rfl) ?_
                refine WA.nil ?_
                refine thenQ.normal ?_
                refine WC.no rfl ?_
                refine WC.skip ?_
                refine blockQ.normal ?_
                refine thenQ.normal ?_
                refine WC.region ?_
                refine WL.rd rfl rfl rfl (Rd.move rfl rfl) ?_
                refine WL.rd rfl rfl rfl (Rd.add rfl rfl rfl (by omega)) ?_
                refine WL.rd rfl rfl rfl (Rd.assign rfl rfl) ?_
                refine WL.nil ?_
                exact loopQ2.mk (i + 1) (b : Int) ⟨by omega, j2.keep (.inl (by omega))⟩ (by omega) (by repeat (first | exact Sub.nil | refine Sub.cons rfl (by first | rfl | (congr 1; omega) | assumption) ?_)) (fun w h => OwnL.sat (by repeat (first | exact OwnL.refl | apply OwnL.take (by repeat (first | exact Take.head _ | apply Take.tail)) | apply OwnL.drop)) w (h.thin (SubL.mem (by repeat (first | exact SubL.refl | refine SubL.cons (by repeat (first | assumption | exact mS | apply mT)) ?_ | refine SubL.skip ?_)))))
        · skip
          refine WA.no rfl rfl rfl rfl rfl rfl ?_
          refine WA.no rfl rfl rfl rfl rfl rfl ?_
          refine WA.no rfl rfl rfl rfl rfl rfl ?_
          refine WA.noU rfl rfl rfl rfl rfl rfl ?_
          refine WA.noU rfl rfl rfl rfl rfl rfl ?_
          refine WA.noU rfl rfl rfl rfl rfl rfl ?_
          refine WA.noU rfl rfl rfl rfl rfl rfl ?_
          refine WA.noU rfl rfl rfl rfl rfl rfl ?_
          refine WA.noU rfl rfl rfl rfl rfl rfl ?_
          refine WA.noU rfl rfl rfl rfl rfl rfl ?_
          refine WA.noU rfl rfl rfl rfl rfl rfl ?_
          refine WA.noU rfl rfl rfl rfl rfl rfl ?_
          refine WA.noU rfl rfl rfl rfl rfl rfl ?_
          refine WA.noU rfl rfl rfl rfl rfl rfl ?_
          refine WA.no rfl rfl rfl rfl rfl rfl ?_
          refine WA.no rfl rfl rfl rfl rfl rfl ?_
          refine WA.noU rfl rfl rfl rfl rfl rfl ?_
          refine WA.noU rfl rfl rfl rfl rfl rfl ?_
          refine WA.noU rfl rfl rfl rfl rfl rfl ?_
          refine WA.noU rfl rfl rfl rfl rfl rfl ?_
          refine WA.noU rfl rfl rfl rfl rfl rfl ?_
          refine WA.noU rfl rfl rfl rfl rfl rfl ?_
          refine WA.noU rfl rfl rfl rfl rfl rfl ?_
          refine WA.noU rfl rfl rfl rfl rfl rfl ?_
          refine WA.noU rfl rfl rfl rfl rfl rfl ?_
          refine WA.noU rfl rfl rfl rfl rfl rfl ?_
          refine WA.noU rfl rfl rfl rfl rfl rfl ?_
          refine WA.noU rfl rfl rfl rfl rfl rfl ?_
          refine WA.noU rfl rfl rfl rfl rfl rfl ?_
          refine WA.noU rfl rfl rfl rfl rfl rfl ?_
          refine WA.noU rfl rfl rfl rfl rfl rfl ?_
          refine WA.noU rfl rfl rfl rfl rfl rfl ?_
          refine WA.noU rfl rfl rfl rfl rfl rfl ?_
          refine WA.noU rfl rfl rfl rfl rfl rfl ?_
          refine WA.noU rfl rfl rfl rfl rfl rfl ?_
          refine WA.noU rfl rfl rfl rfl rfl rfl ?_
          refine WA.noU rfl rfl rfl rfl rfl rfl ?_
          refine WA.noU rfl rfl rfl rfl rfl rfl ?_
          refine WA.noU rfl rfl rfl rfl rfl rfl ?_
          refine WA.noU rfl rfl rfl rfl rfl rfl ?_
          refine WA.no rfl rfl rfl rfl rfl rfl ?_
          refine WA.rd rfl rfl rfl (Rd.pick_f rfl rfl rfl) ?_
          refine WA.nil ?_
          refine thenQ.normal ?_
          refine WC.no rfl ?_
          refine WC.skip ?_
          refine blockQ.normal ?_
          refine thenQ.normal ?_
          refine WC.region ?_
          refine WL.rd rfl rfl rfl (Rd.move rfl rfl) ?_
          refine WL.rd rfl rfl rfl (Rd.add rfl rfl rfl (by omega)) ?_
          refine WL.rd rfl rfl rfl (Rd.assign rfl rfl) ?_
          refine WL.nil ?_
          exact loopQ2.mk (i + 1) best ⟨by omega, j2.skip (fun h => hg83 (l2.2 h))⟩ (by omega) (by repeat (first | exact Sub.nil | refine Sub.cons rfl (by first | rfl | (congr 1; omega) | assumption) ?_)) (fun w h => OwnL.sat (by repeat (first | exact OwnL.refl | apply OwnL.take (by repeat (first | exact Take.head _ | apply Take.tail)) | apply OwnL.drop)) w (h.thin (SubL.mem (by repeat (first | exact SubL.refl | refine SubL.cons (by repeat (first | assumption | exact mS | apply mT)) ?_ | refine SubL.skip ?_)))))
    · skip
      refine WL.no rfl rfl rfl rfl rfl rfl ?_
      refine WL.no rfl rfl rfl rfl rfl rfl ?_
      refine WL.no rfl rfl rfl rfl rfl rfl ?_
      refine WL.no rfl rfl rfl rfl rfl rfl ?_
      refine WL.no rfl rfl rfl rfl rfl rfl ?_
      refine WL.rd rfl rfl rfl (Rd.pick_f rfl rfl rfl) ?_
      refine WL.say 35 (u := .bool (decide ((xs[i]! && !ds[i]!) = true))) rfl (by first | (rw [show xs[i]! = true from hg29, Bool.true_and]; exact vb (by simp)) | (rw [show xs[i]! = false from by simpa using hg29, Bool.false_and]; rfl)) ?_
      refine WL.rd rfl rfl rfl (Rd.assign rfl rfl) ?_
      refine WL.nil ?_
      refine thenQ.normal ?_
      refine WC.seq ?_
      refine WC.seq ?_
      refine WC.region ?_
      refine WL.rd rfl rfl rfl (Rd.assign rfl rfl) ?_
      refine WL.nil ?_
      refine thenQ.normal ?_
      refine WC.block ?_
      refine WC.pick [11, 10, 0, 5, 6, 7, 8, 9] (by repeat (first | exact Pick.nil | apply Pick.cons rfl)) ?_
      refine WC.loop2o 2 (fun (k : Nat) (f : Bool) => [(11, vi k), (10, .bool (decide (f = true)))]) (fun (k : Nat) (f : Bool) => k ≤ L.length ∧ (f = true ↔ FreeTo L (Come (gOf L) fs) done i k)) (fun (k : Nat) (f : Bool) => L.length - k) (0) (xs[i]! && !ds[i]!) (by repeat (first | exact Split.zero | apply Split.succ)) ?hinv3 (by repeat (first | exact Sub.nil | refine Sub.cons rfl (by first | rfl | (congr 1; omega) | assumption) ?_)) (fun _ h => h) ?_
      case hinv3 =>
        exact ⟨Nat.zero_le _, by unfold FreeTo; rw [Bool.and_eq_true, hxs.2 i hil, Bool.not_eq_true', ← Bool.not_eq_true, i2 i hil]; exact ⟨fun h => ⟨h, fun m hm => absurd hm (Nat.not_lt_zero _)⟩, fun h => h.1⟩⟩
      intro k f
      rintro ⟨l1, l2⟩
      refine WC.seq ?_
      refine WC.seq ?_
      refine WC.region ?_
      refine WL.rd rfl rfl rfl (Rd.move rfl rfl) ?_
      refine WL.rd rfl rfl rfl (Rd.move rfl rfl) ?_
      refine WL.rd rfl rfl rfl (hN2.rdLen rfl rfl Try.underlying25) ?_
      refine WL.rd rfl rfl rfl (Rd.lss rfl rfl rfl) ?_
      refine WL.nil ?_
      refine thenQ.normal ?_
      first | refine WC.ite rfl (fun hc2 => ?_) (fun hc2 => ?_) | refine WC.cond rfl (fun hc2 => ?_) (fun hc2 => ?_)
      · skip
        have hkl : k < L.length := by omega
        have hpl := hps _ (get!_mem hkl)
        refine WC.skip ?_
        refine thenQ.normal ?_
        refine WC.seq ?_
        refine WC.block ?_
        refine WC.seq ?_
        refine WC.region ?_
        refine WL.rd rfl rfl rfl (Rd.assign rfl rfl) ?_
        refine WL.nil ?_
        refine thenQ.normal ?_
        refine WC.block ?_
        refine WC.pick [12, 10, 0, 5, 6, 7, 8, 9, 11] (by repeat (first | exact Pick.nil | apply Pick.cons rfl)) ?_
        refine WC.loop2o 2 (fun (p : Nat) (f4 : Bool) => [(12, vi p), (10, .bool (decide (f4 = true)))]) (fun (p : Nat) (f4 : Bool) => p ≤ L[k]!.2.1.length ∧ (f4 = true ↔ FreeTo L (Come (gOf L) fs) done i k ∧ (xs[k]! = true → ¬ ds[k]! = true → ∀ q, q < p → L[k]!.2.1[q]! ≠ L[i]!.1))) (fun (p : Nat) (f4 : Bool) => L[k]!.2.1.length - p) (0) (f) (by repeat (first | exact Split.zero | apply Split.succ)) ?hinv4 (by repeat (first | exact Sub.nil | refine Sub.cons rfl (by first | rfl | (congr 1; omega) | assumption) ?_)) (fun _ h => h) ?_
        case hinv4 =>
          exact ⟨Nat.zero_le _, l2.trans ⟨fun h => ⟨h, fun _ _ q hq => absurd hq (Nat.not_lt_zero _)⟩, fun h => h.1⟩⟩
        intro p f4
        rintro ⟨n1, n2⟩
        refine WC.seq ?_
        refine WC.seq ?_
        refine WC.region ?_
        refine WL.rd rfl rfl rfl (Rd.move rfl rfl) ?_
        refine WL.rd rfl rfl rfl (Rd.move rfl rfl) ?_
        refine WL.rd rfl rfl rfl (Rd.idx1 (enc := SL.one vbl) (xs := xs) (k := k) rfl S45 rfl rfl rfl (by repeat (first | assumption | exact mS | apply mT)) (by omega)) ?_
        refine WL.rd rfl rfl rfl (Rd.get (g := vbl) (xs := xs) (k := k) rfl C4 rfl (by repeat (first | assumption | exact mS | apply mT)) (get!_of_lt (by omega))) ?_
        refine WL.say 45 (u := .bool (decide (xs[k]! = true))) rfl (vbl_dec _) ?_
        refine WL.rd rfl rfl rfl (Rd.move rfl rfl) ?_
        refine WL.case 46 rfl (fun hg46 => ?_) (fun hg46 => ?_)
        · skip
          refine WL.rd_yes rfl rfl rfl rfl rfl rfl (Rd.move rfl rfl) ?_
          refine WL.rd_yes rfl rfl rfl rfl rfl rfl (Rd.move rfl rfl) ?_
          refine WL.rd_yes rfl rfl rfl rfl rfl rfl (Rd.idxA1 (enc := SL.one vbl) (xs := ds) (k := k) rfl S45 rfl rfl rfl (by repeat (first | assumption | exact mS | apply mT)) (by omega)) ?_
          refine WL.rd_yes rfl rfl rfl rfl rfl rfl (Rd.getA (g := vbl) (xs := ds) (k := k) rfl C4 rfl (by repeat (first | assumption | exact mS | apply mT)) (get!_of_lt (by omega))) ?_
          refine WL.say 50 (u := .bool (decide (ds[k]! = true))) rfl (vbl_dec _) ?_
          refine WL.rd_yes rfl rfl rfl rfl rfl rfl ((by first | exact Rd.notd rfl rfl | exact Rd.not rfl rfl)) ?_
          refine WL.rd rfl rfl rfl (Rd.pick_t rfl rfl rfl) ?_
          refine WL.rd rfl rfl rfl (Rd.move rfl rfl) ?_
          refine WL.case 53 rfl (fun hg53 => ?_) (fun hg53 => ?_)
          · skip
            refine WL.rd_yes rfl rfl rfl rfl rfl rfl (Rd.move rfl rfl) ?_
            refine WL.rd_yes rfl rfl rfl rfl rfl rfl (Rd.move rfl rfl) ?_
            refine WL.rd_yes rfl rfl rfl rfl rfl rfl (Rd.move rfl rfl) ?_
            refine WL.rd_yes rfl rfl rfl rfl rfl rfl (hN2.rdIdx (i := k) hkl rfl S25 rfl rfl rfl) ?_
            refine WL.rd_yes rfl rfl rfl rfl rfl rfl (Rd.fieldE rfl F31_1 rfl hN2.sl (by omega)) ?_
            refine WL.rd_yes rfl rfl rfl rfl rfl rfl (hN2.rdPs (i := k) hkl rfl C28 rfl rfl) ?_
            refine WL.rd_yes rfl rfl rfl rfl rfl rfl (hN2.rdPLen (i := k) hkl rfl rfl Try.underlying28) ?_
            refine WL.rd_yes rfl rfl rfl rfl rfl rfl (Rd.lss rfl rfl rfl) ?_
            refine WL.rd rfl rfl rfl (Rd.pick_t rfl rfl rfl) ?_
            refine WL.nil ?_
            refine thenQ.normal ?_
            first | refine WC.ite rfl (fun hc3 => ?_) (fun hc3 => ?_) | refine WC.cond rfl (fun hc3 => ?_) (fun hc3 => ?_)
            · skip
              refine WC.skip ?_
              refine thenQ.normal ?_
              refine WC.seq ?_
              refine WC.block ?_
              refine WC.still mixed (by kernel_rfl) ?_
              refine WA.rd rfl rfl rfl (Rd.move rfl rfl) ?_
              refine WA.rd rfl rfl rfl (Rd.move rfl rfl) ?_
              refine WA.case 66 rfl (fun hg66 => ?_) (fun hg66 => ?_)
              · skip
                refine WA.rd_yes rfl rfl rfl rfl rfl rfl (Rd.move rfl rfl) ?_
                refine WA.rd_yes rfl rfl rfl rfl rfl rfl (Rd.move rfl rfl) ?_
                refine WA.rd_yes rfl rfl rfl rfl rfl rfl (hN2.rdIdx (i := k) hkl rfl S25 rfl rfl rfl) ?_
                refine WA.rd_yes rfl rfl rfl rfl rfl rfl (Rd.fieldE rfl F31_1 rfl hN2.sl (by omega)) ?_
                refine WA.rd_yes rfl rfl rfl rfl rfl rfl (hN2.rdPs (i := k) hkl rfl C28 rfl rfl) ?_
                refine WA.rd_yes rfl rfl rfl rfl rfl rfl (Rd.move rfl rfl) ?_
                refine WA.rd_yes rfl rfl rfl rfl rfl rfl (hN2.rdPIdx (i := k) (k := p) hkl (by omega) rfl S28 rfl rfl rfl) ?_
                refine WA.rd_yes rfl rfl rfl rfl rfl rfl (hN2.rdP (i := k) (k := p) hkl (by omega) rfl C9 rfl) ?_
                refine WA.rd_yes rfl rfl rfl rfl rfl rfl (Rd.move rfl rfl) ?_
                refine WA.rd_yes rfl rfl rfl rfl rfl rfl (Rd.move rfl rfl) ?_
                refine WA.rd_yes rfl rfl rfl rfl rfl rfl (hN2.rdIdx (i := i) hil rfl S25 rfl rfl rfl) ?_
                refine WA.rd_yes rfl rfl rfl rfl rfl rfl (Rd.fieldE rfl F31_0 rfl hN2.sl (by omega)) ?_
                refine WA.rd_yes rfl rfl rfl rfl rfl rfl (hN2.rdId (i := i) hil rfl C9 rfl rfl) ?_
                refine WA.rd_yes rfl rfl rfl rfl rfl rfl (Rd.sneq rfl rfl rfl) ?_
                refine WA.rd rfl rfl rfl (Rd.pick_t rfl rfl rfl) ?_
                refine WA.say 81 (u := .bool (decide ((f4 && decide (L[k]!.2.1[p]! ≠ L[i]!.1)) = true))) rfl (by first | (rw [show f4 = true from hg66, Bool.true_and]; exact vb (by simp)) | (rw [show f4 = false from by simpa using hg66, Bool.false_and]; rfl)) ?_
                refine WA.rd rfl rfl rfl (Rd.assign rfl rfl) ?_
                refine WA.nil ?_
                refine blockQ.normal ?_
                refine thenQ.normal ?_
                refine WC.region ?_
                refine WL.rd rfl rfl rfl (Rd.move rfl rfl) ?_
                refine WL.rd rfl rfl rfl (Rd.add rfl rfl rfl (by omega)) ?_
                refine WL.rd rfl rfl rfl (Rd.assign rfl rfl) ?_
                refine WL.nil ?_
                exact loopQ2.mk (p + 1) (f4 && decide (L[k]!.2.1[p]! ≠ L[i]!.1)) ⟨by omega, by
                rw [Bool.and_eq_true, n2, decide_eq_true_eq]
                constructor
                · rintro ⟨⟨h1, h2⟩, h3⟩
                  exact ⟨h1, fun ha hd q hq => by
                    rcases Nat.lt_or_ge q p with g | g
                    · exact h2 ha hd q g
                    · obtain rfl : q = p := by omega
                      exact h3⟩
                · rintro ⟨h1, h2⟩
                  exact ⟨⟨h1, fun ha hd q hq => h2 ha hd q (by omega)⟩, h2 hg46 hg53 p (by omega)⟩⟩ (by omega) (by repeat (first | exact Sub.nil | refine Sub.cons rfl (by first | rfl | (congr 1; omega) | assumption) ?_)) (fun w h => OwnL.sat (by repeat (first | exact OwnL.refl | apply OwnL.take (by repeat (first | exact Take.head _ | apply Take.tail)) | apply OwnL.drop)) w (h.thin (SubL.mem (by repeat (first | exact SubL.refl | refine SubL.cons (by repeat (first | assumption | exact mS | apply mT)) ?_ | refine SubL.skip ?_)))))
              · skip
                refine WA.no rfl rfl rfl rfl rfl rfl ?_
                refine WA.no rfl rfl rfl rfl rfl rfl ?_
                refine WA.no rfl rfl rfl rfl rfl rfl ?_
                refine WA.no rfl rfl rfl rfl rfl rfl ?_
                refine WA.no rfl rfl rfl rfl rfl rfl ?_
                refine WA.no rfl rfl rfl rfl rfl rfl ?_
                refine WA.no rfl rfl rfl rfl rfl rfl ?_
                refine WA.no rfl rfl rfl rfl rfl rfl ?_
                refine WA.no rfl rfl rfl rfl rfl rfl ?_
                refine WA.no rfl rfl rfl rfl rfl rfl ?_
                refine WA.no rfl rfl rfl rfl rfl rfl ?_
                refine WA.no rfl rfl rfl rfl rfl rfl ?_
                refine WA.no rfl rfl rfl rfl rfl rfl ?_
                refine WA.no rfl rfl rfl rfl rfl rfl ?_
                refine WA.rd rfl rfl rfl (Rd.pick_f rfl rfl rfl) ?_
                refine WA.say 81 (u := .bool (decide ((f4 && decide (L[k]!.2.1[p]! ≠ L[i]!.1)) = true))) rfl (by first | (rw [show f4 = true from hg66, Bool.true_and]; exact vb (by simp)) | (rw [show f4 = false from by simpa using hg66, Bool.false_and]; rfl)) ?_
                refine WA.rd rfl rfl rfl (Rd.assign rfl rfl) ?_
                refine WA.nil ?_
                refine blockQ.normal ?_
                refine thenQ.normal ?_
                refine WC.region ?_
                refine WL.rd rfl rfl rfl (Rd.move rfl rfl) ?_
                refine WL.rd rfl rfl rfl (Rd.add rfl rfl rfl (by omega)) ?_
                refine WL.rd rfl rfl rfl (Rd.assign rfl rfl) ?_
                refine WL.nil ?_
                exact loopQ2.mk (p + 1) (f4 && decide (L[k]!.2.1[p]! ≠ L[i]!.1)) ⟨by omega, by
                rw [Bool.and_eq_true, n2, decide_eq_true_eq]
                constructor
                · rintro ⟨⟨h1, h2⟩, h3⟩
                  exact ⟨h1, fun ha hd q hq => by
                    rcases Nat.lt_or_ge q p with g | g
                    · exact h2 ha hd q g
                    · obtain rfl : q = p := by omega
                      exact h3⟩
                · rintro ⟨h1, h2⟩
                  exact ⟨⟨h1, fun ha hd q hq => h2 ha hd q (by omega)⟩, h2 hg46 hg53 p (by omega)⟩⟩ (by omega) (by repeat (first | exact Sub.nil | refine Sub.cons rfl (by first | rfl | (congr 1; omega) | assumption) ?_)) (fun w h => OwnL.sat (by repeat (first | exact OwnL.refl | apply OwnL.take (by repeat (first | exact Take.head _ | apply Take.tail)) | apply OwnL.drop)) w (h.thin (SubL.mem (by repeat (first | exact SubL.refl | refine SubL.cons (by repeat (first | assumption | exact mS | apply mT)) ?_ | refine SubL.skip ?_)))))
            · skip
              refine WC.exit ?_
              refine thenQ.exit ?_
              refine loopQ2.exit ?_
              refine blockQ.exit ?_
              refine blockQ.normal ?_
              refine thenQ.normal ?_
              refine WC.region ?_
              refine WL.rd rfl rfl rfl (Rd.move rfl rfl) ?_
              refine WL.rd rfl rfl rfl (Rd.add rfl rfl rfl (by omega)) ?_
              refine WL.rd rfl rfl rfl (Rd.assign rfl rfl) ?_
              refine WL.nil ?_
              have hcx := hxs.2 k hkl
              have hdx := i2 k hkl
              have hnx : f4 = true ↔ FreeTo L (Come (gOf L) fs) done i (k + 1) := by
                rw [FreeTo.next, n2, ← hcx, ← hdx]
                refine and_congr_right fun _ => ?_
                first
                  | exact ⟨fun h ha => absurd ha hg46, fun h ha => absurd ha hg46⟩
                  | exact ⟨fun h ha hd => absurd hd hg53, fun h ha hd => absurd hd hg53⟩
                  | exact ⟨fun h ha hd hm => by
                      obtain ⟨q, hq, e⟩ := mem_get! hm
                      exact h ha hd q (by omega) e, fun h ha hd q hq e => h ha hd (e ▸ get!_mem (by omega))⟩
              exact loopQ2.mk (k + 1) f4 ⟨by omega, hnx⟩ (by omega) (by repeat (first | exact Sub.nil | refine Sub.cons rfl (by first | rfl | (congr 1; omega) | assumption) ?_)) (fun w h => OwnL.sat (by repeat (first | exact OwnL.refl | apply OwnL.take (by repeat (first | exact Take.head _ | apply Take.tail)) | apply OwnL.drop)) w (h.thin (SubL.mem (by repeat (first | exact SubL.refl | refine SubL.cons (by repeat (first | assumption | exact mS | apply mT)) ?_ | refine SubL.skip ?_)))))
          · skip
            refine WL.no rfl rfl rfl rfl rfl rfl ?_
            refine WL.no rfl rfl rfl rfl rfl rfl ?_
            refine WL.no rfl rfl rfl rfl rfl rfl ?_
            refine WL.no rfl rfl rfl rfl rfl rfl ?_
            refine WL.no rfl rfl rfl rfl rfl rfl ?_
            refine WL.no rfl rfl rfl rfl rfl rfl ?_
            refine WL.no rfl rfl rfl rfl rfl rfl ?_
            refine WL.no rfl rfl rfl rfl rfl rfl ?_
            refine WL.rd rfl rfl rfl (Rd.pick_f rfl rfl rfl) ?_
            refine WL.nil ?_
            refine thenQ.normal ?_
            refine WC.no rfl ?_
            refine WC.exit ?_
            refine thenQ.exit ?_
            refine loopQ2.exit ?_
            refine blockQ.exit ?_
            refine blockQ.normal ?_
            refine thenQ.normal ?_
            refine WC.region ?_
            refine WL.rd rfl rfl rfl (Rd.move rfl rfl) ?_
            refine WL.rd rfl rfl rfl (Rd.add rfl rfl rfl (by omega)) ?_
            refine WL.rd rfl rfl rfl (Rd.assign rfl rfl) ?_
            refine WL.nil ?_
            have hcx := hxs.2 k hkl
            have hdx := i2 k hkl
            have hnx : f4 = true ↔ FreeTo L (Come (gOf L) fs) done i (k + 1) := by
              rw [FreeTo.next, n2, ← hcx, ← hdx]
              refine and_congr_right fun _ => ?_
              first
                | exact ⟨fun h ha => absurd ha hg46, fun h ha => absurd ha hg46⟩
                | exact ⟨fun h ha hd => absurd hd hg53, fun h ha hd => absurd hd hg53⟩
                | exact ⟨fun h ha hd hm => by
                    obtain ⟨q, hq, e⟩ := mem_get! hm
                    exact h ha hd q (by omega) e, fun h ha hd q hq e => h ha hd (e ▸ get!_mem (by omega))⟩
            exact loopQ2.mk (k + 1) f4 ⟨by omega, hnx⟩ (by omega) (by repeat (first | exact Sub.nil | refine Sub.cons rfl (by first | rfl | (congr 1; omega) | assumption) ?_)) (fun w h => OwnL.sat (by repeat (first | exact OwnL.refl | apply OwnL.take (by repeat (first | exact Take.head _ | apply Take.tail)) | apply OwnL.drop)) w (h.thin (SubL.mem (by repeat (first | exact SubL.refl | refine SubL.cons (by repeat (first | assumption | exact mS | apply mT)) ?_ | refine SubL.skip ?_)))))
        · skip
          refine WL.no rfl rfl rfl rfl rfl rfl ?_
          refine WL.no rfl rfl rfl rfl rfl rfl ?_
          refine WL.no rfl rfl rfl rfl rfl rfl ?_
          refine WL.no rfl rfl rfl rfl rfl rfl ?_
          refine WL.no rfl rfl rfl rfl rfl rfl ?_
          refine WL.rd rfl rfl rfl (Rd.pick_f rfl rfl rfl) ?_
          refine WL.rd rfl rfl rfl (Rd.move rfl rfl) ?_
          refine WL.no rfl rfl rfl rfl rfl rfl ?_
          refine WL.no rfl rfl rfl rfl rfl rfl ?_
          refine WL.no rfl rfl rfl rfl rfl rfl ?_
          refine WL.no rfl rfl rfl rfl rfl rfl ?_
          refine WL.no rfl rfl rfl rfl rfl rfl ?_
          refine WL.no rfl rfl rfl rfl rfl rfl ?_
          refine WL.no rfl rfl rfl rfl rfl rfl ?_
          refine WL.no rfl rfl rfl rfl rfl rfl ?_
          refine WL.rd rfl rfl rfl (Rd.pick_f rfl rfl rfl) ?_
          refine WL.nil ?_
          refine thenQ.normal ?_
          refine WC.no rfl ?_
          refine WC.exit ?_
          refine thenQ.exit ?_
          refine loopQ2.exit ?_
          refine blockQ.exit ?_
          refine blockQ.normal ?_
          refine thenQ.normal ?_
          refine WC.region ?_
          refine WL.rd rfl rfl rfl (Rd.move rfl rfl) ?_
          refine WL.rd rfl rfl rfl (Rd.add rfl rfl rfl (by omega)) ?_
          refine WL.rd rfl rfl rfl (Rd.assign rfl rfl) ?_
          refine WL.nil ?_
          have hcx := hxs.2 k hkl
          have hdx := i2 k hkl
          have hnx : f4 = true ↔ FreeTo L (Come (gOf L) fs) done i (k + 1) := by
            rw [FreeTo.next, n2, ← hcx, ← hdx]
            refine and_congr_right fun _ => ?_
            first
              | exact ⟨fun h ha => absurd ha hg46, fun h ha => absurd ha hg46⟩
              | exact ⟨fun h ha hd => absurd hd hg53, fun h ha hd => absurd hd hg53⟩
              | exact ⟨fun h ha hd hm => by
                  obtain ⟨q, hq, e⟩ := mem_get! hm
                  exact h ha hd q (by omega) e, fun h ha hd q hq e => h ha hd (e ▸ get!_mem (by omega))⟩
          exact loopQ2.mk (k + 1) f4 ⟨by omega, hnx⟩ (by omega) (by repeat (first | exact Sub.nil | refine Sub.cons rfl (by first | rfl | (congr 1; omega) | assumption) ?_)) (fun w h => OwnL.sat (by repeat (first | exact OwnL.refl | apply OwnL.take (by repeat (first | exact Take.head _ | apply Take.tail)) | apply OwnL.drop)) w (h.thin (SubL.mem (by repeat (first | exact SubL.refl | refine SubL.cons (by repeat (first | assumption | exact mS | apply mT)) ?_ | refine SubL.skip ?_)))))
      · skip
        obtain rfl : k = L.length := by omega
        refine WC.exit ?_
        refine thenQ.exit ?_
        refine loopQ2.exit ?_
        refine blockQ.exit ?_
        refine thenQ.normal ?_
        refine WC.seq ?_
        refine WC.still mixed (by kernel_rfl) ?_
        refine WA.rd rfl rfl rfl (Rd.move rfl rfl) ?_
        refine WA.rd rfl rfl rfl (Rd.move rfl rfl) ?_
        refine WA.case 83 rfl (fun hg83 => ?_) (fun hg83 => ?_)
        · skip
          refine WA.rd_yes rfl rfl rfl rfl rfl rfl (Rd.move rfl rfl) ?_
          refine WA.rd_yes rfl rfl rfl rfl rfl rfl (Rd.lss rfl rfl rfl) ?_
          refine WA.rd_yes rfl rfl rfl rfl rfl rfl (Rd.move rfl rfl) ?_
          refine WA.case 86 rfl (fun hg86 => ?_) (fun hg86 => ?_)
          · skip
            refine WA.no rfl rfl rfl rfl rfl rfl ?_
            refine WA.no rfl rfl rfl rfl rfl rfl ?_
            refine WA.no rfl rfl rfl rfl rfl rfl ?_
            refine WA.no rfl rfl rfl rfl rfl rfl ?_
            refine WA.no rfl rfl rfl rfl rfl rfl ?_
            refine WA.no rfl rfl rfl rfl rfl rfl ?_
            refine WA.no rfl rfl rfl rfl rfl rfl ?_
            refine WA.no rfl rfl rfl rfl rfl rfl ?_
            refine WA.no rfl rfl rfl rfl rfl rfl ?_
            refine WA.no rfl rfl rfl rfl rfl rfl ?_
            refine WA.no rfl rfl rfl rfl rfl rfl ?_
            refine WA.rd_yes rfl rfl rfl rfl rfl rfl (Rd.pick_t rfl rfl rfl) ?_
            refine WA.rd_yes rfl rfl rfl rfl rfl rfl (Rd.move rfl rfl) ?_
            refine WA.no rfl rfl rfl rfl rfl rfl ?_
            refine WA.no rfl rfl rfl rfl rfl rfl ?_
            refine WA.no rfl rfl rfl rfl rfl rfl ?_
            refine WA.no rfl rfl rfl rfl rfl rfl ?_
            refine WA.no rfl rfl rfl rfl rfl rfl ?_
            refine WA.no rfl rfl rfl rfl rfl rfl ?_
            refine WA.no rfl rfl rfl rfl rfl rfl ?_
            refine WA.no rfl rfl rfl rfl rfl rfl ?_
            refine WA.no rfl rfl rfl rfl rfl rfl ?_
            refine WA.no rfl rfl rfl rfl rfl rfl ?_
            refine WA.no rfl rfl rfl rfl rfl rfl ?_
            refine WA.no rfl rfl rfl rfl rfl rfl ?_
            refine WA.noU rfl rfl rfl rfl rfl rfl ?_
            refine WA.noU rfl rfl rfl rfl rfl rfl ?_
            refine WA.noU rfl rfl rfl rfl rfl rfl ?_
            refine WA.noU rfl rfl rfl rfl rfl rfl ?_
            refine WA.noU rfl rfl rfl rfl rfl rfl ?_
            refine WA.noU rfl rfl rfl rfl rfl rfl ?_
            refine WA.noU rfl rfl rfl rfl rfl rfl ?_
            refine WA.noU rfl rfl rfl rfl rfl rfl ?_
            refine WA.noU rfl rfl rfl rfl rfl rfl ?_
            refine WA.noU rfl rfl rfl rfl rfl rfl ?_
            refine WA.noU rfl rfl rfl rfl rfl rfl ?_
            refine WA.no rfl rfl rfl rfl rfl rfl ?_
            refine WA.rd_yes rfl rfl rfl rfl rfl rfl (Rd.pick_t rfl rfl rfl) ?_
            refine WA.rd rfl rfl rfl (Rd.pick_t rfl rfl rfl) ?_
            refine WA.nil ?_
            refine thenQ.normal ?_
            refine WC.yes rfl ?_
            refine WC.region ?_
            refine WL.rd rfl rfl rfl (Rd.move rfl rfl) ?_
            refine WL.rd rfl rfl rfl (Rd.assign rfl rfl) ?_
            refine WL.nil ?_
            refine blockQ.normal ?_
            refine thenQ.normal ?_
            refine WC.region ?_
            refine WL.rd rfl rfl rfl (Rd.move rfl rfl) ?_
            refine WL.rd rfl rfl rfl (Rd.add rfl rfl rfl (by omega)) ?_
            refine WL.rd rfl rfl rfl (Rd.assign rfl rfl) ?_
            refine WL.nil ?_
            exact loopQ2.mk (i + 1) (i : Int) ⟨by omega, j2.first hg86 (l2.1 hg83)⟩ (by omega) (by repeat (first | exact Sub.nil | refine Sub.cons rfl (by first | rfl | (congr 1; omega) | assumption) ?_)) (fun w h => OwnL.sat (by repeat (first | exact OwnL.refl | apply OwnL.take (by repeat (first | exact Take.head _ | apply Take.tail)) | apply OwnL.drop)) w (h.thin (SubL.mem (by repeat (first | exact SubL.refl | refine SubL.cons (by repeat (first | assumption | exact mS | apply mT)) ?_ | refine SubL.skip ?_)))))
          · skip
            obtain ⟨b, rfl, hbi⟩ : ∃ b : Nat, best = b ∧ b < i := by
              rcases j2 with ⟨h, _⟩ | ⟨b, h1, h2, _⟩
              · omega
              · exact ⟨b, h1, h2⟩
            have hbl : b < L.length := by omega
            have hne : L[i]!.1 ≠ L[b]!.1 := fun e => by have := ids_inj hn hil hbl e; omega
            refine WA.rd_yes rfl rfl rfl rfl rfl rfl (Rd.move rfl rfl) ?_
            refine WA.rd_yes rfl rfl rfl rfl rfl rfl (Rd.move rfl rfl) ?_
            refine WA.rd_yes rfl rfl rfl rfl rfl rfl (hN2.rdIdx (i := i) hil rfl S25 rfl rfl rfl) ?_
            refine WA.rd_yes rfl rfl rfl rfl rfl rfl (Rd.fieldE rfl F31_2 rfl hN2.sl (by omega)) ?_
            refine WA.rd_yes rfl rfl rfl rfl rfl rfl (hN2.rdTm (i := i) hil rfl C3 rfl rfl) ?_
            refine WA.rd_yes rfl rfl rfl rfl rfl rfl (Rd.move rfl rfl) ?_
            refine WA.rd_yes rfl rfl rfl rfl rfl rfl (Rd.move rfl rfl) ?_
            refine WA.rd_yes rfl rfl rfl rfl rfl rfl (hN2.rdIdx (i := b) hbl rfl S25 rfl rfl rfl) ?_
            refine WA.rd_yes rfl rfl rfl rfl rfl rfl (Rd.fieldE rfl F31_2 rfl hN2.sl (by omega)) ?_
            refine WA.rd_yes rfl rfl rfl rfl rfl rfl (hN2.rdTm (i := b) hbl rfl C3 rfl rfl) ?_
            refine WA.rd_yes rfl rfl rfl rfl rfl rfl (Rd.gtr rfl rfl rfl) ?_
            refine WA.rd_yes rfl rfl rfl rfl rfl rfl (Rd.pick_f rfl rfl rfl) ?_
            refine WA.rd_yes rfl rfl rfl rfl rfl rfl (Rd.move rfl rfl) ?_
            refine WA.case 99 rfl (fun hg99 => ?_) (fun hg99 => ?_)
            · skip
              refine WA.no rfl rfl rfl rfl rfl rfl ?_
              refine WA.no rfl rfl rfl rfl rfl rfl ?_
              refine WA.no rfl rfl rfl rfl rfl rfl ?_
              refine WA.no rfl rfl rfl rfl rfl rfl ?_
              refine WA.no rfl rfl rfl rfl rfl rfl ?_
              refine WA.no rfl rfl rfl rfl rfl rfl ?_
              refine WA.no rfl rfl rfl rfl rfl rfl ?_
              refine WA.no rfl rfl rfl rfl rfl rfl ?_
              refine WA.no rfl rfl rfl rfl rfl rfl ?_
              refine WA.no rfl rfl rfl rfl rfl rfl ?_
              refine WA.no rfl rfl rfl rfl rfl rfl ?_
              refine WA.no rfl rfl rfl rfl rfl rfl ?_
              refine WA.noU rfl rfl rfl rfl rfl rfl ?_
              refine WA.noU rfl rfl rfl rfl rfl rfl ?_
              refine WA.noU rfl rfl rfl rfl rfl rfl ?_
              refine WA.noU rfl rfl rfl rfl rfl rfl ?_
              refine WA.noU rfl rfl rfl rfl rfl rfl ?_
              refine WA.noU rfl rfl rfl rfl rfl rfl ?_
              refine WA.noU rfl rfl rfl rfl rfl rfl ?_
              refine WA.noU rfl rfl rfl rfl rfl rfl ?_
              refine WA.noU rfl rfl rfl rfl rfl rfl ?_
              refine WA.noU rfl rfl rfl rfl rfl rfl ?_
              refine WA.noU rfl rfl rfl rfl rfl rfl ?_
              refine WA.no rfl rfl rfl rfl rfl rfl ?_
              refine WA.rd_yes rfl rfl rfl rfl rfl rfl (Rd.pick_t rfl rfl rfl) ?_
              refine WA.rd rfl rfl rfl (Rd.pick_t rfl rfl rfl) ?_
              refine WA.nil ?_
              refine thenQ.normal ?_
              refine WC.yes rfl ?_
              refine WC.region ?_
              refine WL.rd rfl rfl rfl (Rd.move rfl rfl) ?_
              refine WL.rd rfl rfl rfl (Rd.assign rfl rfl) ?_
              refine WL.nil ?_
              refine blockQ.normal ?_
              refine thenQ.normal ?_
              refine WC.region ?_
              refine WL.rd rfl rfl rfl (Rd.move rfl rfl) ?_
              refine WL.rd rfl rfl rfl (Rd.add rfl rfl rfl (by omega)) ?_
              refine WL.rd rfl rfl rfl (Rd.assign rfl rfl) ?_
              refine WL.nil ?_
              exact loopQ2.mk (i + 1) (i : Int) ⟨by omega, j2.take (l2.1 hg83) (.inl (by omega))⟩ (by omega) (by repeat (first | exact Sub.nil | refine Sub.cons rfl (by first | rfl | (congr 1; omega) | assumption) ?_)) (fun w h => OwnL.sat (by repeat (first | exact OwnL.refl | apply OwnL.take (by repeat (first | exact Take.head _ | apply Take.tail)) | apply OwnL.drop)) w (h.thin (SubL.mem (by repeat (first | exact SubL.refl | refine SubL.cons (by repeat (first | assumption | exact mS | apply mT)) ?_ | refine SubL.skip ?_)))))
            · skip
              refine WA.rd_yes rfl rfl rfl rfl rfl rfl (Rd.move rfl rfl) ?_
              refine WA.rd_yes rfl rfl rfl rfl rfl rfl (Rd.move rfl rfl) ?_
              refine WA.rd_yes rfl rfl rfl rfl rfl rfl (hN2.rdIdx (i := i) hil rfl S25 rfl rfl rfl) ?_
              refine WA.rd_yes rfl rfl rfl rfl rfl rfl (Rd.fieldE rfl F31_2 rfl hN2.sl (by omega)) ?_
              refine WA.rd_yes rfl rfl rfl rfl rfl rfl (hN2.rdTm (i := i) hil rfl C3 rfl rfl) ?_
              refine WA.rd_yes rfl rfl rfl rfl rfl rfl (Rd.move rfl rfl) ?_
              refine WA.rd_yes rfl rfl rfl rfl rfl rfl (Rd.move rfl rfl) ?_
              refine WA.rd_yes rfl rfl rfl rfl rfl rfl (hN2.rdIdx (i := b) hbl rfl S25 rfl rfl rfl) ?_
              refine WA.rd_yes rfl rfl rfl rfl rfl rfl (Rd.fieldE rfl F31_2 rfl hN2.sl (by omega)) ?_
              refine WA.rd_yes rfl rfl rfl rfl rfl rfl (hN2.rdTm (i := b) hbl rfl C3 rfl rfl) ?_
              refine WA.rd_yes rfl rfl rfl rfl rfl rfl (Rd.eql rfl rfl rfl) ?_
              refine WA.rd_yes rfl rfl rfl rfl rfl rfl (Rd.move rfl rfl) ?_
              refine WA.case 111 rfl (fun hg111 => ?_) (fun hg111 => ?_)
              · skip
                refine WA.rd_yes rfl rfl rfl rfl rfl rfl (Rd.move rfl rfl) ?_
                refine WA.rd_yes rfl rfl rfl rfl rfl rfl (Rd.move rfl rfl) ?_
                refine WA.rd_yes rfl rfl rfl rfl rfl rfl (hN2.rdIdx (i := i) hil rfl S25 rfl rfl rfl) ?_
                refine WA.rd_yes rfl rfl rfl rfl rfl rfl (Rd.fieldE rfl F31_0 rfl hN2.sl (by omega)) ?_
                refine WA.rd_yes rfl rfl rfl rfl rfl rfl (hN2.rdId (i := i) hil rfl C9 rfl rfl) ?_
                refine WA.rd_yes rfl rfl rfl rfl rfl rfl (Rd.move rfl rfl) ?_
                refine WA.rd_yes rfl rfl rfl rfl rfl rfl (Rd.move rfl rfl) ?_
                refine WA.rd_yes rfl rfl rfl rfl rfl rfl (hN2.rdIdx (i := b) hbl rfl S25 rfl rfl rfl) ?_
                refine WA.rd_yes rfl rfl rfl rfl rfl rfl (Rd.fieldE rfl F31_0 rfl hN2.sl (by omega)) ?_
                refine WA.rd_yes rfl rfl rfl rfl rfl rfl (hN2.rdId (i := b) hbl rfl C9 rfl rfl) ?_
                refine WA.rd_yes rfl rfl rfl rfl rfl rfl (Rd.sltD rfl rfl rfl) ?_
                refine WA.rd_yes rfl rfl rfl rfl rfl rfl (Rd.pick_t rfl rfl rfl) ?_
                refine WA.rd_yes rfl rfl rfl rfl rfl rfl (Rd.pick_f rfl rfl rfl) ?_
                refine WA.rd rfl rfl rfl (Rd.pick_t rfl rfl rfl) ?_
                refine WA.nil ?_
                refine thenQ.normal ?_
                first | refine WC.ite rfl (fun hc4 => ?_) (fun hc4 => ?_) | refine WC.cond rfl (fun hc4 => ?_) (fun hc4 => ?_)
                · skip
                  refine WC.region ?_
                  refine WL.rd rfl rfl rfl (Rd.move rfl rfl) ?_
                  refine WL.rd rfl rfl rfl (Rd.assign rfl rfl) ?_
                  refine WL.nil ?_
                  refine blockQ.normal ?_
                  refine thenQ.normal ?_
                  refine WC.region ?_
                  refine WL.rd rfl rfl rfl (Rd.move rfl rfl) ?_
                  refine WL.rd rfl rfl rfl (Rd.add rfl rfl rfl (by omega)) ?_
                  refine WL.rd rfl rfl rfl (Rd.assign rfl rfl) ?_
                  refine WL.nil ?_
                  exact loopQ2.mk (i + 1) (i : Int) ⟨by omega, j2.take (l2.1 hg83) (.inr ⟨hg111, hc4⟩)⟩ (by omega) (by repeat (first | exact Sub.nil | refine Sub.cons rfl (by first | rfl | (congr 1; omega) | assumption) ?_)) (fun w h => OwnL.sat (by repeat (first | exact OwnL.refl | apply OwnL.take (by repeat (first | exact Take.head _ | apply Take.tail)) | apply OwnL.drop)) w (h.thin (SubL.mem (by repeat (first | exact SubL.refl | refine SubL.cons (by repeat (first | assumption | exact mS | apply mT)) ?_ | refine SubL.skip ?_)))))
                · skip
                  refine WC.skip ?_
                  refine blockQ.normal ?_
                  refine thenQ.normal ?_
                  refine WC.region ?_
                  refine WL.rd rfl rfl rfl (Rd.move rfl rfl) ?_
                  refine WL.rd rfl rfl rfl (Rd.add rfl rfl rfl (by omega)) ?_
                  refine WL.rd rfl rfl rfl (Rd.assign rfl rfl) ?_
                  refine WL.nil ?_
                  exact loopQ2.mk (i + 1) (b : Int) ⟨by omega, j2.keep (.inr ⟨hg111.symm, (tlt_tri L[b]!.1 L[i]!.1).resolve_right (fun g => g.elim (fun e => hne e.symm) hc4)⟩)⟩ (by omega) (by repeat (first | exact Sub.nil | refine Sub.cons rfl (by first | rfl | (congr 1; omega) | assumption) ?_)) (fun w h => OwnL.sat (by repeat (first | exact OwnL.refl | apply OwnL.take (by repeat (first | exact Take.head _ | apply Take.tail)) | apply OwnL.drop)) w (h.thin (SubL.mem (by repeat (first | exact SubL.refl | refine SubL.cons (by repeat (first | assumption | exact mS | apply mT)) ?_ | refine SubL.skip ?_)))))
              · skip
                refine WA.no rfl rfl rfl rfl rfl rfl ?_
                refine WA.no rfl rfl rfl rfl rfl rfl ?_
                refine WA.no rfl rfl rfl rfl rfl rfl ?_
                refine WA.no rfl rfl rfl rfl rfl rfl ?_
                refine WA.no rfl rfl rfl rfl rfl rfl ?_
                refine WA.no rfl rfl rfl rfl rfl rfl ?_
                refine WA.no rfl rfl rfl rfl rfl rfl ?_
                refine WA.no rfl rfl rfl rfl rfl rfl ?_
                refine WA.no rfl rfl rfl rfl rfl rfl ?_
                refine WA.no rfl rfl rfl rfl rfl rfl ?_
                refine WA.no rfl rfl rfl rfl rfl rfl ?_
                refine WA.rd_yes rfl rfl rfl rfl rfl rfl (Rd.pick_f rfl rfl rfl) ?_
                refine WA.rd_yes rfl rfl rfl rfl rfl rfl (Rd.pick_f rfl rfl rfl) ?_
                refine WA.rd rfl rfl rfl (Rd.pick_t rfl rfl rfl) ?_
                refine WA.nil ?_
                refine thenQ.normal ?_
                refine WC.no rfl ?_
                refine WC.skip ?_
                refine blockQ.normal ?_
                refine thenQ.normal ?_
                refine WC.region ?_
                refine WL.rd rfl rfl rfl (Rd.move rfl rfl) ?_
                refine WL.rd rfl rfl rfl (Rd.add rfl rfl rfl (by omega)) ?_
                refine WL.rd rfl rfl rfl (Rd.assign rfl rfl) ?_
                refine WL.nil ?_
                exact loopQ2.mk (i + 1) (b : Int) ⟨by omega, j2.keep (.inl (by omega))⟩ (by omega) (by repeat (first | exact Sub.nil | refine Sub.cons rfl (by first | rfl | (congr 1; omega) | assumption) ?_)) (fun w h => OwnL.sat (by repeat (first | exact OwnL.refl | apply OwnL.take (by repeat (first | exact Take.head _ | apply Take.tail)) | apply OwnL.drop)) w (h.thin (SubL.mem (by repeat (first | exact SubL.refl | refine SubL.cons (by repeat (first | assumption | exact mS | apply mT)) ?_ | refine SubL.skip ?_)))))
        · skip
          refine WA.no rfl rfl rfl rfl rfl rfl ?_
          refine WA.no rfl rfl rfl rfl rfl rfl ?_
          refine WA.no rfl rfl rfl rfl rfl rfl ?_
          refine WA.noU rfl rfl rfl rfl rfl rfl ?_
          refine WA.noU rfl rfl rfl rfl rfl rfl ?_
          refine WA.noU rfl rfl rfl rfl rfl rfl ?_
          refine WA.noU rfl rfl rfl rfl rfl rfl ?_
          refine WA.noU rfl rfl rfl rfl rfl rfl ?_
          refine WA.noU rfl rfl rfl rfl rfl rfl ?_
          refine WA.noU rfl rfl rfl rfl rfl rfl ?_
          refine WA.noU rfl rfl rfl rfl rfl rfl ?_
          refine WA.noU rfl rfl rfl rfl rfl rfl ?_
          refine WA.noU rfl rfl rfl rfl rfl rfl ?_
          refine WA.noU rfl rfl rfl rfl rfl rfl ?_
          refine WA.no rfl rfl rfl rfl rfl rfl ?_
          refine WA.no rfl rfl rfl rfl rfl rfl ?_
          refine WA.noU rfl rfl rfl rfl rfl rfl ?_
          refine WA.noU rfl rfl rfl rfl rfl rfl ?_
          refine WA.noU rfl rfl rfl rfl rfl rfl ?_
          refine WA.noU rfl rfl rfl rfl rfl rfl ?_
          refine WA.noU rfl rfl rfl rfl rfl rfl ?_
          refine WA.noU rfl rfl rfl rfl rfl rfl ?_
          refine WA.noU rfl rfl rfl rfl rfl rfl ?_
          refine WA.noU rfl rfl rfl rfl rfl rfl ?_
          refine WA.noU rfl rfl rfl rfl rfl rfl ?_
          refine WA.noU rfl rfl rfl rfl rfl rfl ?_
          refine WA.noU rfl rfl rfl rfl rfl rfl ?_
          refine WA.noU rfl rfl rfl rfl rfl rfl ?_
          refine WA.noU rfl rfl rfl rfl rfl rfl ?_
          refine WA.noU rfl rfl rfl rfl rfl rfl ?_
          refine WA.noU rfl rfl rfl rfl rfl rfl ?_
          refine WA.noU rfl rfl rfl rfl rfl rfl ?_
          refine WA.noU rfl rfl rfl rfl rfl rfl ?_
          refine WA.noU rfl rfl rfl rfl rfl rfl ?_
          refine WA.noU rfl rfl rfl rfl rfl rfl ?_
          refine WA.noU rfl rfl rfl rfl rfl rfl ?_
          refine WA.noU rfl rfl rfl rfl rfl rfl ?_
          refine WA.noU rfl rfl rfl rfl rfl rfl ?_
          refine WA.noU rfl rfl rfl rfl rfl rfl ?_
          refine WA.noU rfl rfl rfl rfl rfl rfl ?_
          refine WA.no rfl rfl rfl rfl rfl rfl ?_
          refine WA.rd rfl rfl rfl (Rd.pick_f rfl rfl rfl) ?_
          refine WA.nil ?_
          refine thenQ.normal ?_
          refine WC.no rfl ?_
          refine WC.skip ?_
          refine blockQ.normal ?_
          refine thenQ.normal ?_
          refine WC.region ?_
          refine WL.rd rfl rfl rfl (Rd.move rfl rfl) ?_
          refine WL.rd rfl rfl rfl (Rd.add rfl rfl rfl (by omega)) ?_
          refine WL.rd rfl rfl rfl (Rd.assign rfl rfl) ?_
          refine WL.nil ?_
          exact loopQ2.mk (i + 1) best ⟨by omega, j2.skip (fun h => hg83 (l2.2 h))⟩ (by omega) (by repeat (first | exact Sub.nil | refine Sub.cons rfl (by first | rfl | (congr 1; omega) | assumption) ?_)) (fun w h => OwnL.sat (by repeat (first | exact OwnL.refl | apply OwnL.take (by repeat (first | exact Take.head _ | apply Take.tail)) | apply OwnL.drop)) w (h.thin (SubL.mem (by repeat (first | exact SubL.refl | refine SubL.cons (by repeat (first | assumption | exact mS | apply mT)) ?_ | refine SubL.skip ?_)))))
  · skip
    obtain rfl : i = L.length := by omega
    refine WC.exit ?_
    refine thenQ.exit ?_
    refine loopQ2.exit ?_
    refine blockQ.exit ?_
    refine thenQ.normal ?_
    refine WC.seq ?_
    refine WC.seq ?_
    refine WC.region ?_
    refine WL.rd rfl rfl rfl (Rd.move rfl rfl) ?_
    refine WL.rd rfl rfl rfl (Rd.lss rfl rfl rfl) ?_
    refine WL.nil ?_
    refine thenQ.normal ?_
    first | refine WC.ite rfl (fun hc5 => ?_) (fun hc5 => ?_) | refine WC.cond rfl (fun hc5 => ?_) (fun hc5 => ?_)
    · skip
      refine WC.seq ?_
      refine WC.region ?_
      refine WL.rd rfl rfl rfl (Rd.move rfl rfl) ?_
      refine WL.rd rfl rfl rfl (Rd.assign rfl rfl) ?_
      refine WL.nil ?_
      refine thenQ.normal ?_
      refine WC.heap (R' := R) (O' := accT ov done :: O) (fun w h => OwnL.sat (by repeat (first | exact OwnL.refl | apply OwnL.take (by repeat (first | exact Take.head _ | apply Take.tail)) | apply OwnL.drop)) w (h.thin (SubL.mem (by repeat (first | exact SubL.refl | refine SubL.cons (by repeat (first | assumption | exact mS | apply mT)) ?_ | refine SubL.skip ?_))))) ?_
      refine WC.ret (Ret.one Try.results24 rfl ?_)
      exact hk ov done (i5 done (.stop fun x hx => by
        obtain ⟨j, hj, rfl⟩ := mem_ids.1 (hA x hx.1)
        rcases j2 with ⟨_, h⟩ | ⟨b, h1, _⟩
        · exact h j hj ((FreeTo.all hn hA).2 hx)
        · omega))
    · skip
      obtain ⟨b, rfl, hbl, hbF, hbA⟩ : ∃ b : Nat, best = b ∧ b < L.length ∧ FreeTo L (Come (gOf L) fs) done b L.length ∧ ∀ j, j < L.length → FreeTo L (Come (gOf L) fs) done j L.length → j = b ∨ AheadN L b j := by
        rcases j2 with ⟨h, _⟩ | ⟨b, h1, h2, h3, h4⟩
        · omega
        · exact ⟨b, h1, h2, h3, h4⟩
      have hFb := (FreeTo.all hn hA).1 hbF
      have hfirst : First (gOf L) (Come (gOf L) fs) done L[b]!.1 := ⟨hFb, fun y hy => by
        obtain ⟨j, hj, rfl⟩ := mem_ids.1 (hA y hy.1)
        rcases hbA j hj ((FreeTo.all hn hA).2 hy) with rfl | g
        · exact .inl rfl
        · exact .inr ((ahead_iff hn hbl hj).2 g)⟩
      have hnd : (done ++ [L[b]!.1]).Nodup := by
        rw [List.nodup_append]
        exact ⟨i3, by simp, fun a ha c hc' => by rw [List.mem_singleton.1 hc']; rintro rfl; exact hFb.2.1 ha⟩
      have hcm : ∀ x ∈ done ++ [L[b]!.1], Come (gOf L) fs x := fun x hx => by
        rcases List.mem_append.1 hx with g | g
        · exact i4 x g
        · rw [List.mem_singleton.1 g]; exact hFb.1
      have hdl2 : (done ++ [L[b]!.1]).length ≤ L.length := by
        have := nodup_len' hnd (l' := ids L) (fun x hx => hA x (hcm x hx))
        rwa [show (ids L).length = L.length from by unfold ids; rw [List.length_map]] at this
      rw [List.length_append, List.length_singleton] at hdl2
      refine WC.skip ?_
      refine thenQ.normal ?_
      refine WC.seq ?_
      refine WC.region ?_
      refine WL.rd rfl rfl rfl (Rd.move rfl rfl) ?_
      refine WL.rd rfl rfl rfl (Rd.move rfl rfl) ?_
      refine WL.rd rfl rfl rfl (Rd.idxA1 (enc := SL.one vbl) (xs := ds) (k := b) rfl S45 rfl rfl rfl (by repeat (first | assumption | exact mS | apply mT)) (by omega)) ?_
      refine WL.op rfl ?_
      refine OpW.storeAcc (k := b) (a := true) rfl Z4 rfl rfl rfl rfl (by repeat (first | assumption | exact Take.head _ | apply Take.tail)) (by omega) rfl ?_
      refine WL.nil ?_
      refine thenQ.normal ?_
      refine WC.region ?_
      refine WL.rd rfl rfl rfl (Rd.move rfl rfl) ?_
      refine WL.rd rfl rfl rfl (Rd.move rfl rfl) ?_
      refine WL.rd rfl rfl rfl (Rd.move rfl rfl) ?_
      refine WL.rd rfl rfl rfl (hN2.rdIdx (i := b) hbl rfl S25 rfl rfl rfl) ?_
      refine WL.rd rfl rfl rfl (Rd.fieldE rfl F31_0 rfl hN2.sl (by omega)) ?_
      refine WL.rd rfl rfl rfl (hN2.rdId (i := b) hbl rfl C9 rfl rfl) ?_
      refine WL.op rfl ?_
      refine OpW.buildSl (ps := [(0, _)]) rfl S28 (by repeat (first | exact Evs.nil | apply Evs.cons rfl)) rfl rfl (by repeat (first | exact CellsOf.nil | apply CellsOf.cons rfl)) (by kernel_rfl) rfl rfl rfl ?_; intro b139
      refine WL.op rfl ?_
      refine OpW.appendRow (enc := SL.one vs) rfl S28 rfl rfl (by repeat (first | assumption | exact Take.head _ | apply Take.tail)) (by repeat (first | assumption | exact Take.head _ | apply Take.tail)) [L[b]!.1] rfl (by rfl) rfl (by intro x; first | rfl | (cases x; rfl) | (rcases x with ⟨_, _, _⟩; rfl) | (rcases x with ⟨_, _, _, _⟩; rfl)) (by intro x; first | rfl | (cases x; rfl) | (rcases x with ⟨_, _, _⟩; rfl) | (rcases x with ⟨_, _, _, _⟩; rfl)) (by first | assumption | exact ⟨by simp only [maxLen, List.length_append, List.length_nil, List.length_cons, List.length_drop, List.length_take, List.length_map]; omega, by first | omega | (simp only [List.length_append, List.length_nil, List.length_cons, List.length_drop, List.length_take, List.length_map]; omega)⟩) rfl rfl ?_; intro v140 hv140
      refine WL.rd rfl rfl rfl (Rd.assign rfl rfl) ?_
      refine WL.nil ?_
      refine blockQ.normal ?_
      exact loopQ3.mk (done ++ [L[b]!.1]) v140 (ds.set b true) ⟨by rw [List.length_set]; exact i1, fun j hj => by
      rw [set_at (by omega), List.mem_append, List.mem_singleton]
      by_cases e : b = j
      · subst e; simp
      · rw [if_neg e, i2 j hj]
        exact ⟨.inl, fun h => h.resolve_right fun g => e (ids_inj hn hbl hj g.symm)⟩, hnd, hcm, fun o h => i5 o (.step hfirst h)⟩ (by rw [List.length_append, List.length_singleton]; omega) (by repeat (first | exact Sub.nil | refine Sub.cons rfl (by first | rfl | (congr 1; omega) | assumption) ?_)) (fun w h => OwnL.sat (by repeat (first | exact OwnL.refl | apply OwnL.take (by repeat (first | exact Take.head _ | apply Take.tail)) | apply OwnL.drop)) w (h.thin (SubL.mem (by repeat (first | exact SubL.refl | refine SubL.cons (by repeat (first | assumption | exact mS | apply mT)) ?_ | refine SubL.skip ?_)))))
end
end Go.Proofs.Ytfenbhaehkkkeaa
