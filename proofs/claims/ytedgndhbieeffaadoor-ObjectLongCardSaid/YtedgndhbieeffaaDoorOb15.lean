/-
  Layer 11: ObjectLong.
-/
import Derived.Test.YtedgndhbieeffaaDoorOb14
import Derived.Test.YtedgndhbieeffaaDoorSh5
import Derived.Test.YtedgndhbieeffaaDoorWde
namespace Go.Proofs.YtedgndhbieeffaaDoor
open Go Go.SL Go.RowKit

def padB : List UInt8 := [45, 112, 97, 100, 100, 105, 110, 103, 45, 111, 102, 45, 97, 45, 110, 97, 109, 101, 45, 98, 121, 45, 102, 111, 114, 116, 121, 45, 98, 121, 116, 101, 115, 45, 105, 110, 45, 97, 108, 108]
def nm4 (i : Nat) : List UInt8 := [UInt8.ofNat (97 + i / 676 % 26), UInt8.ofNat (97 + i / 26 % 26), UInt8.ofNat (97 + i % 26), UInt8.ofNat (97 + i / 17576)]
def nmE (m i : Nat) : List UInt8 := if i < m then nm4 i ++ padB else nm4 i
def entL (m i : Nat) : ET := (nmE m i, shaE (nmE m i))
def entsL (m n : Nat) : List ET := (List.range n).map (entL m)
def wantL (m : Nat) : Nat → Nat
  | 0 => 1
  | n + 1 => wantL m n + (1 + (nmE m n).length + 1 + 32)
def obL (m n : Nat) : Ob := { zOb with kind := 2, ents := entsL m n }
theorem entsL_next (m n : Nat) : entsL m (n + 1) = entsL m n ++ [entL m n] := by unfold entsL; rw [List.range_succ, List.map_append]; rfl
theorem entsL_len (m n : Nat) : (entsL m n).length = n := by simp [entsL]
theorem entsL_get {m n i : Nat} (h : i < n) : (entsL m n)[i]! = entL m i := by
  rw [getElem!_pos _ i (by rw [entsL_len]; exact h)]
  simp [entsL]
theorem nmE_len (m i : Nat) : 4 ≤ (nmE m i).length ∧ (nmE m i).length ≤ 44 := by
  unfold nmE
  split
  · rw [List.length_append]; exact ⟨by show 4 ≤ 4 + 40; omega, by show 4 + 40 ≤ 44; omega⟩
  · exact ⟨Nat.le_refl _, by show 4 ≤ 44; omega⟩
theorem good_of {s : List UInt8} (h : ∀ c ∈ s, (97 ≤ c.toNat ∧ c.toNat ≤ 122) ∨ c.toNat = 45) (h1 : 0 < s.length) (h2 : s.length < 65) : GoodP s := by
  refine ⟨fun i hi => ?_, h1, h2⟩
  have := h s[i]! (by rw [getElem!_pos s i hi]; exact List.getElem_mem _)
  unfold okC
  omega
theorem nm4_in {i : Nat} (h : i < 4200) : ∀ c ∈ nm4 i, (97 ≤ c.toNat ∧ c.toNat ≤ 122) ∨ c.toNat = 45 := by
  intro c hc
  simp only [nm4, List.mem_cons, List.not_mem_nil, or_false] at hc
  have e : ∀ d, d < 26 → (97 ≤ (UInt8.ofNat (97 + d)).toNat ∧ (UInt8.ofNat (97 + d)).toNat ≤ 122) ∨ (UInt8.ofNat (97 + d)).toNat = 45 := fun d hd => by
    rw [UInt8.toNat_ofNat']; omega
  rcases hc with rfl | rfl | rfl | rfl
  · exact e _ (by omega)
  · exact e _ (by omega)
  · exact e _ (by omega)
  · exact e _ (by omega)
theorem pad_in : ∀ c ∈ padB, (97 ≤ c.toNat ∧ c.toNat ≤ 122) ∨ c.toNat = 45 := by decide +kernel
theorem nmE_good {m i : Nat} (h : i < 4200) : GoodP (nmE m i) := by
  have hl := nmE_len m i
  refine good_of (fun c hc => ?_) (by omega) (by omega)
  unfold nmE at hc
  split at hc
  · rcases List.mem_append.1 hc with hc | hc
    · exact nm4_in h c hc
    · exact pad_in c hc
  · exact nm4_in h c hc
theorem chr_eq {d : Nat} (hd : d < 159) : Value.int .u8 (IntKind.u8.wrap (97 + (d : Int))) = vy (UInt8.ofNat (97 + d)) := by
  have := wrap_byte (97 + d)
  rw [show (97 + d) % 256 = 97 + d from by omega, show ((97 + d : Nat) : Int) = 97 + (d : Int) from by omega] at this
  show Value.int .u8 _ = Value.int .u8 _
  rw [this]
def lexB (i : Nat) : Bool := Op.bytesLess ((nm4 i).take 3) ((nm4 (i + 1)).take 3)
theorem lex_qr : ∀ q < 66, ∀ r < 64, lexB (64 * q + r) = true := by decide +kernel
theorem lex_all (i : Nat) (h : i < 4200) : lexB i = true := by
  have := lex_qr (i / 64) (by omega) (i % 64) (by omega)
  rwa [show 64 * (i / 64) + i % 64 = i from by omega] at this
theorem less_more : ∀ {a b x y : List UInt8}, a.length = b.length → Op.bytesLess a b = true → Op.bytesLess (a ++ x) (b ++ y) = true
  | [], [], _, _, _, h => by cases h
  | [], _ :: _, _, _, h, _ => by cases h
  | _ :: _, [], _, _, h, _ => by cases h
  | c :: a, d :: b, x, y, hl, h => by
    by_cases e : c = d
    · subst e
      rw [less_same] at h
      rw [List.cons_append, List.cons_append, less_same]
      exact less_more (by simpa using hl) h
    · have h1 : ∀ u v : List UInt8, Op.bytesLess (c :: u) (d :: v) = Op.bytesLess (c :: a) (d :: b) := fun u v => by
        have eb : (c == d) = false := by simp [e]
        simp only [Op.bytesLess, eb, Bool.false_and]
      rw [List.cons_append, List.cons_append, h1]
      exact h
theorem nmE_split (m i : Nat) : ∃ r, nmE m i = (nm4 i).take 3 ++ r := by
  unfold nmE
  split
  · exact ⟨(nm4 i).drop 3 ++ padB, by rw [← List.append_assoc, List.take_append_drop]⟩
  · exact ⟨(nm4 i).drop 3, (List.take_append_drop 3 (nm4 i)).symm⟩
theorem nmE_less {m i : Nat} (h : i < 4200) : Op.bytesLess (nmE m i) (nmE m (i + 1)) = true := by
  obtain ⟨r, h1⟩ := nmE_split m i
  obtain ⟨r', h2⟩ := nmE_split m (i + 1)
  rw [h1, h2]
  exact less_more rfl (lex_all i h)
theorem entsL_ok {m n : Nat} (hn : n ≤ 4200) : ∀ i, i < (entsL m n).length → EntP (entsL m n) i := fun i hi => by
  rw [entsL_len] at hi
  unfold EntP
  rw [entsL_get hi]
  refine ⟨nmE_good (by omega), shaE_length _, fun h0 => ?_⟩
  rw [entsL_get (show i - 1 < n by omega)]
  have := nmE_less (m := m) (i := i - 1) (by omega)
  rw [show i - 1 + 1 = i from by omega] at this
  exact this
theorem right_L {m n : Nat} (hn : n ≤ 4200) : RightP (obL m n) ↔ n ≤ 4096 := by
  constructor
  · intro h
    have := (h.2.2.1 rfl).2
    have e : (obL m n).ents.length = n := entsL_len m n
    rw [e] at this; exact this
  · intro h
    have k1 : ¬ (obL m n).kind = 1 := by show ¬ ((2 : Int) = 1); decide
    have k3 : ¬ (obL m n).kind = 3 := by show ¬ ((2 : Int) = 3); decide
    have k4 : ¬ (obL m n).kind = 4 := by show ¬ ((2 : Int) = 4); decide
    unfold RightP
    exact ⟨⟨fun _ => rfl, fun h => absurd rfl h, fun _ => ⟨rfl, rfl, rfl, rfl⟩, fun _ => ⟨rfl, rfl⟩, fun _ => rfl⟩, fun h => absurd h k1, fun _ => ⟨entsL_ok hn, by rw [show (obL m n).ents.length = n from entsL_len m n]; exact h⟩, fun h => absurd h k3, fun h => absurd h k4⟩
theorem putE_one {n : Nat} (h : n < 128) : (putE n).length = 1 := by
  rw [putE_length]
  have := (more_lt (n := n) (k := 0)).1 (by simpa using h)
  omega
theorem want_len (m : Nat) : ∀ n, 1 + (joinE ((entsL m n).flatMap fun x => [x.1, x.2])).length = wantL m n
  | 0 => rfl
  | n + 1 => by
    have ih := want_len m n
    have hl := nmE_len m n
    have hs := shaE_length (nmE m n)
    rw [entsL_next, List.flatMap_append, joinE_app, List.length_append]
    show 1 + (_ + (joinE [nmE m n, shaE (nmE m n)]).length) = _
    rw [show [nmE m n, shaE (nmE m n)] = [nmE m n] ++ [shaE (nmE m n)] from rfl, joinE_app, joinE_one, joinE_one, putI_nat (by omega), putI_nat (by omega), List.length_append, List.length_append, List.length_append, putE_one (by omega), putE_one (by omega), hs]
    show _ = wantL m n + (1 + (nmE m n).length + 1 + 32)
    omega
theorem encB_L (m n : Nat) : (encB (obL m n)).length = wantL m n := by
  have ht : texts (obL m n) = (entsL m n).flatMap fun x => [x.1, x.2] := rfl
  unfold encB
  rw [List.length_cons, ht, ← want_len m n]; omega
theorem enc_L {m n : Nat} (hn : n ≤ 4200) : encE (obL m n) = if 4096 < n then ([], 1) else if 262208 < wantL m n then ([], 6) else (encB (obL m n), 0) := by
  have hb := encB_L m n
  unfold encE
  rw [if_neg (show ¬ ((obL m n).kind < 1 ∨ 4 < (obL m n).kind) from by show ¬ ((2 : Int) < 1 ∨ 4 < (2 : Int)); omega)]
  by_cases h : 4096 < n
  · rw [if_pos (by rw [right_L hn]; omega), if_pos h]
  · rw [if_neg (by rw [right_L hn]; omega), if_neg h, hb]
theorem names_L (m n : Nat) : Names (obL m n) := by
  refine ⟨fun x hx => ?_, Nat.zero_le _⟩
  obtain ⟨i, _, rfl⟩ := List.mem_map.1 hx
  have := (nmE_len m i).2
  show (nmE m i).length ≤ _
  omega
theorem want_le (m : Nat) : ∀ n, wantL m n ≤ 1 + 78 * n
  | 0 => Nat.le_refl _
  | n + 1 => by
    have := want_le m n
    have h2 := (nmE_len m n).2
    rw [wantL]; omega
section
variable {R : List RO} {O : List Own} {POST : Value → List RO → List Own → Prop}
set_option maxRecDepth 20000 in
set_option maxHeartbeats 8000000 in
theorem longO_spec {a e : Int} (hr : rootsR ∈ R) (hk : POST (.bool true) R O) : Fun Tryd.prog 3 #[.int .i64 a, .int .i64 e] R O POST := by
  have hl1 := land_le .i64 a 31
  have hl2 := land_le .i64 e 4095
  obtain ⟨N, hN⟩ : ∃ N, N = 4080 + land .i64 a 31 := ⟨_, rfl⟩
  obtain ⟨M, hM⟩ : ∃ M, M = land .i64 e 4095 := ⟨_, rfl⟩
  have hNb : N ≤ 4200 := by omega
  refine Fun.enter (l := [_, _]) Tryd.func3 rfl Tryd.ntmps3 rfl (L0 := [(0, _), (1, _)]) rfl ?_
  refine WC.seq ?_
  refine WC.region ?_
  refine WL.rd rfl rfl rfl (Rd.assign rfl rfl) ?_
  refine WL.nil ?_
  refine thenQ.normal ?_
  refine WC.seq ?_
  refine WC.seq ?_
  refine WC.region ?_
  refine WL.op rfl ?_
  refine OpW.call rfl rfl (by repeat (first | exact Evs.nil | apply Evs.cons rfl)) (by kernel_rfl) rfl rfl rfl ?_
  refine speaks_spec11 ?_
  refine WL.say 12 (u := .bool (decide True)) rfl (by simp) ?_
  refine WL.rd rfl rfl rfl ((by first | exact Rd.notd rfl rfl | exact Rd.not rfl rfl)) ?_
  refine WL.nil ?_
  refine thenQ.normal ?_
  first | refine WC.ite rfl (fun hc1 => ?_) (fun hc1 => ?_) | refine WC.cond rfl (fun hc1 => ?_) (fun hc1 => ?_)
  · skip
    exact absurd trivial hc1
  · skip
    refine WC.skip ?_
    refine thenQ.normal ?_
    refine WC.seq ?_
    refine WC.region ?_
    refine WL.rd rfl rfl rfl (Rd.move rfl rfl) ?_
    refine WL.rd rfl rfl rfl (Rd.andm (m := 31) rfl rfl rfl rfl (by decide)) ?_
    refine WL.rd rfl rfl rfl (Rd.add rfl rfl rfl (by omega)) ?_
    refine WL.say 16 (u := .int .i64 (N : Int)) rfl (by rw [hN]; congr 1) ?_
    refine WL.rd rfl rfl rfl (Rd.assign rfl rfl) ?_
    refine WL.nil ?_
    refine thenQ.normal ?_
    refine WC.seq ?_
    refine WC.region ?_
    refine WL.op rfl ?_
    refine OpW.alloc rfl I26 rfl (by repeat (first | exact NF.nil | apply NF.cons)) rfl rfl ?_; intro b5
    refine WL.nil ?_
    refine thenQ.normal ?_
    refine WC.seq ?_
    refine WC.region ?_
    refine WL.rd rfl rfl rfl ((by first | exact Rd.field rfl F26_0 rfl rfl | exact Rd.fieldE rfl F26_0 rfl (by repeat (first | assumption | exact mS | apply mT)) (by omega) | exact Rd.fieldA rfl F26_0 rfl (by repeat (first | assumption | exact mS | apply mT)) (by omega))) ?_
    refine WL.op rfl ?_
    refine OpW.store1 rfl Z3 rfl rfl (by first | exact ⟨rfl, rfl⟩ | assumption) (by repeat (first | assumption | exact Take.head _ | apply Take.tail)) (by first | (simp; done) | omega | exact of_decide_eq_true rfl | (simp only [List.length_append, List.length_replicate, List.length_map, List.length_set]; omega)) rfl ?_
    refine WL.nil ?_
    refine thenQ.normal ?_
    refine WC.seq ?_
    refine WC.seq ?_
    refine WC.region ?_
    refine WL.rd rfl rfl rfl (Rd.assign rfl rfl) ?_
    refine WL.nil ?_
    refine thenQ.normal ?_
    refine WC.block ?_
    refine WC.pick [6, 0, 1, 5] (by repeat (first | exact Pick.nil | apply Pick.cons rfl)) ?_
    refine WC.loop2 1 (fun (i : Nat) (v : Value) => [(6, .int .i64 (i : Int))]) (fun (i : Nat) (v : Value) => rowC b5 26 (tC 2 v) :: accC 30 2 encT v (entsL M i) :: O) (fun (i : Nat) (v : Value) => i ≤ N ∧ OneV v) (fun (i : Nat) (v : Value) => N - i) (0) (.slice none 0 0) (by repeat (first | exact Split.zero | apply Split.succ)) ?hinv1 (by repeat (first | exact Sub.nil | refine Sub.cons rfl (by first | rfl | (congr 1; omega) | assumption) ?_)) (fun w h => by
    have g1 := h.accNil (α := ET) (e := 30) (size := 2) (enc := encT)
    exact (fun w h => OwnL.sat (by repeat (first | exact OwnL.refl | apply OwnL.take (by repeat (first | exact Take.head _ | apply Take.tail)) | apply OwnL.drop)) w (h.thin (SubL.mem (by repeat (first | exact SubL.refl | refine SubL.cons (by repeat (first | assumption | exact mS | apply mT)) ?_ | refine SubL.skip ?_))))) w g1) ?_
    case hinv1 =>
      exact ⟨Nat.zero_le _, OneV.sl⟩
    intro i v
    rintro ⟨i1, i2⟩
    refine WC.seq ?_
    refine WC.seq ?_
    refine WC.region ?_
    refine WL.rd rfl rfl rfl (Rd.move rfl rfl) ?_
    refine WL.rd rfl rfl rfl (Rd.move rfl rfl) ?_
    refine WL.rd rfl rfl rfl (Rd.lss rfl rfl rfl) ?_
    refine WL.nil ?_
    refine thenQ.normal ?_
    first | refine WC.ite rfl (fun hc2 => ?_) (fun hc2 => ?_) | refine WC.cond rfl (fun hc2 => ?_) (fun hc2 => ?_)
    · skip
      refine WC.skip ?_
      refine thenQ.normal ?_
      refine WC.seq ?_
      refine WC.block ?_
      refine WC.seq ?_
      have hnx := entsL_next M i
      have hml := entsL_len M i
      have hnl := nmE_len M i
      obtain ⟨cs, hcs⟩ : ∃ cs, cs = entsL M i := ⟨_, rfl⟩
      rw [← hcs] at hnx hml ⊢
      refine WC.region ?_
      refine WL.rd rfl rfl rfl (Rd.move rfl rfl) ?_
      refine WL.rd rfl rfl rfl (Rd.quoI (a := i) (b := 676) rfl rfl rfl rfl rfl (by decide) (by omega)) ?_
      refine WL.rd rfl rfl rfl (Rd.remN (a := i / 676) (b := 26) rfl rfl rfl rfl rfl (by decide)) ?_
      refine WL.rd rfl rfl rfl (Rd.add rfl rfl rfl (by omega)) ?_
      refine WL.rd rfl rfl rfl (Rd.convw (kd' := .u8) rfl rfl Tryd.underlying5 (hS := Tryd.underlying3)) ?_
      refine WL.say 27 (u := vy (UInt8.ofNat (97 + i / 676 % 26))) rfl (chr_eq (d := i / 676 % 26) (by omega)) ?_
      refine WL.rd rfl rfl rfl (Rd.move rfl rfl) ?_
      refine WL.rd rfl rfl rfl (Rd.quoI (a := i) (b := 26) rfl rfl rfl rfl rfl (by decide) (by omega)) ?_
      refine WL.rd rfl rfl rfl (Rd.remN (a := i / 26) (b := 26) rfl rfl rfl rfl rfl (by decide)) ?_
      refine WL.rd rfl rfl rfl (Rd.add rfl rfl rfl (by omega)) ?_
      refine WL.rd rfl rfl rfl (Rd.convw (kd' := .u8) rfl rfl Tryd.underlying5 (hS := Tryd.underlying3)) ?_
      refine WL.say 32 (u := vy (UInt8.ofNat (97 + i / 26 % 26))) rfl (chr_eq (d := i / 26 % 26) (by omega)) ?_
      refine WL.rd rfl rfl rfl (Rd.move rfl rfl) ?_
      refine WL.rd rfl rfl rfl (Rd.remN (a := i) (b := 26) rfl rfl rfl rfl rfl (by decide)) ?_
      refine WL.rd rfl rfl rfl (Rd.add rfl rfl rfl (by omega)) ?_
      refine WL.rd rfl rfl rfl (Rd.convw (kd' := .u8) rfl rfl Tryd.underlying5 (hS := Tryd.underlying3)) ?_
      refine WL.say 36 (u := vy (UInt8.ofNat (97 + i % 26))) rfl (chr_eq (d := i % 26) (by omega)) ?_
      refine WL.rd rfl rfl rfl (Rd.move rfl rfl) ?_
      refine WL.rd rfl rfl rfl (Rd.quoI (a := i) (b := 17576) rfl rfl rfl rfl rfl (by decide) (by omega)) ?_
      refine WL.rd rfl rfl rfl (Rd.add rfl rfl rfl (by omega)) ?_
      refine WL.rd rfl rfl rfl (Rd.convw (kd' := .u8) rfl rfl Tryd.underlying5 (hS := Tryd.underlying3)) ?_
      refine WL.say 40 (u := vy (UInt8.ofNat (97 + i / 17576))) rfl (chr_eq (d := i / 17576) (by omega)) ?_
      refine WL.op rfl ?_
      refine OpW.buildSl (ps := [(0, _), (1, _), (2, _), (3, _)]) rfl S27 (by repeat (first | exact Evs.nil | apply Evs.cons rfl)) rfl rfl (by repeat (first | exact CellsOf.nil | apply CellsOf.cons rfl)) (by kernel_rfl) rfl rfl rfl ?_; intro b41
      refine WL.rd rfl rfl rfl (Rd.strOfR (bs := nm4 i) rfl Tryd.underlying27 Tryd.underlying9 Tryd.underlying5 rfl (by repeat (first | assumption | exact mS | apply mT)) rfl rfl (by show 4 ≤ _; omega)) ?_
      refine WL.rd rfl rfl rfl (Rd.assign rfl rfl) ?_
      refine WL.nil ?_
      refine thenQ.normal ?_
      refine WC.cut (α := Unit) (fun _ => [(0, .int .i64 (N : Int)), (1, .int .i64 e), (5, .pointer (some ⟨b5, 0, none⟩)), (6, .int .i64 (i : Int)), (7, vs (nmE M i))]) (fun _ => R) (fun _ => rowC b5 26 (tC 2 v) :: accC 30 2 encT v cs :: O) (fun _ => True) ?_ ?_
      · skip
        refine WC.seq ?_
        refine WC.region ?_
        refine WL.rd rfl rfl rfl (Rd.move rfl rfl) ?_
        refine WL.rd rfl rfl rfl (Rd.move rfl rfl) ?_
        refine WL.rd rfl rfl rfl (Rd.andm (m := 4095) rfl rfl rfl rfl (by decide)) ?_
        refine WL.say 45 (u := .int .i64 (M : Int)) rfl (by rw [hM]) ?_
        refine WL.rd rfl rfl rfl (Rd.lss rfl rfl rfl) ?_
        refine WL.nil ?_
        refine thenQ.normal ?_
        first | refine WC.ite rfl (fun hc3 => ?_) (fun hc3 => ?_) | refine WC.cond rfl (fun hc3 => ?_) (fun hc3 => ?_)
        · skip
          refine WC.region ?_
          refine WL.rd rfl rfl rfl (Rd.move rfl rfl) ?_
          refine WL.rd rfl rfl rfl (Rd.scat rfl rfl rfl (by show 4 + 40 ≤ _; omega)) ?_
          refine WL.rd rfl rfl rfl (Rd.assign rfl rfl) ?_
          refine WL.nil ?_
          have en : nmE M i = nm4 i ++ padB := if_pos (by omega)
          simp only [en]
          exact ⟨(), trivial, (by repeat (first | exact Sub.nil | refine Sub.cons rfl (by first | rfl | (congr 1; omega) | assumption) ?_)), (fun w h => OwnL.sat (by repeat (first | exact OwnL.refl | apply OwnL.take (by repeat (first | exact Take.head _ | apply Take.tail)) | apply OwnL.drop)) w (h.thin (SubL.mem (by repeat (first | exact SubL.refl | refine SubL.cons (by repeat (first | assumption | exact mS | apply mT)) ?_ | refine SubL.skip ?_)))))⟩
        · skip
          refine WC.skip ?_
          have en : nmE M i = nm4 i := if_neg (by omega)
          simp only [en]
          exact ⟨(), trivial, (by repeat (first | exact Sub.nil | refine Sub.cons rfl (by first | rfl | (congr 1; omega) | assumption) ?_)), (fun w h => OwnL.sat (by repeat (first | exact OwnL.refl | apply OwnL.take (by repeat (first | exact Take.head _ | apply Take.tail)) | apply OwnL.drop)) w (h.thin (SubL.mem (by repeat (first | exact SubL.refl | refine SubL.cons (by repeat (first | assumption | exact mS | apply mT)) ?_ | refine SubL.skip ?_)))))⟩
      · skip
        rintro _ -
        refine WC.drawnU (O) ([(10, rowC b5 26 (tC 2 v))]) 11 rfl mixed ?_
        refine WE.take 0 [] rfl (by kernel_rfl) (by repeat (first | exact List.Sublist.refl _ | exact List.nil_sublist _ | apply List.Sublist.cons_cons | apply List.Sublist.cons)) (HeldL.mk2 [rowC b5 26 (tC 2 v)] (by kernel_rfl) (by repeat (first | exact SubL.refl | refine SubL.cons (by repeat (first | assumption | exact mS | apply mT)) ?_ | refine SubL.skip ?_)) (by repeat (first | exact OwnL.refl | apply OwnL.take (by repeat (first | exact Take.head _ | apply Take.tail)) | apply OwnL.drop)) (by repeat (first | exact Mems.nil | refine Mems.cons (by repeat (first | assumption | exact mS | apply mT)) ?_))) rfl rfl rfl ((by first | exact Rd.field rfl F26_2 rfl rfl | exact Rd.fieldE rfl F26_2 rfl (by repeat (first | assumption | exact mS | apply mT)) (by omega) | exact Rd.fieldA rfl F26_2 rfl (by repeat (first | assumption | exact mS | apply mT)) (by omega))) ?_
        refine WE.take 1 [(10, rowC b5 26 (tC 2 v))] rfl (by kernel_rfl) (by repeat (first | exact List.Sublist.refl _ | exact List.nil_sublist _ | apply List.Sublist.cons_cons | apply List.Sublist.cons)) (HeldL.mk2 [rowC b5 26 (tC 2 v)] (by kernel_rfl) (by repeat (first | exact SubL.refl | refine SubL.cons (by repeat (first | assumption | exact mS | apply mT)) ?_ | refine SubL.skip ?_)) (by repeat (first | exact OwnL.refl | apply OwnL.take (by repeat (first | exact Take.head _ | apply Take.tail)) | apply OwnL.drop)) (by repeat (first | exact Mems.nil | refine Mems.cons (by repeat (first | assumption | exact mS | apply mT)) ?_))) rfl rfl rfl (Rd.row1 (b := b5) (off := 2) (u := v) rfl C23 rfl (by repeat (first | assumption | exact mS | apply mT)) rfl) ?_
        refine WE.take 2 [] rfl (by kernel_rfl) (by repeat (first | exact List.Sublist.refl _ | exact List.nil_sublist _ | apply List.Sublist.cons_cons | apply List.Sublist.cons)) (HeldL.mk2 [rowC b5 26 (tC 2 v)] (by kernel_rfl) (by repeat (first | exact SubL.refl | refine SubL.cons (by repeat (first | assumption | exact mS | apply mT)) ?_ | refine SubL.skip ?_)) (by repeat (first | exact OwnL.refl | apply OwnL.take (by repeat (first | exact Take.head _ | apply Take.tail)) | apply OwnL.drop)) (by repeat (first | exact Mems.nil | refine Mems.cons (by repeat (first | assumption | exact mS | apply mT)) ?_))) rfl rfl rfl (Rd.move rfl rfl) ?_
        refine WE.take 3 [] rfl (by kernel_rfl) (by repeat (first | exact List.Sublist.refl _ | exact List.nil_sublist _ | apply List.Sublist.cons_cons | apply List.Sublist.cons)) (HeldL.mk2 [rowC b5 26 (tC 2 v)] (by kernel_rfl) (by repeat (first | exact SubL.refl | refine SubL.cons (by repeat (first | assumption | exact mS | apply mT)) ?_ | refine SubL.skip ?_)) (by repeat (first | exact OwnL.refl | apply OwnL.take (by repeat (first | exact Take.head _ | apply Take.tail)) | apply OwnL.drop)) (by repeat (first | exact Mems.nil | refine Mems.cons (by repeat (first | assumption | exact mS | apply mT)) ?_))) rfl rfl rfl (Rd.move rfl rfl) ?_
        refine WE.one 4 rfl (by kernel_rfl) rfl ?_
        refine OpW.buildSl (ps := [(0, _)]) rfl S24 (by repeat (first | exact Evs.nil | apply Evs.cons rfl)) rfl rfl (by repeat (first | exact CellsOf.nil | apply CellsOf.cons rfl)) (by kernel_rfl) rfl rfl rfl ?_; intro b53
        refine ⟨(HeldL.mk2 [rowC b5 26 (tC 2 v)] (by kernel_rfl) (by repeat (first | exact SubL.refl | refine SubL.cons (by repeat (first | assumption | exact mS | apply mT)) ?_ | refine SubL.skip ?_)) (by repeat (first | exact OwnL.refl | apply OwnL.take (by repeat (first | exact Take.head _ | apply Take.tail)) | apply OwnL.drop)) (by repeat (first | exact Mems.nil | refine Mems.cons (by repeat (first | assumption | exact mS | apply mT)) ?_))), ?_⟩
        refine WE.heap (fun w h => Sat.shareRow (enc := one vs) (xs := [nmE M i]) (m := 1) (by repeat (first | assumption | exact Take.head _ | apply Take.tail)) rfl rfl (by decide) h) ?_
        refine WE.one 5 rfl (by kernel_rfl) rfl ?_
        refine OpW.call rfl rfl (by repeat (first | exact Evs.nil | apply Evs.cons rfl)) (by kernel_rfl) rfl rfl rfl ?_
        refine shaSum_spec (l := [nmE M i]) (by repeat (first | assumption | exact mS | apply mT)) (by repeat (first | assumption | exact mS | apply mT)) (by simp; omega) ?_
        refine ⟨(HeldL.mk2 [rowC b5 26 (tC 2 v)] (by kernel_rfl) (by repeat (first | exact SubL.refl | refine SubL.cons (by repeat (first | assumption | exact mS | apply mT)) ?_ | refine SubL.skip ?_)) (by repeat (first | exact OwnL.refl | apply OwnL.take (by repeat (first | exact Take.head _ | apply Take.tail)) | apply OwnL.drop)) (by repeat (first | exact Mems.nil | refine Mems.cons (by repeat (first | assumption | exact mS | apply mT)) ?_))), ?_⟩
        refine WE.say 54 (u := vs (shaE (nmE M i))) rfl (by simp) ?_
        refine WE.take 6 [] rfl (by kernel_rfl) (by repeat (first | exact List.Sublist.refl _ | exact List.nil_sublist _ | apply List.Sublist.cons_cons | apply List.Sublist.cons)) (HeldL.mk2 [rowC b5 26 (tC 2 v)] (by kernel_rfl) (by repeat (first | exact SubL.refl | refine SubL.cons (by repeat (first | assumption | exact mS | apply mT)) ?_ | refine SubL.skip ?_)) (by repeat (first | exact OwnL.refl | apply OwnL.take (by repeat (first | exact Take.head _ | apply Take.tail)) | apply OwnL.drop)) (by repeat (first | exact Mems.nil | refine Mems.cons (by repeat (first | assumption | exact mS | apply mT)) ?_))) rfl rfl rfl (Rd.buildN (ps := [(0, _), (1, _)]) rfl Bs30 I30 rfl (by repeat (first | exact Evs.nil | apply Evs.cons rfl)) (by repeat (first | exact CellsOf.nil | apply CellsOf.cons rfl)) (by apply NFo.mk; repeat (first | exact NF.nil | apply NF.cons))) ?_
        refine WE.one 7 rfl (by kernel_rfl) rfl ?_
        refine OpW.buildSl (ps := [(0, _)]) rfl S23 (by repeat (first | exact Evs.nil | apply Evs.cons rfl)) rfl rfl (by repeat (first | exact CellsOf.nil | apply CellsOf.cons rfl)) (by kernel_rfl) rfl rfl rfl ?_; intro b56
        refine ⟨(HeldL.mk2 [rowC b5 26 (tC 2 v)] (by kernel_rfl) (by repeat (first | exact SubL.refl | refine SubL.cons (by repeat (first | assumption | exact mS | apply mT)) ?_ | refine SubL.skip ?_)) (by repeat (first | exact OwnL.refl | apply OwnL.take (by repeat (first | exact Take.head _ | apply Take.tail)) | apply OwnL.drop)) (by repeat (first | exact Mems.nil | refine Mems.cons (by repeat (first | assumption | exact mS | apply mT)) ?_))), ?_⟩
        refine WE.one 8 rfl (by kernel_rfl) rfl ?_
        refine OpW.appendRow (enc := encT) rfl S23 rfl rfl (by repeat (first | assumption | exact Take.head _ | apply Take.tail)) (by repeat (first | assumption | exact Take.head _ | apply Take.tail)) [entL M i] rfl (by rfl) rfl (by intro x; first | rfl | (cases x; rfl) | (rcases x with ⟨_, _, _⟩; rfl) | (rcases x with ⟨_, _, _, _⟩; rfl)) (by intro x; first | rfl | (cases x; rfl) | (rcases x with ⟨_, _, _⟩; rfl) | (rcases x with ⟨_, _, _, _⟩; rfl)) ⟨by simp only [maxLen, List.length_append, List.length_nil, List.length_cons, List.length_drop, List.length_take, List.length_map]; omega, by first | omega | (simp only [List.length_append, List.length_nil, List.length_cons, List.length_drop, List.length_take, List.length_map]; omega)⟩ rfl rfl ?_; intro v57 hv57
        refine ⟨(HeldL.mk2 [rowC b5 26 (tC 2 v)] (by kernel_rfl) (by repeat (first | exact SubL.refl | refine SubL.cons (by repeat (first | assumption | exact mS | apply mT)) ?_ | refine SubL.skip ?_)) (by repeat (first | exact OwnL.refl | apply OwnL.take (by repeat (first | exact Take.head _ | apply Take.tail)) | apply OwnL.drop)) (by repeat (first | exact Mems.nil | refine Mems.cons (by repeat (first | assumption | exact mS | apply mT)) ?_))), ?_⟩
        refine WE.take 9 [] rfl (by kernel_rfl) (by repeat (first | exact List.Sublist.refl _ | exact List.nil_sublist _ | apply List.Sublist.cons_cons | apply List.Sublist.cons)) (HeldL.mk2 [rowC b5 26 (tC 2 v)] (by kernel_rfl) (by repeat (first | exact SubL.refl | refine SubL.cons (by repeat (first | assumption | exact mS | apply mT)) ?_ | refine SubL.skip ?_)) (by repeat (first | exact OwnL.refl | apply OwnL.take (by repeat (first | exact Take.head _ | apply Take.tail)) | apply OwnL.drop)) (by repeat (first | exact Mems.nil | refine Mems.cons (by repeat (first | assumption | exact mS | apply mT)) ?_))) rfl rfl rfl ((by first | exact Rd.field rfl F26_2 rfl rfl | exact Rd.fieldE rfl F26_2 rfl (by repeat (first | assumption | exact mS | apply mT)) (by omega) | exact Rd.fieldA rfl F26_2 rfl (by repeat (first | assumption | exact mS | apply mT)) (by omega))) ?_
        refine WE.one 10 rfl (by kernel_rfl) rfl ?_
        refine OpW.store1 rfl Z23 rfl rfl (by first | exact ⟨rfl, rfl⟩ | assumption) (by repeat (first | assumption | exact Take.head _ | apply Take.tail)) (by first | (simp; done) | omega | exact of_decide_eq_true rfl | (simp only [List.length_append, List.length_replicate, List.length_map, List.length_set]; omega)) rfl ?_
        refine ⟨(HeldL.mk2 [] (by kernel_rfl) (by repeat (first | exact SubL.refl | refine SubL.cons (by repeat (first | assumption | exact mS | apply mT)) ?_ | refine SubL.skip ?_)) (by repeat (first | exact OwnL.refl | apply OwnL.take (by repeat (first | exact Take.head _ | apply Take.tail)) | apply OwnL.drop)) (by repeat (first | exact Mems.nil | refine Mems.cons (by repeat (first | assumption | exact mS | apply mT)) ?_))), ?_⟩
        refine WE.done (by kernel_rfl) ?_
        refine blockQ.normal ?_
        refine thenQ.normal ?_
        refine WC.region ?_
        refine WL.rd rfl rfl rfl (Rd.move rfl rfl) ?_
        refine WL.rd rfl rfl rfl (Rd.add rfl rfl rfl (by omega)) ?_
        refine WL.rd rfl rfl rfl (Rd.assign rfl rfl) ?_
        refine WL.nil ?_
        exact loopQ2.mk (i + 1) v57 ⟨by omega, hv57⟩ (by omega) (by repeat (first | exact Sub.nil | refine Sub.cons rfl (by first | rfl | (congr 1; omega) | assumption) ?_)) (fun w h => by rw [hnx]; exact (fun w h => OwnL.sat (by repeat (first | exact OwnL.refl | apply OwnL.take (by repeat (first | exact Take.head _ | apply Take.tail)) | apply OwnL.drop)) w (h.thin (SubL.mem (by repeat (first | exact SubL.refl | refine SubL.cons (by repeat (first | assumption | exact mS | apply mT)) ?_ | refine SubL.skip ?_))))) w h)
    · skip
      refine WC.exit ?_
      refine thenQ.exit ?_
      refine loopQ2.exit ?_
      refine blockQ.exit ?_
      refine thenQ.normal ?_
      refine WC.seq ?_
      obtain rfl : i = N := by omega
      refine WC.heap (R' := SlE encT v (obL M i).ents :: SlE (one vs) (.slice none 0 0) ([] : List (List UInt8)) :: R) (O' := rowC b5 26 (tC 2 v) :: O) (fun w h => by
        have g1 := Sat.shareA (xs := entsL M i) (by repeat (first | assumption | exact Take.head _ | apply Take.tail)) h
        have g2 := Sat.nilE (α := List UInt8) (enc := one vs) g1
        exact (fun w h => OwnL.sat (by repeat (first | exact OwnL.refl | apply OwnL.take (by repeat (first | exact Take.head _ | apply Take.tail)) | apply OwnL.drop)) w (h.thin (SubL.mem (by repeat (first | exact SubL.refl | refine SubL.cons (by repeat (first | assumption | exact mS | apply mT)) ?_ | refine SubL.skip ?_))))) w g2) ?_
      have henc := enc_L (m := M) (n := i) hNb
      have hwl := want_le M i
      refine WC.region ?_
      refine WL.rd rfl rfl rfl (Rd.rowS (b := b5) rfl G26 rfl (by repeat (first | assumption | exact mS | apply mT)) (by repeat (first | exact NF.nil | apply NF.cons)) rfl) ?_
      refine WL.op rfl ?_
      refine OpW.call rfl rfl (by repeat (first | exact Evs.nil | apply Evs.cons rfl)) (by kernel_rfl) rfl rfl rfl ?_
      refine encode_spec (o := obL M i) (ev := v) (pv := .slice none 0 0) (by repeat (first | assumption | exact mS | apply mT)) (by repeat (first | assumption | exact mS | apply mT)) (names_L M i) ?_
      refine WL.rd rfl rfl rfl (Rd.move rfl rfl) ?_
      refine WL.rd rfl rfl rfl (Rd.extract rfl rfl rfl) ?_
      refine WL.rd rfl rfl rfl (Rd.extract rfl rfl rfl) ?_
      refine WL.rd rfl rfl rfl (Rd.assign rfl rfl) ?_
      refine WL.rd rfl rfl rfl (Rd.assign rfl rfl) ?_
      refine WL.nil ?_
      refine thenQ.normal ?_
      refine WC.seq ?_
      refine WC.region ?_
      refine WL.rd rfl rfl rfl (Rd.assign rfl rfl) ?_
      refine WL.nil ?_
      refine thenQ.normal ?_
      refine WC.seq ?_
      refine WC.seq ?_
      refine WC.region ?_
      refine WL.rd rfl rfl rfl (Rd.assign rfl rfl) ?_
      refine WL.nil ?_
      refine thenQ.normal ?_
      refine WC.block ?_
      refine WC.pick [10, 11, 0, 5, 8, 9] (by repeat (first | exact Pick.nil | apply Pick.cons rfl)) ?_
      refine WC.loop1o 2 (fun (k : Nat) => [(10, .int .i64 (wantL M k : Int)), (11, .int .i64 (k : Int))]) (fun (k : Nat) => k ≤ i) (fun (k : Nat) => i - k) (0) (by repeat (first | exact Split.zero | apply Split.succ)) ?hinv2 (by repeat (first | exact Sub.nil | refine Sub.cons rfl (by first | rfl | (congr 1; omega) | assumption) ?_)) (fun _ h => h) ?_
      case hinv2 =>
        exact Nat.zero_le _
      intro k
      rintro k1
      have hwk := want_le M k; have hnk := nmE_len M k
      refine WC.seq ?_
      refine WC.seq ?_
      refine WC.region ?_
      refine WL.rd rfl rfl rfl (Rd.move rfl rfl) ?_
      refine WL.rd rfl rfl rfl (Rd.move rfl rfl) ?_
      refine WL.rd rfl rfl rfl (Rd.lss rfl rfl rfl) ?_
      refine WL.nil ?_
      refine thenQ.normal ?_
      first | refine WC.ite rfl (fun hc4 => ?_) (fun hc4 => ?_) | refine WC.cond rfl (fun hc4 => ?_) (fun hc4 => ?_)
      · skip
        have hgl : (obL M i).ents.length = i := entsL_len M i
        refine WC.skip ?_
        refine thenQ.normal ?_
        refine WC.seq ?_
        refine WC.block ?_
        refine WC.region ?_
        refine WL.rd rfl rfl rfl (Rd.move rfl rfl) ?_
        refine WL.rd rfl rfl rfl ((by first | exact Rd.field rfl F26_2 rfl rfl | exact Rd.fieldE rfl F26_2 rfl (by repeat (first | assumption | exact mS | apply mT)) (by omega) | exact Rd.fieldA rfl F26_2 rfl (by repeat (first | assumption | exact mS | apply mT)) (by omega))) ?_
        refine WL.rd rfl rfl rfl (Rd.row1 (b := b5) (off := 2) (u := v) rfl C23 rfl (by repeat (first | assumption | exact mS | apply mT)) rfl) ?_
        refine WL.rd rfl rfl rfl (Rd.move rfl rfl) ?_
        refine WL.rd rfl rfl rfl (Rd.idx (k := k) rfl S23 rfl rfl rfl (enc := encT) (xs := (obL M i).ents) (by repeat (first | assumption | exact mS | apply mT)) (by omega)) ?_
        refine WL.rd rfl rfl rfl ((by first | exact Rd.field rfl F30_0 rfl rfl | exact Rd.fieldE rfl F30_0 rfl (by repeat (first | assumption | exact mS | apply mT)) (by omega) | exact Rd.fieldA rfl F30_0 rfl (by repeat (first | assumption | exact mS | apply mT)) (by omega))) ?_
        refine WL.rd rfl rfl rfl (Rd.getF (k := k) (f := 0) (a := entL M k) (enc := encT) (xs := (obL M i).ents) rfl C9 rfl (by repeat (first | assumption | exact mS | apply mT)) (fun _ => rfl) rfl (by rw [← entsL_get (m := M) (n := i) (show k < i by omega)]; exact get!_of_lt (by omega)) rfl) ?_
        refine WL.rd rfl rfl rfl (Rd.slen (ts := #[]) (ty := 0) rfl rfl Tryd.underlying9) ?_
        refine WL.say 76 (u := .int .i64 ((nmE M k).length : Int)) rfl rfl ?_
        refine WL.rd rfl rfl rfl (Rd.add rfl rfl rfl (by omega)) ?_
        refine WL.rd rfl rfl rfl (Rd.add rfl rfl rfl (by omega)) ?_
        refine WL.rd rfl rfl rfl (Rd.add rfl rfl rfl (by omega)) ?_
        refine WL.rd rfl rfl rfl (Rd.add rfl rfl rfl (by omega)) ?_
        refine WL.rd rfl rfl rfl (Rd.assign rfl rfl) ?_
        refine WL.nil ?_
        refine blockQ.normal ?_
        refine thenQ.normal ?_
        refine WC.region ?_
        refine WL.rd rfl rfl rfl (Rd.move rfl rfl) ?_
        refine WL.rd rfl rfl rfl (Rd.add rfl rfl rfl (by omega)) ?_
        refine WL.rd rfl rfl rfl (Rd.assign rfl rfl) ?_
        refine WL.nil ?_
        exact loopQ1.mk (k + 1) (by omega) (by omega) (by refine Sub.cons rfl (by rw [wantL]; try (congr 1; try omega)) ?_; exact (by repeat (first | exact Sub.nil | refine Sub.cons rfl (by first | rfl | (congr 1; omega) | assumption) ?_))) (fun w h => OwnL.sat (by repeat (first | exact OwnL.refl | apply OwnL.take (by repeat (first | exact Take.head _ | apply Take.tail)) | apply OwnL.drop)) w (h.thin (SubL.mem (by repeat (first | exact SubL.refl | refine SubL.cons (by repeat (first | assumption | exact mS | apply mT)) ?_ | refine SubL.skip ?_)))))
      · skip
        refine WC.exit ?_
        refine thenQ.exit ?_
        refine loopQ1.exit ?_
        refine blockQ.exit ?_
        refine thenQ.normal ?_
        refine WC.seq ?_
        refine WC.seq ?_
        obtain rfl : i = k := by omega
        refine WC.region ?_
        refine WL.rd rfl rfl rfl (Rd.move rfl rfl) ?_
        refine WL.rd rfl rfl rfl (Rd.gtr rfl rfl rfl) ?_
        refine WL.nil ?_
        refine thenQ.normal ?_
        first | refine WC.ite rfl (fun hc5 => ?_) (fun hc5 => ?_) | refine WC.cond rfl (fun hc5 => ?_) (fun hc5 => ?_)
        · skip
          refine WC.seq ?_
          rw [if_pos (by omega)] at henc
          refine WC.say 9 (u := .int .i64 1) rfl (by rw [henc]; rfl) ?_
          refine WC.say 8 (u := vs []) rfl (by rw [henc]; rfl) ?_
          refine WC.region ?_
          refine WL.rd rfl rfl rfl (Rd.move rfl rfl) ?_
          refine WL.rd rfl rfl rfl (Rd.eql rfl rfl rfl) ?_
          refine WL.rd rfl rfl rfl (Rd.move rfl rfl) ?_
          refine WL.case 85 rfl (fun hg85 => ?_) (fun hg85 => ?_)
          · skip
            refine WL.rd_yes rfl rfl rfl rfl rfl rfl (Rd.move rfl rfl) ?_
            refine WL.rd_yes rfl rfl rfl rfl rfl rfl (Rd.seql rfl rfl rfl) ?_
            refine WL.rd rfl rfl rfl (Rd.pick_t rfl rfl rfl) ?_
            refine WL.say 88 (u := .bool true) rfl (by simp) ?_
            refine WL.rd rfl rfl rfl (Rd.assign rfl rfl) ?_
            refine WL.nil ?_
            refine thenQ.normal ?_
            refine WC.heap (R' := R) (O' := O) (fun w h => OwnL.sat (by repeat (first | exact OwnL.refl | apply OwnL.take (by repeat (first | exact Take.head _ | apply Take.tail)) | apply OwnL.drop)) w (h.thin (SubL.mem (by repeat (first | exact SubL.refl | refine SubL.cons (by repeat (first | assumption | exact mS | apply mT)) ?_ | refine SubL.skip ?_))))) ?_
            refine WC.ret (Ret.one Tryd.results3 rfl ?_)
            exact hk
          · skip
            exact absurd rfl hg85
        · skip
          refine WC.skip ?_
          refine thenQ.normal ?_
          refine WC.seq ?_
          refine WC.seq ?_
          rw [if_neg (by omega)] at henc
          refine WC.region ?_
          refine WL.rd rfl rfl rfl (Rd.move rfl rfl) ?_
          refine WL.rd rfl rfl rfl (Rd.gtr rfl rfl rfl) ?_
          refine WL.nil ?_
          refine thenQ.normal ?_
          first | refine WC.ite rfl (fun hc6 => ?_) (fun hc6 => ?_) | refine WC.cond rfl (fun hc6 => ?_) (fun hc6 => ?_)
          · skip
            refine WC.seq ?_
            rw [if_pos (by omega)] at henc
            refine WC.say 9 (u := .int .i64 6) rfl (by rw [henc]; rfl) ?_
            refine WC.say 8 (u := vs []) rfl (by rw [henc]; rfl) ?_
            refine WC.region ?_
            refine WL.rd rfl rfl rfl (Rd.move rfl rfl) ?_
            refine WL.rd rfl rfl rfl (Rd.eql rfl rfl rfl) ?_
            refine WL.rd rfl rfl rfl (Rd.move rfl rfl) ?_
            refine WL.case 93 rfl (fun hg93 => ?_) (fun hg93 => ?_)
            · skip
              refine WL.rd_yes rfl rfl rfl rfl rfl rfl (Rd.move rfl rfl) ?_
              refine WL.rd_yes rfl rfl rfl rfl rfl rfl (Rd.seql rfl rfl rfl) ?_
              refine WL.rd rfl rfl rfl (Rd.pick_t rfl rfl rfl) ?_
              refine WL.say 96 (u := .bool true) rfl (by simp) ?_
              refine WL.rd rfl rfl rfl (Rd.assign rfl rfl) ?_
              refine WL.nil ?_
              refine thenQ.normal ?_
              refine WC.heap (R' := R) (O' := O) (fun w h => OwnL.sat (by repeat (first | exact OwnL.refl | apply OwnL.take (by repeat (first | exact Take.head _ | apply Take.tail)) | apply OwnL.drop)) w (h.thin (SubL.mem (by repeat (first | exact SubL.refl | refine SubL.cons (by repeat (first | assumption | exact mS | apply mT)) ?_ | refine SubL.skip ?_))))) ?_
              refine WC.ret (Ret.one Tryd.results3 rfl ?_)
              exact hk
            · skip
              exact absurd rfl hg93
          · skip
            refine WC.skip ?_
            refine thenQ.normal ?_
            refine WC.seq ?_
            rw [if_neg (by omega)] at henc
            refine WC.say 9 (u := .int .i64 0) rfl (by rw [henc]; rfl) ?_
            refine WC.say 8 (u := vs (encB (obL M i))) rfl (by rw [henc]; rfl) ?_
            have hbl := encB_L M i
            refine WC.region ?_
            refine WL.rd rfl rfl rfl (Rd.move rfl rfl) ?_
            refine WL.rd rfl rfl rfl (Rd.eql rfl rfl rfl) ?_
            refine WL.rd rfl rfl rfl (Rd.move rfl rfl) ?_
            refine WL.case 99 rfl (fun hg99 => ?_) (fun hg99 => ?_)
            · skip
              refine WL.rd_yes rfl rfl rfl rfl rfl rfl (Rd.move rfl rfl) ?_
              refine WL.rd_yes rfl rfl rfl rfl rfl rfl (Rd.slen (ts := #[]) (ty := 0) rfl rfl Tryd.underlying9) ?_
              refine WL.rd_yes rfl rfl rfl rfl rfl rfl (Rd.move rfl rfl) ?_
              refine WL.rd_yes rfl rfl rfl rfl rfl rfl (Rd.eql rfl rfl rfl) ?_
              refine WL.rd rfl rfl rfl (Rd.pick_t rfl rfl rfl) ?_
              refine WL.say 104 (u := .bool true) rfl (by rw [hbl]; simp) ?_
              refine WL.rd rfl rfl rfl (Rd.assign rfl rfl) ?_
              refine WL.nil ?_
              refine thenQ.normal ?_
              refine WC.heap (R' := R) (O' := O) (fun w h => OwnL.sat (by repeat (first | exact OwnL.refl | apply OwnL.take (by repeat (first | exact Take.head _ | apply Take.tail)) | apply OwnL.drop)) w (h.thin (SubL.mem (by repeat (first | exact SubL.refl | refine SubL.cons (by repeat (first | assumption | exact mS | apply mT)) ?_ | refine SubL.skip ?_))))) ?_
              refine WC.ret (Ret.one Tryd.results3 rfl ?_)
              exact hk
            · skip
              exact absurd rfl hg99
end
end Go.Proofs.YtedgndhbieeffaaDoor
