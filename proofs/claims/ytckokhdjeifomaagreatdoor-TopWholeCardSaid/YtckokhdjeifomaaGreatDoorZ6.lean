/-
  Part 6 of the texts that the law TopWhole is proved with: Fwe, Fwf, Tw1, Cr3, Cr4, Sh1, Sh2, Sh3, Sh4, Sh5, Sh6, Tw2, Tw3, Tw4, Tw5, Tw6, Tw7. No premise.
-/
import Derived.Test.YtckokhdjeifomaaGreatDoorZ5
import Derived.Lib.IndexLaws
namespace Go.Proofs.YtckokhdjeifomaaGreatDoor
open Go Go.SL
/-- What is known behind the first i entries. -/
structure Lrn (files un i : Nat) (F : FS) (m : GoMap Tx MI) (kn : Nat → Bool) : Prop where
 yes : ∀ b q, m.get b = some q → F b = some (miI q) ∧ q.1 < i
 all : ∀ b y, F b = some y → y.e < i → ∃ q, m.get b = some q ∧ miI q = y
 kn : ∀ u, kn u = true ↔ ∃ b y, F b = some y ∧ y.e < i ∧ InX y.x u
theorem Lrn.start (files un : Nat) (F : FS) : Lrn files un 0 F GoMap.empty noneF :=
 ⟨fun b q h => by simp at h, fun b y _ h => absurd h (Nat.not_lt_zero _), fun u => ⟨fun h => (by cases h), fun ⟨_, _, _, h, _⟩ => absurd h (Nat.not_lt_zero _)⟩⟩
section
variable {files un i : Nat} {F : FS} {m : GoMap Tx MI} {kn sp : Nat → Bool}
theorem Lrn.skip (h : Lrn files un i F m kn) (hn : ∀ b y, F b = some y → y.e ≠ i) : Lrn files un (i + 1) F m kn :=
 ⟨fun b q hb => ⟨(h.yes b q hb).1, by have := (h.yes b q hb).2; omega⟩, fun b y hy hi => h.all b y hy (by have := hn b y hy; omega), fun u => (h.kn u).trans ⟨fun ⟨b, y, h1, h2, h3⟩ => ⟨b, y, h1, by omega, h3⟩, fun ⟨b, y, h1, h2, h3⟩ => ⟨b, y, h1, by have := hn b y h1; omega, h3⟩⟩⟩
theorem Lrn.none (h : Lrn files un i F m kn) {b : Tx} {y : Ino} (hy : F b = some y) (he : y.e = i) : m.get b = none := by
 cases hg : m.get b with
 | none => rfl
 | some q =>
   obtain ⟨h1, h2⟩ := h.yes b q hg
   rw [hy] at h1
   cases h1
   have : q.1 = i := he
   omega
theorem Lrn.ok (h : Lrn files un i F m kn) (hf : FOk un files F sp) {b : Tx} {y : Ino} (hy : F b = some y) (he : y.e = i) : TurnOk un true kn y.x :=
 (hf.tk b y hy).flip fun u hu => by
   cases hk : kn u with
   | false => rfl
   | true =>
     obtain ⟨b2, y2, h1, h2, h3⟩ := (h.kn u).1 hk
     have := hf.dis b2 b y2 y u h1 hy h3 hu
     subst this
     rw [hy] at h1; cases h1
     omega
theorem Lrn.step (h : Lrn files un i F m kn) (hf : FOk un files F sp) {b : Tx} {y : Ino} {v : Value} (hy : F b = some y) (he : y.e = i) : Lrn files un (i + 1) F (m.set b (i, y.n, v, y.x)) (turnF true kn y.x) where
 yes := fun c q hc => by
  rw [GoMap.get_set] at hc
  by_cases e : c = b
  · rw [if_pos e] at hc; cases hc; subst e
    refine ⟨?_, by show i < i + 1; omega⟩
    rw [hy]; subst he; rfl
  · rw [if_neg e] at hc
    exact ⟨(h.yes c q hc).1, by have := (h.yes c q hc).2; omega⟩
 all := fun c z hz hi => by
  rw [GoMap.get_set]
  by_cases e : c = b
  · subst e
    rw [hy] at hz; cases hz
    exact ⟨_, if_pos rfl, by subst he; rfl⟩
  · rw [if_neg e]
    refine h.all c z hz ?_
    have : z.e ≠ i := fun e2 => e (hf.inj c b z y hz hy Z.W)
    omega
 kn := fun u => by
  rw [turn_iff]
  constructor
  · rintro (hu | hu)
    · exact ⟨b, y, hy, by omega, hu⟩
    · obtain ⟨c, z, h1, h2, h3⟩ := (h.kn u).1 hu
      exact ⟨c, z, h1, by omega, h3⟩
  · rintro ⟨c, z, h1, h2, h3⟩
    by_cases e : c = b
    · subst e; rw [hy] at h1; cases h1; exact .inl h3
    · refine .inr ((h.kn u).2 ⟨c, z, h1, ?_, h3⟩)
      have : z.e ≠ i := fun e2 => e (hf.inj c b z y h1 hy Z.W)
      omega
theorem Lrn.done (h : Lrn files un files F m kn) (hf : FOk un files F sp) : fsOf m = F ∧ kn = sp := by
 refine ⟨?_, ?_⟩
 · funext b
   cases hb : F b with
   | some y =>
     obtain ⟨q, h1, h2⟩ := h.all b y hb (hf.ok b y hb).e
     unfold fsOf; rw [h1, ← h2]; rfl
   | none =>
     unfold fsOf
     cases hg : m.get b with
     | none => rfl
     | some q => rw [(h.yes b q hg).1] at hb; cases hb
 · funext u
   rw [Bool.eq_iff_iff, h.kn, hf.iff]
   exact ⟨fun ⟨b, y, h1, _, h3⟩ => ⟨b, y, h1, h3⟩, fun ⟨b, y, h1, h3⟩ => ⟨b, y, h1, (hf.ok b y h1).e, h3⟩⟩
end
section
variable {R : List RO} {O : List Own} {POST : Value → List RO → List Own → Prop} {s d l mb un files k : Nat} {sp : Nat → Bool} {V : DV} {D : DSt}
theorem allM_empty : ∀ w, allM (GoMap.empty : GoMap Tx MI) w := fun w b q h => by simp at h
set_option maxRecDepth 20000 in
set_option maxHeartbeats 8000000 in
theorem learn_spec {n : Nat} {F : FS} (ht : tabR ∈ R) (hi : Mnt n files F sp D) (hun : un = n - (7 + files)) (hn : 7 + files < n ∧ n ≤ 4096) (hfs : files ≤ 256) (dk : Dk D k) (hm : k ≤ 4294900000)
 (hk : ∀ m, fsOf m = F → POST (.int .i64 0) (allM m :: R) (stO s d l mb un files sp false m V D O)) :
 Fun Tryz.prog 23 #[dp s] R (dO d V D (rowC s 65 (stCs d l mb 0 files noneF false) :: mapC vs miV mb (GoMap.empty : GoMap Tx MI) :: O)) POST := by
 refine Fun.turn ?_
 have hlen := hi.inv.len
 have hra : ∀ i, i < n → readE D (i : Int) = (D.lasts[i]!, 0) := fun i h => read_at hi.cl.off hi.cl.since Z.W
 have hb1 : D.lasts[1]! = fullE (spB un sp) := by rw [hun]; exact get_bang hi.inv.bits
 have hbl := spB_len un sp
 have hbl5 : (spB un sp).length ≤ 512 := by rw [hbl]; omega
 have hbt : (fullE (spB un sp)).take ((un + 7) / 8) = spB un sp := by
  unfold fullE; rw [List.take_append_of_le_length Z.W, List.take_of_length_le Z.W]
 have hfull := full_len hbl5
 have hout : ∀ i, un ≤ i → sp i = false := fun i h => hi.inv.fok.out i Z.W
 have hfok : FOk un files F sp := by rw [hun]; exact hi.inv.fok
 refine Fun.enter (l := [_]) Tryz.func23 rfl Tryz.ntmps23 rfl (L0 := [(0, _)]) rfl ?_
 refine WC.seq ?_
 refine WC.region ?_
 refine WL.rd rfl rfl rfl (Rd.assign rfl rfl) ?_
 refine WL.nil ?_
 refine thenQ.normal ?_
 refine WC.cut (α := Unit) (fun _ => [(0, dp s), (3, .int .i64 (un : Int))]) (fun _ => R) (fun _ => dO d V D (rowC s 65 (stCs d l mb 0 files noneF false) :: mapC vs miV mb (GoMap.empty : GoMap Tx MI) :: O)) (fun _ => True) ?_ ?_
 ·
  refine WC.drawn (rowC s 65 (stCs d l mb 0 files noneF false) :: O) 12 rfl mixed ?_
  refine WD.take 0 rfl Z.K Z.H rfl rfl rfl (Rd.move rfl rfl) ?_
  refine WD.take 1 rfl Z.K Z.H rfl rfl rfl (Rd.nilc rfl rfl) ?_
  refine WD.take 2 rfl Z.K Z.H rfl rfl rfl ((by exact Rd.field rfl F65_0 rfl rfl)) ?_
  refine WD.take 3 rfl Z.K Z.H rfl rfl rfl (Rd.row1 (off := 0) (u := dp d) rfl C25 rfl (b := s) Z.M rfl) ?_
  refine WD.take 5 rfl Z.K Z.H rfl rfl rfl (Rd.move rfl rfl) ?_
  refine WD.take 6 rfl Z.K Z.H rfl rfl rfl (Rd.nilc rfl rfl) ?_
  refine WD.take 7 rfl Z.K Z.H rfl rfl rfl ((by exact Rd.field rfl F65_4 rfl rfl)) ?_
  refine WD.take 8 rfl Z.K Z.H rfl rfl rfl (Rd.row1 (off := 5) (u := .int .i64 (files : Int)) rfl C3 rfl (b := s) Z.M rfl) ?_
  refine WD.one 4 rfl Z.K rfl ?_
  refine OpW.call rfl rfl Z.E Z.K rfl rfl rfl ?_
  refine size_spec ?_
  refine ⟨Z.H, ?_⟩
  refine WD.one 9 rfl Z.K rfl ?_
  refine OpW.call rfl rfl Z.E Z.K rfl rfl rfl ?_
  refine dataAt_spec Z.W ?_
  refine ⟨Z.H, ?_⟩
  refine WD.take 10 rfl Z.K Z.H rfl rfl rfl (Rd.sub rfl rfl rfl Z.W) ?_
  refine WD.say 28 (u := .int .i64 (un : Int)) rfl (by rw [hlen, hun]; congr 1; omega) ?_
  refine WD.take 11 rfl Z.K Z.H rfl rfl rfl (Rd.assign rfl rfl) ?_
  refine WD.done Z.K ?_
  exact ⟨(), trivial, (by repeat (first | exact Sub.nil | refine Sub.cons rfl (by rfl) ?_)), Z.F⟩
 ·
  rintro ⟨⟩ -
  refine WC.seq ?_
  refine WC.region ?_
  refine WL.rd rfl rfl rfl (Rd.move rfl rfl) ?_
  refine WL.rd rfl rfl rfl (Rd.nilc rfl rfl) ?_
  refine WL.rd rfl rfl rfl ((by exact Rd.field rfl F65_0 rfl rfl)) ?_
  refine WL.rd rfl rfl rfl (Rd.row1 (off := 0) (u := dp d) rfl C25 rfl (b := s) Z.M rfl) ?_
  refine WL.op rfl ?_
  refine OpW.call rfl rfl Z.E Z.K rfl rfl rfl ?_
  refine read_spec (dk.ok.mono Z.W) ?_
  rw [show (1 : Int) = ((1 : Nat) : Int) from rfl, hra 1 Z.W, hb1]
  dsimp only
  refine WL.rd rfl rfl rfl (Rd.move rfl rfl) ?_
  refine WL.rd rfl rfl rfl (Rd.extract rfl rfl rfl) ?_
  refine WL.rd rfl rfl rfl (Rd.extract rfl rfl rfl) ?_
  refine WL.rd rfl rfl rfl (Rd.assign rfl rfl) ?_
  refine WL.rd rfl rfl rfl (Rd.assign rfl rfl) ?_
  refine WL.nil ?_
  refine thenQ.normal ?_
  refine WC.seq ?_
  refine WC.seq ?_
  refine WC.region ?_
  refine WL.rd rfl rfl rfl (Rd.move rfl rfl) ?_
  refine WL.rd rfl rfl rfl (Rd.neq rfl rfl rfl) ?_
  refine WL.nil ?_
  refine thenQ.normal ?_
  refine WC.ite rfl (fun hc1 => ?_) (fun hc1 => ?_)
  ·
   exact absurd rfl hc1
  ·
   refine WC.skip ?_
   refine thenQ.normal ?_
   refine WC.seq ?_
   refine WC.region ?_
   refine WL.rd rfl rfl rfl (Rd.move rfl rfl) ?_
   refine WL.rd rfl rfl rfl (Rd.add rfl rfl rfl Z.W) ?_
   refine WL.rd rfl rfl rfl (Rd.quoI (a := un + 7) (b := 8) rfl rfl rfl Z.W rfl Z.W Z.W) ?_
   refine WL.rd rfl rfl rfl (Rd.assign rfl rfl) ?_
   refine WL.nil ?_
   refine thenQ.normal ?_
   refine WC.seq ?_
   refine WC.region ?_
   refine WL.rd rfl rfl rfl (Rd.assign rfl rfl) ?_
   refine WL.nil ?_
   refine thenQ.normal ?_
   refine WC.seq ?_
   refine WC.seq ?_
   refine WC.region ?_
   refine WL.rd rfl rfl rfl (Rd.move rfl rfl) ?_
   refine WL.rd rfl rfl rfl (Rd.move rfl rfl) ?_
   refine WL.rd rfl rfl rfl (Rd.move rfl rfl) ?_
   refine WL.rd rfl rfl rfl (Rd.move rfl rfl) ?_
   refine WL.rd rfl rfl rfl (Rd.scut_h (hi := (un + 7) / 8) rfl Tryz.underlying9 rfl rfl rfl Z.W) ?_
   refine WL.say 48 (u := vs (spB un sp)) rfl (by rw [hbt]) ?_
   refine WL.op rfl ?_
   refine OpW.call rfl rfl Z.E Z.K rfl rfl rfl ?_
   refine spParse_spec (n := un) (f := sp) Z.W hout ?_
   refine WL.rd rfl rfl rfl (Rd.move rfl rfl) ?_
   refine WL.rd rfl rfl rfl (Rd.extract rfl rfl rfl) ?_
   refine WL.rd rfl rfl rfl (Rd.extract rfl rfl rfl) ?_
   refine WL.rd rfl rfl rfl (Rd.nilc rfl rfl) ?_
   refine WL.rd rfl rfl rfl ((by exact Rd.field rfl F65_2 rfl rfl)) ?_
   refine WL.op rfl ?_
   refine OpW.storeS rfl G63 rfl rfl Z.N Z.T rfl rfl Z.N rfl ?_
   refine WL.rd rfl rfl rfl (Rd.assign rfl rfl) ?_
   refine WL.nil ?_
   refine thenQ.normal ?_
   refine WC.seq ?_
   refine WC.region ?_
   refine WL.rd rfl rfl rfl (Rd.move rfl rfl) ?_
   refine WL.rd rfl rfl rfl (Rd.neq rfl rfl rfl) ?_
   refine WL.rd rfl rfl rfl (Rd.move rfl rfl) ?_
   refine WL.case 56 rfl (fun hg56 => ?_) (fun hg56 => ?_)
   ·
    exact absurd rfl hg56
   ·
    refine WL.rd_yes rfl rfl rfl rfl rfl rfl (Rd.move rfl rfl) ?_
    refine WL.rd_yes rfl rfl rfl rfl rfl rfl (Rd.move rfl rfl) ?_
    refine WL.rd_yes rfl rfl rfl rfl rfl rfl (Rd.move rfl rfl) ?_
    refine WL.rd_yes rfl rfl rfl rfl rfl rfl (Rd.scut_h (hi := (un + 7) / 8) rfl Tryz.underlying9 rfl rfl rfl Z.W) ?_
    refine WL.say 60 (u := vs (spB un sp)) rfl (by rw [hbt]) ?_
    refine WL.op_yes rfl rfl rfl rfl ?_
    refine OpW.call rfl rfl Z.E Z.K rfl rfl rfl ?_
    refine padded_spec hbl5 ?_
    refine WL.rd_yes rfl rfl rfl rfl rfl rfl (Rd.sneq rfl rfl rfl) ?_
    refine WL.rd rfl rfl rfl (Rd.pick_f rfl rfl rfl) ?_
    refine WL.nil ?_
    refine thenQ.normal ?_
    refine WC.ite rfl (fun hc2 => ?_) (fun hc2 => ?_)
    ·
     (exfalso; exact hc2 rfl)
    ·
     refine WC.skip ?_
     refine thenQ.normal ?_
     refine WC.seq ?_
     refine WC.region ?_
     refine WL.rd rfl rfl rfl (Rd.move rfl rfl) ?_
     refine WL.op rfl ?_
     refine OpW.call rfl rfl Z.E Z.K rfl rfl rfl ?_
     refine spNew_spec (n := un) Z.W ?_
     refine WL.rd rfl rfl rfl (Rd.move rfl rfl) ?_
     refine WL.rd rfl rfl rfl (Rd.extract rfl rfl rfl) ?_
     refine WL.rd rfl rfl rfl (Rd.extract rfl rfl rfl) ?_
     refine WL.op rfl ?_
     refine OpW.alloc rfl I63 rfl Z.N rfl rfl ?_; intro b8
     refine WL.op rfl ?_
     refine OpW.storeS rfl G63 rfl rfl Z.N Z.T rfl rfl Z.N rfl ?_
     refine WL.rd rfl rfl rfl (Rd.assign rfl rfl) ?_
     refine WL.nil ?_
     refine thenQ.normal ?_
     refine WC.seq ?_
     refine WC.seq ?_
     refine WC.region ?_
     refine WL.rd rfl rfl rfl (Rd.move rfl rfl) ?_
     refine WL.rd rfl rfl rfl (Rd.nilc rfl rfl) ?_
     refine WL.rd rfl rfl rfl ((by exact Rd.field rfl F65_4 rfl rfl)) ?_
     refine WL.rd rfl rfl rfl (Rd.row1 (off := 5) (u := .int .i64 (files : Int)) rfl C3 rfl (b := s) Z.M rfl) ?_
     refine WL.rd rfl rfl rfl (Rd.move rfl rfl) ?_
     refine WL.nil ?_
     refine thenQ.normal ?_
     refine WC.block ?_
     refine WC.pick [73, 0, 8, 72] Z.P ?_
     refine WC.loop3r 1 (fun (i : Nat) (m : GoMap Tx MI) (kn : Nat → Bool) => [(73, .int .i64 (i : Int))]) (fun (i : Nat) (m : GoMap Tx MI) (kn : Nat → Bool) => allM m :: R) (fun (i : Nat) (m : GoMap Tx MI) (kn : Nat → Bool) => stO s d l mb un files sp false m V D (rowC b8 63 (spCs un kn) :: O)) (fun (i : Nat) (m : GoMap Tx MI) (kn : Nat → Bool) => i ≤ files ∧ Lrn files un i F m kn) (fun (i : Nat) (m : GoMap Tx MI) (kn : Nat → Bool) => files - i) (0) (GoMap.empty) (noneF) Z.L ?hinv1 (by repeat (first | exact Sub.nil | refine Sub.cons rfl (by rfl) ?_)) (fun w h => by
     have h2 := h.derive (q := allM (GoMap.empty : GoMap Tx MI)) (fun w _ => allM_empty w)
     exact Z.Fw h2) ?_
     case hinv1 =>
      exact ⟨Nat.zero_le _, Lrn.start _ _ _⟩
     intro i m kn
     rintro ⟨i1, i2⟩
     refine WC.seq ?_
     refine WC.heap (fun w h => h.derive (q := allM (GoMap.empty : GoMap Tx MI)) (fun w _ => allM_empty w)) ?_
     refine WC.region ?_
     refine WL.rd rfl rfl rfl (Rd.lss rfl rfl rfl) ?_
     refine WL.nil ?_
     refine thenQ.normal ?_
     refine WC.seq ?_
     refine WC.ite rfl (fun hc3 => ?_) (fun hc3 => ?_)
     ·
      have hri := hra (2 + i) Z.W
      have hent := hi.inv.ent i Z.W
      refine WC.skip ?_
      refine thenQ.normal ?_
      refine WC.seq ?_
      refine WC.block ?_
      refine WC.seq ?_
      refine WC.region ?_
      refine WL.rd rfl rfl rfl (Rd.move rfl rfl) ?_
      refine WL.rd rfl rfl rfl (Rd.assign rfl rfl) ?_
      refine WL.nil ?_
      refine thenQ.normal ?_
      refine WC.seq ?_
      refine WC.region ?_
      refine WL.rd rfl rfl rfl (Rd.move rfl rfl) ?_
      refine WL.rd rfl rfl rfl (Rd.nilc rfl rfl) ?_
      refine WL.rd rfl rfl rfl ((by exact Rd.field rfl F65_0 rfl rfl)) ?_
      refine WL.rd rfl rfl rfl (Rd.row1 (off := 0) (u := dp d) rfl C25 rfl (b := s) Z.M rfl) ?_
      refine WL.rd rfl rfl rfl (Rd.move rfl rfl) ?_
      refine WL.rd rfl rfl rfl (Rd.add rfl rfl rfl Z.W) ?_
      refine WL.say 82 (u := .int .i64 ((2 + i : Nat) : Int)) rfl (by congr 1) ?_
      refine WL.op rfl ?_
      refine OpW.call rfl rfl Z.E Z.K rfl rfl rfl ?_
      refine Fun.heap (R' := allM m :: R) (O' := dO d V D (stRow s d l mb un files sp false :: mapC vs miV mb m :: rowC b8 63 (spCs un kn) :: O)) Z.F ?_
      refine read_spec (dk.ok.mono Z.W) ?_
      rw [hri]
      dsimp only
      refine WL.rd rfl rfl rfl (Rd.move rfl rfl) ?_
      refine WL.rd rfl rfl rfl (Rd.extract rfl rfl rfl) ?_
      refine WL.rd rfl rfl rfl (Rd.extract rfl rfl rfl) ?_
      refine WL.rd rfl rfl rfl (Rd.assign rfl rfl) ?_
      refine WL.rd rfl rfl rfl (Rd.assign rfl rfl) ?_
      refine WL.nil ?_
      refine thenQ.normal ?_
      refine WC.seq ?_
      refine WC.seq ?_
      refine WC.region ?_
      refine WL.rd rfl rfl rfl (Rd.move rfl rfl) ?_
      refine WL.rd rfl rfl rfl (Rd.neq rfl rfl rfl) ?_
      refine WL.nil ?_
      refine thenQ.normal ?_
      refine WC.ite rfl (fun hc4 => ?_) (fun hc4 => ?_)
      ·
       exact absurd rfl hc4
      ·
       refine WC.skip ?_
       refine thenQ.normal ?_
       refine WC.seq ?_
       refine WC.seq ?_
       refine WC.region ?_
       refine WL.rd rfl rfl rfl (Rd.move rfl rfl) ?_
       refine WL.op rfl ?_
       refine OpW.call rfl rfl Z.E Z.K rfl rfl rfl ?_
       refine padded_spec (s := []) (Nat.zero_le _) ?_
       refine WL.rd rfl rfl rfl (Rd.seql rfl rfl rfl) ?_
       refine WL.nil ?_
       refine thenQ.normal ?_
       refine WC.ite rfl (fun hc5 => ?_) (fun hc5 => ?_)
       ·
        have hzz : D.lasts[2 + i]! = zs512 := hc5
        have hno : ∀ b y, F b = some y → y.e ≠ i := by
         rcases hent with ⟨b, y, h1, h2, h3⟩ | ⟨h1, _⟩
         · exact absurd ((get_bang h3).symm.trans hzz) (entry_ne (hfok.ok b y h1))
         · exact h1
        refine WC.exit ?_
        refine thenQ.exit ?_
        refine blockQ.exit ?_
        refine thenQ.normal ?_
        refine WC.region ?_
        refine WL.rd rfl rfl rfl (Rd.add rfl rfl rfl Z.W) ?_
        refine WL.rd rfl rfl rfl (Rd.move rfl rfl) ?_
        refine WL.nil ?_
        exact loopQ3.mk (i + 1) m kn ⟨by omega, i2.skip hno⟩ Z.W (by repeat (first | exact Sub.nil | refine Sub.cons rfl (by rfl) ?_)) Z.F
       ·
        obtain ⟨b, y, hby, hye, hle⟩ : ∃ b y, F b = some y ∧ y.e = i ∧ D.lasts[2 + i]! = entryE b y := by
         rcases hent with ⟨b, y, h1, h2, h3⟩ | ⟨_, h2⟩
         · exact ⟨b, y, h1, h2, get_bang h3⟩
         · exact absurd (get_bang h2) (fun h => hc5 (by rw [h]; rfl))
        rw [hle]
        have hyo := hfok.ok b y hby
        have hyl := hyo.len
        have hnb := i2.none hby hye
        have htk := i2.ok hfok hby hye
        refine WC.skip ?_
        refine thenQ.normal ?_
        refine WC.seq ?_
        refine WC.region ?_
        refine WL.rd rfl rfl rfl (Rd.move rfl rfl) ?_
        refine WL.op rfl ?_
        refine OpW.call rfl rfl Z.E Z.K rfl rfl rfl ?_
        refine parse_spec (files := files) (name := b) (i := y) (by repeat (first | exact ht | refine List.mem_cons_of_mem _ ?_)) hyo ?_; intro v hvo
        refine WL.rd rfl rfl rfl (Rd.move rfl rfl) ?_
        refine WL.rd rfl rfl rfl (Rd.extract rfl rfl rfl) ?_
        refine WL.rd rfl rfl rfl (Rd.extract rfl rfl rfl) ?_
        refine WL.rd rfl rfl rfl (Rd.extract rfl rfl rfl) ?_
        refine WL.op rfl ?_
        refine OpW.alloc rfl I79 rfl Z.N rfl rfl ?_; intro b14
        refine WL.rd rfl rfl rfl (Rd.assign rfl rfl) ?_
        refine WL.op rfl ?_
        refine OpW.storeS (h1 := by simp only [List.all_cons, List.all_nil, hvo.one]; rfl) rfl G79 rfl rfl Z.N Z.T rfl rfl Z.N rfl ?_
        refine WL.rd rfl rfl rfl (Rd.assign rfl rfl) ?_
        refine WL.nil ?_
        refine thenQ.normal ?_
        refine WC.seq ?_
        refine WC.seq ?_
        refine WC.region ?_
        refine WL.rd rfl rfl rfl (Rd.move rfl rfl) ?_
        refine WL.rd rfl rfl rfl (Rd.nilc rfl rfl) ?_
        refine WL.rd rfl rfl rfl ((by exact Rd.field rfl F65_3 rfl rfl)) ?_
        refine WL.rd rfl rfl rfl (Rd.row1 (off := 4) (u := .map (some mb)) rfl C60 rfl (b := s) Z.M rfl) ?_
        refine WL.rd rfl rfl rfl (Rd.move rfl rfl) ?_
        refine WL.rd rfl rfl rfl (Rd.lookup2 (kenc := vs) (venc := miV) (m := m) (k := b) M60 K9 rfl rfl rfl Z.M rfl) ?_
        refine WL.say 104 (u := .tuple #[inoV 0 0 (.slice none 0 0), .bool (decide False)]) rfl (by rw [hnb]; rfl) ?_
        refine WL.rd rfl rfl rfl (Rd.move rfl rfl) ?_
        refine WL.rd rfl rfl rfl (Rd.extract rfl rfl rfl) ?_
        refine WL.rd rfl rfl rfl (Rd.extract rfl rfl rfl) ?_
        refine WL.op rfl ?_
        refine OpW.alloc rfl I79 rfl Z.N rfl rfl ?_; intro b16
        refine WL.op rfl ?_
        refine OpW.storeS rfl G79 rfl rfl Z.N Z.T rfl rfl Z.N rfl ?_
        refine WL.rd rfl rfl rfl (Rd.assign rfl rfl) ?_
        refine WL.nil ?_
        refine thenQ.normal ?_
        refine WC.seq ?_
        refine WC.region ?_
        refine WL.rd rfl rfl rfl (Rd.move rfl rfl) ?_
        refine WL.rd rfl rfl rfl ((by exact Rd.not rfl rfl)) ?_
        refine WL.say 108 (u := .bool (decide False)) rfl rfl ?_
        refine WL.rd rfl rfl rfl (Rd.move rfl rfl) ?_
        refine WL.case 109 rfl (fun hg109 => ?_) (fun hg109 => ?_)
        ·
         exact hg109.elim
        ·
         refine WL.rd_yes rfl rfl rfl rfl rfl rfl (Rd.move rfl rfl) ?_
         refine WL.rd rfl rfl rfl (Rd.pick_f rfl rfl rfl) ?_
         refine WL.nil ?_
         refine thenQ.normal ?_
         refine WC.ite rfl (fun hc6 => ?_) (fun hc6 => ?_)
         ·
          exact hc6.elim
         ·
          refine WC.skip ?_
          refine thenQ.normal ?_
          refine WC.seq ?_
          refine WC.region ?_
          refine WL.rd rfl rfl rfl (Rd.move rfl rfl) ?_
          refine WL.rd rfl rfl rfl ((by exact Rd.field rfl F79_0 rfl rfl)) ?_
          refine WL.op rfl ?_
          refine OpW.store1 rfl Z3 rfl rfl (by exact ⟨rfl, rfl⟩) Z.T (by (simp; done)) rfl ?_
          refine WL.nil ?_
          refine thenQ.normal ?_
          refine WC.seq ?_
          refine WC.seq ?_
          refine WC.region ?_
          refine WL.rd rfl rfl rfl ((by exact Rd.rowS rfl G63 rfl Z.M Z.N rfl)) ?_
          refine WL.rd rfl rfl rfl ((by exact Rd.field rfl F79_2 rfl rfl)) ?_
          refine WL.rd rfl rfl rfl ((by exact Rd.row1 rfl C77 rfl Z.M (by rfl))) ?_
          refine WL.op rfl ?_
          refine OpW.call rfl rfl Z.E Z.K rfl rfl rfl ?_
          refine spClaim_spec (n := un) (f := kn) (xs := y.x) Z.M Z.W htk Z.W ?_
          refine WL.rd rfl rfl rfl (Rd.move rfl rfl) ?_
          refine WL.rd rfl rfl rfl (Rd.extract rfl rfl rfl) ?_
          refine WL.rd rfl rfl rfl (Rd.extract rfl rfl rfl) ?_
          refine WL.op rfl ?_
          refine OpW.storeS rfl G63 rfl rfl Z.N Z.T rfl rfl Z.N rfl ?_
          refine WL.rd rfl rfl rfl (Rd.assign rfl rfl) ?_
          refine WL.nil ?_
          refine thenQ.normal ?_
          refine WC.seq ?_
          refine WC.region ?_
          refine WL.rd rfl rfl rfl (Rd.move rfl rfl) ?_
          refine WL.rd rfl rfl rfl (Rd.neq rfl rfl rfl) ?_
          refine WL.nil ?_
          refine thenQ.normal ?_
          refine WC.ite rfl (fun hc7 => ?_) (fun hc7 => ?_)
          ·
           exact absurd rfl hc7
          ·
           refine WC.skip ?_
           refine thenQ.normal ?_
           refine WC.tail 6 mixed Z.K ?_
           refine WS.rd rfl rfl rfl (Rd.move rfl rfl) ?_
           refine WS.rd rfl rfl rfl (Rd.nilc rfl rfl) ?_
           refine WS.rd rfl rfl rfl ((by exact Rd.field rfl F65_3 rfl rfl)) ?_
           refine WS.rd rfl rfl rfl (Rd.row1 (off := 4) (u := .map (some mb)) rfl C60 rfl (b := s) Z.M rfl) ?_
           refine WS.rd rfl rfl rfl (Rd.move rfl rfl) ?_
           refine WS.rd rfl rfl rfl ((by exact Rd.rowS rfl G79 rfl Z.M Z.N rfl)) ?_
           refine WS.switch ?_
           refine WL.op rfl ?_
           refine OpW.mapUpdate (kenc := vs) (venc := miV) (m := m) (k := b) (v := (i, y.n, v, y.x)) M60 K9 rfl rfl rfl rfl Z.T rfl rfl rfl ?_
           refine WL.nil ?_
           refine blockQ.normal ?_
           refine thenQ.normal ?_
           refine WC.region ?_
           refine WL.rd rfl rfl rfl (Rd.add rfl rfl rfl Z.W) ?_
           refine WL.rd rfl rfl rfl (Rd.move rfl rfl) ?_
           refine WL.nil ?_
           exact loopQ3.mk (i + 1) (m.set b (i, y.n, v, y.x)) (turnF true kn y.x) ⟨by omega, i2.step hfok hby hye⟩ Z.W (by repeat (first | exact Sub.nil | refine Sub.cons rfl (by rfl) ?_)) (fun w h => by
           have h2 : Sat (allM (m.set b (i, y.n, v, y.x)) :: R) _ w := ((h.thin (R' := SlE encX v y.x :: allM m :: R) (SubL.mem Z.S)).derive (q := allM (m.set b (i, y.n, v, y.x))) (fun w hw => allM_set (hw _ (List.mem_cons_of_mem _ List.mem_cons_self)) (hw _ List.mem_cons_self))).thin (by intro p hp; rcases List.mem_cons.1 hp with rfl | hp; exact List.mem_cons_self; exact List.mem_cons_of_mem _ (List.mem_cons_of_mem _ (List.mem_cons_of_mem _ hp)))
           exact Z.Fw h2)
     ·
      obtain rfl : i = files := by omega
      obtain ⟨hFm, hkn⟩ := i2.done hfok
      rw [hkn]
      refine WC.exit ?_
      refine thenQ.exit ?_
      refine loopQ3.exit ?_
      refine blockQ.exit ?_
      refine thenQ.normal ?_
      refine WC.seq ?_
      refine WC.seq ?_
      refine WC.still mixed Z.K ?_
      refine WA.rd rfl rfl rfl ((by exact Rd.rowS rfl G63 rfl Z.M Z.N rfl)) ?_
      refine WA.rd rfl rfl rfl (Rd.move rfl rfl) ?_
      refine WA.rd rfl rfl rfl (Rd.nilc rfl rfl) ?_
      refine WA.rd rfl rfl rfl ((by exact Rd.field rfl F65_2 rfl rfl)) ?_
      refine WA.rd rfl rfl rfl (Rd.rowS (b := s) rfl G63 rfl Z.M Z.N rfl) ?_
      refine WA.rd rfl rfl rfl (Rd.aneq rfl rfl rfl (E63 ..)) ?_
      refine WA.nil ?_
      refine thenQ.normal ?_
      refine WC.ite rfl (fun hc8 => ?_) (fun hc8 => ?_)
      ·
       exact (hc8 ⟨rfl, rfl⟩).elim
      ·
       refine WC.skip ?_
       refine thenQ.normal ?_
       refine WC.seq ?_
       refine WC.region ?_
       refine WL.rd rfl rfl rfl (Rd.assign rfl rfl) ?_
       refine WL.nil ?_
       refine thenQ.normal ?_
       refine WC.ret (Ret.one Tryz.results23 rfl ?_)
       exact ⟨_, _, hk m hFm, Z.F⟩
end
end Go.Proofs.YtckokhdjeifomaaGreatDoor
namespace Go.Proofs.YtckokhdjeifomaaGreatDoor
open Go Go.SL
theorem head_four {n files : Nat} (hf : files < 65536) : (headF n files)[4]? = some (byteOf (files / 256)) ∧ (headF n files)[5]? = some (byteOf files) ∧ (byteOf (files / 256)).toNat * 2 ^ 8 ||| (byteOf files).toNat = files := by
 refine ⟨rfl, rfl, ?_⟩
 rw [u8_sum]
 unfold byteOf
 rw [UInt8.toNat_ofNat', UInt8.toNat_ofNat']
 omega
section
variable {R : List RO} {O : List Own} {POST : Value → List RO → List Own → Prop} {d files k : Nat} {sp : Nat → Bool} {V : DV} {D : DSt}
set_option maxRecDepth 20000 in
set_option maxHeartbeats 8000000 in
theorem mount_spec {n : Nat} {F : FS} (ht : tabR ∈ R) (hhd : readE D 0 = (headF n files, 0)) (hlen : D.lasts.length = n) (hoe : (openE D ((2 + files : Nat) : Int) 5).2.2 = 0) (hi : Mnt n files F sp (openE D ((2 + files : Nat) : Int) 5).1) (hn : 7 + files < n ∧ n ≤ 4096) (hfs : 1 ≤ files ∧ files ≤ 256) (dk : Dk D k) (hm : k ≤ 4294800000) (hv : VOk V D) (hkeep : SlE (SL.one vi) V.kv D.keep ∈ R)
 (hk : ∀ V' s l mb m, fsOf m = F → VOk V' (openE D ((2 + files : Nat) : Int) 5).1 → V'.kv = V.kv → POST (.tuple #[dp s, .int .i64 0]) (allM m :: logR l d ((2 + files : Nat) : Int) 5 :: R) (stO s d l mb (n - (7 + files)) files sp false m V' (openE D ((2 + files : Nat) : Int) 5).1 O)) :
 Fun Tryz.prog 7 #[dp d] R (dO d V D O) POST := by
 refine Fun.turn ?_
 obtain ⟨hd4, hd5, hd6⟩ := head_four (n := n) (files := files) Z.W
 have hdk1 := (open_dk dk ((2 + files : Nat) : Int) 5).1
 obtain ⟨E, hE⟩ : ∃ E, E = openE D ((2 + files : Nat) : Int) 5 := ⟨_, rfl⟩
 rw [← hE] at hoe hi hk hdk1
 refine Fun.enter (l := [_]) Tryz.func7 rfl Tryz.ntmps7 rfl (L0 := [(0, _)]) rfl ?_
 refine WC.seq ?_
 refine WC.region ?_
 refine WL.rd rfl rfl rfl (Rd.assign rfl rfl) ?_
 refine WL.rd rfl rfl rfl (Rd.assign rfl rfl) ?_
 refine WL.nil ?_
 refine thenQ.normal ?_
 refine WC.seq ?_
 refine WC.seq ?_
 refine WC.region ?_
 refine WL.rd rfl rfl rfl (Rd.move rfl rfl) ?_
 refine WL.rd rfl rfl rfl (Rd.peqN rfl Tryz.underlying25 rfl rfl) ?_
 refine WL.say 10 (u := .bool (decide False)) rfl (by simp) ?_
 refine WL.nil ?_
 refine thenQ.normal ?_
 refine WC.ite rfl (fun hc1 => ?_) (fun hc1 => ?_)
 ·
  exact hc1.elim
 ·
  refine WC.skip ?_
  refine thenQ.normal ?_
  refine WC.seq ?_
  refine WC.region ?_
  refine WL.rd rfl rfl rfl (Rd.move rfl rfl) ?_
  refine WL.op rfl ?_
  refine OpW.call rfl rfl Z.E Z.K rfl rfl rfl ?_
  refine read_spec (dk.ok.mono Z.W) ?_
  rw [hhd]
  dsimp only
  refine WL.rd rfl rfl rfl (Rd.move rfl rfl) ?_
  refine WL.rd rfl rfl rfl (Rd.extract rfl rfl rfl) ?_
  refine WL.rd rfl rfl rfl (Rd.extract rfl rfl rfl) ?_
  refine WL.rd rfl rfl rfl (Rd.assign rfl rfl) ?_
  refine WL.rd rfl rfl rfl (Rd.assign rfl rfl) ?_
  refine WL.nil ?_
  refine thenQ.normal ?_
  refine WC.seq ?_
  refine WC.seq ?_
  refine WC.region ?_
  refine WL.rd rfl rfl rfl (Rd.move rfl rfl) ?_
  refine WL.rd rfl rfl rfl (Rd.neq rfl rfl rfl) ?_
  refine WL.nil ?_
  refine thenQ.normal ?_
  refine WC.ite rfl (fun hc2 => ?_) (fun hc2 => ?_)
  ·
   exact absurd rfl hc2
  ·
   refine WC.skip ?_
   refine thenQ.normal ?_
   refine WC.seq ?_
   refine WC.still mixed Z.K ?_
   refine WA.rd rfl rfl rfl (Rd.move rfl rfl) ?_
   refine WA.rd rfl rfl rfl (Rd.sidx (k := 4) (b := byteOf (files / 256)) rfl Tryz.underlying9 rfl rfl rfl hd4) ?_
   refine WA.rd rfl rfl rfl (Rd.conv (kd' := .i64) (p := ((byteOf (files / 256)).toNat : Int)) rfl rfl Tryz.underlying3 (wrap_i64 (by have := UInt8.toNat_lt (byteOf (files / 256)); omega)) (hS := Tryz.underlying5)) ?_
   refine WA.rd rfl rfl rfl (Rd.shlS (a := (byteOf (files / 256)).toNat) (n := 8) rfl rfl rfl rfl rfl Z.W (by have := UInt8.toNat_lt (byteOf (files / 256)); omega)) ?_
   refine WA.rd rfl rfl rfl (Rd.move rfl rfl) ?_
   refine WA.rd rfl rfl rfl (Rd.sidx (k := 5) (b := byteOf files) rfl Tryz.underlying9 rfl rfl rfl hd5) ?_
   refine WA.rd rfl rfl rfl (Rd.conv (kd' := .i64) (p := ((byteOf files).toNat : Int)) rfl rfl Tryz.underlying3 (wrap_i64 (by have := UInt8.toNat_lt (byteOf files); omega)) (hS := Tryz.underlying5)) ?_
   refine WA.rd rfl rfl rfl (Rd.orS (a := (byteOf (files / 256)).toNat * 2 ^ 8) (b := (byteOf files).toNat) rfl rfl rfl rfl rfl (by have := UInt8.toNat_lt (byteOf (files / 256)); show _ < 2 ^ 63; omega) (by have := UInt8.toNat_lt (byteOf files); show _ < 2 ^ 63; omega)) ?_
   refine WA.say 26 (u := .int .i64 (files : Int)) rfl (by rw [hd6]) ?_
   refine WA.rd rfl rfl rfl (Rd.assign rfl rfl) ?_
   refine WA.nil ?_
   refine thenQ.normal ?_
   refine WC.seq ?_
   refine WC.seq ?_
   refine WC.region ?_
   refine WL.rd rfl rfl rfl (Rd.move rfl rfl) ?_
   refine WL.rd rfl rfl rfl (Rd.lss rfl rfl rfl) ?_
   refine WL.rd rfl rfl rfl (Rd.move rfl rfl) ?_
   refine WL.case 29 rfl (fun hg29 => ?_) (fun hg29 => ?_)
   ·
    omega
   ·
    refine WL.rd_yes rfl rfl rfl rfl rfl rfl (Rd.move rfl rfl) ?_
    refine WL.rd_yes rfl rfl rfl rfl rfl rfl (Rd.gtr rfl rfl rfl) ?_
    refine WL.rd rfl rfl rfl (Rd.pick_f rfl rfl rfl) ?_
    refine WL.rd rfl rfl rfl (Rd.move rfl rfl) ?_
    refine WL.case 33 rfl (fun hg33 => ?_) (fun hg33 => ?_)
    ·
     omega
    ·
     refine WL.rd_yes rfl rfl rfl rfl rfl rfl (Rd.move rfl rfl) ?_
     refine WL.op_yes rfl rfl rfl rfl ?_
     refine OpW.call rfl rfl Z.E Z.K rfl rfl rfl ?_
     refine size_spec ?_
     refine WL.rd_yes rfl rfl rfl rfl rfl rfl (Rd.move rfl rfl) ?_
     refine WL.op_yes rfl rfl rfl rfl ?_
     refine OpW.call rfl rfl Z.E Z.K rfl rfl rfl ?_
     refine dataAt_spec Z.W ?_
     refine WL.rd_yes rfl rfl rfl rfl rfl rfl (Rd.add rfl rfl rfl Z.W) ?_
     refine WL.rd_yes rfl rfl rfl rfl rfl rfl (Rd.lss rfl rfl rfl) ?_
     refine WL.rd rfl rfl rfl (Rd.pick_f rfl rfl rfl) ?_
     refine WL.rd rfl rfl rfl (Rd.move rfl rfl) ?_
     refine WL.case 41 rfl (fun hg41 => ?_) (fun hg41 => ?_)
     ·
      omega
     ·
      refine WL.rd_yes rfl rfl rfl rfl rfl rfl (Rd.move rfl rfl) ?_
      refine WL.rd_yes rfl rfl rfl rfl rfl rfl (Rd.move rfl rfl) ?_
      refine WL.op_yes rfl rfl rfl rfl ?_
      refine OpW.call rfl rfl Z.E Z.K rfl rfl rfl ?_
      refine size_spec ?_
      refine WL.rd_yes rfl rfl rfl rfl rfl rfl (Rd.move rfl rfl) ?_
      refine WL.op_yes rfl rfl rfl rfl ?_
      refine OpW.call rfl rfl Z.E Z.K rfl rfl rfl ?_
      rw [hlen]
      refine head_spec Z.W Z.W ?_
      refine WL.rd_yes rfl rfl rfl rfl rfl rfl (Rd.sneq rfl rfl rfl) ?_
      refine WL.rd rfl rfl rfl (Rd.pick_f rfl rfl rfl) ?_
      refine WL.nil ?_
      refine thenQ.normal ?_
      refine WC.ite rfl (fun hc3 => ?_) (fun hc3 => ?_)
      ·
       (exfalso; exact hc3 rfl)
      ·
       refine WC.skip ?_
       refine thenQ.normal ?_
       refine WC.seq ?_
       refine WC.region ?_
       refine WL.rd rfl rfl rfl (Rd.move rfl rfl) ?_
       refine WL.op rfl ?_
       refine OpW.makeMap vs miV rfl rfl rfl ?_; intro b50
       refine WL.rd rfl rfl rfl (Rd.move rfl rfl) ?_
       refine WL.rd rfl rfl rfl (Rd.buildN (ps := [(0, _), (3, _), (4, _)]) rfl Bs65 I65 rfl Z.E Z.C (by apply NFo.mk; repeat (first | exact NF.nil | apply NF.cons))) ?_
       refine WL.op rfl ?_
       refine OpW.box rfl rfl Z.N rfl rfl ?_; intro b53
       refine WL.rd rfl rfl rfl (Rd.assign rfl rfl) ?_
       refine WL.nil ?_
       refine thenQ.normal ?_
       refine WC.seq ?_
       refine WC.seq ?_
       refine WC.region ?_
       refine WL.rd rfl rfl rfl (Rd.move rfl rfl) ?_
       refine WL.rd rfl rfl rfl (Rd.move rfl rfl) ?_
       refine WL.rd rfl rfl rfl (Rd.move rfl rfl) ?_
       refine WL.rd rfl rfl rfl (Rd.add rfl rfl rfl Z.W) ?_
       refine WL.say 58 (u := .int .i64 ((2 + files : Nat) : Int)) rfl (by congr 1) ?_
       refine WL.op rfl ?_
       refine OpW.call rfl rfl Z.E Z.K rfl rfl rfl ?_
       refine Fun.heap (R' := R) (O' := dO d V D (rowC b53 65 [dp d, .pointer none, .int .i64 0, vs [], .map (some b50), .int .i64 (files : Int), .bool false] :: mapC vs miV b50 (GoMap.empty : GoMap Tx MI) :: O)) Z.F ?_
       refine walOpen_spec (f := ((2 + files : Nat) : Int)) (z := 5) ht dk Z.W hv hkeep ?_
       intro V' po hv' hkv' hpo
       rw [← hE] at hv' hpo ⊢
       obtain ⟨l, rfl⟩ : ∃ l, po = some l := Option.isSome_iff_exists.1 (hpo.2 hoe)
       rw [hoe]
       have hk' := hk V'
       refine WL.rd rfl rfl rfl (Rd.move rfl rfl) ?_
       refine WL.rd rfl rfl rfl (Rd.extract rfl rfl rfl) ?_
       refine WL.rd rfl rfl rfl (Rd.extract rfl rfl rfl) ?_
       refine WL.rd rfl rfl rfl (Rd.extract rfl rfl rfl) ?_
       refine WL.rd rfl rfl rfl (Rd.nilc rfl rfl) ?_
       refine WL.rd rfl rfl rfl ((by exact Rd.field rfl F65_1 rfl rfl)) ?_
       refine WL.op rfl ?_
       refine OpW.store1 rfl Z61 rfl rfl (by exact ⟨rfl, rfl⟩) Z.T (by (simp; done)) rfl ?_
       refine WL.heap (R' := logR l d ((2 + files : Nat) : Int) 5 :: R) (fun w h => (h.derive (q := logR l d ((2 + files : Nat) : Int) 5) (fun w hw => hw _ List.mem_cons_self l rfl)).thin (by intro p hp; rcases List.mem_cons.1 hp with rfl | hp; exact List.mem_cons_self; exact List.mem_cons_of_mem _ (List.mem_cons_of_mem _ hp))) ?_
       refine WL.rd rfl rfl rfl (Rd.assign rfl rfl) ?_
       refine WL.nil ?_
       refine thenQ.normal ?_
       refine WC.seq ?_
       refine WC.region ?_
       refine WL.rd rfl rfl rfl (Rd.move rfl rfl) ?_
       refine WL.rd rfl rfl rfl (Rd.neq rfl rfl rfl) ?_
       refine WL.nil ?_
       refine thenQ.normal ?_
       refine WC.ite rfl (fun hc4 => ?_) (fun hc4 => ?_)
       ·
        exact absurd rfl hc4
       ·
        refine WC.skip ?_
        refine thenQ.normal ?_
        refine WC.seq ?_
        refine WC.seq ?_
        refine WC.region ?_
        refine WL.rd rfl rfl rfl (Rd.move rfl rfl) ?_
        refine WL.op rfl ?_
        refine OpW.call rfl rfl Z.E Z.K rfl rfl rfl ?_
        refine Fun.heap (R' := logR l d ((2 + files : Nat) : Int) 5 :: R) (O' := dO d V' E.1 (rowC b53 65 (stCs d l b50 0 files noneF false) :: mapC vs miV b50 (GoMap.empty : GoMap Tx MI) :: O)) Z.F ?_
        refine learn_spec (n := n) (F := F) (List.mem_cons_of_mem _ ht) hi rfl hn Z.W hdk1 Z.W ?_; intro m hm1
        refine WL.rd rfl rfl rfl (Rd.assign rfl rfl) ?_
        refine WL.nil ?_
        refine thenQ.normal ?_
        refine WC.seq ?_
        refine WC.region ?_
        refine WL.rd rfl rfl rfl (Rd.move rfl rfl) ?_
        refine WL.rd rfl rfl rfl (Rd.neq rfl rfl rfl) ?_
        refine WL.nil ?_
        refine thenQ.normal ?_
        refine WC.ite rfl (fun hc5 => ?_) (fun hc5 => ?_)
        ·
         exact absurd rfl hc5
        ·
         refine WC.skip ?_
         refine thenQ.normal ?_
         refine WC.seq ?_
         refine WC.region ?_
         refine WL.rd rfl rfl rfl (Rd.move rfl rfl) ?_
         refine WL.rd rfl rfl rfl (Rd.assign rfl rfl) ?_
         refine WL.rd rfl rfl rfl (Rd.assign rfl rfl) ?_
         refine WL.nil ?_
         refine thenQ.normal ?_
         refine WC.ret (Ret.two Tryz.results7 rfl rfl ?_)
         exact ⟨_, _, hk' b53 l b50 m hm1 hv' hkv', Z.F⟩
end
end Go.Proofs.YtckokhdjeifomaaGreatDoor
namespace Go.Proofs.YtckokhdjeifomaaGreatDoor
open Go Go.SL
abbrev CF := Tx → Option Tx
/-- The names that deeds use. -/
def N4 : List UInt8 := [97, 98, 99, 100]
def Nm (b : Tx) : Prop := ∃ x ∈ N4, b = [x]
def updC (C : CF) (b : Tx) (v : Option Tx) : CF := fun a => if a = b then v else C a
theorem updC_self (C : CF) (b : Tx) (v : Option Tx) : updC C b v b = v := if_pos rfl
theorem updC_ne {C : CF} {a b : Tx} {v : Option Tx} (h : a ≠ b) : updC C b v a = C a := if_neg h
/-- A deed's answer, and what there is behind it. -/
def resC (w : Int) (name tn data : Tx) (C : CF) : Nat × CF :=
 if w = 2 then match C name with
  | none => (9, C)
  | some c => (0, updC C name (some (c ++ data)))
 else if w = 3 then match C name with
  | none => (9, C)
  | some c => if name = tn then (0, C) else (0, updC (updC C name none) tn (some c))
 else if w = 4 then match C name with
  | none => (9, C)
  | some _ => (0, updC C name none)
 else (0, updC C name (some data))
def entS (x : UInt8) : Option Tx → Tx
 | none => []
 | some c => x :: 58 :: (c ++ [10])
def showL (l : List UInt8) (C : CF) : Tx := l.flatMap fun x => entS x (C [x])
def showC (C : CF) : Tx := showL N4 C
theorem entS_inj {x : UInt8} {a b : Option Tx} (h : entS x a = entS x b) : a = b := by
 cases a with
 | none =>
   cases b with
   | none => rfl
   | some c => simp [entS] at h
 | some c =>
   cases b with
   | none => simp [entS] at h
   | some c' =>
     simp only [entS, List.cons.injEq, true_and] at h
     rw [List.append_cancel_right h]
theorem one_inj {a b : UInt8} (h : ([a] : Tx) = [b]) : a = b := by injection h
theorem showL_cons (x : UInt8) (l : List UInt8) (C : CF) : showL (x :: l) C = entS x (C [x]) ++ showL l C := by unfold showL; rw [List.flatMap_cons]
theorem showL_same {l : List UInt8} {C C' : CF} (h : ∀ x ∈ l, C [x] = C' [x]) : showL l C = showL l C' := by
 unfold showL
 rw [List.flatMap_def, List.flatMap_def]
 congr 1
 exact List.map_congr_left fun x hx => by rw [h x hx]
/-- One file put otherwise is seen. -/
theorem show_upd : ∀ {l : List UInt8} {C : CF} {x : UInt8} {v : Option Tx}, l.Nodup → x ∈ l → showL l (updC C [x] v) = showL l C → v = C [x]
 | y :: l, C, x, v, hn, hx, h => by
   rw [List.nodup_cons] at hn
   rw [showL_cons, showL_cons] at h
   rcases List.mem_cons.1 hx with rfl | hx
   · rw [updC_self, showL_same (C := updC C [x] v) (C' := C) (fun z hz => updC_ne (fun e => hn.1 (by rw [← one_inj e]; exact hz)))] at h
     · exact entS_inj (List.append_cancel_right h)
   · have hxy : y ≠ x := fun e => hn.1 (e ▸ hx)
     rw [updC_ne (by simpa using hxy)] at h
     exact show_upd hn.2 hx (List.append_cancel_left h)
theorem show_len : ∀ {l : List UInt8} {C : CF} {x : UInt8} {v : Option Tx}, l.Nodup → x ∈ l → (showL l (updC C [x] v)).length + (entS x (C [x])).length = (showL l C).length + (entS x v).length
 | y :: l, C, x, v, hn, hx => by
   rw [List.nodup_cons] at hn
   rw [showL_cons, showL_cons, List.length_append, List.length_append]
   rcases List.mem_cons.1 hx with rfl | hx
   · rw [updC_self, showL_same (C := updC C [x] v) (C' := C) (fun z hz => updC_ne (fun e => hn.1 (by rw [← one_inj e]; exact hz)))]
     omega
   · have hxy : y ≠ x := fun e => hn.1 (e ▸ hx)
     rw [updC_ne (by simpa using hxy)]
     have := show_len (C := C) (v := v) hn.2 hx
     omega
theorem show_head {l : List UInt8} {C : CF} {x : UInt8} {r : Tx} (h : showL l C = x :: r) : x ∈ l := by
 induction l with
 | nil => simp [showL] at h
 | cons y l ih =>
   rw [showL_cons] at h
   cases hc : C [y] with
   | none => rw [hc] at h; exact List.mem_cons_of_mem _ (ih h)
   | some c =>
     rw [hc] at h
     simp only [entS, List.cons_append, List.cons.injEq] at h
     rw [h.1]; exact List.mem_cons_self
/-- Where the first file that is otherwise is there, or isn't, something else is shown. -/
theorem show_first {x y : UInt8} {C C' : CF} : ∀ {l : List UInt8}, l.Nodup → (∀ b ∈ l, b ≠ x → b ≠ y → C [b] = C' [b]) → (C [x]).isSome ≠ (C' [x]).isSome → (C [y]).isSome ≠ (C' [y]).isSome → x ∈ l ∨ y ∈ l → showL l C ≠ showL l C'
 | [], _, _, _, _, h => by rcases h with h | h <;> cases h
 | b :: l, hn, hs, hx, hy, h => by
   rw [List.nodup_cons] at hn
   intro he
   rw [showL_cons, showL_cons] at he
   have key : (C [b]).isSome ≠ (C' [b]).isSome → False := fun hb => by
    cases h1 : C [b] with
    | none =>
      cases h2 : C' [b] with
      | none => rw [h1, h2] at hb; exact hb rfl
      | some c =>
        rw [h1, h2] at he
        exact hn.1 (show_head (C := C) (r := 58 :: (c ++ [10]) ++ showL l C') (by rw [show showL l C = entS b none ++ showL l C from rfl, he]; rfl))
    | some c =>
      cases h2 : C' [b] with
      | some c' => rw [h1, h2] at hb; exact hb rfl
      | none =>
        rw [h1, h2] at he
        exact hn.1 (show_head (C := C') (r := 58 :: (c ++ [10]) ++ showL l C) (by rw [show showL l C' = entS b none ++ showL l C' from rfl, ← he]; rfl))
   by_cases e1 : b = x
   · subst e1; exact key hx
   · by_cases e2 : b = y
     · subst e2; exact key hy
     · rw [hs b List.mem_cons_self e1 e2] at he
       refine show_first hn.2 (fun z hz => hs z (List.mem_cons_of_mem _ hz)) hx hy ?_ (List.append_cancel_left he)
       rcases h with h | h
       · rcases List.mem_cons.1 h with h | h
         · exact absurd h.symm e1
         · exact .inl h
       · rcases List.mem_cons.1 h with h | h
         · exact absurd h.symm e2
         · exact .inr h
theorem n4_nodup : N4.Nodup := by decide
/-- Where what is shown is as before, all is as before. -/
theorem res_same {w : Int} {name tn data : Tx} {C : CF} (h1 : Nm name) (h2 : Nm tn) (h : showC (resC w name tn data C).2 = showC C) : (resC w name tn data C).2 = C := by
 obtain ⟨x, hx, rfl⟩ := h1
 obtain ⟨y, hy, rfl⟩ := h2
 have one : ∀ v, showC (updC C [x] v) = showC C → updC C [x] v = C := fun v hv => by
  have := show_upd n4_nodup hx hv
  funext a
  unfold updC
  split
  · rename_i e; rw [e, this]
  · rfl
 unfold resC at h ⊢
 split
 · rename_i hw
   rw [if_pos hw] at h
   cases hc : C [x] with
   | none => rfl
   | some c => rw [hc] at h; exact one _ h
 · rename_i hw
   rw [if_neg hw] at h
   split
   · rename_i hw3
     rw [if_pos hw3] at h
     cases hc : C [x] with
     | none => rfl
     | some c =>
       rw [hc] at h
       dsimp only at h ⊢
       split
       · rfl
       · rename_i hne
         rw [if_neg hne] at h
         exfalso
         have hxy : y ≠ x := fun e => hne (by rw [e])
         cases ht : C [y] with
         | none =>
           refine show_first (x := x) (y := y) (C := updC (updC C [x] none) [y] (some c)) (C' := C) n4_nodup (fun b _ e1 e2 => ?_) ?_ ?_ (.inl hx) h
           · rw [updC_ne (by simpa using e2), updC_ne (by simpa using e1)]
           · rw [updC_ne (by simpa using Ne.symm hxy), updC_self, hc]; simp
           · rw [updC_self, ht]; simp
         | some c' =>
           have l1 := show_len (C := updC C [x] none) (x := y) (v := some c) n4_nodup hy
           have l2 := show_len (C := C) (x := x) (v := none) n4_nodup hx
           rw [updC_ne (by simpa using hxy), ht] at l1
           rw [hc] at l2
           have l3 : (showL N4 (updC (updC C [x] none) [y] (some c))).length = (showL N4 C).length := congrArg List.length h
           simp only [entS, List.length_cons, List.length_append, List.length_nil] at l1 l2
           omega
   · rename_i hw3
     rw [if_neg hw3] at h
     split
     · rename_i hw4
       rw [if_pos hw4] at h
       cases hc : C [x] with
       | none => rfl
       | some c => rw [hc] at h; exact one _ h
     · rename_i hw4
       rw [if_neg hw4] at h
       exact one _ h
end Go.Proofs.YtckokhdjeifomaaGreatDoor
namespace Go.Proofs.YtckokhdjeifomaaGreatDoor
open Go Go.SL
theorem frame_eq {k : UInt8} {b : List UInt8} (h : b.length ≤ 262144) : frameE k b = k :: (putE b.length ++ (b ++ le4 (sumE (bare k b)))) := by
 rw [frameE, if_neg Z.W, bare, putI_len h, List.cons_append, List.append_assoc]
theorem frame_length {k : UInt8} {b : List UInt8} (h : b.length ≤ 262144) : (frameE k b).length = (putE b.length).length + b.length + 5 := by
 rw [frame_eq h, List.length_cons, List.length_append, List.length_append, show (le4 (sumE (bare k b))).length = 4 from rfl]; omega
theorem frame_next {k : UInt8} {b : List UInt8} (h : b.length ≤ 262144) (t : List UInt8) : nextF (frameE k b ++ t) = (k.toNat, b, ((frameE k b).length : Int), 0) := by
 have hl := frame_length (k := k) h
 have e : frameE k b ++ t = k :: (putE b.length ++ (b ++ (le4 (sumE (bare k b)) ++ t))) := by
  rw [frame_eq h, List.cons_append, List.append_assoc, List.append_assoc]
 have hn := nextE_put h (le4 (sumE (bare k b)) ++ t)
 have hbl := bare_length (k := k) h
 have e2 : frameE k b ++ t = bare k b ++ (le4 (sumE (bare k b)) ++ t) := by rw [frameE, if_neg Z.W, List.append_assoc]
 have h4 : (le4 (sumE (bare k b))).length = 4 := rfl
 have t1 : (k :: (putE b.length ++ (b ++ (le4 (sumE (bare k b)) ++ t)))).take ((putE b.length).length + b.length + 1) = bare k b := by
  rw [← e, e2, ← hbl, List.take_left]
 have t2 : ((k :: (putE b.length ++ (b ++ (le4 (sumE (bare k b)) ++ t)))).take ((putE b.length).length + b.length + 5)).drop ((putE b.length).length + b.length + 1) = le4 (sumE (bare k b)) := by
  rw [← e, e2, ← List.append_assoc, List.take_append_of_le_length (by rw [List.length_append]; omega), List.take_of_length_le (by rw [List.length_append]; omega), ← hbl, List.drop_left]
 have hlen : ((putE b.length ++ (b ++ (le4 (sumE (bare k b)) ++ t))).length : Int) = (putE b.length).length + b.length + 4 + t.length := by
  rw [List.length_append, List.length_append, List.length_append, h4]; omega
 rw [e, nextF, hn]
 simp only [ne_eq, not_true_eq_false, if_false]
 rw [if_neg (by rw [hlen]; omega), Int.toNat_natCast, t1, t2, if_neg (by simp), hl]
 refine Prod.ext rfl (Prod.ext rfl (Prod.ext ?_ rfl))
 show (((putE b.length).length + b.length : Nat) : Int) + 5 = (((putE b.length).length + b.length + 5 : Nat) : Int)
 omega
end Go.Proofs.YtckokhdjeifomaaGreatDoor
namespace Go.Proofs.YtckokhdjeifomaaGreatDoor
open Go Go.SL
abbrev vw (n : Nat) : Value := .int .u32 (n : Int)
def rotr (x n : Nat) : Nat := (x * 2 ^ (32 - n) % 2 ^ 32) ||| (x / 2 ^ n)
def ad (a b : Nat) : Nat := (a + b) % 4294967296
theorem ad_lt (a b : Nat) : ad a b < 2 ^ 32 := Nat.mod_lt _ (by decide)
theorem rotr_lt {x : Nat} (h : x < 2 ^ 32) (n : Nat) : rotr x n < 2 ^ 32 := Nat.or_lt_two_pow (Nat.mod_lt _ (by decide)) (Nat.lt_of_le_of_lt (Nat.div_le_self _ _) h)
theorem wrap_ad (a b : Nat) : IntKind.u32.wrap ((a : Int) + b) = ((ad a b : Nat) : Int) := by
 rw [ad]; simp only [IntKind.wrap, IntKind.signed, IntKind.bits, Bool.false_and, Bool.false_eq_true, if_false]; omega
theorem _root_.Go.SL.Rd.add32 {P : Program} {o : Oper} {L : Env} {R : List RO} {O : List Own} {t t' : TypeId} {x y : Operand} {a b : Nat} (ho : o.op = .binOp .add t x y t') (hx : ev L x = some (vw a)) (hy : ev L y = some (vw b)) : Rd P o L R O (vw (ad a b)) :=
 Rd.addk ho hx hy (wrap_ad a b)
theorem and31 (n : Nat) (h : 0 < n ∧ n < 32) : (18446744073709551616 - n) &&& 31 = 32 - n := by
 rw [show (31 : Nat) = 2 ^ 5 - 1 from rfl, Nat.and_two_pow_sub_one_eq_mod]; omega
set_option maxRecDepth 20000 in
theorem rotl_spec {R : List RO} {O : List Own} {POST : Value → List RO → List Own → Prop} {x n : Nat} (hx : x < 2 ^ 32) (hn : 0 < n ∧ n < 32)
 (hk : POST (vw (rotr x n)) R O) : Fun Tryz.prog 151 #[vw x, .int .i64 (-(n : Int))] R O POST := by
 refine Fun.enter (l := [_, _]) Tryz.func151 rfl Tryz.ntmps151 rfl (L0 := [(0, _), (1, _)]) rfl ?_
 refine WC.seq ?_
 refine WC.region ?_
 refine WL.rd rfl rfl rfl (Rd.assign rfl rfl) ?_
 refine WL.nil ?_
 refine thenQ.normal ?_
 refine WC.seq ?_
 refine WC.region ?_
 refine WL.rd rfl rfl rfl (Rd.move rfl rfl) ?_
 refine WL.rd rfl rfl rfl (Rd.convw rfl rfl Tryz.underlying59 (hS := Tryz.underlying3)) ?_
 refine WL.say 7 (u := .int .u64 ((18446744073709551616 - n : Nat) : Int)) rfl (by congr 1; simp only [IntKind.wrap, IntKind.signed, IntKind.bits, Bool.false_and, Bool.false_eq_true, if_false]; omega) ?_
 refine WL.rd rfl rfl rfl (Rd.andU (b := 31) rfl rfl rfl rfl rfl rfl (show _ < 18446744073709551616 by omega) (by decide)) ?_
 refine WL.say 8 (u := .int .u64 ((32 - n : Nat) : Int)) rfl (by rw [and31 n hn]) ?_
 refine WL.rd rfl rfl rfl (Rd.assign rfl rfl) ?_
 refine WL.nil ?_
 refine thenQ.normal ?_
 refine WC.seq ?_
 refine WC.region ?_
 refine WL.rd rfl rfl rfl (Rd.move rfl rfl) ?_
 refine WL.rd rfl rfl rfl (Rd.move rfl rfl) ?_
 refine WL.rd rfl rfl rfl (Rd.shl32 (a := x) (m := 32 - n) rfl rfl rfl rfl rfl Z.W) ?_
 refine WL.rd rfl rfl rfl (Rd.move rfl rfl) ?_
 refine WL.rd rfl rfl rfl (Rd.move rfl rfl) ?_
 refine WL.rd rfl rfl rfl (Rd.subk (r := (n : Int)) rfl rfl rfl (by rw [wrap_u64 Z.W]; omega)) ?_
 refine WL.rd rfl rfl rfl (Rd.shrN (a := x) (n := n) rfl rfl rfl rfl rfl (by show n ≤ 32; omega)) ?_
 refine WL.rd rfl rfl rfl (Rd.orU rfl rfl rfl rfl rfl rfl (Nat.mod_lt _ (by decide)) (Nat.lt_of_le_of_lt (Nat.div_le_self _ _) hx)) ?_
 refine WL.rd rfl rfl rfl (Rd.assign rfl rfl) ?_
 refine WL.nil ?_
 refine thenQ.normal ?_
 refine WC.ret (Ret.one Tryz.results151 rfl ?_)
 exact hk
set_option maxRecDepth 20000 in
theorem right_spec {R : List RO} {O : List Own} {POST : Value → List RO → List Own → Prop} {x n : Nat} (hx : x < 2 ^ 32) (hn : 0 < n ∧ n < 32)
 (hk : POST (vw (rotr x n)) R O) : Fun Tryz.prog 135 #[vw x, .int .i64 (n : Int)] R O POST := by
 refine Fun.enter (l := [_, _]) Tryz.func135 rfl Tryz.ntmps135 rfl (L0 := [(0, _), (1, _)]) rfl ?_
 refine WC.seq ?_
 refine WC.region ?_
 refine WL.rd rfl rfl rfl (Rd.assign rfl rfl) ?_
 refine WL.nil ?_
 refine thenQ.normal ?_
 refine WC.seq ?_
 refine WC.region ?_
 refine WL.rd rfl rfl rfl (Rd.move rfl rfl) ?_
 refine WL.rd rfl rfl rfl (Rd.move rfl rfl) ?_
 refine WL.rd rfl rfl rfl (Rd.neg rfl rfl Z.W) ?_
 refine WL.op rfl ?_
 refine OpW.call rfl rfl Z.E Z.K rfl rfl rfl ?_
 refine rotl_spec hx hn ?_
 refine WL.rd rfl rfl rfl (Rd.assign rfl rfl) ?_
 refine WL.nil ?_
 refine thenQ.normal ?_
 refine WC.ret (Ret.one Tryz.results135 rfl ?_)
 exact hk
def sg0 (x : Nat) : Nat := rotr x 7 ^^^ rotr x 18 ^^^ x / 2 ^ 3
def sg1 (x : Nat) : Nat := rotr x 17 ^^^ rotr x 19 ^^^ x / 2 ^ 10
theorem sh_lt {x : Nat} (h : x < 2 ^ 32) (n : Nat) : x / 2 ^ n < 2 ^ 32 := Nat.lt_of_le_of_lt (Nat.div_le_self _ _) h
/-- Bytes of a block, from place p on, as a number. -/
def wordK (s : List UInt8) (p : Nat) : Nat → Nat
 | 0 => 0
 | k + 1 => wordK s p k * 256 + s[p + k]!.toNat
theorem wordK_lt (s : List UInt8) (p : Nat) : ∀ k, wordK s p k < 256 ^ k
 | 0 => by rw [wordK]; decide
 | k + 1 => by
   have h := wordK_lt s p k
   have hc := UInt8.toNat_lt s[p + k]!
   rw [wordK, Nat.pow_succ]; omega
def mixW (w : List Nat) (i : Nat) : Nat := ad (ad (ad w[i - 16]! w[i - 7]!) (sg0 w[i - 15]!)) (sg1 w[i - 2]!)
def sched (s : List UInt8) : Nat → List Nat
 | 0 => []
 | i + 1 => sched s i ++ [if i < 16 then wordK s (4 * i) 4 else mixW (sched s i) i]
theorem vw_one {l : List Nat} : ((l.map vw).all Value.oneCell') = true := by
 rw [List.all_eq_true]; intro x hx; obtain ⟨n, _, rfl⟩ := List.mem_map.1 hx; rfl
theorem sched_length (s : List UInt8) : ∀ i, (sched s i).length = i
 | 0 => rfl
 | i + 1 => by rw [sched, List.length_append, sched_length s i]; rfl
theorem sched_lt (s : List UInt8) : ∀ i, ∀ x ∈ sched s i, x < 2 ^ 32
 | 0, x, h => by cases h
 | i + 1, x, h => by
   rw [sched] at h
   rcases List.mem_append.1 h with h | h
   · exact sched_lt s i x h
   · simp only [List.mem_singleton] at h
     subst h
     split
     · exact Nat.lt_of_lt_of_le (wordK_lt s _ 4) (by decide)
     · exact ad_lt _ _
theorem sched_get_lt (s : List UInt8) {i j : Nat} (h : j < i) : (sched s i)[j]! < 2 ^ 32 := by
 rw [getElem!_pos _ _ (by rw [sched_length]; exact h)]; exact sched_lt s i _ (List.getElem_mem _)
/-- The cells of the words when i of them are there; n stands in place i. -/
def wrow (s : List UInt8) (i : Nat) : List Value := (sched s i).map vw ++ List.replicate (64 - i) (vw 0)
theorem wrow_set {s : List UInt8} {i n : Nat} (h : i < 64) : (wrow s i).set i (vw n) = (sched s i).map vw ++ vw n :: List.replicate (63 - i) (vw 0) := by
 rw [wrow, List.set_append_right _ _ (by rw [List.length_map, sched_length]; exact Nat.le_refl _), List.length_map, sched_length, Nat.sub_self, show 64 - i = (63 - i) + 1 from by omega, List.replicate_succ]; rfl
theorem wrow_done {s : List UInt8} {i n : Nat} (h : i < 64) (hn : n = if i < 16 then wordK s (4 * i) 4 else mixW (sched s i) i) : (sched s i).map vw ++ vw n :: List.replicate (63 - i) (vw 0) = wrow s (i + 1) := by
 rw [wrow, sched, List.map_append, ← hn, show 64 - (i + 1) = 63 - i from by omega, List.append_assoc]; rfl
theorem wrow_cons {s : List UInt8} {i : Nat} (h : i < 64) : wrow s i = (sched s i).map vw ++ vw (wordK s (4 * i) 0) :: List.replicate (63 - i) (vw 0) := by
 rw [wrow, show 64 - i = (63 - i) + 1 from by omega, List.replicate_succ]; rfl
theorem sched_cell (s : List UInt8) {i j : Nat} (h : j < i) : ((sched s i).map vw)[j]? = some (vw (sched s i)[j]!) := by
 rw [List.getElem?_map, get!_of_lt (by rw [sched_length]; exact h)]; rfl
theorem mid_get {α : Type} (x : List α) (y : α) (z : List α) {k : Nat} (h : x.length = k) : (x ++ y :: z)[k]? = some y := by subst h; rw [List.getElem?_append_right (Nat.le_refl _), Nat.sub_self]; rfl
theorem mid_set {α : Type} (x : List α) (y v : α) (z : List α) {k : Nat} (h : x.length = k) : (x ++ y :: z).set k v = x ++ v :: z := by subst h; rw [List.set_append_right _ _ (Nat.le_refl _), Nat.sub_self]; rfl
theorem or_byte {a : Nat} (ha : a < 256 ^ 3) (c : UInt8) : (a * 2 ^ 8 % 2 ^ 32) ||| c.toNat = a * 256 + c.toNat := by
 rw [Nat.mod_eq_of_lt Z.W, Nat.mul_comm a, ← Nat.two_pow_add_eq_or_of_lt (UInt8.toNat_lt c)]
set_option maxRecDepth 20000 in
set_option maxHeartbeats 4000000 in
theorem words_spec {R : List RO} {O : List Own} {POST : Value → List RO → List Own → Prop} {s : List UInt8} (hs : s.length = 64)
 (hk : POST (.agg ((sched s 64).map vw).toArray) R O) : Fun Tryz.prog 134 #[vs s] R O POST := by
 refine Fun.thin (post' := fun v R' O' => v = .agg ((sched s 64).map vw).toArray ∧ R' = R ∧ ∃ b, O' = rowC b 197 ((sched s 64).map vw) :: O) ?_ (by rintro v R' O' ⟨rfl, rfl, b, rfl⟩; exact ⟨_, O, hk, fun w h => h.drop⟩)
 refine Fun.enter (l := [_]) Tryz.func134 rfl Tryz.ntmps134 rfl (L0 := [(0, _)]) rfl ?_
 refine WC.seq ?_
 refine WC.region ?_
 refine WL.op rfl ?_
 refine OpW.alloc rfl I197 rfl Z.N rfl rfl ?_; intro b2
 refine WL.nil ?_
 refine thenQ.normal ?_
 refine WC.seq ?_
 refine WC.region ?_
 refine WL.op rfl ?_
 refine OpW.alloc rfl I197 rfl Z.N rfl rfl ?_; intro b3
 refine WL.nil ?_
 refine thenQ.normal ?_
 refine WC.seq ?_
 refine WC.seq ?_
 refine WC.region ?_
 refine WL.rd rfl rfl rfl (Rd.move rfl rfl) ?_
 refine WL.nil ?_
 refine thenQ.normal ?_
 refine WC.block ?_
 refine WC.pick [9, 0, 2, 3] Z.P ?_
 refine WC.loop1 1 (fun (i : Nat) => [(9, .int .i64 (i : Int))]) (fun (i : Nat) => rowC b3 197 (wrow s i) :: rowC b2 197 (List.replicate 64 (vw 0)) :: O) (fun (i : Nat) => i ≤ 16) (fun (i : Nat) => 16 - i) (0) Z.L ?hinv1 (by repeat (first | exact Sub.nil | refine Sub.cons rfl (by rfl) ?_)) (fun _ h => h) ?_
 case hinv1 =>
  exact Nat.zero_le _
 intro i
 rintro i1
 refine WC.seq ?_
 refine WC.region ?_
 refine WL.rd rfl rfl rfl (Rd.lss rfl rfl rfl) ?_
 refine WL.nil ?_
 refine thenQ.normal ?_
 refine WC.seq ?_
 refine WC.ite rfl (fun hc1 => ?_) (fun hc1 => ?_)
 ·
  refine WC.heap (fun w h => by rw [wrow_cons Z.W] at h; exact h) ?_
  refine WC.skip ?_
  refine thenQ.normal ?_
  refine WC.seq ?_
  refine WC.block ?_
  refine WC.seq ?_
  refine WC.region ?_
  refine WL.rd rfl rfl rfl (Rd.move rfl rfl) ?_
  refine WL.rd rfl rfl rfl (Rd.assign rfl rfl) ?_
  refine WL.nil ?_
  refine thenQ.normal ?_
  refine WC.seq ?_
  refine WC.region ?_
  refine WL.rd rfl rfl rfl (Rd.move rfl rfl) ?_
  refine WL.nil ?_
  refine thenQ.normal ?_
  refine WC.block ?_
  refine WC.pick [12, 0, 2, 3, 4, 9] Z.P ?_
  refine WC.loop1 1 (fun (k : Nat) => [(12, .int .i64 (k : Int))]) (fun (k : Nat) => rowC b3 197 ((sched s i).map vw ++ vw (wordK s (4 * i) k) :: List.replicate (63 - i) (vw 0)) :: rowC b2 197 (List.replicate 64 (vw 0)) :: O) (fun (k : Nat) => k ≤ 4) (fun (k : Nat) => 4 - k) (0) Z.L ?hinv2 (by repeat (first | exact Sub.nil | refine Sub.cons rfl (by rfl) ?_)) (fun _ h => h) ?_
  case hinv2 =>
   exact Nat.zero_le _
  intro k
  rintro k1
  refine WC.seq ?_
  refine WC.region ?_
  refine WL.rd rfl rfl rfl (Rd.lss rfl rfl rfl) ?_
  refine WL.nil ?_
  refine thenQ.normal ?_
  refine WC.seq ?_
  refine WC.ite rfl (fun hc2 => ?_) (fun hc2 => ?_)
  ·
   have hw := wordK_lt s (4 * i) k
   have hw3 : wordK s (4 * i) k < 256 ^ 3 := Nat.lt_of_lt_of_le hw (Nat.pow_le_pow_right (by decide) Z.W)
   have hml : ((sched s i).map vw).length = i := by rw [List.length_map, sched_length]
   have hcl : ((sched s i).map vw ++ vw (wordK s (4 * i) k) :: List.replicate (63 - i) (vw 0)).length = 64 := by rw [List.length_append, hml, List.length_cons, List.length_replicate]; omega
   have hc : s[4 * i + k]!.toNat < 2 ^ 32 := Nat.lt_trans (UInt8.toNat_lt _) (by decide)
   refine WC.skip ?_
   refine thenQ.normal ?_
   refine WC.seq ?_
   refine WC.block ?_
   refine WC.seq ?_
   refine WC.region ?_
   refine WL.rd rfl rfl rfl (Rd.move rfl rfl) ?_
   refine WL.rd rfl rfl rfl (Rd.assign rfl rfl) ?_
   refine WL.nil ?_
   refine thenQ.normal ?_
   refine WC.tail 14 mixed Z.K ?_
   refine WS.rd rfl rfl rfl (Rd.move rfl rfl) ?_
   refine WS.rd rfl rfl rfl (Rd.move rfl rfl) ?_
   refine WS.rd rfl rfl rfl ((by exact Rd.idxArr1 (k := i) rfl A197 rfl rfl Z.W Z.W)) ?_
   refine WS.rd rfl rfl rfl (Rd.row1 rfl C134 rfl Z.M (mid_get _ _ _ hml)) ?_
   refine WS.rd rfl rfl rfl (Rd.shl32 (a := wordK s (4 * i) k) (m := 8) rfl rfl rfl rfl rfl (by decide)) ?_
   refine WS.rd rfl rfl rfl (Rd.move rfl rfl) ?_
   refine WS.rd rfl rfl rfl (Rd.move rfl rfl) ?_
   refine WS.rd rfl rfl rfl (Rd.mul rfl rfl rfl Z.W) ?_
   refine WS.rd rfl rfl rfl (Rd.move rfl rfl) ?_
   refine WS.rd rfl rfl rfl (Rd.add rfl rfl rfl Z.W) ?_
   refine WS.rd rfl rfl rfl (Rd.sidx (k := 4 * i + k) rfl Tryz.underlying9 rfl rfl Z.W (by exact get!_of_lt Z.W)) ?_
   refine WS.rd rfl rfl rfl (Rd.conv rfl rfl Tryz.underlying134 (wrap_natU rfl hc) (hS := Tryz.underlying5)) ?_
   refine WS.rd rfl rfl rfl (Rd.orU rfl rfl rfl rfl rfl rfl (Nat.mod_lt _ (by decide)) hc) ?_
   refine WS.say 27 (u := vw (wordK s (4 * i) (k + 1))) rfl (by rw [or_byte hw3]; rfl) ?_
   refine WS.rd rfl rfl rfl ((by exact Rd.idxArr1 (k := i) rfl A197 rfl rfl Z.W Z.W)) ?_
   refine WS.switch ?_
   refine WL.op rfl ?_
   refine OpW.store1 rfl Z134 rfl rfl (by exact ⟨rfl, rfl⟩) Z.T Z.W rfl ?_
   refine WL.heap (fun w h => by rw [mid_set _ _ _ _ hml] at h; exact h) ?_
   refine WL.nil ?_
   refine blockQ.normal ?_
   refine thenQ.normal ?_
   refine WC.region ?_
   refine WL.rd rfl rfl rfl (Rd.add rfl rfl rfl Z.W) ?_
   refine WL.rd rfl rfl rfl (Rd.move rfl rfl) ?_
   refine WL.nil ?_
   exact loopQ1.mk (k + 1) Z.W Z.W (by repeat (first | exact Sub.nil | refine Sub.cons rfl (by rfl) ?_)) Z.F
  ·
   refine WC.exit ?_
   refine thenQ.exit ?_
   refine loopQ1.exit ?_
   refine blockQ.exit ?_
   refine blockQ.normal ?_
   refine thenQ.normal ?_
   refine WC.region ?_
   refine WL.rd rfl rfl rfl (Rd.add rfl rfl rfl Z.W) ?_
   refine WL.rd rfl rfl rfl (Rd.move rfl rfl) ?_
   refine WL.nil ?_
   obtain rfl : k = 4 := by omega
   exact loopQ1.mk (i + 1) Z.W Z.W (by repeat (first | exact Sub.nil | refine Sub.cons rfl (by rfl) ?_)) (fun w h => by rw [← wrow_done (n := wordK s (4 * i) 4) Z.W (by rw [if_pos Z.W])]; exact Z.Fw h)
 ·
  refine WC.exit ?_
  refine thenQ.exit ?_
  refine loopQ1.exit ?_
  refine blockQ.exit ?_
  refine thenQ.normal ?_
  refine WC.seq ?_
  refine WC.seq ?_
  refine WC.region ?_
  refine WL.rd rfl rfl rfl (Rd.assign rfl rfl) ?_
  refine WL.nil ?_
  refine thenQ.normal ?_
  refine WC.block ?_
  refine WC.pick [6, 2, 3] Z.P ?_
  refine WC.loop1 1 (fun (j : Nat) => [(6, .int .i64 (j : Int))]) (fun (j : Nat) => rowC b3 197 (wrow s j) :: rowC b2 197 (List.replicate 64 (vw 0)) :: O) (fun (j : Nat) => 16 ≤ j ∧ j ≤ 64) (fun (j : Nat) => 64 - j) (16) Z.L ?hinv3 (by repeat (first | exact Sub.nil | refine Sub.cons rfl (by rfl) ?_)) (fun w h => by
  obtain rfl : i = 16 := by omega
  exact Z.Fw h) ?_
  case hinv3 =>
   exact ⟨Nat.le_refl _, by omega⟩
  intro j
  rintro ⟨j1, j2⟩
  refine WC.seq ?_
  refine WC.seq ?_
  refine WC.region ?_
  refine WL.rd rfl rfl rfl (Rd.move rfl rfl) ?_
  refine WL.rd rfl rfl rfl (Rd.lss rfl rfl rfl) ?_
  refine WL.nil ?_
  refine thenQ.normal ?_
  refine WC.ite rfl (fun hc3 => ?_) (fun hc3 => ?_)
  ·
   have g15 := sched_get_lt s (i := j) (j := j - 15) Z.W
   have g2 := sched_get_lt s (i := j) (j := j - 2) Z.W
   have hml : ((sched s j).map vw).length = j := by rw [List.length_map, sched_length]
   have hwl : (wrow s j).length = 64 := by rw [wrow, List.length_append, hml, List.length_replicate]; omega
   refine WC.skip ?_
   refine thenQ.normal ?_
   refine WC.seq ?_
   refine WC.block ?_
   refine WC.seq ?_
   refine WC.still mixed Z.K ?_
   refine WA.rd rfl rfl rfl (Rd.move rfl rfl) ?_
   refine WA.rd rfl rfl rfl (Rd.sub rfl rfl rfl Z.W) ?_
   refine WA.rd rfl rfl rfl ((by exact Rd.idxArr1 (k := j - 15) rfl A197 rfl rfl Z.W Z.W)) ?_
   refine WA.rd rfl rfl rfl (Rd.row1 rfl C134 rfl Z.M (pref_app _ _ (sched_cell s Z.W))) ?_
   refine WA.rd rfl rfl rfl (Rd.move rfl rfl) ?_
   refine WA.rd rfl rfl rfl (Rd.sub rfl rfl rfl Z.W) ?_
   refine WA.rd rfl rfl rfl ((by exact Rd.idxArr1 (k := j - 2) rfl A197 rfl rfl Z.W Z.W)) ?_
   refine WA.rd rfl rfl rfl (Rd.row1 rfl C134 rfl Z.M (pref_app _ _ (sched_cell s Z.W))) ?_
   refine WA.rd rfl rfl rfl (Rd.assign rfl rfl) ?_
   refine WA.rd rfl rfl rfl (Rd.assign rfl rfl) ?_
   refine WA.nil ?_
   refine thenQ.normal ?_
   refine WC.drawn (prefC b3 ((sched s j).map vw) :: rowC b2 197 (List.replicate 64 (vw 0)) :: O) 30 rfl mixed ?_
   refine WD.take 0 rfl Z.K (by exact Held.see Z.S Z.T (row_pref pref_app) Z.O) rfl rfl rfl (Rd.move rfl rfl) ?_
   refine WD.take 1 rfl Z.K (by exact Held.see Z.S Z.T (row_pref pref_app) Z.O) rfl rfl rfl (Rd.move rfl rfl) ?_
   refine WD.take 2 rfl Z.K (by exact Held.see Z.S Z.T (row_pref pref_app) Z.O) rfl rfl rfl (Rd.sub rfl rfl rfl Z.W) ?_
   refine WD.take 3 rfl Z.K (by exact Held.see Z.S Z.T (row_pref pref_app) Z.O) rfl rfl rfl ((by exact Rd.idxArr1 (k := j - 16) rfl A197 rfl rfl Z.W Z.W)) ?_
   refine WD.take 4 rfl Z.K (by exact Held.see Z.S Z.T (row_pref pref_app) Z.O) rfl rfl rfl (Rd.pref rfl C134 rfl Z.M (sched_cell s Z.W)) ?_
   refine WD.take 5 rfl Z.K (by exact Held.see Z.S Z.T (row_pref pref_app) Z.O) rfl rfl rfl (Rd.move rfl rfl) ?_
   refine WD.take 6 rfl Z.K (by exact Held.see Z.S Z.T (row_pref pref_app) Z.O) rfl rfl rfl (Rd.sub rfl rfl rfl Z.W) ?_
   refine WD.take 7 rfl Z.K (by exact Held.see Z.S Z.T (row_pref pref_app) Z.O) rfl rfl rfl ((by exact Rd.idxArr1 (k := j - 7) rfl A197 rfl rfl Z.W Z.W)) ?_
   refine WD.take 8 rfl Z.K (by exact Held.see Z.S Z.T (row_pref pref_app) Z.O) rfl rfl rfl (Rd.pref rfl C134 rfl Z.M (sched_cell s Z.W)) ?_
   refine WD.take 9 rfl Z.K (by exact Held.see Z.S Z.T (row_pref pref_app) Z.O) rfl rfl rfl (Rd.add32 rfl rfl rfl) ?_
   refine WD.take 10 rfl Z.K (by exact Held.see Z.S Z.T (row_pref pref_app) Z.O) rfl rfl rfl (Rd.move rfl rfl) ?_
   refine WD.take 12 rfl Z.K (by exact Held.see Z.S Z.T (row_pref pref_app) Z.O) rfl rfl rfl (Rd.move rfl rfl) ?_
   refine WD.take 15 rfl Z.K (by exact Held.see Z.S Z.T (row_pref pref_app) Z.O) rfl rfl rfl (Rd.move rfl rfl) ?_
   refine WD.take 16 rfl Z.K (by exact Held.see Z.S Z.T (row_pref pref_app) Z.O) rfl rfl rfl (Rd.shrN (a := (sched s j)[j - 15]!) (n := 3) rfl rfl rfl rfl rfl (by decide)) ?_
   refine WD.take 19 rfl Z.K (by exact Held.see Z.S Z.T (row_pref pref_app) Z.O) rfl rfl rfl (Rd.move rfl rfl) ?_
   refine WD.take 21 rfl Z.K (by exact Held.see Z.S Z.T (row_pref pref_app) Z.O) rfl rfl rfl (Rd.move rfl rfl) ?_
   refine WD.take 24 rfl Z.K (by exact Held.see Z.S Z.T (row_pref pref_app) Z.O) rfl rfl rfl (Rd.move rfl rfl) ?_
   refine WD.take 25 rfl Z.K (by exact Held.see Z.S Z.T (row_pref pref_app) Z.O) rfl rfl rfl (Rd.shrN (a := (sched s j)[j - 2]!) (n := 10) rfl rfl rfl rfl rfl (by decide)) ?_
   refine WD.one 11 rfl Z.K rfl ?_
   refine OpW.call rfl rfl Z.E Z.K rfl rfl rfl ?_
   refine right_spec g15 (by decide) ?_
   refine ⟨(by exact Held.see Z.S Z.T (row_pref pref_app) Z.O), ?_⟩
   refine WD.one 13 rfl Z.K rfl ?_
   refine OpW.call rfl rfl Z.E Z.K rfl rfl rfl ?_
   refine right_spec g15 (by decide) ?_
   refine ⟨(by exact Held.see Z.S Z.T (row_pref pref_app) Z.O), ?_⟩
   refine WD.take 14 rfl Z.K (by exact Held.see Z.S Z.T (row_pref pref_app) Z.O) rfl rfl rfl (Rd.xorU rfl rfl rfl rfl rfl rfl (rotr_lt g15 _) (rotr_lt g15 _)) ?_
   refine WD.take 17 rfl Z.K (by exact Held.see Z.S Z.T (row_pref pref_app) Z.O) rfl rfl rfl (Rd.xorU rfl rfl rfl rfl rfl rfl (Nat.xor_lt_two_pow (rotr_lt g15 _) (rotr_lt g15 _)) (sh_lt g15 _)) ?_
   refine WD.take 18 rfl Z.K (by exact Held.see Z.S Z.T (row_pref pref_app) Z.O) rfl rfl rfl (Rd.add32 rfl rfl rfl) ?_
   refine WD.one 20 rfl Z.K rfl ?_
   refine OpW.call rfl rfl Z.E Z.K rfl rfl rfl ?_
   refine right_spec g2 (by decide) ?_
   refine ⟨(by exact Held.see Z.S Z.T (row_pref pref_app) Z.O), ?_⟩
   refine WD.one 22 rfl Z.K rfl ?_
   refine OpW.call rfl rfl Z.E Z.K rfl rfl rfl ?_
   refine right_spec g2 (by decide) ?_
   refine ⟨(by exact Held.see Z.S Z.T (row_pref pref_app) Z.O), ?_⟩
   refine WD.take 23 rfl Z.K (by exact Held.see Z.S Z.T (row_pref pref_app) Z.O) rfl rfl rfl (Rd.xorU rfl rfl rfl rfl rfl rfl (rotr_lt g2 _) (rotr_lt g2 _)) ?_
   refine WD.take 26 rfl Z.K (by exact Held.see Z.S Z.T (row_pref pref_app) Z.O) rfl rfl rfl (Rd.xorU rfl rfl rfl rfl rfl rfl (Nat.xor_lt_two_pow (rotr_lt g2 _) (rotr_lt g2 _)) (sh_lt g2 _)) ?_
   refine WD.take 27 rfl Z.K (by exact Held.see Z.S Z.T (row_pref pref_app) Z.O) rfl rfl rfl (Rd.add32 rfl rfl rfl) ?_
   refine WD.take 28 rfl Z.K (by exact Held.see Z.S Z.T (row_pref pref_app) Z.O) rfl rfl rfl ((by exact Rd.idxArr1 (k := j) rfl A197 rfl rfl Z.W Z.W)) ?_
   refine WD.one 29 rfl Z.K rfl ?_
   refine OpW.store1 rfl Z134 rfl rfl (by exact ⟨rfl, rfl⟩) Z.T Z.W rfl ?_
   refine ⟨(by exact Held.see Z.S Z.T (row_pref (pref_set Z.W)) Z.O), ?_⟩
   refine WD.done Z.K ?_
   refine blockQ.normal ?_
   refine thenQ.normal ?_
   refine WC.region ?_
   refine WL.rd rfl rfl rfl (Rd.move rfl rfl) ?_
   refine WL.rd rfl rfl rfl (Rd.add rfl rfl rfl Z.W) ?_
   refine WL.rd rfl rfl rfl (Rd.assign rfl rfl) ?_
   refine WL.nil ?_
   exact loopQ1.mk (j + 1) ⟨by omega, by omega⟩ Z.W (by repeat (first | exact Sub.nil | refine Sub.cons rfl (by rfl) ?_)) (fun w h => by
   rw [wrow_set Z.W, wrow_done Z.W (by rw [if_neg Z.W]; rfl)] at h
   exact Z.Fw h)
  ·
   obtain rfl : j = 64 := by omega
   have hwz : wrow s 64 = (sched s 64).map vw := by rw [wrow, Nat.sub_self, List.replicate_zero, List.append_nil]
   have hwl : ((sched s 64).map vw).length = 64 := by rw [List.length_map, sched_length]
   refine WC.heap (fun w h => by rw [hwz] at h; exact h) ?_
   refine WC.exit ?_
   refine thenQ.exit ?_
   refine loopQ1.exit ?_
   refine blockQ.exit ?_
   refine thenQ.normal ?_
   refine WC.seq ?_
   refine WC.region ?_
   refine WL.rd rfl rfl rfl (Rd.rowW rfl G197 rfl Z.M hwl) ?_
   refine WL.op rfl ?_
   refine OpW.storeW rfl G197 rfl rfl Z.T hwl (by simp) vw_one rfl ?_
   refine WL.nil ?_
   refine thenQ.normal ?_
   refine WC.heap (R' := R) (O' := rowC b2 197 ((sched s 64).map vw) :: O) Z.F ?_
   refine WC.ret (Ret.cellRow Tryz.results134 rfl Z.M G197 hwl ?_)
   exact ⟨rfl, rfl, _, rfl⟩
end Go.Proofs.YtckokhdjeifomaaGreatDoor
namespace Go.Proofs.YtckokhdjeifomaaGreatDoor
open Go Go.SL
structure St8 where
 a : Nat
 b : Nat
 c : Nat
 d : Nat
 e : Nat
 f : Nat
 g : Nat
 h : Nat
def St8.cs (v : St8) : List Value := [vw v.a, vw v.b, vw v.c, vw v.d, vw v.e, vw v.f, vw v.g, vw v.h]
structure St8.Ok (v : St8) : Prop where
 a : v.a < 2 ^ 32
 b : v.b < 2 ^ 32
 c : v.c < 2 ^ 32
 d : v.d < 2 ^ 32
 e : v.e < 2 ^ 32
 f : v.f < 2 ^ 32
 g : v.g < 2 ^ 32
 h : v.h < 2 ^ 32
def first8 : St8 := ⟨1779033703, 3144134277, 1013904242, 2773480762, 1359893119, 2600822924, 528734635, 1541459225⟩
theorem first8_ok : first8.Ok := ⟨by decide, by decide, by decide, by decide, by decide, by decide, by decide, by decide⟩
def bg1 (e : Nat) : Nat := rotr e 6 ^^^ rotr e 11 ^^^ rotr e 25
def bg0 (a : Nat) : Nat := rotr a 2 ^^^ rotr a 13 ^^^ rotr a 22
def chE (e f g : Nat) : Nat := (e &&& f) ^^^ ((4294967295 - e) &&& g)
def majE (a b c : Nat) : Nat := (a &&& b) ^^^ (a &&& c) ^^^ (b &&& c)
def tE (v : St8) (k w : Nat) : Nat := ad (ad (ad (ad v.h (bg1 v.e)) (chE v.e v.f v.g)) k) w
def uE (v : St8) : Nat := ad (bg0 v.a) (majE v.a v.b v.c)
def St8.round (v : St8) (k w : Nat) : St8 := ⟨ad (tE v k w) (uE v), v.a, v.b, v.c, ad v.d (tE v k w), v.e, v.f, v.g⟩
theorem St8.Ok.round {v : St8} (h : v.Ok) (k w : Nat) : (v.round k w).Ok := ⟨ad_lt _ _, h.a, h.b, h.c, ad_lt _ _, h.e, h.f, h.g⟩
def St8.add (v x : St8) : St8 := ⟨ad v.a x.a, ad v.b x.b, ad v.c x.c, ad v.d x.d, ad v.e x.e, ad v.f x.f, ad v.g x.g, ad v.h x.h⟩
theorem St8.add_ok (v x : St8) : (v.add x).Ok := ⟨ad_lt _ _, ad_lt _ _, ad_lt _ _, ad_lt _ _, ad_lt _ _, ad_lt _ _, ad_lt _ _, ad_lt _ _⟩
def rootsN : List Nat := [
 1116352408, 1899447441, 3049323471, 3921009573, 961987163, 1508970993, 2453635748, 2870763221,
 3624381080, 310598401, 607225278, 1426881987, 1925078388, 2162078206, 2614888103, 3248222580,
 3835390401, 4022224774, 264347078, 604807628, 770255983, 1249150122, 1555081692, 1996064986,
 2554220882, 2821834349, 2952996808, 3210313671, 3336571891, 3584528711, 113926993, 338241895,
 666307205, 773529912, 1294757372, 1396182291, 1695183700, 1986661051, 2177026350, 2456956037,
 2730485921, 2820302411, 3259730800, 3345764771, 3516065817, 3600352804, 4094571909, 275423344,
 430227734, 506948616, 659060556, 883997877, 958139571, 1322822218, 1537002063, 1747873779,
 1955562222, 2024104815, 2227730452, 2361852424, 2428436474, 2756734187, 3204031479, 3329325298]
def rootsZ : List Int := rootsN.map fun n : Nat => (n : Int)
def rootsV : List Value := rootsZ.map fun z => .int .u32 z
abbrev rootsR : RO := garr 1 rootsV
theorem roots_get {k : Nat} (h : k < 64) : rootsV[k]? = some (vw rootsN[k]!) := by
 have hl : rootsN.length = 64 := by decide
 rw [rootsV, rootsZ, List.map_map, List.getElem?_map, get!_of_lt (by rw [hl]; exact h)]; rfl
def rounds (ws : List Nat) (v : St8) : Nat → St8
 | 0 => v
 | i + 1 => (rounds ws v i).round rootsN[i]! ws[i]!
theorem rounds_ok {ws : List Nat} {v : St8} (h : v.Ok) : ∀ i, (rounds ws v i).Ok
 | 0 => h
 | i + 1 => (rounds_ok h i).round _ _
/-- The state behind a block. -/
def nextS (v : St8) (s : List UInt8) : St8 := v.add (rounds (sched s 64) v 64)
theorem nextS_ok (v : St8) (s : List UInt8) : (nextS v s).Ok := St8.add_ok _ _
theorem not_lt (e : Nat) : 4294967295 - e < 2 ^ 32 := Nat.lt_of_le_of_lt (Nat.sub_le _ _) (by decide)
theorem and_lt {a : Nat} (h : a < 2 ^ 32) (b : Nat) : a &&& b < 2 ^ 32 := Nat.lt_of_le_of_lt Nat.and_le_left h
theorem _root_.Go.SL.Rd.not32 {P : Program} {o : Oper} {L : Env} {R : List RO} {O : List Own} {t : TypeId} {x : Operand} {a : Nat} (ho : o.op = .unOp .xor t x) (hx : ev L x = some (vw a)) (ha : a < 2 ^ 32) : Rd P o L R O (vw (4294967295 - a)) :=
 Rd.bnotU (k := .u32) ho hx rfl rfl ha rfl
/-- The cells of a state of which the first i are added up. -/
def mixC (v x : St8) (i : Nat) : List Value := (v.add x).cs.take i ++ v.cs.drop i
theorem cs_length (v : St8) : v.cs.length = 8 := rfl
theorem mixC_step (v x : St8) : ∀ i, i < 8 → ∃ p q, v.cs[i]? = some (vw p) ∧ x.cs[i]? = some (vw q) ∧ (mixC v x i)[i]? = some (vw p) ∧ (mixC v x i).set i (vw (ad p q)) = mixC v x (i + 1)
 | 0, _ => ⟨_, _, rfl, rfl, rfl, rfl⟩
 | 1, _ => ⟨_, _, rfl, rfl, rfl, rfl⟩
 | 2, _ => ⟨_, _, rfl, rfl, rfl, rfl⟩
 | 3, _ => ⟨_, _, rfl, rfl, rfl, rfl⟩
 | 4, _ => ⟨_, _, rfl, rfl, rfl, rfl⟩
 | 5, _ => ⟨_, _, rfl, rfl, rfl, rfl⟩
 | 6, _ => ⟨_, _, rfl, rfl, rfl, rfl⟩
 | 7, _ => ⟨_, _, rfl, rfl, rfl, rfl⟩
 | i + 8, h => by omega
set_option maxRecDepth 20000 in
set_option maxHeartbeats 4000000 in
theorem stateNext_spec {R : List RO} {O : List Own} {POST : Value → List RO → List Own → Prop} {v : St8} {s : List UInt8} (hr : rootsR ∈ R) (hv : v.Ok) (hs : s.length = 64)
 (hk : POST (.agg (nextS v s).cs.toArray) R O) : Fun Tryz.prog 117 #[.agg v.cs.toArray, vs s] R O POST := by
 refine Fun.thin (post' := fun r R' O' => r = .agg (nextS v s).cs.toArray ∧ R' = R ∧ ∃ b, O' = rowC b 163 (nextS v s).cs :: O) ?_ (by rintro r R' O' ⟨rfl, rfl, b, rfl⟩; exact ⟨_, O, hk, fun w h => h.drop⟩)
 refine Fun.enter (l := [_, _]) Tryz.func117 rfl Tryz.ntmps117 rfl (L0 := [(0, _), (1, _)]) rfl ?_
 refine WC.seq ?_
 refine WC.region ?_
 refine WL.op rfl ?_
 refine OpW.box rfl rfl Z.N rfl rfl ?_; intro b2
 refine WL.op rfl ?_
 refine OpW.alloc rfl I163 rfl Z.N rfl rfl ?_; intro b4
 refine WL.nil ?_
 refine thenQ.normal ?_
 refine WC.seq ?_
 refine WC.region ?_
 refine WL.rd rfl rfl rfl ((by exact Rd.rowS rfl G163 rfl Z.M Z.N rfl)) ?_
 refine WL.op rfl ?_
 refine OpW.alloc rfl I163 rfl Z.N rfl rfl ?_; intro b5
 refine WL.op rfl ?_
 refine OpW.storeS rfl G163 rfl rfl Z.N Z.T rfl rfl Z.N rfl ?_
 refine WL.nil ?_
 refine thenQ.normal ?_
 refine WC.seq ?_
 refine WC.seq ?_
 refine WC.region ?_
 refine WL.rd rfl rfl rfl (Rd.move rfl rfl) ?_
 refine WL.op rfl ?_
 refine OpW.call rfl rfl Z.E Z.K rfl rfl rfl ?_
 refine words_spec hs ?_
 refine WL.rd rfl rfl rfl (Rd.move rfl rfl) ?_
 refine WL.nil ?_
 refine thenQ.normal ?_
 refine WC.block ?_
 refine WC.pick [14, 2, 4, 5, 13] Z.P ?_
 refine WC.loop1 1 (fun (i : Nat) => [(14, .int .i64 (i : Int))]) (fun (i : Nat) => rowC b5 163 (rounds (sched s 64) v i).cs :: rowC b4 163 (List.replicate 8 (vw 0)) :: rowC b2 163 v.cs :: O) (fun (i : Nat) => i ≤ 64) (fun (i : Nat) => 64 - i) (0) Z.L ?hinv1 (by repeat (first | exact Sub.nil | refine Sub.cons rfl (by rfl) ?_)) (fun _ h => h) ?_
 case hinv1 =>
  exact Nat.zero_le _
 intro i
 rintro i1
 obtain ⟨x, hx⟩ : ∃ x, x = rounds (sched s 64) v i := ⟨_, rfl⟩
 have hxo := rounds_ok (ws := sched s 64) hv i
 rw [← hx] at hxo ⊢
 refine WC.seq ?_
 refine WC.region ?_
 refine WL.rd rfl rfl rfl (Rd.lss rfl rfl rfl) ?_
 refine WL.nil ?_
 refine thenQ.normal ?_
 refine WC.seq ?_
 refine WC.ite rfl (fun hc1 => ?_) (fun hc1 => ?_)
 ·
  have hwl := sched_get_lt s (i := 64) (j := i) Z.W
  have hst : rounds (sched s 64) v (i + 1) = x.round rootsN[i]! (sched s 64)[i]! := by rw [rounds, ← hx]
  refine WC.skip ?_
  refine thenQ.normal ?_
  refine WC.seq ?_
  refine WC.block ?_
  refine WC.seq ?_
  refine WC.region ?_
  refine WL.rd rfl rfl rfl (Rd.move rfl rfl) ?_
  refine WL.rd rfl rfl rfl (Rd.idxAgg (k := i) rfl A197 C134 rfl rfl Z.W Z.W (sched_cell s Z.W)) ?_
  refine WL.rd rfl rfl rfl (Rd.assign rfl rfl) ?_
  refine WL.rd rfl rfl rfl (Rd.assign rfl rfl) ?_
  refine WL.nil ?_
  refine thenQ.normal ?_
  refine WC.pick [2, 4, 5, 6, 7, 13, 14] Z.P ?_
  refine WC.val 8 (vw (tE x rootsN[i]! (sched s 64)[i]!)) ?_ ?_
  ·
   refine WC.drawnA 34 rfl mixed ?_
   refine WD.take 0 rfl Z.K Held.all rfl rfl rfl ((by exact Rd.idxArr1 (k := 7) rfl A163 rfl rfl rfl Z.W)) ?_
   refine WD.take 1 rfl Z.K Held.all rfl rfl rfl ((by exact Rd.row1 rfl C134 rfl Z.M (by rfl))) ?_
   refine WD.take 2 rfl Z.K Held.all rfl rfl rfl ((by exact Rd.idxArr1 (k := 4) rfl A163 rfl rfl rfl Z.W)) ?_
   refine WD.take 3 rfl Z.K Held.all rfl rfl rfl ((by exact Rd.row1 rfl C134 rfl Z.M (by rfl))) ?_
   refine WD.take 5 rfl Z.K Held.all rfl rfl rfl ((by exact Rd.idxArr1 (k := 4) rfl A163 rfl rfl rfl Z.W)) ?_
   refine WD.take 6 rfl Z.K Held.all rfl rfl rfl ((by exact Rd.row1 rfl C134 rfl Z.M (by rfl))) ?_
   refine WD.take 9 rfl Z.K Held.all rfl rfl rfl ((by exact Rd.idxArr1 (k := 4) rfl A163 rfl rfl rfl Z.W)) ?_
   refine WD.take 10 rfl Z.K Held.all rfl rfl rfl ((by exact Rd.row1 rfl C134 rfl Z.M (by rfl))) ?_
   refine WD.take 14 rfl Z.K Held.all rfl rfl rfl ((by exact Rd.idxArr1 (k := 4) rfl A163 rfl rfl rfl Z.W)) ?_
   refine WD.take 15 rfl Z.K Held.all rfl rfl rfl ((by exact Rd.row1 rfl C134 rfl Z.M (by rfl))) ?_
   refine WD.take 16 rfl Z.K Held.all rfl rfl rfl ((by exact Rd.idxArr1 (k := 5) rfl A163 rfl rfl rfl Z.W)) ?_
   refine WD.take 17 rfl Z.K Held.all rfl rfl rfl ((by exact Rd.row1 rfl C134 rfl Z.M (by rfl))) ?_
   refine WD.take 18 rfl Z.K Held.all rfl rfl rfl (Rd.andU rfl rfl rfl rfl rfl rfl hxo.e hxo.f) ?_
   refine WD.take 19 rfl Z.K Held.all rfl rfl rfl ((by exact Rd.idxArr1 (k := 4) rfl A163 rfl rfl rfl Z.W)) ?_
   refine WD.take 20 rfl Z.K Held.all rfl rfl rfl ((by exact Rd.row1 rfl C134 rfl Z.M (by rfl))) ?_
   refine WD.take 21 rfl Z.K Held.all rfl rfl rfl (Rd.not32 rfl rfl hxo.e) ?_
   refine WD.take 22 rfl Z.K Held.all rfl rfl rfl ((by exact Rd.idxArr1 (k := 6) rfl A163 rfl rfl rfl Z.W)) ?_
   refine WD.take 23 rfl Z.K Held.all rfl rfl rfl ((by exact Rd.row1 rfl C134 rfl Z.M (by rfl))) ?_
   refine WD.take 24 rfl Z.K Held.all rfl rfl rfl (Rd.andU rfl rfl rfl rfl rfl rfl (not_lt _) hxo.g) ?_
   refine WD.take 25 rfl Z.K Held.all rfl rfl rfl (Rd.xorU rfl rfl rfl rfl rfl rfl (and_lt hxo.e _) (and_lt (not_lt _) _)) ?_
   refine WD.take 27 rfl Z.K Held.all rfl rfl rfl (Rd.move rfl rfl) ?_
   refine WD.take 28 rfl Z.K Held.all rfl rfl rfl ((by exact Rd.idxArr1 (k := i) rfl A197 rfl rfl Z.W Z.W)) ?_
   refine WD.take 29 rfl Z.K Held.all rfl rfl rfl (Rd.getGl rfl C134 rfl hr (roots_get Z.W)) ?_
   refine WD.take 31 rfl Z.K Held.all rfl rfl rfl (Rd.move rfl rfl) ?_
   refine WD.one 4 rfl Z.K rfl ?_
   refine OpW.call rfl rfl Z.E Z.K rfl rfl rfl ?_
   refine right_spec hxo.e (by decide) ?_
   refine ⟨Z.H, ?_⟩
   refine WD.one 7 rfl Z.K rfl ?_
   refine OpW.call rfl rfl Z.E Z.K rfl rfl rfl ?_
   refine right_spec hxo.e (by decide) ?_
   refine ⟨Z.H, ?_⟩
   refine WD.take 8 rfl Z.K Z.H rfl rfl rfl (Rd.xorU rfl rfl rfl rfl rfl rfl (rotr_lt hxo.e _) (rotr_lt hxo.e _)) ?_
   refine WD.one 11 rfl Z.K rfl ?_
   refine OpW.call rfl rfl Z.E Z.K rfl rfl rfl ?_
   refine right_spec hxo.e (by decide) ?_
   refine ⟨Z.H, ?_⟩
   refine WD.take 12 rfl Z.K Z.H rfl rfl rfl (Rd.xorU rfl rfl rfl rfl rfl rfl (Nat.xor_lt_two_pow (rotr_lt hxo.e _) (rotr_lt hxo.e _)) (rotr_lt hxo.e _)) ?_
   refine WD.take 13 rfl Z.K Z.H rfl rfl rfl (Rd.add32 rfl rfl rfl) ?_
   refine WD.take 26 rfl Z.K Z.H rfl rfl rfl (Rd.add32 rfl rfl rfl) ?_
   refine WD.take 30 rfl Z.K Z.H rfl rfl rfl (Rd.add32 rfl rfl rfl) ?_
   refine WD.take 32 rfl Z.K Z.H rfl rfl rfl (Rd.add32 rfl rfl rfl) ?_
   refine WD.take 33 rfl Z.K Z.H rfl rfl rfl (Rd.assign rfl rfl) ?_
   refine WD.done Z.K ?_
   exact ⟨by repeat (first | exact Sub.nil | refine Sub.cons rfl (by rfl) ?_), by exact (fun _ h => h.thin (SubL.mem Z.S))⟩
  ·
   refine WC.pick [2, 4, 5, 8, 13, 14] Z.P ?_
   refine WC.val 9 (vw (uE x)) ?_ ?_
   ·
    refine WC.drawnA 30 rfl mixed ?_
    refine WD.take 0 rfl Z.K Held.all rfl rfl rfl ((by exact Rd.idxArr1 (k := 0) rfl A163 rfl rfl rfl Z.W)) ?_
    refine WD.take 1 rfl Z.K Held.all rfl rfl rfl ((by exact Rd.row1 rfl C134 rfl Z.M (by rfl))) ?_
    refine WD.take 3 rfl Z.K Held.all rfl rfl rfl ((by exact Rd.idxArr1 (k := 0) rfl A163 rfl rfl rfl Z.W)) ?_
    refine WD.take 4 rfl Z.K Held.all rfl rfl rfl ((by exact Rd.row1 rfl C134 rfl Z.M (by rfl))) ?_
    refine WD.take 7 rfl Z.K Held.all rfl rfl rfl ((by exact Rd.idxArr1 (k := 0) rfl A163 rfl rfl rfl Z.W)) ?_
    refine WD.take 8 rfl Z.K Held.all rfl rfl rfl ((by exact Rd.row1 rfl C134 rfl Z.M (by rfl))) ?_
    refine WD.take 11 rfl Z.K Held.all rfl rfl rfl ((by exact Rd.idxArr1 (k := 0) rfl A163 rfl rfl rfl Z.W)) ?_
    refine WD.take 12 rfl Z.K Held.all rfl rfl rfl ((by exact Rd.row1 rfl C134 rfl Z.M (by rfl))) ?_
    refine WD.take 13 rfl Z.K Held.all rfl rfl rfl ((by exact Rd.idxArr1 (k := 1) rfl A163 rfl rfl rfl Z.W)) ?_
    refine WD.take 14 rfl Z.K Held.all rfl rfl rfl ((by exact Rd.row1 rfl C134 rfl Z.M (by rfl))) ?_
    refine WD.take 15 rfl Z.K Held.all rfl rfl rfl (Rd.andU rfl rfl rfl rfl rfl rfl hxo.a hxo.b) ?_
    refine WD.take 16 rfl Z.K Held.all rfl rfl rfl ((by exact Rd.idxArr1 (k := 0) rfl A163 rfl rfl rfl Z.W)) ?_
    refine WD.take 17 rfl Z.K Held.all rfl rfl rfl ((by exact Rd.row1 rfl C134 rfl Z.M (by rfl))) ?_
    refine WD.take 18 rfl Z.K Held.all rfl rfl rfl ((by exact Rd.idxArr1 (k := 2) rfl A163 rfl rfl rfl Z.W)) ?_
    refine WD.take 19 rfl Z.K Held.all rfl rfl rfl ((by exact Rd.row1 rfl C134 rfl Z.M (by rfl))) ?_
    refine WD.take 20 rfl Z.K Held.all rfl rfl rfl (Rd.andU rfl rfl rfl rfl rfl rfl hxo.a hxo.c) ?_
    refine WD.take 21 rfl Z.K Held.all rfl rfl rfl (Rd.xorU rfl rfl rfl rfl rfl rfl (and_lt hxo.a _) (and_lt hxo.a _)) ?_
    refine WD.take 22 rfl Z.K Held.all rfl rfl rfl ((by exact Rd.idxArr1 (k := 1) rfl A163 rfl rfl rfl Z.W)) ?_
    refine WD.take 23 rfl Z.K Held.all rfl rfl rfl ((by exact Rd.row1 rfl C134 rfl Z.M (by rfl))) ?_
    refine WD.take 24 rfl Z.K Held.all rfl rfl rfl ((by exact Rd.idxArr1 (k := 2) rfl A163 rfl rfl rfl Z.W)) ?_
    refine WD.take 25 rfl Z.K Held.all rfl rfl rfl ((by exact Rd.row1 rfl C134 rfl Z.M (by rfl))) ?_
    refine WD.take 26 rfl Z.K Held.all rfl rfl rfl (Rd.andU rfl rfl rfl rfl rfl rfl hxo.b hxo.c) ?_
    refine WD.take 27 rfl Z.K Held.all rfl rfl rfl (Rd.xorU rfl rfl rfl rfl rfl rfl (Nat.xor_lt_two_pow (and_lt hxo.a _) (and_lt hxo.a _)) (and_lt hxo.b _)) ?_
    refine WD.one 2 rfl Z.K rfl ?_
    refine OpW.call rfl rfl Z.E Z.K rfl rfl rfl ?_
    refine right_spec hxo.a (by decide) ?_
    refine ⟨Z.H, ?_⟩
    refine WD.one 5 rfl Z.K rfl ?_
    refine OpW.call rfl rfl Z.E Z.K rfl rfl rfl ?_
    refine right_spec hxo.a (by decide) ?_
    refine ⟨Z.H, ?_⟩
    refine WD.take 6 rfl Z.K Z.H rfl rfl rfl (Rd.xorU rfl rfl rfl rfl rfl rfl (rotr_lt hxo.a _) (rotr_lt hxo.a _)) ?_
    refine WD.one 9 rfl Z.K rfl ?_
    refine OpW.call rfl rfl Z.E Z.K rfl rfl rfl ?_
    refine right_spec hxo.a (by decide) ?_
    refine ⟨Z.H, ?_⟩
    refine WD.take 10 rfl Z.K Z.H rfl rfl rfl (Rd.xorU rfl rfl rfl rfl rfl rfl (Nat.xor_lt_two_pow (rotr_lt hxo.a _) (rotr_lt hxo.a _)) (rotr_lt hxo.a _)) ?_
    refine WD.take 28 rfl Z.K Z.H rfl rfl rfl (Rd.add32 rfl rfl rfl) ?_
    refine WD.take 29 rfl Z.K Z.H rfl rfl rfl (Rd.assign rfl rfl) ?_
    refine WD.done Z.K ?_
    exact ⟨by repeat (first | exact Sub.nil | refine Sub.cons rfl (by rfl) ?_), by exact (fun _ h => h.thin (SubL.mem Z.S))⟩
   ·
    refine WC.region ?_
    refine WL.rd rfl rfl rfl (Rd.move rfl rfl) ?_
    refine WL.rd rfl rfl rfl (Rd.move rfl rfl) ?_
    refine WL.rd rfl rfl rfl (Rd.add32 rfl rfl rfl) ?_
    refine WL.rd rfl rfl rfl ((by exact Rd.idxArr1 (k := 0) rfl A163 rfl rfl rfl Z.W)) ?_
    refine WL.rd rfl rfl rfl ((by exact Rd.row1 rfl C134 rfl Z.M (by rfl))) ?_
    refine WL.rd rfl rfl rfl ((by exact Rd.idxArr1 (k := 1) rfl A163 rfl rfl rfl Z.W)) ?_
    refine WL.rd rfl rfl rfl ((by exact Rd.row1 rfl C134 rfl Z.M (by rfl))) ?_
    refine WL.rd rfl rfl rfl ((by exact Rd.idxArr1 (k := 2) rfl A163 rfl rfl rfl Z.W)) ?_
    refine WL.rd rfl rfl rfl ((by exact Rd.row1 rfl C134 rfl Z.M (by rfl))) ?_
    refine WL.rd rfl rfl rfl ((by exact Rd.idxArr1 (k := 3) rfl A163 rfl rfl rfl Z.W)) ?_
    refine WL.rd rfl rfl rfl ((by exact Rd.row1 rfl C134 rfl Z.M (by rfl))) ?_
    refine WL.rd rfl rfl rfl (Rd.move rfl rfl) ?_
    refine WL.rd rfl rfl rfl (Rd.add32 rfl rfl rfl) ?_
    refine WL.rd rfl rfl rfl ((by exact Rd.idxArr1 (k := 4) rfl A163 rfl rfl rfl Z.W)) ?_
    refine WL.rd rfl rfl rfl ((by exact Rd.row1 rfl C134 rfl Z.M (by rfl))) ?_
    refine WL.rd rfl rfl rfl ((by exact Rd.idxArr1 (k := 5) rfl A163 rfl rfl rfl Z.W)) ?_
    refine WL.rd rfl rfl rfl ((by exact Rd.row1 rfl C134 rfl Z.M (by rfl))) ?_
    refine WL.rd rfl rfl rfl ((by exact Rd.idxArr1 (k := 6) rfl A163 rfl rfl rfl Z.W)) ?_
    refine WL.rd rfl rfl rfl ((by exact Rd.row1 rfl C134 rfl Z.M (by rfl))) ?_
    refine WL.rd rfl rfl rfl (Rd.buildA (ps := [(0, _), (1, _), (2, _), (3, _), (4, _), (5, _), (6, _), (7, _)]) rfl A163 I163 rfl Z.K Z.E rfl Z.C Z.K rfl) ?_
    refine WL.op rfl ?_
    refine OpW.storeW (ds := (x.round rootsN[i]! (sched s 64)[i]!).cs) rfl G163 rfl rfl Z.T rfl rfl rfl rfl ?_
    refine WL.nil ?_
    refine blockQ.normal ?_
    refine thenQ.normal ?_
    refine WC.region ?_
    refine WL.rd rfl rfl rfl (Rd.add rfl rfl rfl Z.W) ?_
    refine WL.rd rfl rfl rfl (Rd.move rfl rfl) ?_
    refine WL.nil ?_
    exact loopQ1.mk (i + 1) Z.W Z.W (by repeat (first | exact Sub.nil | refine Sub.cons rfl (by rfl) ?_)) (fun w h => by rw [hst]; exact Z.Fw h)
 ·
  refine WC.exit ?_
  refine thenQ.exit ?_
  refine loopQ1.exit ?_
  refine blockQ.exit ?_
  refine thenQ.normal ?_
  refine WC.seq ?_
  refine WC.seq ?_
  refine WC.region ?_
  refine WL.rd rfl rfl rfl (Rd.move rfl rfl) ?_
  refine WL.nil ?_
  refine thenQ.normal ?_
  refine WC.block ?_
  refine WC.pick [101, 2, 4, 5] Z.P ?_
  refine WC.loop1 1 (fun (j : Nat) => [(101, .int .i64 (j : Int))]) (fun (j : Nat) => rowC b5 163 x.cs :: rowC b4 163 (List.replicate 8 (vw 0)) :: rowC b2 163 (mixC v x j) :: O) (fun (j : Nat) => j ≤ 8) (fun (j : Nat) => 8 - j) (0) Z.L ?hinv2 (by repeat (first | exact Sub.nil | refine Sub.cons rfl (by rfl) ?_)) (fun _ h => h) ?_
  case hinv2 =>
   exact Nat.zero_le _
  intro j
  rintro j1
  refine WC.seq ?_
  refine WC.region ?_
  refine WL.rd rfl rfl rfl (Rd.lss rfl rfl rfl) ?_
  refine WL.nil ?_
  refine thenQ.normal ?_
  refine WC.seq ?_
  refine WC.ite rfl (fun hc2 => ?_) (fun hc2 => ?_)
  ·
   obtain ⟨p, q, m1, m2, m3, m4⟩ := mixC_step v x j Z.W
   have m5 : (mixC v x j).length = 8 := by rw [mixC, List.length_append, List.length_take, List.length_drop, cs_length, cs_length]; omega
   refine WC.skip ?_
   refine thenQ.normal ?_
   refine WC.seq ?_
   refine WC.block ?_
   refine WC.seq ?_
   refine WC.region ?_
   refine WL.rd rfl rfl rfl (Rd.move rfl rfl) ?_
   refine WL.rd rfl rfl rfl (Rd.assign rfl rfl) ?_
   refine WL.nil ?_
   refine thenQ.normal ?_
   refine WC.tail 8 mixed Z.K ?_
   refine WS.rd rfl rfl rfl (Rd.move rfl rfl) ?_
   refine WS.rd rfl rfl rfl ((by exact Rd.idxArr1 (k := j) rfl A163 rfl rfl Z.W Z.W)) ?_
   refine WS.rd rfl rfl rfl (Rd.row1 rfl C134 rfl Z.M m3) ?_
   refine WS.rd rfl rfl rfl (Rd.move rfl rfl) ?_
   refine WS.rd rfl rfl rfl ((by exact Rd.idxArr1 (k := j) rfl A163 rfl rfl Z.W Z.W)) ?_
   refine WS.rd rfl rfl rfl (Rd.row1 rfl C134 rfl Z.M m2) ?_
   refine WS.rd rfl rfl rfl (Rd.add32 rfl rfl rfl) ?_
   refine WS.rd rfl rfl rfl ((by exact Rd.idxArr1 (k := j) rfl A163 rfl rfl Z.W Z.W)) ?_
   refine WS.switch ?_
   refine WL.op rfl ?_
   refine OpW.store1 rfl Z134 rfl rfl (by exact ⟨rfl, rfl⟩) Z.T Z.W rfl ?_
   refine WL.heap (fun w h => by rw [m4] at h; exact h) ?_
   refine WL.nil ?_
   refine blockQ.normal ?_
   refine thenQ.normal ?_
   refine WC.region ?_
   refine WL.rd rfl rfl rfl (Rd.add rfl rfl rfl Z.W) ?_
   refine WL.rd rfl rfl rfl (Rd.move rfl rfl) ?_
   refine WL.nil ?_
   exact loopQ1.mk (j + 1) Z.W Z.W (by repeat (first | exact Sub.nil | refine Sub.cons rfl (by rfl) ?_)) Z.F
  ·
   obtain rfl : j = 8 := by omega
   obtain rfl : i = 64 := by omega
   have hfin : mixC v x 8 = (nextS v s).cs := by rw [hx]; rfl
   refine WC.heap (fun w h => by rw [hfin] at h; exact h) ?_
   refine WC.exit ?_
   refine thenQ.exit ?_
   refine loopQ1.exit ?_
   refine blockQ.exit ?_
   refine thenQ.normal ?_
   refine WC.seq ?_
   refine WC.region ?_
   refine WL.rd rfl rfl rfl (Rd.rowW rfl G163 rfl Z.M rfl) ?_
   refine WL.op rfl ?_
   refine OpW.storeW rfl G163 rfl rfl Z.T rfl rfl rfl rfl ?_
   refine WL.nil ?_
   refine thenQ.normal ?_
   refine WC.heap (R' := R) (O' := rowC b4 163 (nextS v s).cs :: O) Z.F ?_
   refine WC.ret (Ret.cellRow Tryz.results117 rfl Z.M G163 rfl ?_)
   exact ⟨rfl, rfl, _, rfl⟩
set_option maxRecDepth 20000 in
theorem first_spec {R : List RO} {O : List Own} {POST : Value → List RO → List Own → Prop} (hk : POST (.agg first8.cs.toArray) R O) : Fun Tryz.prog 116 #[] R O POST := by
 refine Fun.thin (post' := fun r R' O' => r = .agg first8.cs.toArray ∧ R' = R ∧ ∃ b, O' = rowC b 163 first8.cs :: O) ?_ (by rintro r R' O' ⟨rfl, rfl, b, rfl⟩; exact ⟨_, O, hk, fun w h => h.drop⟩)
 refine Fun.enter (l := []) Tryz.func116 rfl Tryz.ntmps116 rfl (L0 := []) rfl ?_
 refine WC.seq ?_
 refine WC.region ?_
 refine WL.op rfl ?_
 refine OpW.alloc rfl I163 rfl Z.N rfl rfl ?_; intro b0
 refine WL.nil ?_
 refine thenQ.normal ?_
 refine WC.seq ?_
 refine WC.region ?_
 refine WL.rd rfl rfl rfl (Rd.buildA (ps := [(0, _), (1, _), (2, _), (3, _), (4, _), (5, _), (6, _), (7, _)]) rfl A163 I163 rfl Z.K Z.E rfl Z.C Z.K rfl) ?_
 refine WL.op rfl ?_
 refine OpW.storeW (ds := first8.cs) rfl G163 rfl rfl Z.T rfl rfl rfl rfl ?_
 refine WL.nil ?_
 refine thenQ.normal ?_
 refine WC.ret (Ret.cellRow Tryz.results116 rfl Z.M G163 rfl ?_)
 exact ⟨rfl, rfl, _, rfl⟩
end Go.Proofs.YtckokhdjeifomaaGreatDoor
namespace Go.Proofs.YtckokhdjeifomaaGreatDoor
open Go Go.SL
/-- The state behind all whole blocks, and what is left. -/
def blocks (v : St8) (r : List UInt8) : St8 × List UInt8 :=
 if r.length < 64 then (v, r) else blocks (nextS v (r.take 64)) (r.drop 64)
termination_by r.length
decreasing_by rw [List.length_drop]; omega
theorem blocks_lt {v : St8} {r : List UInt8} (h : r.length < 64) : blocks v r = (v, r) := by rw [blocks, if_pos h]
theorem blocks_ge {v : St8} {r : List UInt8} (h : ¬ r.length < 64) : blocks v r = blocks (nextS v (r.take 64)) (r.drop 64) := by rw [blocks, if_neg h]
theorem blocks_ok (v : St8) (r : List UInt8) (h : v.Ok) : (blocks v r).1.Ok := by
 by_cases h1 : r.length < 64
 · rw [blocks_lt h1]; exact h
 · rw [blocks_ge h1]; exact blocks_ok _ _ (nextS_ok _ _)
termination_by r.length
decreasing_by rw [List.length_drop]; omega
theorem blocks_rest (v : St8) (r : List UInt8) : (blocks v r).2.length < 64 ∧ (blocks v r).2.length % 64 = r.length % 64 := by
 by_cases h1 : r.length < 64
 · rw [blocks_lt h1]; exact ⟨h1, rfl⟩
 · rw [blocks_ge h1]
   have h := blocks_rest (nextS v (r.take 64)) (r.drop 64)
   rw [List.length_drop] at h
   exact ⟨h.1, by omega⟩
termination_by r.length
decreasing_by rw [List.length_drop]; omega
theorem blocks_append (v : St8) (r s : List UInt8) : blocks (blocks v r).1 ((blocks v r).2 ++ s) = blocks v (r ++ s) := by
 by_cases h1 : r.length < 64
 · rw [blocks_lt h1]
 · rw [blocks_ge h1, blocks_append (nextS v (r.take 64)) (r.drop 64) s]
   have h2 : ¬ (r ++ s).length < 64 := by rw [List.length_append]; omega
   rw [blocks_ge h2, List.take_append_of_le_length Z.W, List.drop_append_of_le_length Z.W]
termination_by r.length
decreasing_by rw [List.length_drop]; omega
/-- The cells of a Hasher. -/
def hcell (v : St8) (g : Bool) (r : List UInt8) (n : Nat) : List Value := [vw v.a, vw v.b, vw v.c, vw v.d, vw v.e, vw v.f, vw v.g, vw v.h, .bool g, vs r, .int .i64 n]
def St8.begun (v : St8) (g : Bool) : St8 := if g then v else first8
theorem begun_ok {v : St8} {g : Bool} (h : g = true → v.Ok) : (v.begun g).Ok := by
 cases g
 · exact first8_ok
 · exact h rfl
set_option maxRecDepth 20000 in
set_option maxHeartbeats 4000000 in
theorem hput_spec {R : List RO} {O : List Own} {POST : Value → List RO → List Own → Prop} {v : St8} {g : Bool} {r s : List UInt8} {b n : Nat} (hr : rootsR ∈ R) (hv : g = true → v.Ok) (hn : n + s.length ≤ 4611686018427387904) (hrl : r.length + s.length ≤ 4611686018427387904)
 (hk : POST (.tuple #[]) R (rowC b 165 (hcell (blocks (v.begun g) (r ++ s)).1 true (blocks (v.begun g) (r ++ s)).2 (n + s.length)) :: O)) :
 Fun Tryz.prog 98 #[.pointer (some ⟨b, 0, none⟩), vs s] R (rowC b 165 (hcell v g r n) :: O) POST := by
 refine Fun.enter (l := [_, _]) Tryz.func98 rfl Tryz.ntmps98 rfl (L0 := [(0, _), (1, _)]) rfl ?_
 refine WC.seq ?_
 refine WC.seq ?_
 refine WC.region ?_
 refine WL.rd rfl rfl rfl (Rd.move rfl rfl) ?_
 refine WL.rd rfl rfl rfl ((by exact Rd.peq_sn rfl Tryz.underlying181 rfl rfl)) ?_
 refine WL.nil ?_
 refine thenQ.normal ?_
 refine WC.cond rfl (fun hc1 => ?_) (fun hc1 => ?_)
 ·
  cases hc1
 ·
  refine WC.skip ?_
  refine thenQ.normal ?_
  refine WC.cut (α := Unit) (fun _ => [(0, .pointer (some ⟨b, 0, none⟩)), (1, vs s)]) (fun _ => R) (fun _ => rowC b 165 (hcell (v.begun g) true r n) :: O) (fun _ => True) ?_ ?_
  ·
   refine WC.seq ?_
   refine WC.region ?_
   refine WL.rd rfl rfl rfl (Rd.move rfl rfl) ?_
   refine WL.rd rfl rfl rfl (Rd.nilc rfl rfl) ?_
   refine WL.rd rfl rfl rfl ((by exact Rd.field rfl F165_1 rfl rfl)) ?_
   refine WL.rd rfl rfl rfl ((by exact Rd.row1 rfl C4 rfl Z.M (by rfl))) ?_
   refine WL.rd rfl rfl rfl ((by exact Rd.not rfl rfl)) ?_
   refine WL.nil ?_
   refine thenQ.normal ?_
   refine WC.cond rfl (fun hc2 => ?_) (fun hc2 => ?_)
   ·
    refine WC.region ?_
    refine WL.rd rfl rfl rfl (Rd.move rfl rfl) ?_
    refine WL.rd rfl rfl rfl (Rd.move rfl rfl) ?_
    refine WL.op rfl ?_
    refine OpW.call rfl rfl Z.E Z.K rfl rfl rfl ?_
    refine first_spec ?_
    refine WL.rd rfl rfl rfl (Rd.nilc rfl rfl) ?_
    refine WL.rd rfl rfl rfl ((by exact Rd.field rfl F165_0 rfl rfl)) ?_
    refine WL.op rfl ?_
    refine OpW.storeS rfl G163 rfl rfl Z.N Z.T rfl rfl Z.N rfl ?_
    refine WL.rd rfl rfl rfl (Rd.nilc rfl rfl) ?_
    refine WL.rd rfl rfl rfl ((by exact Rd.field rfl F165_1 rfl rfl)) ?_
    refine WL.op rfl ?_
    refine OpW.store1 rfl Z4 rfl rfl (by exact ⟨rfl, rfl⟩) Z.T (by (simp; done)) rfl ?_
    refine WL.nil ?_
    -- cut_c2 1
    obtain rfl : g = false := by simpa using hc2
    exact ⟨(), trivial, (by repeat (first | exact Sub.nil | refine Sub.cons rfl (by rfl) ?_)), Z.F⟩
   ·
    refine WC.skip ?_
    -- cut_c2 2
    obtain rfl : g = true := by simpa using hc2
    exact ⟨(), trivial, (by repeat (first | exact Sub.nil | refine Sub.cons rfl (by rfl) ?_)), Z.F⟩
  ·
   intro _ _
   have hvo := begun_ok hv
   generalize v.begun g = v0 at *
   refine WC.seq ?_
   refine WC.region ?_
   refine WL.rd rfl rfl rfl (Rd.move rfl rfl) ?_
   refine WL.rd rfl rfl rfl (Rd.nilc rfl rfl) ?_
   refine WL.rd rfl rfl rfl ((by exact Rd.field rfl F165_3 rfl rfl)) ?_
   refine WL.rd rfl rfl rfl ((by exact Rd.row1 rfl C3 rfl Z.M (by rfl))) ?_
   refine WL.rd rfl rfl rfl (Rd.move rfl rfl) ?_
   refine WL.rd rfl rfl rfl (Rd.slen (ts := #[]) (ty := 0) rfl rfl Tryz.underlying9) ?_
   refine WL.rd rfl rfl rfl (Rd.add rfl rfl rfl Z.W) ?_
   refine WL.rd rfl rfl rfl (Rd.nilc rfl rfl) ?_
   refine WL.rd rfl rfl rfl ((by exact Rd.field rfl F165_3 rfl rfl)) ?_
   refine WL.op rfl ?_
   refine OpW.store1 rfl Z3 rfl rfl (by exact ⟨rfl, rfl⟩) Z.T (by exact of_decide_eq_true rfl) rfl ?_
   refine WL.nil ?_
   refine thenQ.normal ?_
   refine WC.seq ?_
   refine WC.region ?_
   refine WL.rd rfl rfl rfl (Rd.move rfl rfl) ?_
   refine WL.rd rfl rfl rfl (Rd.nilc rfl rfl) ?_
   refine WL.rd rfl rfl rfl ((by exact Rd.field rfl F165_2 rfl rfl)) ?_
   refine WL.rd rfl rfl rfl ((by exact Rd.row1 rfl C9 rfl Z.M (by rfl))) ?_
   refine WL.rd rfl rfl rfl (Rd.move rfl rfl) ?_
   refine WL.rd rfl rfl rfl (Rd.scat rfl rfl rfl Z.W) ?_
   refine WL.rd rfl rfl rfl (Rd.nilc rfl rfl) ?_
   refine WL.rd rfl rfl rfl ((by exact Rd.field rfl F165_2 rfl rfl)) ?_
   refine WL.op rfl ?_
   refine OpW.store1 rfl Z9 rfl rfl (by exact ⟨rfl, rfl⟩) Z.T (by exact of_decide_eq_true rfl) rfl ?_
   refine WL.nil ?_
   refine thenQ.normal ?_
   refine WC.block ?_
   refine WC.pick [0] Z.P ?_
   refine WC.loop2 0 (fun (x : St8) (q : List UInt8) => []) (fun (x : St8) (q : List UInt8) => rowC b 165 (hcell x true q (n + s.length)) :: O) (fun (x : St8) (q : List UInt8) => x.Ok ∧ blocks x q = blocks v0 (r ++ s)) (fun (x : St8) (q : List UInt8) => q.length) (v0) (r ++ s) Z.L ?hinv1 (by repeat (first | exact Sub.nil | refine Sub.cons rfl (by rfl) ?_)) (fun _ h => h) ?_
   case hinv1 =>
    exact ⟨hvo, rfl⟩
   intro x q
   rintro ⟨h1, h2⟩
   refine WC.seq ?_
   refine WC.seq ?_
   refine WC.region ?_
   refine WL.rd rfl rfl rfl (Rd.move rfl rfl) ?_
   refine WL.rd rfl rfl rfl (Rd.nilc rfl rfl) ?_
   refine WL.rd rfl rfl rfl ((by exact Rd.field rfl F165_2 rfl rfl)) ?_
   refine WL.rd rfl rfl rfl ((by exact Rd.row1 rfl C9 rfl Z.M (by rfl))) ?_
   refine WL.rd rfl rfl rfl (Rd.slen (ts := #[]) (ty := 0) rfl rfl Tryz.underlying9) ?_
   refine WL.rd rfl rfl rfl (Rd.geq rfl rfl rfl) ?_
   refine WL.nil ?_
   refine thenQ.normal ?_
   refine WC.ite rfl (fun hc3 => ?_) (fun hc3 => ?_)
   ·
    have hbg := blocks_ge (v := x) (r := q) Z.W
    refine WC.skip ?_
    refine thenQ.normal ?_
    refine WC.block ?_
    refine WC.seq ?_
    refine WC.drawn (O) 14 rfl mixed ?_
    refine WD.take 0 rfl Z.K Z.H rfl rfl rfl (Rd.move rfl rfl) ?_
    refine WD.take 1 rfl Z.K Z.H rfl rfl rfl (Rd.move rfl rfl) ?_
    refine WD.take 2 rfl Z.K Z.H rfl rfl rfl (Rd.nilc rfl rfl) ?_
    refine WD.take 3 rfl Z.K Z.H rfl rfl rfl ((by exact Rd.field rfl F165_0 rfl rfl)) ?_
    refine WD.take 5 rfl Z.K Z.H rfl rfl rfl (Rd.move rfl rfl) ?_
    refine WD.take 6 rfl Z.K Z.H rfl rfl rfl (Rd.nilc rfl rfl) ?_
    refine WD.take 7 rfl Z.K Z.H rfl rfl rfl ((by exact Rd.field rfl F165_2 rfl rfl)) ?_
    refine WD.two 4 8 rfl rfl Z.K rfl rfl ?_ ?_
    ·
     refine OpW.rd rfl rfl ((by exact Rd.rowS rfl G163 rfl Z.M Z.N rfl)) ?_
     refine ⟨Z.H, ?_⟩
     refine WD.one 8 rfl Z.K rfl ?_
     refine OpW.rd rfl rfl ((by exact Rd.row1 rfl C9 rfl Z.M (by rfl))) ?_
     refine ⟨Z.H, ?_⟩
     refine WD.take 9 rfl Z.K Z.H rfl rfl rfl (Rd.scut_h (hi := 64) rfl Tryz.underlying9 rfl rfl rfl Z.W) ?_
     refine WD.one 10 rfl Z.K rfl ?_
     refine OpW.call rfl rfl Z.E Z.K rfl rfl rfl ?_
     refine stateNext_spec (v := x) (s := q.take 64) hr h1 (by rw [List.length_take]; omega) ?_
     refine ⟨Z.H, ?_⟩
     refine WD.take 11 rfl Z.K Z.H rfl rfl rfl (Rd.nilc rfl rfl) ?_
     refine WD.take 12 rfl Z.K Z.H rfl rfl rfl ((by exact Rd.field rfl F165_0 rfl rfl)) ?_
     refine WD.one 13 rfl Z.K rfl ?_
     refine OpW.storeS rfl G163 rfl rfl Z.N Z.T rfl rfl Z.N rfl ?_
     refine ⟨Z.H, ?_⟩
     refine WD.done Z.K ?_
     refine thenQ.normal ?_
     refine WC.region ?_
     refine WL.rd rfl rfl rfl (Rd.move rfl rfl) ?_
     refine WL.rd rfl rfl rfl (Rd.move rfl rfl) ?_
     refine WL.rd rfl rfl rfl (Rd.nilc rfl rfl) ?_
     refine WL.rd rfl rfl rfl ((by exact Rd.field rfl F165_2 rfl rfl)) ?_
     refine WL.rd rfl rfl rfl ((by exact Rd.row1 rfl C9 rfl Z.M (by rfl))) ?_
     refine WL.rd rfl rfl rfl (Rd.scut_l (lo := 64) rfl Tryz.underlying9 rfl rfl rfl Z.W) ?_
     refine WL.rd rfl rfl rfl (Rd.nilc rfl rfl) ?_
     refine WL.rd rfl rfl rfl ((by exact Rd.field rfl F165_2 rfl rfl)) ?_
     refine WL.op rfl ?_
     refine OpW.store1 rfl Z9 rfl rfl (by exact ⟨rfl, rfl⟩) Z.T (by (simp; done)) rfl ?_
     refine WL.nil ?_
     refine blockQ.normal ?_
     exact loopQ2.mk (nextS x (q.take 64)) (q.drop 64) ⟨nextS_ok _ _, by rw [← h2, hbg]⟩ (by rw [List.length_drop]; omega) (by repeat (first | exact Sub.nil | refine Sub.cons rfl (by rfl) ?_)) Z.F
    ·
     refine OpW.rd rfl rfl ((by exact Rd.row1 rfl C9 rfl Z.M (by rfl))) ?_
     refine ⟨Z.H, ?_⟩
     refine WD.take 9 rfl Z.K Z.H rfl rfl rfl (Rd.scut_h (hi := 64) rfl Tryz.underlying9 rfl rfl rfl Z.W) ?_
     refine WD.one 4 rfl Z.K rfl ?_
     refine OpW.rd rfl rfl ((by exact Rd.rowS rfl G163 rfl Z.M Z.N rfl)) ?_
     refine ⟨Z.H, ?_⟩
     refine WD.one 10 rfl Z.K rfl ?_
     refine OpW.call rfl rfl Z.E Z.K rfl rfl rfl ?_
     refine stateNext_spec (v := x) (s := q.take 64) hr h1 (by rw [List.length_take]; omega) ?_
     refine ⟨Z.H, ?_⟩
     refine WD.take 11 rfl Z.K Z.H rfl rfl rfl (Rd.nilc rfl rfl) ?_
     refine WD.take 12 rfl Z.K Z.H rfl rfl rfl ((by exact Rd.field rfl F165_0 rfl rfl)) ?_
     refine WD.one 13 rfl Z.K rfl ?_
     refine OpW.storeS rfl G163 rfl rfl Z.N Z.T rfl rfl Z.N rfl ?_
     refine ⟨Z.H, ?_⟩
     refine WD.done Z.K ?_
     refine thenQ.normal ?_
     refine WC.region ?_
     refine WL.rd rfl rfl rfl (Rd.move rfl rfl) ?_
     refine WL.rd rfl rfl rfl (Rd.move rfl rfl) ?_
     refine WL.rd rfl rfl rfl (Rd.nilc rfl rfl) ?_
     refine WL.rd rfl rfl rfl ((by exact Rd.field rfl F165_2 rfl rfl)) ?_
     refine WL.rd rfl rfl rfl ((by exact Rd.row1 rfl C9 rfl Z.M (by rfl))) ?_
     refine WL.rd rfl rfl rfl (Rd.scut_l (lo := 64) rfl Tryz.underlying9 rfl rfl rfl Z.W) ?_
     refine WL.rd rfl rfl rfl (Rd.nilc rfl rfl) ?_
     refine WL.rd rfl rfl rfl ((by exact Rd.field rfl F165_2 rfl rfl)) ?_
     refine WL.op rfl ?_
     refine OpW.store1 rfl Z9 rfl rfl (by exact ⟨rfl, rfl⟩) Z.T (by (simp; done)) rfl ?_
     refine WL.nil ?_
     refine blockQ.normal ?_
     exact loopQ2.mk (nextS x (q.take 64)) (q.drop 64) ⟨nextS_ok _ _, by rw [← h2, hbg]⟩ (by rw [List.length_drop]; omega) (by repeat (first | exact Sub.nil | refine Sub.cons rfl (by rfl) ?_)) Z.F
   ·
    have hbl := blocks_lt (v := x) (r := q) Z.W
    rw [hbl] at h2
    rw [← h2] at hk
    refine WC.exit ?_
    refine thenQ.exit ?_
    refine loopQ2.exit ?_
    refine blockQ.exit ?_
    refine Ret.normal (Ret.zero Tryz.results98 ?_)
    exact hk
end Go.Proofs.YtckokhdjeifomaaGreatDoor
namespace Go.Proofs.YtckokhdjeifomaaGreatDoor
open Go Go.SL
def padE (n : Nat) : List UInt8 := 128 :: List.replicate ((119 - n % 64) % 64) 0
def lenB (n i : Nat) : UInt8 := UInt8.ofNat (n * 8 / 2 ^ (56 - 8 * i) % 256)
def lenE (n : Nat) : List UInt8 := (List.range 8).map (lenB n)
def St8.wl (v : St8) : List Nat := [v.a, v.b, v.c, v.d, v.e, v.f, v.g, v.h]
theorem wl_cs (v : St8) : v.cs = v.wl.map vw := rfl
def be4 (n : Nat) : List UInt8 := [UInt8.ofNat (n / 2 ^ 24 % 256), UInt8.ofNat (n / 2 ^ 16 % 256), UInt8.ofNat (n / 2 ^ 8 % 256), UInt8.ofNat (n % 256)]
def digestS (v : St8) : List UInt8 := v.wl.flatMap be4
def finS (v : St8) (r : List UInt8) (n : Nat) : St8 := (blocks v (r ++ padE n ++ lenE n)).1
/-- The digest of a text. -/
def shaE (t : List UInt8) : List UInt8 := digestS (finS first8 t t.length)
/-- A Hasher that was given the text t. -/
def HashOf (v : St8) (g : Bool) (r : List UInt8) (n : Nat) (t : List UInt8) : Prop := (g = true → v.Ok) ∧ blocks first8 t = (v.begun g, r) ∧ n = t.length
theorem HashOf.new (v : St8) : HashOf v false [] 0 [] := ⟨(fun h => by cases h), blocks_lt (by decide), rfl⟩
theorem HashOf.put {v : St8} {g : Bool} {r : List UInt8} {n : Nat} {t : List UInt8} (h : HashOf v g r n t) (s : List UInt8) : HashOf (blocks (v.begun g) (r ++ s)).1 true (blocks (v.begun g) (r ++ s)).2 (n + s.length) (t ++ s) := by
 obtain ⟨h1, h2, h3⟩ := h
 have ha := blocks_append first8 t s
 rw [h2] at ha
 exact ⟨fun _ => blocks_ok _ _ (begun_ok h1), by rw [← ha]; rfl, by rw [h3, List.length_append]⟩
theorem HashOf.rest {v : St8} {g : Bool} {r : List UInt8} {n : Nat} {t : List UInt8} (h : HashOf v g r n t) : r.length < 64 ∧ r.length % 64 = n % 64 := by
 have h1 := blocks_rest first8 t
 rw [h.2.1, ← h.2.2] at h1
 exact h1
theorem HashOf.sum {v : St8} {g : Bool} {r : List UInt8} {n : Nat} {t : List UInt8} (h : HashOf v g r n t) : digestS (finS (v.begun g) r n) = shaE t := by
 have ha := blocks_append first8 t (padE n ++ lenE n)
 rw [h.2.1] at ha
 rw [shaE, finS, finS, ← h.2.2, List.append_assoc, ha, List.append_assoc]
theorem lenE_length (n : Nat) : (lenE n).length = 8 := by simp [lenE]
theorem len_step {n i : Nat} (hi : i < 7) : (n / 2 ^ (56 - 8 * i) * 8 % 256) ||| (n / 2 ^ (48 - 8 * i) &&& 255) / 2 ^ 5 = n * 8 / 2 ^ (56 - 8 * i) % 256 := by
 obtain ⟨q, hq⟩ : ∃ q, q = n / 2 ^ (48 - 8 * i) := ⟨_, rfl⟩
 have e1 : n / 2 ^ (56 - 8 * i) = q / 256 := by
  rw [hq, Nat.div_div_eq_div_mul, show 56 - 8 * i = (48 - 8 * i) + 8 from by omega, Nat.pow_add]
 have e2 : n * 8 / 2 ^ (56 - 8 * i) = q / 32 := by
  rw [hq, Nat.div_div_eq_div_mul, show 56 - 8 * i = ((48 - 8 * i) + 5) + 3 from by omega, Nat.pow_add _ _ 3, Nat.mul_div_mul_right _ _ (by decide), Nat.pow_add]
 rw [e1, e2, ← hq, show (255 : Nat) = 2 ^ 8 - 1 from rfl, Nat.and_two_pow_sub_one_eq_mod]
 have e3 : q / 256 * 8 % 256 = 2 ^ 3 * (q / 256 % 32) := by omega
 rw [e3, ← Nat.two_pow_add_eq_or_of_lt Z.W]
 omega
theorem last_step (n : Nat) : n / 2 ^ (56 - 8 * 7) * 8 % 256 = n * 8 / 2 ^ (56 - 8 * 7) % 256 := by simp
/-- The cells of the length when i bytes of it are there. -/
def hlrow (n i : Nat) : List Value := ((List.range i).map (lenB n)).map vy ++ List.replicate (8 - i) (vy 0)
theorem lrow_set {n i : Nat} (h : i < 8) (c : UInt8) : (hlrow n i).set i (vy c) = ((List.range i).map (lenB n)).map vy ++ vy c :: List.replicate (7 - i) (vy 0) := by
 rw [hlrow, List.set_append_right _ _ (by simp), List.length_map, List.length_map, List.length_range, Nat.sub_self, show 8 - i = (7 - i) + 1 from by omega, List.replicate_succ]; rfl
theorem lrow_done {n i : Nat} (h : i < 8) : ((List.range i).map (lenB n)).map vy ++ vy (lenB n i) :: List.replicate (7 - i) (vy 0) = hlrow n (i + 1) := by
 rw [hlrow, List.range_succ, List.map_append, List.map_append, show 8 - (i + 1) = 7 - i from by omega, List.append_assoc]; rfl
theorem flat_snoc {l : List Nat} {i : Nat} (h : i < l.length) : (l.take (i + 1)).flatMap be4 = (l.take i).flatMap be4 ++ be4 l[i]! := by
 rw [List.take_add_one, get!_of_lt h, List.flatMap_append]; simp
theorem be4_length (l : List Nat) : (l.flatMap be4).length = 4 * l.length := by
 induction l with
 | nil => rfl
 | cons a l ih => rw [List.flatMap_cons, List.length_append, ih, List.length_cons]; simp [be4]; omega
theorem repeat_zero (n : Nat) : Lib.repeatL [0] n = List.replicate n 0 := by
 have := Lib.repeatL_replicate 0 1 n
 rwa [Nat.mul_one] at this
theorem byte_wrapS (n : Nat) : IntKind.u8.wrap (n : Int) = ((UInt8.ofNat (n % 256)).toNat : Int) := by
 have : (UInt8.ofNat (n % 256)).toNat = n % 256 := by simp
 rw [this]; simp only [IntKind.wrap, IntKind.signed, IntKind.bits, Bool.false_and, Bool.false_eq_true, if_false]; omega
set_option maxRecDepth 20000 in
set_option maxHeartbeats 4000000 in
theorem hsum_spec {R : List RO} {O : List Own} {POST : Value → List RO → List Own → Prop} {v : St8} {g : Bool} {r t : List UInt8} {b n : Nat} (hr : rootsR ∈ R) (hh : HashOf v g r n t) (hn : n ≤ 281474976710656)
 (hk : POST (vs (shaE t)) R (rowC b 165 (hcell v g r n) :: O)) :
 Fun Tryz.prog 99 #[.pointer (some ⟨b, 0, none⟩)] R (rowC b 165 (hcell v g r n) :: O) POST := by
 obtain ⟨hr1, hr2⟩ := hh.rest
 have hpl : (padE n).length = (119 - n % 64) % 64 + 1 := by simp [padE]
 refine Fun.enter (l := [_]) Tryz.func99 rfl Tryz.ntmps99 rfl (L0 := [(0, _)]) rfl ?_
 refine WC.seq ?_
 refine WC.region ?_
 refine WL.rd rfl rfl rfl (Rd.assign rfl rfl) ?_
 refine WL.nil ?_
 refine thenQ.normal ?_
 refine WC.seq ?_
 refine WC.seq ?_
 refine WC.region ?_
 refine WL.rd rfl rfl rfl (Rd.move rfl rfl) ?_
 refine WL.rd rfl rfl rfl ((by exact Rd.peq_sn rfl Tryz.underlying181 rfl rfl)) ?_
 refine WL.nil ?_
 refine thenQ.normal ?_
 refine WC.cond rfl (fun hc1 => ?_) (fun hc1 => ?_)
 ·
  cases hc1
 ·
  refine WC.skip ?_
  refine thenQ.normal ?_
  refine WC.seq ?_
  refine WC.region ?_
  refine WL.rd rfl rfl rfl (Rd.move rfl rfl) ?_
  refine WL.rd rfl rfl rfl (Rd.nilc rfl rfl) ?_
  refine WL.rd rfl rfl rfl ((by exact Rd.rowS rfl G165 rfl Z.M Z.N rfl)) ?_
  refine WL.op rfl ?_
  refine OpW.alloc rfl I165 rfl Z.N rfl rfl ?_; intro b3
  refine WL.op rfl ?_
  refine OpW.storeS rfl G165 rfl rfl Z.N Z.T rfl rfl Z.N rfl ?_
  refine WL.nil ?_
  refine thenQ.normal ?_
  refine WC.seq ?_
  refine WC.region ?_
  refine WL.rd rfl rfl rfl (Rd.move rfl rfl) ?_
  refine WL.rd rfl rfl rfl (Rd.nilc rfl rfl) ?_
  refine WL.rd rfl rfl rfl ((by exact Rd.field rfl F165_3 rfl rfl)) ?_
  refine WL.rd rfl rfl rfl ((by exact Rd.row1 rfl C3 rfl Z.M (by rfl))) ?_
  refine WL.rd rfl rfl rfl (Rd.remN (a := n) (b := 64) rfl rfl rfl rfl rfl (by decide)) ?_
  refine WL.rd rfl rfl rfl (Rd.sub rfl rfl rfl Z.W) ?_
  refine WL.say 19 (u := .int .i64 ((119 - n % 64 : Nat) : Int)) rfl (by congr 1; omega) ?_
  refine WL.rd rfl rfl rfl (Rd.remN (a := 119 - n % 64) (b := 64) rfl rfl rfl rfl rfl (by decide)) ?_
  refine WL.op rfl ?_
  refine OpW.call rfl rfl Z.E Z.K rfl rfl rfl ?_
  refine Fun.below (v := vs (Lib.repeatL [0] ((119 - n % 64) % 64))) (fun w => Tryz.strings_Repeat ⟨#[0]⟩ ((119 - n % 64) % 64) w Z.W (by show 1 * _ ≤ _; omega)) ?_
  rw [repeat_zero]
  refine WL.rd rfl rfl rfl (Rd.scat rfl rfl rfl (by rw [List.length_replicate, List.length_singleton]; omega)) ?_
  refine WL.op rfl ?_
  refine OpW.call rfl rfl Z.E Z.K rfl rfl rfl ?_
  refine hput_spec (v := v) (g := g) (r := r) (s := padE n) hr hh.1 Z.W Z.W ?_
  obtain ⟨x, hx⟩ : ∃ x, x = blocks (v.begun g) (r ++ padE n) := ⟨_, rfl⟩
  have hxo := blocks_ok (v.begun g) (r ++ padE n) (begun_ok hh.1)
  have hxr := blocks_rest (v.begun g) (r ++ padE n)
  have hxa := blocks_append (v.begun g) (r ++ padE n) (lenE n)
  rw [← hx] at hxo hxr hxa ⊢
  refine WL.nil ?_
  refine thenQ.normal ?_
  refine WC.seq ?_
  refine WC.region ?_
  refine WL.op rfl ?_
  refine OpW.alloc rfl I184 rfl Z.N rfl rfl ?_; intro b4
  refine WL.nil ?_
  refine thenQ.normal ?_
  refine WC.seq ?_
  refine WC.seq ?_
  refine WC.region ?_
  refine WL.rd rfl rfl rfl (Rd.move rfl rfl) ?_
  refine WL.nil ?_
  refine thenQ.normal ?_
  refine WC.block ?_
  refine WC.pick [24, 0, 3, 4] Z.P ?_
  refine WC.loop1 1 (fun (i : Nat) => [(24, .int .i64 (i : Int))]) (fun (i : Nat) => rowC b4 184 (hlrow n i) :: rowC b3 165 (hcell x.1 true x.2 (n + (padE n).length)) :: rowC b 165 (hcell v g r n) :: O) (fun (i : Nat) => i ≤ 8) (fun (i : Nat) => 8 - i) (0) Z.L ?hinv1 (by repeat (first | exact Sub.nil | refine Sub.cons rfl (by rfl) ?_)) (fun _ h => h) ?_
  case hinv1 =>
   exact Nat.zero_le _
  intro i
  rintro i1
  refine WC.seq ?_
  refine WC.region ?_
  refine WL.rd rfl rfl rfl (Rd.lss rfl rfl rfl) ?_
  refine WL.nil ?_
  refine thenQ.normal ?_
  refine WC.seq ?_
  refine WC.ite rfl (fun hc2 => ?_) (fun hc2 => ?_)
  ·
   have hml : (((List.range i).map (lenB n)).map vy).length = i := by simp
   have hll : (hlrow n i).length = 8 := by rw [hlrow, List.length_append, hml, List.length_replicate]; omega
   have hd1 := Nat.div_le_self n (2 ^ (56 - 8 * i))
   have hd2 := Nat.div_le_self n (2 ^ (48 - 8 * i))
   refine WC.skip ?_
   refine thenQ.normal ?_
   refine WC.seq ?_
   refine WC.block ?_
   refine WC.seq ?_
   refine WC.region ?_
   refine WL.rd rfl rfl rfl (Rd.move rfl rfl) ?_
   refine WL.rd rfl rfl rfl (Rd.assign rfl rfl) ?_
   refine WL.nil ?_
   refine thenQ.normal ?_
   refine WC.seq ?_
   refine WC.region ?_
   refine WL.rd rfl rfl rfl (Rd.move rfl rfl) ?_
   refine WL.rd rfl rfl rfl (Rd.move rfl rfl) ?_
   refine WL.rd rfl rfl rfl (Rd.nilc rfl rfl) ?_
   refine WL.rd rfl rfl rfl ((by exact Rd.field rfl F165_3 rfl rfl)) ?_
   refine WL.rd rfl rfl rfl ((by exact Rd.row1 rfl C3 rfl Z.M (by rfl))) ?_
   refine WL.rd rfl rfl rfl (Rd.move rfl rfl) ?_
   refine WL.rd rfl rfl rfl (Rd.mul rfl rfl rfl Z.W) ?_
   refine WL.rd rfl rfl rfl (Rd.sub rfl rfl rfl Z.W) ?_
   refine WL.rd rfl rfl rfl (Rd.shrN (a := n) (n := 56 - 8 * i) rfl rfl rfl rfl Z.W (by show 56 - 8 * i ≤ 64; omega)) ?_
   refine WL.rd rfl rfl rfl (Rd.shlS (a := n / 2 ^ (56 - 8 * i)) (n := 3) rfl rfl rfl rfl rfl (by decide) Z.W) ?_
   refine WL.rd rfl rfl rfl (Rd.convw rfl rfl Tryz.underlying5 (hS := Tryz.underlying3)) ?_
   refine WL.say 37 (u := vy (UInt8.ofNat (n / 2 ^ (56 - 8 * i) * 8 % 256))) rfl (by rw [byte_wrapS]) ?_
   refine WL.rd rfl rfl rfl ((by exact Rd.idxArr1 (k := i) rfl A184 rfl rfl Z.W Z.W)) ?_
   refine WL.op rfl ?_
   refine OpW.store1 rfl Z5 rfl rfl (by exact ⟨rfl, rfl⟩) Z.T Z.W rfl ?_
   refine WL.heap (fun w h => by rw [lrow_set Z.W] at h; exact h) ?_
   refine WL.nil ?_
   refine thenQ.normal ?_
   refine WC.seq ?_
   refine WC.region ?_
   refine WL.rd rfl rfl rfl (Rd.move rfl rfl) ?_
   refine WL.rd rfl rfl rfl (Rd.lss rfl rfl rfl) ?_
   refine WL.nil ?_
   refine thenQ.normal ?_
   refine WC.ite rfl (fun hc3 => ?_) (fun hc3 => ?_)
   ·
    refine WC.tail 16 mixed Z.K ?_
    refine WS.rd rfl rfl rfl (Rd.move rfl rfl) ?_
    refine WS.rd rfl rfl rfl ((by exact Rd.idxArr1 (k := i) rfl A184 rfl rfl Z.W Z.W)) ?_
    refine WS.rd rfl rfl rfl (Rd.row1 rfl C5 rfl Z.M (mid_get _ _ _ hml)) ?_
    refine WS.rd rfl rfl rfl (Rd.move rfl rfl) ?_
    refine WS.rd rfl rfl rfl (Rd.nilc rfl rfl) ?_
    refine WS.rd rfl rfl rfl ((by exact Rd.field rfl F165_3 rfl rfl)) ?_
    refine WS.rd rfl rfl rfl ((by exact Rd.row1 rfl C3 rfl Z.M (by rfl))) ?_
    refine WS.rd rfl rfl rfl (Rd.move rfl rfl) ?_
    refine WS.rd rfl rfl rfl (Rd.mul rfl rfl rfl Z.W) ?_
    refine WS.rd rfl rfl rfl (Rd.sub rfl rfl rfl Z.W) ?_
    refine WS.rd rfl rfl rfl (Rd.shrN (a := n) (n := 48 - 8 * i) rfl rfl rfl rfl Z.W (by show 48 - 8 * i ≤ 64; omega)) ?_
    refine WS.rd rfl rfl rfl (Rd.andS (a := n / 2 ^ (48 - 8 * i)) (c := 255) rfl rfl rfl rfl rfl (show _ < 9223372036854775808 by omega) (by decide)) ?_
    refine WS.rd rfl rfl rfl (Rd.shrN (a := n / 2 ^ (48 - 8 * i) &&& 255) (n := 5) rfl rfl rfl rfl rfl (by decide)) ?_
    have h255 : n / 2 ^ (48 - 8 * i) &&& 255 ≤ 255 := Nat.and_le_right
    refine WS.rd rfl rfl rfl (Rd.conv rfl rfl Tryz.underlying5 (wrap_natU rfl (show _ < 256 by omega)) (hS := Tryz.underlying3)) ?_
    refine WS.rd rfl rfl rfl (Rd.orU rfl rfl rfl rfl rfl rfl (UInt8.toNat_lt _) (show _ < 256 by omega)) ?_
    refine WS.say 55 (u := vy (lenB n i)) rfl (by
    have e : ∀ m : Nat, m < 256 → (UInt8.ofNat m).toNat = m := fun m h => by simp; omega
    rw [e _ (Nat.mod_lt _ (by decide)), len_step Z.W, lenB, vy, e _ (Nat.mod_lt _ (by decide))]) ?_
    refine WS.rd rfl rfl rfl ((by exact Rd.idxArr1 (k := i) rfl A184 rfl rfl Z.W Z.W)) ?_
    refine WS.switch ?_
    refine WL.op rfl ?_
    refine OpW.store1 rfl Z5 rfl rfl (by exact ⟨rfl, rfl⟩) Z.T (by (simp; done)) rfl ?_
    refine WL.heap (fun w h => by rw [mid_set _ _ _ _ hml] at h; exact h) ?_
    refine WL.nil ?_
    refine blockQ.normal ?_
    refine thenQ.normal ?_
    refine WC.region ?_
    refine WL.rd rfl rfl rfl (Rd.add rfl rfl rfl Z.W) ?_
    refine WL.rd rfl rfl rfl (Rd.move rfl rfl) ?_
    refine WL.nil ?_
    exact loopQ1.mk (i + 1) Z.W Z.W (by repeat (first | exact Sub.nil | refine Sub.cons rfl (by rfl) ?_)) (fun w h => by rw [← lrow_done Z.W]; exact Z.Fw h)
   ·
    refine WC.skip ?_
    refine blockQ.normal ?_
    refine thenQ.normal ?_
    refine WC.region ?_
    refine WL.rd rfl rfl rfl (Rd.add rfl rfl rfl Z.W) ?_
    refine WL.rd rfl rfl rfl (Rd.move rfl rfl) ?_
    refine WL.nil ?_
    obtain rfl : i = 7 := by omega
    exact loopQ1.mk (7 + 1) Z.W Z.W (by repeat (first | exact Sub.nil | refine Sub.cons rfl (by rfl) ?_)) (fun w h => by rw [← lrow_done Z.W, lenB, ← last_step]; exact Z.Fw h)
  ·
   obtain rfl : i = 8 := by omega
   refine WC.heap (R' := R) (O' := rowC b4 184 ((lenE n).map vy) :: rowC b3 165 (hcell x.1 true x.2 (n + (padE n).length)) :: rowC b 165 (hcell v g r n) :: O) (fun w h => by
    have e : hlrow n 8 = (lenE n).map vy := by rw [hlrow, Nat.sub_self, List.replicate_zero, List.append_nil]; rfl
    rw [e] at h; exact h) ?_
   refine WC.exit ?_
   refine thenQ.exit ?_
   refine loopQ1.exit ?_
   refine blockQ.exit ?_
   refine thenQ.normal ?_
   refine WC.seq ?_
   refine WC.region ?_
   refine WL.rd rfl rfl rfl (Rd.sliceArr rfl A184 rfl (by decide)) ?_
   refine WL.rd rfl rfl rfl (Rd.strOfR (bs := lenE n) rfl Tryz.underlying70 Tryz.underlying9 Tryz.underlying5 rfl Z.M rfl (lenE_length n) Z.W) ?_
   refine WL.op rfl ?_
   refine OpW.call rfl rfl Z.E Z.K rfl rfl rfl ?_
   have hlE := lenE_length n
   refine Fun.heap (R' := R) (O' := rowC b3 165 (hcell x.1 true x.2 (n + (padE n).length)) :: rowC b 165 (hcell v g r n) :: O) Z.F ?_
   refine hput_spec (v := x.1) (g := true) (r := x.2) (s := lenE n) hr (fun _ => hxo) Z.W Z.W ?_
   rw [show x.1.begun true = x.1 from rfl, hxa]
   obtain ⟨y, hy⟩ : ∃ y, y = (blocks (v.begun g) (r ++ padE n ++ lenE n)).1 := ⟨_, rfl⟩
   rw [← hy]
   have hdg : digestS y = shaE t := by rw [hy]; exact hh.sum
   refine WL.nil ?_
   refine thenQ.normal ?_
   refine WC.seq ?_
   refine WC.region ?_
   refine WL.op rfl ?_
   refine OpW.make1 (m := 0) (c := 32) rfl S70 rfl rfl rfl rfl rfl Z.W Z.W Z.W rfl rfl ?_; intro b61
   refine WL.heap (fun w h => Sat.accCap (α := UInt8) (enc := SL.one vy) (size := 1) (c := 32) Z.T (by simp) (by decide) h) ?_
   refine WL.rd rfl rfl rfl (Rd.assign rfl rfl) ?_
   refine WL.nil ?_
   refine thenQ.normal ?_
   refine WC.seq ?_
   refine WC.seq ?_
   refine WC.region ?_
   refine WL.rd rfl rfl rfl ((by exact Rd.field rfl F165_0 rfl rfl)) ?_
   refine WL.rd rfl rfl rfl (Rd.rowS (ds := y.cs) rfl G163 rfl Z.M Z.N rfl) ?_
   refine WL.rd rfl rfl rfl (Rd.move rfl rfl) ?_
   refine WL.nil ?_
   refine thenQ.normal ?_
   refine WC.block ?_
   refine WC.pick [64, 6, 63] Z.P ?_
   refine WC.loop2 2 (fun (j : Nat) (u : Value) => [(64, .int .i64 (j : Int)), (6, u)]) (fun (j : Nat) (u : Value) => accC 5 1 (SL.one vy) u ((y.wl.take j).flatMap be4) :: rowC b3 165 (hcell y true (blocks (v.begun g) (r ++ padE n ++ lenE n)).2 (n + (padE n).length + (lenE n).length)) :: rowC b 165 (hcell v g r n) :: O) (fun (j : Nat) (u : Value) => j ≤ 8 ∧ OneV u) (fun (j : Nat) (u : Value) => 8 - j) (0) (.slice (some ⟨b61, 0, none⟩) 0 32) Z.L ?hinv2 (by repeat (first | exact Sub.nil | refine Sub.cons rfl (by rfl) ?_)) (fun _ h => h) ?_
   case hinv2 =>
    exact ⟨Nat.zero_le _, OneV.sl⟩
   intro j u
   rintro ⟨j1, j2⟩
   refine WC.seq ?_
   refine WC.region ?_
   refine WL.rd rfl rfl rfl (Rd.lss rfl rfl rfl) ?_
   refine WL.nil ?_
   refine thenQ.normal ?_
   refine WC.seq ?_
   refine WC.ite rfl (fun hc4 => ?_) (fun hc4 => ?_)
   ·
    have hyl : y.wl.length = 8 := rfl
    have hfs := flat_snoc (l := y.wl) (i := j) Z.W
    have hfl := be4_length (y.wl.take j)
    rw [List.length_take] at hfl
    refine WC.skip ?_
    refine thenQ.normal ?_
    refine WC.seq ?_
    refine WC.block ?_
    refine WC.seq ?_
    refine WC.region ?_
    refine WL.rd rfl rfl rfl (Rd.idxAgg (k := j) rfl A163 C134 rfl rfl Z.W Z.W (by rw [wl_cs, List.getElem?_map, get!_of_lt (xs := y.wl) Z.W]; rfl)) ?_
    refine WL.rd rfl rfl rfl (Rd.assign rfl rfl) ?_
    refine WL.nil ?_
    refine thenQ.normal ?_
    refine WC.region ?_
    refine WL.rd rfl rfl rfl (Rd.move rfl rfl) ?_
    refine WL.rd rfl rfl rfl (Rd.move rfl rfl) ?_
    refine WL.rd rfl rfl rfl (Rd.shrN (a := y.wl[j]!) (n := 24) rfl rfl rfl rfl rfl (by decide)) ?_
    refine WL.rd rfl rfl rfl ((by exact Rd.convw rfl rfl Tryz.underlying5 (hS := Tryz.underlying134))) ?_
    refine WL.say 70 (u := vy (UInt8.ofNat (y.wl[j]! / 2 ^ 24 % 256))) rfl (by rw [byte_wrapS]) ?_
    refine WL.rd rfl rfl rfl (Rd.move rfl rfl) ?_
    refine WL.rd rfl rfl rfl (Rd.shrN (a := y.wl[j]!) (n := 16) rfl rfl rfl rfl rfl (by decide)) ?_
    refine WL.rd rfl rfl rfl ((by exact Rd.convw rfl rfl Tryz.underlying5 (hS := Tryz.underlying134))) ?_
    refine WL.say 73 (u := vy (UInt8.ofNat (y.wl[j]! / 2 ^ 16 % 256))) rfl (by rw [byte_wrapS]) ?_
    refine WL.rd rfl rfl rfl (Rd.move rfl rfl) ?_
    refine WL.rd rfl rfl rfl (Rd.shrN (a := y.wl[j]!) (n := 8) rfl rfl rfl rfl rfl (by decide)) ?_
    refine WL.rd rfl rfl rfl ((by exact Rd.convw rfl rfl Tryz.underlying5 (hS := Tryz.underlying134))) ?_
    refine WL.say 76 (u := vy (UInt8.ofNat (y.wl[j]! / 2 ^ 8 % 256))) rfl (by rw [byte_wrapS]) ?_
    refine WL.rd rfl rfl rfl (Rd.move rfl rfl) ?_
    refine WL.rd rfl rfl rfl ((by exact Rd.convw rfl rfl Tryz.underlying5 (hS := Tryz.underlying134))) ?_
    refine WL.say 78 (u := vy (UInt8.ofNat (y.wl[j]! % 256))) rfl (by rw [byte_wrapS]) ?_
    refine WL.op rfl ?_
    refine OpW.buildSl (ps := [(0, _), (1, _), (2, _), (3, _)]) rfl S70 Z.E rfl rfl Z.C Z.K rfl rfl rfl ?_; intro b79
    refine WL.op rfl ?_
    refine OpW.appendRow (enc := SL.one vy) rfl S70 rfl rfl Z.T Z.T (be4 y.wl[j]!) rfl (by rfl) rfl (by intro x; rfl) (by intro x; rfl) (by exact ⟨by simp only [maxLen, List.length_append, List.length_nil, List.length_cons, List.length_drop, List.length_take, List.length_map]; omega, by omega⟩) rfl rfl ?_; intro v80 hv80
    refine WL.rd rfl rfl rfl (Rd.assign rfl rfl) ?_
    refine WL.nil ?_
    refine blockQ.normal ?_
    refine thenQ.normal ?_
    refine WC.region ?_
    refine WL.rd rfl rfl rfl (Rd.add rfl rfl rfl Z.W) ?_
    refine WL.rd rfl rfl rfl (Rd.move rfl rfl) ?_
    refine WL.nil ?_
    exact loopQ2.mk (j + 1) v80 ⟨by omega, hv80⟩ Z.W (by repeat (first | exact Sub.nil | refine Sub.cons rfl (by rfl) ?_)) (fun w h => by rw [hfs]; exact Z.Fw h)
   ·
    obtain rfl : j = 8 := by omega
    have hfin : (y.wl.take 8).flatMap be4 = shaE t := hdg
    refine WC.heap (fun w h => by rw [hfin] at h; exact h) ?_
    refine WC.exit ?_
    refine thenQ.exit ?_
    refine loopQ2.exit ?_
    refine blockQ.exit ?_
    refine thenQ.normal ?_
    refine WC.seq ?_
    refine WC.region ?_
    refine WL.rd rfl rfl rfl (Rd.move rfl rfl) ?_
    refine WL.rd rfl rfl rfl ((by exact Rd.strOfA rfl Tryz.underlying70 Tryz.underlying9 Tryz.underlying5 rfl Z.M)) ?_
    refine WL.rd rfl rfl rfl (Rd.assign rfl rfl) ?_
    refine WL.nil ?_
    refine thenQ.normal ?_
    refine WC.heap (R' := R) (O' := rowC b 165 (hcell v g r n) :: O) Z.F ?_
    refine WC.ret (Ret.one Tryz.results99 rfl ?_)
    exact hk
end Go.Proofs.YtckokhdjeifomaaGreatDoor
namespace Go.Proofs.YtckokhdjeifomaaGreatDoor
open Go Go.SL
theorem flatten_snoc {l : List (List UInt8)} {i : Nat} (h : i < l.length) : (l.take (i + 1)).flatten = (l.take i).flatten ++ l[i]! := by
 rw [List.take_add_one, get!_of_lt h, List.flatten_append]; simp
theorem flatten_take_le (l : List (List UInt8)) (i : Nat) : (l.take i).flatten.length ≤ l.flatten.length := by
 have h : l.flatten = (l.take i).flatten ++ (l.drop i).flatten := by rw [← List.flatten_append, List.take_append_drop]
 rw [h, List.length_append]; omega
set_option maxRecDepth 20000 in
set_option maxHeartbeats 1000000 in
theorem shaSum_spec {R : List RO} {O : List Own} {POST : Value → List RO → List Own → Prop} {l : List (List UInt8)} {lv : Value} (hr : rootsR ∈ R) (hl : SlE (SL.one vs) lv l ∈ R) (hn : l.flatten.length ≤ 281474976710656)
 (hk : POST (vs (shaE l.flatten)) R O) : Fun Tryz.prog 65 #[lv] R O POST := by
 refine Fun.len hl fun hll => ?_
 refine Fun.enter (l := [_]) Tryz.func65 rfl Tryz.ntmps65 rfl (L0 := [(0, _)]) rfl ?_
 refine WC.seq ?_
 refine WC.region ?_
 refine WL.rd rfl rfl rfl (Rd.assign rfl rfl) ?_
 refine WL.nil ?_
 refine thenQ.normal ?_
 refine WC.seq ?_
 refine WC.region ?_
 refine WL.op rfl ?_
 refine OpW.alloc rfl I165 rfl Z.N rfl rfl ?_; intro b3
 refine WL.nil ?_
 refine thenQ.normal ?_
 refine WC.seq ?_
 refine WC.seq ?_
 refine WC.region ?_
 refine WL.rd rfl rfl rfl (Rd.move rfl rfl) ?_
 refine WL.rd rfl rfl rfl ((by exact Rd.lenE rfl rfl Tryz.underlying40 Z.M)) ?_
 refine WL.rd rfl rfl rfl (Rd.move rfl rfl) ?_
 refine WL.nil ?_
 refine thenQ.normal ?_
 refine WC.block ?_
 refine WC.pick [8, 3, 6, 7] Z.P ?_
 refine WC.loop5 1 (fun (i : Nat) (v : St8) (g : Bool) (r : List UInt8) (n : Nat) => [(8, .int .i64 (i : Int))]) (fun (i : Nat) (v : St8) (g : Bool) (r : List UInt8) (n : Nat) => rowC b3 165 (hcell v g r n) :: O) (fun (i : Nat) (v : St8) (g : Bool) (r : List UInt8) (n : Nat) => i ≤ l.length ∧ HashOf v g r n (l.take i).flatten) (fun (i : Nat) (v : St8) (g : Bool) (r : List UInt8) (n : Nat) => l.length - i) (0) (⟨0, 0, 0, 0, 0, 0, 0, 0⟩) (false) ([]) (0) Z.L ?hinv1 (by repeat (first | exact Sub.nil | refine Sub.cons rfl (by rfl) ?_)) (fun _ h => h) ?_
 case hinv1 =>
  exact ⟨Nat.zero_le _, HashOf.new _⟩
 intro i v g r n
 rintro ⟨h1, h2⟩
 refine WC.seq ?_
 refine WC.region ?_
 refine WL.rd rfl rfl rfl (Rd.lss rfl rfl rfl) ?_
 refine WL.nil ?_
 refine thenQ.normal ?_
 refine WC.seq ?_
 refine WC.ite rfl (fun hc1 => ?_) (fun hc1 => ?_)
 ·
  have hf := flatten_snoc (l := l) (i := i) Z.W
  have hfl := congrArg List.length hf
  rw [List.length_append] at hfl
  have hfn := flatten_take_le l (i + 1)
  have hrr := h2.rest
  have hnn : n = (l.take i).flatten.length := h2.2.2
  refine WC.skip ?_
  refine thenQ.normal ?_
  refine WC.seq ?_
  refine WC.block ?_
  refine WC.seq ?_
  refine WC.region ?_
  refine WL.rd rfl rfl rfl ((by exact Rd.idx1 (k := i) rfl S40 rfl rfl Z.W Z.M Z.W)) ?_
  refine WL.rd rfl rfl rfl ((by exact Rd.get rfl C9 rfl Z.M (by exact get!_of_lt Z.W))) ?_
  refine WL.rd rfl rfl rfl (Rd.assign rfl rfl) ?_
  refine WL.nil ?_
  refine thenQ.normal ?_
  refine WC.region ?_
  refine WL.rd rfl rfl rfl (Rd.move rfl rfl) ?_
  refine WL.op rfl ?_
  refine OpW.call rfl rfl Z.E Z.K rfl rfl rfl ?_
  refine hput_spec hr h2.1 Z.W Z.W ?_
  refine WL.nil ?_
  refine blockQ.normal ?_
  refine thenQ.normal ?_
  refine WC.region ?_
  refine WL.rd rfl rfl rfl (Rd.add rfl rfl rfl Z.W) ?_
  refine WL.rd rfl rfl rfl (Rd.move rfl rfl) ?_
  refine WL.nil ?_
  exact loopQ5.mk (i + 1) _ _ _ _ ⟨by omega, by rw [hf]; exact h2.put _⟩ Z.W (by repeat (first | exact Sub.nil | refine Sub.cons rfl (by rfl) ?_)) Z.F
 ·
  have hi : l.take i = l := List.take_of_length_le Z.W
  rw [hi] at h2
  have hnn : n = l.flatten.length := h2.2.2
  refine WC.exit ?_
  refine thenQ.exit ?_
  refine loopQ5.exit ?_
  refine blockQ.exit ?_
  refine thenQ.normal ?_
  refine WC.seq ?_
  refine WC.region ?_
  refine WL.op rfl ?_
  refine OpW.call rfl rfl Z.E Z.K rfl rfl rfl ?_
  refine hsum_spec hr h2 Z.W ?_
  refine WL.rd rfl rfl rfl (Rd.assign rfl rfl) ?_
  refine WL.nil ?_
  refine thenQ.normal ?_
  refine WC.heap (R' := R) (O' := O) Z.F ?_
  refine WC.ret (Ret.one Tryz.results65 rfl ?_)
  exact hk
def digs : List UInt8 := [48, 49, 50, 51, 52, 53, 54, 55, 56, 57, 97, 98, 99, 100, 101, 102]
def dg (n : Nat) : UInt8 := digs[n]!
def val (c : UInt8) : Int := Lib.indexByte digs c
def hx (c : UInt8) : List UInt8 := [dg (c.toNat / 16), dg (c.toNat % 16)]
end Go.Proofs.YtckokhdjeifomaaGreatDoor
namespace Go.Proofs.YtckokhdjeifomaaGreatDoor
open Go Go.SL
section
variable {R : List RO} {O : List Own} {POST : Value → List RO → List Own → Prop}
set_option maxRecDepth 20000 in
theorem reads_spec (ht : tabR ∈ R) (hr : rootsR ∈ R) (hk : POST (.bool true) R O) : Fun Tryz.prog 31 #[] R O POST := by
 have hsl : (shaE [97]).length = 32 := by decide +kernel
 obtain ⟨dg, hdg⟩ : ∃ dg, dg = shaE [97] := ⟨_, rfl⟩
 rw [← hdg] at hsl
 have hfl : (frameE 1 dg).length = 38 := by rw [frame_length Z.W, hsl]; decide +kernel
 have hnx : nextF (frameE 1 dg) = (1, dg, 38, 0) := by
  have := frame_next (k := 1) (b := dg) Z.W []
  rw [List.append_nil, hfl] at this
  exact this
 have hp1 : putI ((1 : Nat) : Int) = [1] := by decide +kernel
 refine Fun.enter (l := []) Tryz.func31 rfl Tryz.ntmps31 rfl (L0 := []) rfl ?_
 refine WC.seq ?_
 refine WC.region ?_
 refine WL.rd rfl rfl rfl (Rd.assign rfl rfl) ?_
 refine WL.nil ?_
 refine thenQ.normal ?_
 refine WC.seq ?_
 refine WC.region ?_
 refine WL.op rfl ?_
 refine OpW.buildSl (ps := [(0, _)]) rfl S40 Z.E rfl rfl Z.C Z.K rfl rfl rfl ?_; intro b8
 refine WL.heap (fun w h => Sat.shareRow (enc := SL.one vs) (xs := [[97]]) (m := 1) Z.T rfl rfl (by decide) h) ?_
 refine WL.op rfl ?_
 refine OpW.call rfl rfl Z.E Z.K rfl rfl rfl ?_
 refine shaSum_spec (l := [[97]]) Z.M Z.M (by decide) ?_
 rw [show ([[97]] : List (List UInt8)).flatten = [97] from rfl, ← hdg]
 refine WL.op rfl ?_
 refine OpW.call rfl rfl Z.E Z.K rfl rfl rfl ?_
 refine frame_spec (k := 1) Z.M ?_
 refine WL.op rfl ?_
 refine OpW.call rfl rfl Z.E Z.K rfl rfl rfl ?_
 refine crcNext_spec Z.M Z.W ?_; rw [hnx]
 refine WL.rd rfl rfl rfl (Rd.move rfl rfl) ?_
 refine WL.rd rfl rfl rfl (Rd.extract rfl rfl rfl) ?_
 refine WL.rd rfl rfl rfl (Rd.extract rfl rfl rfl) ?_
 refine WL.rd rfl rfl rfl (Rd.extract rfl rfl rfl) ?_
 refine WL.rd rfl rfl rfl (Rd.extract rfl rfl rfl) ?_
 refine WL.rd rfl rfl rfl (Rd.assign rfl rfl) ?_
 refine WL.rd rfl rfl rfl (Rd.assign rfl rfl) ?_
 refine WL.rd rfl rfl rfl (Rd.assign rfl rfl) ?_
 refine WL.rd rfl rfl rfl (Rd.assign rfl rfl) ?_
 refine WL.nil ?_
 refine thenQ.normal ?_
 refine WC.seq ?_
 refine WC.region ?_
 refine WL.op rfl ?_
 refine OpW.call rfl rfl Z.E Z.K rfl rfl rfl ?_
 refine new_spec (fun h => by exfalso; omega) (fun n hn _ _ d V hv => ?_); obtain rfl : n = 1 := by omega
 refine WL.rd rfl rfl rfl (Rd.move rfl rfl) ?_
 refine WL.rd rfl rfl rfl (Rd.extract rfl rfl rfl) ?_
 refine WL.rd rfl rfl rfl (Rd.extract rfl rfl rfl) ?_
 refine WL.rd rfl rfl rfl (Rd.assign rfl rfl) ?_
 refine WL.rd rfl rfl rfl (Rd.assign rfl rfl) ?_
 refine WL.nil ?_
 refine thenQ.normal ?_
 refine WC.seq ?_
 refine WC.region ?_
 refine WL.rd rfl rfl rfl (Rd.move rfl rfl) ?_
 refine WL.rd rfl rfl rfl (Rd.eql rfl rfl rfl) ?_
 refine WL.rd rfl rfl rfl (Rd.move rfl rfl) ?_
 refine WL.case 22 rfl (fun hg22 => ?_) (fun hg22 => ?_)
 ·
  refine WL.rd_yes rfl rfl rfl rfl rfl rfl (Rd.move rfl rfl) ?_
  refine WL.rd_yes rfl rfl rfl rfl rfl rfl (Rd.slen (ts := #[]) (ty := 0) rfl rfl Tryz.underlying9) ?_
  refine WL.rd_yes rfl rfl rfl rfl rfl rfl (Rd.eql rfl rfl rfl) ?_
  refine WL.rd rfl rfl rfl (Rd.pick_t rfl rfl rfl) ?_
  refine WL.rd rfl rfl rfl (Rd.move rfl rfl) ?_
  refine WL.case 27 rfl (fun hg27 => ?_) (fun hg27 => ?_)
  ·
   refine WL.rd_yes rfl rfl rfl rfl rfl rfl (Rd.move rfl rfl) ?_
   refine WL.rd_yes rfl rfl rfl rfl rfl rfl (Rd.eql rfl rfl rfl) ?_
   refine WL.rd rfl rfl rfl (Rd.pick_t rfl rfl rfl) ?_
   refine WL.rd rfl rfl rfl (Rd.move rfl rfl) ?_
   refine WL.case 31 rfl (fun hg31 => ?_) (fun hg31 => ?_)
   ·
    refine WL.rd_yes rfl rfl rfl rfl rfl rfl (Rd.move rfl rfl) ?_
    refine WL.rd_yes rfl rfl rfl rfl rfl rfl (Rd.eql rfl rfl rfl) ?_
    refine WL.rd rfl rfl rfl (Rd.pick_t rfl rfl rfl) ?_
    refine WL.rd rfl rfl rfl (Rd.move rfl rfl) ?_
    refine WL.case 35 rfl (fun hg35 => ?_) (fun hg35 => ?_)
    ·
     refine WL.rd_yes rfl rfl rfl rfl rfl rfl (Rd.move rfl rfl) ?_
     refine WL.op_yes rfl rfl rfl rfl ?_
     refine OpW.call rfl rfl Z.E Z.K rfl rfl rfl ?_
     refine size_spec ?_
     refine WL.rd_yes rfl rfl rfl rfl rfl rfl (Rd.eql rfl rfl rfl) ?_
     refine WL.rd rfl rfl rfl (Rd.pick_t rfl rfl rfl) ?_
     refine WL.rd rfl rfl rfl (Rd.move rfl rfl) ?_
     refine WL.case 40 rfl (fun hg40 => ?_) (fun hg40 => ?_)
     ·
      refine WL.op_yes rfl rfl rfl rfl ?_
      refine OpW.call rfl rfl Z.E Z.K rfl rfl rfl ?_
      refine put_spec (p := ((1 : Nat) : Int)) ?_; rw [hp1]
      refine WL.rd_yes rfl rfl rfl rfl rfl rfl (Rd.seql rfl rfl rfl) ?_
      refine WL.say 42 (u := .bool true) rfl (by simp) ?_
      refine WL.rd rfl rfl rfl (Rd.pick_t rfl rfl rfl) ?_
      refine WL.rd rfl rfl rfl (Rd.assign rfl rfl) ?_
      refine WL.nil ?_
      refine thenQ.normal ?_
      refine WC.heap (R' := R) (O' := O) Z.F ?_
      refine WC.ret (Ret.one Tryz.results31 rfl ?_)
      exact hk
     ·
      exact absurd rfl hg40
    ·
     exact absurd rfl hg35
   ·
    exact absurd rfl hg31
  ·
   exact absurd (by rw [hsl]; rfl) hg27
 ·
  exact absurd rfl hg22
theorem spB_none {n j : Nat} (h : j < (n + 7) / 8) : (spB n noneF)[j]! = 0 := by
 rw [spB_zero, getElem!_pos _ j (by rw [List.length_replicate]; exact h), List.getElem_replicate]
set_option maxRecDepth 20000 in
theorem spFree_spec {n : Nat} (hn : n ≤ 4096) (hk : POST (.int .i64 (n : Int)) R O) : Fun Tryz.prog 33 #[spV n noneF] R O POST := by
 refine Fun.turn ?_
 have hbl : (spB n noneF).length = (n + 7) / 8 := spB_len n noneF
 refine Fun.enter (l := [_]) Tryz.func33 rfl Tryz.ntmps33 rfl (L0 := [(0, _)]) rfl ?_
 refine WC.seq ?_
 refine WC.region ?_
 refine WL.op rfl ?_
 refine OpW.box rfl rfl Z.N rfl rfl ?_; intro b1
 refine WL.rd rfl rfl rfl (Rd.assign rfl rfl) ?_
 refine WL.nil ?_
 refine thenQ.normal ?_
 refine WC.seq ?_
 refine WC.region ?_
 refine WL.rd rfl rfl rfl ((by exact Rd.field rfl F63_0 rfl rfl)) ?_
 refine WL.rd rfl rfl rfl ((by exact Rd.row1 rfl C3 rfl Z.M (by rfl))) ?_
 refine WL.rd rfl rfl rfl (Rd.assign rfl rfl) ?_
 refine WL.nil ?_
 refine thenQ.normal ?_
 refine WC.seq ?_
 refine WC.seq ?_
 refine WC.region ?_
 refine WL.rd rfl rfl rfl ((by exact Rd.field rfl F63_1 rfl rfl)) ?_
 refine WL.rd rfl rfl rfl ((by exact Rd.row1 rfl C9 rfl Z.M (by rfl))) ?_
 refine WL.rd rfl rfl rfl (Rd.slen (ts := #[]) (ty := 0) rfl rfl Tryz.underlying9) ?_
 refine WL.rd rfl rfl rfl (Rd.move rfl rfl) ?_
 refine WL.nil ?_
 refine thenQ.normal ?_
 refine WC.block ?_
 refine WC.pick [11, 3, 1, 10] Z.P ?_
 refine WC.loop1o 2 (fun (j : Nat) => [(11, .int .i64 (j : Int)), (3, .int .i64 (n : Int))]) (fun (j : Nat) => j ≤ (n + 7) / 8) (fun (j : Nat) => (n + 7) / 8 - j) (0) Z.L ?hinv1 (by repeat (first | exact Sub.nil | refine Sub.cons rfl (by rfl) ?_)) (fun _ h => h) ?_
 case hinv1 =>
  exact Nat.zero_le _
 intro j
 rintro hI1
 refine WC.seq ?_
 refine WC.region ?_
 refine WL.rd rfl rfl rfl (Rd.lss rfl rfl rfl) ?_
 refine WL.nil ?_
 refine thenQ.normal ?_
 refine WC.seq ?_
 refine WC.ite rfl (fun hc1 => ?_) (fun hc1 => ?_)
 ·
  refine WC.skip ?_
  refine thenQ.normal ?_
  refine WC.seq ?_
  refine WC.block ?_
  refine WC.seq ?_
  refine WC.region ?_
  refine WL.rd rfl rfl rfl (Rd.move rfl rfl) ?_
  refine WL.rd rfl rfl rfl (Rd.assign rfl rfl) ?_
  refine WL.nil ?_
  refine thenQ.normal ?_
  refine WC.seq ?_
  refine WC.region ?_
  refine WL.rd rfl rfl rfl ((by exact Rd.field rfl F63_1 rfl rfl)) ?_
  refine WL.rd rfl rfl rfl ((by exact Rd.row1 rfl C9 rfl Z.M (by rfl))) ?_
  refine WL.rd rfl rfl rfl (Rd.move rfl rfl) ?_
  refine WL.rd rfl rfl rfl (Rd.sidx (k := j) (b := 0) rfl Tryz.underlying9 rfl rfl rfl (by rw [get!_of_lt (show j < (spB n noneF).length by rw [hbl]; omega), spB_none Z.W])) ?_
  refine WL.rd rfl rfl rfl (Rd.assign rfl rfl) ?_
  refine WL.nil ?_
  refine thenQ.normal ?_
  refine WC.block ?_
  refine WC.pick [5, 3, 1, 10, 11] Z.P ?_
  refine WC.loop1o 2 (fun (z : Unit) => [(5, vy 0), (3, .int .i64 (n : Int))]) (fun (z : Unit) => True) (fun (z : Unit) => 0) (()) Z.L ?hinv2 (by repeat (first | exact Sub.nil | refine Sub.cons rfl (by rfl) ?_)) (fun _ h => h) ?_
  case hinv2 =>
   trivial
  intro z
  rintro hI2
  refine WC.seq ?_
  refine WC.seq ?_
  refine WC.region ?_
  refine WL.rd rfl rfl rfl (Rd.move rfl rfl) ?_
  refine WL.rd rfl rfl rfl (Rd.neq rfl rfl rfl) ?_
  refine WL.nil ?_
  refine thenQ.normal ?_
  refine WC.ite rfl (fun hc2 => ?_) (fun hc2 => ?_)
  ·
   exact absurd rfl hc2
  ·
   refine WC.exit ?_
   refine thenQ.exit ?_
   refine loopQ1.exit ?_
   refine blockQ.exit ?_
   refine blockQ.normal ?_
   refine thenQ.normal ?_
   refine WC.region ?_
   refine WL.rd rfl rfl rfl (Rd.add rfl rfl rfl Z.W) ?_
   refine WL.rd rfl rfl rfl (Rd.move rfl rfl) ?_
   refine WL.nil ?_
   exact loopQ1.mk (j + 1) Z.W Z.W (by repeat (first | exact Sub.nil | refine Sub.cons rfl (by rfl) ?_)) (fun _ h => h)
 ·
  refine WC.exit ?_
  refine thenQ.exit ?_
  refine loopQ1.exit ?_
  refine blockQ.exit ?_
  refine thenQ.normal ?_
  refine WC.seq ?_
  refine WC.region ?_
  refine WL.rd rfl rfl rfl (Rd.move rfl rfl) ?_
  refine WL.rd rfl rfl rfl (Rd.assign rfl rfl) ?_
  refine WL.nil ?_
  refine thenQ.normal ?_
  refine WC.ret (Ret.one Tryz.results33 rfl ?_)
  exact ⟨_, _, hk, Z.F⟩
set_option maxRecDepth 20000 in
theorem makes_spec (ht : tabR ∈ R) (hr : rootsR ∈ R) (hk : POST (.bool true) R O) : Fun Tryz.prog 12 #[] R O POST := by
 refine Fun.turn ?_
 have ho : openE (newS 8) 4 4 = (newS 8, 0, 0) := open_zero (f := 4) (z := 4) (n := 8) ⟨by omega, by omega, by omega, by omega⟩ ⟨rfl, rfl, rfl, rfl⟩
 refine Fun.enter (l := []) Tryz.func12 rfl Tryz.ntmps12 rfl (L0 := []) rfl ?_
 refine WC.seq ?_
 refine WC.region ?_
 refine WL.rd rfl rfl rfl (Rd.assign rfl rfl) ?_
 refine WL.nil ?_
 refine thenQ.normal ?_
 refine WC.seq ?_
 refine WC.region ?_
 refine WL.op rfl ?_
 refine OpW.call rfl rfl Z.E Z.K rfl rfl rfl ?_
 refine new_spec (fun h => by exfalso; omega) (fun n hn _ _ d V hv => ?_); obtain rfl : n = 8 := by omega
 refine WL.rd rfl rfl rfl (Rd.move rfl rfl) ?_
 refine WL.rd rfl rfl rfl (Rd.extract rfl rfl rfl) ?_
 refine WL.rd rfl rfl rfl (Rd.extract rfl rfl rfl) ?_
 refine WL.rd rfl rfl rfl (Rd.assign rfl rfl) ?_
 refine WL.rd rfl rfl rfl (Rd.assign rfl rfl) ?_
 refine WL.nil ?_
 refine thenQ.normal ?_
 refine WC.seq ?_
 refine WC.region ?_
 refine WL.rd rfl rfl rfl (Rd.move rfl rfl) ?_
 refine WL.op rfl ?_
 refine OpW.call rfl rfl Z.E Z.K rfl rfl rfl ?_
 refine walOpen_spec Z.M (m := 0) (⟨DOk.new Z.W, W512.new⟩) Z.W hv Z.M ?_; rw [ho]; intro V' po hv' hkv' hpo; obtain ⟨l, rfl⟩ : ∃ l, po = some l := Option.isSome_iff_exists.1 (hpo.2 rfl)
 refine WL.heap (R' := logR l d 4 4 :: R) (fun w h => (h.derive (q := logR l d 4 4) (fun w hw => hw _ List.mem_cons_self l rfl)).thin (by intro p hp; rcases List.mem_cons.1 hp with rfl | hp; exact List.mem_cons_self; exact List.mem_cons_of_mem _ (List.mem_cons_of_mem _ (List.mem_cons_of_mem _ hp)))) ?_
 refine WL.rd rfl rfl rfl (Rd.move rfl rfl) ?_
 refine WL.rd rfl rfl rfl (Rd.extract rfl rfl rfl) ?_
 refine WL.rd rfl rfl rfl (Rd.extract rfl rfl rfl) ?_
 refine WL.rd rfl rfl rfl (Rd.extract rfl rfl rfl) ?_
 refine WL.rd rfl rfl rfl (Rd.assign rfl rfl) ?_
 refine WL.rd rfl rfl rfl (Rd.assign rfl rfl) ?_
 refine WL.rd rfl rfl rfl (Rd.assign rfl rfl) ?_
 refine WL.nil ?_
 refine thenQ.normal ?_
 refine WC.seq ?_
 refine WC.region ?_
 refine WL.op rfl ?_
 refine OpW.call rfl rfl Z.E Z.K rfl rfl rfl ?_
 refine spNew_spec (n := 3) Z.W ?_
 refine WL.rd rfl rfl rfl (Rd.move rfl rfl) ?_
 refine WL.rd rfl rfl rfl (Rd.extract rfl rfl rfl) ?_
 refine WL.rd rfl rfl rfl (Rd.extract rfl rfl rfl) ?_
 refine WL.op rfl ?_
 refine OpW.alloc rfl I63 rfl Z.N rfl rfl ?_; intro b6
 refine WL.op rfl ?_
 refine OpW.storeS rfl G63 rfl rfl Z.N Z.T rfl rfl Z.N rfl ?_
 refine WL.rd rfl rfl rfl (Rd.assign rfl rfl) ?_
 refine WL.nil ?_
 refine thenQ.normal ?_
 refine WC.seq ?_
 refine WC.region ?_
 refine WL.op rfl ?_
 refine OpW.call rfl rfl Z.E Z.K rfl rfl rfl ?_
 refine reads_spec Z.M Z.M ?_
 refine WL.rd rfl rfl rfl (Rd.move rfl rfl) ?_
 refine WL.say 23 (u := .bool (decide True)) rfl (by simp) ?_
 refine WL.case 23 rfl (fun hg23 => ?_) (fun hg23 => ?_)
 ·
  refine WL.rd_yes rfl rfl rfl rfl rfl rfl (Rd.move rfl rfl) ?_
  refine WL.rd_yes rfl rfl rfl rfl rfl rfl (Rd.eql rfl rfl rfl) ?_
  refine WL.rd rfl rfl rfl (Rd.pick_t rfl rfl rfl) ?_
  refine WL.rd rfl rfl rfl (Rd.move rfl rfl) ?_
  refine WL.case 27 rfl (fun hg27 => ?_) (fun hg27 => ?_)
  ·
   refine WL.rd_yes rfl rfl rfl rfl rfl rfl (Rd.move rfl rfl) ?_
   refine WL.op_yes rfl rfl rfl rfl ?_
   refine OpW.call rfl rfl Z.E Z.K rfl rfl rfl ?_
   refine most_spec (show logR l d 4 4 ∈ _ from List.mem_cons_self) Z.W ?_
   refine WL.rd_yes rfl rfl rfl rfl rfl rfl (Rd.eql rfl rfl rfl) ?_
   refine WL.rd rfl rfl rfl (Rd.pick_t rfl rfl rfl) ?_
   refine WL.rd rfl rfl rfl (Rd.move rfl rfl) ?_
   refine WL.case 32 rfl (fun hg32 => ?_) (fun hg32 => ?_)
   ·
    refine WL.rd_yes rfl rfl rfl rfl rfl rfl (Rd.move rfl rfl) ?_
    refine WL.rd_yes rfl rfl rfl rfl rfl rfl (Rd.eql rfl rfl rfl) ?_
    refine WL.rd rfl rfl rfl (Rd.pick_t rfl rfl rfl) ?_
    refine WL.rd rfl rfl rfl (Rd.move rfl rfl) ?_
    refine WL.case 36 rfl (fun hg36 => ?_) (fun hg36 => ?_)
    ·
     refine WL.rd_yes rfl rfl rfl rfl rfl rfl ((by exact Rd.rowS rfl G63 rfl Z.M Z.N rfl)) ?_
     refine WL.op_yes rfl rfl rfl rfl ?_
     refine OpW.call rfl rfl Z.E Z.K rfl rfl rfl ?_
     refine spFree_spec (n := 3) Z.W ?_
     refine WL.rd_yes rfl rfl rfl rfl rfl rfl (Rd.eql rfl rfl rfl) ?_
     refine WL.rd rfl rfl rfl (Rd.pick_t rfl rfl rfl) ?_
     refine WL.rd rfl rfl rfl (Rd.assign rfl rfl) ?_
     refine WL.nil ?_
     refine thenQ.normal ?_
     refine WC.ret (Ret.one Tryz.results12 rfl ?_)
     exact ⟨_, _, hk, Z.F⟩
    ·
     exact absurd rfl hg36
   ·
    exact absurd rfl hg32
  ·
   exact absurd rfl hg27
 ·
  exact absurd trivial hg23
end
end Go.Proofs.YtckokhdjeifomaaGreatDoor
namespace Go.Proofs.YtckokhdjeifomaaGreatDoor
open Go Go.SL
def needO : Option Tx → Nat
 | none => 0
 | some c => needsE c.length
def needL (l : List UInt8) (C : CF) : Nat := (l.map fun x => needO (C [x])).sum
abbrev needC (C : CF) : Nat := needL N4 C
theorem needL_same {l : List UInt8} {C C' : CF} (h : ∀ x ∈ l, C [x] = C' [x]) : needL l C = needL l C' := by
 unfold needL
 congr 1
 exact List.map_congr_left fun x hx => by rw [h x hx]
theorem needL_cons (x : UInt8) (l : List UInt8) (C : CF) : needL (x :: l) C = needO (C [x]) + needL l C := by unfold needL; rw [List.map_cons, List.sum_cons]
theorem need_upd : ∀ {l : List UInt8} {C : CF} {x : UInt8} {v : Option Tx}, l.Nodup → x ∈ l → needL l (updC C [x] v) + needO (C [x]) = needL l C + needO v
 | y :: l, C, x, v, hn, hx => by
   rw [List.nodup_cons] at hn
   rw [needL_cons, needL_cons]
   rcases List.mem_cons.1 hx with rfl | hx
   · rw [updC_self, needL_same (C := updC C [x] v) (C' := C) (fun z hz => updC_ne (fun e => hn.1 (by rw [← one_inj e]; exact hz)))]
     omega
   · have hxy : y ≠ x := fun e => hn.1 (e ▸ hx)
     rw [updC_ne (by simpa using hxy)]
     have := need_upd (C := C) (v := v) hn.2 hx
     omega
theorem need_app (a b : Nat) : needsE (a + b) ≤ needsE a + needsE b ∧ needsE a ≤ needsE (a + b) := by unfold needsE; omega
theorem need_le {a : Nat} (h : a ≤ 2047) : needsE a ≤ 4 := by unfold needsE; omega
/-- What deeds make more of the contents. -/
structure PC (i : Nat) (C : CF) : Prop where
 nm : ∀ b, C b ≠ none → Nm b
 len : ∀ b c, C b = some c → c.length ≤ 2047 * i
 need : needC C ≤ 4 * i
theorem PC.zero : PC 0 (fun _ => none) := ⟨fun _ h => absurd rfl h, fun _ _ h => (by cases h), by decide⟩
theorem PC.mono {i j : Nat} {C : CF} (h : PC i C) (hij : i ≤ j) : PC j C := ⟨h.nm, fun b c hc => Nat.le_trans (h.len b c hc) (Nat.mul_le_mul_left _ hij), Nat.le_trans h.need (Nat.mul_le_mul_left _ hij)⟩
theorem PC.upd {i : Nat} {C : CF} {x : UInt8} {v : Option Tx} (h : PC i C) (hx : x ∈ N4) (hl : ∀ c, v = some c → c.length ≤ 2047 * (i + 1)) (hn : needO v ≤ needO (C [x]) + 4) : PC (i + 1) (updC C [x] v) := by
 have hu := need_upd (C := C) (v := v) n4_nodup hx
 have h0 := h.need
 refine ⟨fun b hb => ?_, fun b c hc => ?_, ?_⟩
 · by_cases e : b = [x]
   · exact ⟨x, hx, e⟩
   · rw [updC_ne e] at hb; exact h.nm b hb
 · by_cases e : b = [x]
   · subst e; rw [updC_self] at hc; exact hl c hc
   · rw [updC_ne e] at hc; have := h.len b c hc; omega
 · show needL N4 _ ≤ _
   have : needC C = needL N4 C := rfl
   omega
theorem res_pc {i : Nat} {w : Int} {name tn data : Tx} {C : CF} (h : PC i C) (h1 : Nm name) (h2 : Nm tn) (hd : data.length ≤ 2047) : PC (i + 1) (resC w name tn data C).2 := by
 obtain ⟨x, hx, rfl⟩ := h1
 obtain ⟨y, hy, rfl⟩ := h2
 have hmono := h.mono (Nat.le_succ i)
 have hnd := need_le hd
 unfold resC
 split
 · cases hc : C [x] with
   | none => exact hmono
   | some c =>
     refine h.upd hx (fun c' e => ?_) ?_
     · cases e; rw [List.length_append]; have := h.len _ c hc; omega
     · rw [hc]; show needsE (c ++ data).length ≤ needsE c.length + 4; rw [List.length_append]; have := (need_app c.length data.length).1; omega
 · split
   · cases hc : C [x] with
     | none => exact hmono
     | some c =>
       dsimp only
       split
       · exact hmono
       · rename_i hne
         have hxy : ([y] : Tx) ≠ [x] := fun e => hne e.symm
         have l1 := need_upd (C := updC C [x] none) (x := y) (v := some c) n4_nodup hy
         have l2 := need_upd (C := C) (x := x) (v := none) n4_nodup hx
         rw [hc] at l2
         have h0 := h.need
         show PC (i + 1) (updC (updC C [x] none) [y] (some c))
         refine ⟨fun b hb => ?_, fun b d' hc' => ?_, ?_⟩
         · by_cases e : b = [y]
           · exact ⟨y, hy, e⟩
           · rw [updC_ne e] at hb
             by_cases e2 : b = [x]
             · exact ⟨x, hx, e2⟩
             · rw [updC_ne e2] at hb; exact h.nm b hb
         · by_cases e : b = [y]
           · subst e; rw [updC_self] at hc'; cases hc'; have := h.len _ c hc; omega
           · rw [updC_ne e] at hc'
             by_cases e2 : b = [x]
             · subst e2; rw [updC_self] at hc'; cases hc'
             · rw [updC_ne e2] at hc'; have := h.len b d' hc'; omega
         · show needL N4 _ ≤ _
           have : needC C = needL N4 C := rfl
           have e3 : needO none = 0 := rfl
           omega
   · split
     · cases hc : C [x] with
       | none => exact hmono
       | some c => exact h.upd hx (fun c' e => by cases e) (Nat.zero_le _)
     · refine h.upd hx (fun c' e => ?_) ?_
       · cases e; omega
       · show needsE data.length ≤ _; omega
structure Stt (n files : Nat) (C : CF) (F : FS) (sp : Nat → Bool) (D : DSt) : Prop where
 mnt : Mnt n files F sp D
 cont : ∀ b, contF D.lasts (7 + files) F b = C b
 cnt : cntF sp (n - (7 + files)) + needC C = n - (7 + files)
theorem cont_len {n files : Nat} {F : FS} {sp : Nat → Bool} {L : List Tx} (h : FInv n files F sp L) {b : Tx} {x : Ino} (hx : F b = some x) : (contE L (7 + files) x).length = x.n := by
 have hs := (h.fok.ok b x hx).sum
 rw [contE_eq, List.length_take, readS_len h.w (fun i hi => (sec_lt h hx i hi).2), sec_len, hs]
 unfold needsE
 omega
theorem Stt.has {n files : Nat} {C : CF} {F : FS} {sp : Nat → Bool} {D : DSt} (h : Stt n files C F sp D) {b : Tx} {x : Ino} (hx : F b = some x) : C b = some (contE D.lasts (7 + files) x) ∧ (contE D.lasts (7 + files) x).length = x.n := by
 refine ⟨?_, cont_len h.mnt.inv hx⟩
 rw [← h.cont b]; unfold contF; rw [hx]; rfl
theorem Stt.no {n files : Nat} {C : CF} {F : FS} {sp : Nat → Bool} {D : DSt} (h : Stt n files C F sp D) {b : Tx} (hx : F b = none) : C b = none := by
 rw [← h.cont b]; unfold contF; rw [hx]; rfl
/-- What there is behind a deed. -/
structure Dn (n files : Nat) (C C' : CF) (err : Nat) (D : DSt) (F : FS) (sp : Nat → Bool) (off : Bool) (D' : DSt) (e : Nat) : Prop where
 keep : D'.keep = D.keep
 res : (e = err ∧ off = false ∧ Stt n files C' F sp D' ∧ (D.left = 0 → D'.left = 0)) ∨
  (D.left ≠ 0 ∧ e = 7 ∧ D'.lasts.length = n ∧ readE (onS D') 0 = (headF n files, 0) ∧ (openE (onS D') ((2 + files : Nat) : Int) 5).2.2 = 0 ∧ (openE (onS D') ((2 + files : Nat) : Int) 5).1.left = 0 ∧
    ∃ F2 sp2, Stt n files C F2 sp2 (openE (onS D') ((2 + files : Nat) : Int) 5).1 ∨ Stt n files C' F2 sp2 (openE (onS D') ((2 + files : Nat) : Int) 5).1)
theorem Dn.same {n files : Nat} {C : CF} {err : Nat} {D : DSt} {F : FS} {sp : Nat → Bool} (h : Stt n files C F sp D) : Dn n files C C err D F sp false D err :=
 ⟨rfl, .inl ⟨rfl, rfl, h, id⟩⟩
section
variable {n files k : Nat} {F F' : FS} {sp sp' : Nat → Bool}
theorem op_more {s : DSt} {l : List Nat} {d bs : Tx} {ch : List (Nat × Tx)} (hm : Mnt n files F sp s) (dk : Dk s k) (hn : 7 + files < n) (hn2 : n ≤ 4096) (hbl : bs.length ≤ 512) (hl : ∀ i ∈ l, 7 + files ≤ i ∧ i < n) (hchl : ch.length ≤ 3) (hci : ∀ c ∈ ch, c.1 < files ∧ c.2.length ≤ 512) :
 Dk (opS s ((2 + files : Nat) : Int) 5 l d bs ch).1 (k + l.length + 301) ∧ (opS s ((2 + files : Nat) : Int) 5 l d bs ch).1.keep = s.keep ∧ (opS s ((2 + files : Nat) : Int) 5 l d bs ch).1.lasts.length = n ∧ (opS s ((2 + files : Nat) : Int) 5 l d bs ch).1.lasts[0]? = some (headF n files) := by
 have htame : Tame (2 + files) 5 n (setlC bs ch) := by
  refine ⟨⟨⟨by omega, by omega, by omega, hn2⟩, by unfold setlC; rw [List.length_cons, List.length_map]; omega⟩, fun c hc => ?_⟩
  rcases List.mem_cons.1 hc with rfl | hc
  · exact ⟨.inl ⟨by show (0 : Int) ≤ 1; omega, by show (1 : Int) < _; omega⟩, hbl⟩
  · obtain ⟨y, hy, rfl⟩ := List.mem_map.1 hc
    obtain ⟨g1, g2⟩ := hci y hy
    exact ⟨.inl ⟨by show (0 : Int) ≤ ((2 + y.1 : Nat) : Int); omega, by show ((2 + y.1 : Nat) : Int) < _; omega⟩, g2⟩
 have hlay : Dk (layS s l d).1 (k + l.length + 1) ∧ (layS s l d).1.keep = s.keep := by
  unfold layS
  split
  · exact ⟨dk.mono Z.W, rfl⟩
  · have := make_dk (x := chunksE l d) dk; rw [chunks_len] at this; exact ⟨this.1, this.2.2⟩
 have hdk : Dk (opS s ((2 + files : Nat) : Int) 5 l d bs ch).1 (k + l.length + 301) ∧ (opS s ((2 + files : Nat) : Int) 5 l d bs ch).1.keep = s.keep := by
  unfold opS thenE
  split
  · exact ⟨hlay.1.mono Z.W, hlay.2⟩
  · have := commit_dk hlay.1 (f := ((2 + files : Nat) : Int)) (z := 5) Z.W (setlC bs ch)
    exact ⟨this.1.mono Z.W, this.2.2.trans hlay.2⟩
 have o1 : OffC (chunksE l d) 0 := chunks_off fun hc => by have := (hl 0 hc).1; omega
 have o2 : OffC (setlC bs ch) 0 := fun c hc => by
  rcases List.mem_cons.1 hc with rfl | hc
  · show (1 : Int).toNat ≠ 0; decide
  · obtain ⟨y, hy, rfl⟩ := List.mem_map.1 hc
    show ((2 + y.1 : Nat) : Int).toNat ≠ 0; omega
 have hh := hm.inv.head
 obtain ⟨_, a2⟩ := op_law (d := d) hm.cl (fun i hi => by have := hl i hi; omega) htame
 have e5 : ((5 : Nat) : Int) = 5 := rfl
 rw [e5] at a2
 refine ⟨hdk.1, hdk.2, ?_⟩
 have fin : ∀ {T M : List Tx}, StA (2 + files) 5 n T M → T[0]? = some (headF n files) → M.length = n ∧ M[0]? = some (headF n files) := fun h hT => ⟨h.len, by rw [h.out 0 (.inl Z.W)]; exact hT⟩
 rcases a2 with ⟨_, _, b3, _⟩ | ⟨_, _, _, b3⟩
 · exact fin b3 (by rw [apply_off _ _ _ o2, apply_off _ _ _ o1]; exact hh)
 · rcases b3 with ⟨sub, q1, q2⟩ | q2
   · exact fin q2 (by rw [apply_off _ _ _ (off_sub o1 q1)]; exact hh)
   · rcases q2 with q2 | q2 | q2
     · exact fin q2 (by rw [apply_off _ _ _ o1]; exact hh)
     · exact fin q2 (by rw [apply_off _ _ _ o2, apply_off _ _ _ o1]; exact hh)
     · exact ⟨q2.len, by rw [q2.out 0 (.inl Z.W) o2, apply_off _ _ _ o1]; exact hh⟩
theorem read_on {E : DSt} {files : Nat} (hlen : E.lasts.length = n) (hn : 0 < n) (hs : E.since = []) (h0 : E.lasts[0]? = some (headF n files)) : readE (onS E) 0 = (headF n files, 0) := by
 have := read_at (s := onS E) rfl hs (i := 0) (by show 0 < E.lasts.length; omega)
 rw [get!_of_lt Z.W] at h0
 rw [show ((0 : Nat) : Int) = 0 from rfl, show (onS E).lasts = E.lasts from rfl, Option.some.inj h0] at this
 exact this
theorem Dn.mk' {C C' : CF} {s : DSt} {l : List Nat} {d : Tx} {ch : List (Nat × Tx)} (hS : Stt n files C F sp s) (dk : Dk s k) (hn : 7 + files < n) (hn2 : n ≤ 4096) (hl : ∀ i ∈ l, 7 + files ≤ i ∧ i < n) (hchl : ch.length ≤ 3) (hci : ∀ c ∈ ch, c.1 < files ∧ c.2.length ≤ 512) (hcn : cntF sp' (n - (7 + files)) + needC C' = n - (7 + files))
 (h0 : ∀ sub, List.Sublist sub (chunksE l d) → FInv n files F sp (applyA sub s.lasts) ∧ ∀ b, contF (applyA sub s.lasts) (7 + files) F b = C b)
 (h1 : FInv n files F' sp' (applyA (setlC (spB (n - (7 + files)) sp') ch) (applyA (chunksE l d) s.lasts)) ∧ ∀ b, contF (applyA (setlC (spB (n - (7 + files)) sp') ch) (applyA (chunksE l d) s.lasts)) (7 + files) F' b = C' b)
 {p : DSt × Nat} (hp : p = opS s ((2 + files : Nat) : Int) 5 l d (spB (n - (7 + files)) sp') ch) :
 Dn n files C C' 0 s (if p.2 = 0 then F' else F) (if p.2 = 0 then sp' else sp) (decide (p.2 ≠ 0)) p.1 p.2 ∧ Dk p.1 (k + l.length + 301) := by
 subst hp
 have hdp := deed_law (C := C) (C' := C') hS.mnt dk hn hn2 hl hchl hci h0 h1
 obtain ⟨m1, m2, m3, m4⟩ := op_more (d := d) (bs := spB (n - (7 + files)) sp') hS.mnt dk hn hn2 (by rw [spB_len]; omega) hl hchl hci
 refine ⟨⟨m2, ?_⟩, m1⟩
 rcases hdp.res with ⟨r1, r2, r3, r4⟩ | ⟨r0, r1, r2, r3⟩
 · rw [if_pos r1, if_pos r1]
   exact .inl ⟨r1, by rw [r1]; rfl, ⟨r2, r3, hcn⟩, r4⟩
 · obtain ⟨k1, k2, k3⟩ := r3 _ rfl
   refine .inr ⟨r0, r1, m3, read_on m3 Z.W hdp.since m4, k1, k2, ?_⟩
   rcases k3 with ⟨g1, g2⟩ | ⟨g1, g2⟩
   · exact ⟨F, sp, .inl ⟨g1, g2, hS.cnt⟩⟩
   · exact ⟨F', sp', .inr ⟨g1, g2, hcn⟩⟩
end
end Go.Proofs.YtckokhdjeifomaaGreatDoor
namespace Go.Proofs.YtckokhdjeifomaaGreatDoor
open Go Go.SL
theorem good_one {x : UInt8} (h : x ∈ N4) : GoodN [x] := by
 refine ⟨Nat.le_refl 1, by show 1 ≤ 80; omega, fun c hc => ?_⟩
 rw [List.mem_singleton] at hc
 subst hc
 revert h
 unfold N4
 simp only [List.mem_cons, List.not_mem_nil, or_false]
 rintro (rfl | rfl | rfl | rfl) <;> decide
theorem Nm.good {b : Tx} (h : Nm b) : GoodN b := by obtain ⟨x, hx, rfl⟩ := h; exact good_one hx
section
variable {n files k : Nat} {F : FS} {sp : Nat → Bool} {C : CF} {D : DSt} {p : DSt × Nat} {name tn data : Tx}
theorem Stt.need {x : Ino} (hS : Stt n files C F sp D) (hx : F name = some x) : needO (C name) = sumX x.x := by
 obtain ⟨h1, h2⟩ := hS.has hx
 rw [h1, (hS.mnt.inv.fok.ok _ _ hx).sum]
 show needsE _ = _
 rw [h2]
theorem Stt.need0 (hS : Stt n files C F sp D) (hx : F name = none) : needO (C name) = 0 := by rw [hS.no hx]; rfl
theorem write_dn {e : Nat} {xs : List Ext} (hS : Stt n files C F sp D) (dk : Dk D k) (hn : 7 + files < n) (hn2 : n ≤ 4096) (hx : Nm name) (hW : WriteP n files F sp name data e xs)
 (hp : p = opS D ((2 + files : Nat) : Int) 5 (secE (7 + files) xs) data (spB (n - (7 + files)) (freeO (turnF true sp xs) (F name))) [(e, entryE name ⟨e, data.length, xs⟩)]) :
 Dn n files C (updC C name (some data)) 0 D (if p.2 = 0 then updS F name (some ⟨e, data.length, xs⟩) else F) (if p.2 = 0 then freeO (turnF true sp xs) (F name) else sp) (decide (p.2 ≠ 0)) p.1 p.2 ∧ Dk p.1 (k + 2400) := by
 have hsl : (secE (7 + files) xs).length ≤ 2048 := by rw [sec_len, hW.sum]; have := hW.dl; unfold needsE; omega
 have hio := hW.ino hn2
 obtain ⟨f1, f2⟩ := write_fin hS.mnt.inv hW hn hn2
 have hcn : cntF (freeO (turnF true sp xs) (F name)) (n - (7 + files)) + needC (updC C name (some data)) = n - (7 + files) := by
  obtain ⟨x, hx4, rfl⟩ := hx
  have hu := need_upd (C := C) (v := some data) n4_nodup hx4
  have e1 := cntF_turn (m := n - (7 + files)) (Nat.le_refl _) hW.take
  have e2 := hW.sum
  have e3 := hS.cnt
  have e4 : needO (some data) = needsE data.length := rfl
  show _ + needL N4 _ = _
  have e5 : needC C = needL N4 C := rfl
  cases hF : F [x] with
  | none =>
    have e6 := hS.need0 hF
    show cntF (turnF true sp xs) _ + _ = _
    omega
  | some y =>
    have e6 := hS.need hF
    have htk := hS.mnt.inv.fok.tk _ _ hF
    have e7 := cntF_give (m := n - (7 + files)) (Nat.le_refl _) (htk.congr (g := turnF true sp xs) fun i hin => by rw [turnF_at]; split; rfl; exact (htk.unit hin).2)
    show cntF (turnF false (turnF true sp xs) y.x) _ + _ = _
    omega
 have := Dn.mk' (C' := updC C name (some data)) (d := data) (ch := [(e, entryE name ⟨e, data.length, xs⟩)]) hS dk hn hn2 (fun i hi => by have := new_lt hS.mnt.inv hW.take i hi; rw [hS.mnt.cl.len] at this; exact this) (by show 1 ≤ 3; omega)
  (fun c hc => by rw [List.mem_singleton.1 hc]; exact ⟨hW.lt, by show (entryE _ _).length ≤ _; rw [hio.entry]; exact Nat.le_refl _⟩) hcn (fun sub hs => by
    obtain ⟨g1, g2⟩ := lay_sub hS.mnt.inv hW.take hs
    exact ⟨g1, fun b => (g2 b).trans (hS.cont b)⟩) ⟨f1, fun b => by rw [f2 b]; unfold updC; rw [hS.cont b]⟩ hp
 exact ⟨this.1, this.2.mono Z.W⟩
theorem app_dn {x : Ino} {xs : List Ext} (hS : Stt n files C F sp D) (dk : Dk D k) (hn : 7 + files < n) (hn2 : n ≤ 4096) (hx : Nm name) (hW : AppP n files F sp name data x xs)
 (hp : p = opS D ((2 + files : Nat) : Int) 5 (appL (7 + files) x xs) (appD D.lasts (7 + files) x data) (spB (n - (7 + files)) (turnF true sp xs)) [(x.e, entryE name (appI x data xs))]) :
 Dn n files C (updC C name (some (contE D.lasts (7 + files) x ++ data))) 0 D (if p.2 = 0 then updS F name (some (appI x data xs)) else F) (if p.2 = 0 then turnF true sp xs else sp) (decide (p.2 ≠ 0)) p.1 p.2 ∧ Dk p.1 (k + 2400) := by
 have hsl : (appL (7 + files) x xs).length ≤ 2049 := by
  have := hW.dl
  have h2 := hW.sum
  have h3 : (secE (7 + files) xs).length ≤ 2048 := by rw [sec_len, h2]; unfold needsE; omega
  unfold appL
  split
  · rw [List.length_cons]; omega
  · omega
 have hio := hW.ino hS.mnt.inv.fok hn2
 obtain ⟨f1, f2⟩ := app_fin hS.mnt.inv hW hn hn2
 have hcn : cntF (turnF true sp xs) (n - (7 + files)) + needC (updC C name (some (contE D.lasts (7 + files) x ++ data))) = n - (7 + files) := by
  obtain ⟨b, hx4, rfl⟩ := hx
  obtain ⟨c1, c2⟩ := hS.has hW.is
  have hu := need_upd (C := C) (v := some (contE D.lasts (7 + files) x ++ data)) n4_nodup hx4
  have e1 := cntF_turn (m := n - (7 + files)) (Nat.le_refl _) hW.take
  have e2 := hW.sum
  have e3 := hS.cnt
  have e4 : needO (some (contE D.lasts (7 + files) x ++ data)) = needsE (x.n + data.length) := by show needsE _ = _; rw [List.length_append, c2]
  have e6 : needO (C [b]) = needsE x.n := by rw [c1]; show needsE _ = _; rw [c2]
  have e7 := (need_app x.n data.length).2
  show _ + needL N4 _ = _
  have e5 : needC C = needL N4 C := rfl
  omega
 have := Dn.mk' (C' := updC C name (some (contE D.lasts (7 + files) x ++ data))) (d := appD D.lasts (7 + files) x data) (ch := [(x.e, entryE name (appI x data xs))]) hS dk hn hn2 (fun i hi => by have := app_lt hS.mnt.inv hW i hi; rw [hS.mnt.cl.len] at this; exact this) (by show 1 ≤ 3; omega)
  (fun c hc => by rw [List.mem_singleton.1 hc]; exact ⟨hio.e, by show (entryE _ _).length ≤ _; rw [hio.entry]; exact Nat.le_refl _⟩) hcn (fun sub hs => by
    obtain ⟨g1, g2⟩ := app_sub hS.mnt.inv hW hs
    exact ⟨g1, fun b => (g2 b).trans (hS.cont b)⟩) ⟨f1, fun b => by rw [f2 b]; unfold updC; rw [hS.cont b]⟩ hp
 exact ⟨this.1, this.2.mono Z.W⟩
theorem rem_dn {x : Ino} (hS : Stt n files C F sp D) (dk : Dk D k) (hn : 7 + files < n) (hn2 : n ≤ 4096) (hx : Nm name) (hF : F name = some x)
 (hp : p = opS D ((2 + files : Nat) : Int) 5 [] [] (spB (n - (7 + files)) (turnF false sp x.x)) [(x.e, [])]) :
 Dn n files C (updC C name none) 0 D (if p.2 = 0 then updS F name none else F) (if p.2 = 0 then turnF false sp x.x else sp) (decide (p.2 ≠ 0)) p.1 p.2 ∧ Dk p.1 (k + 2400) := by
 have hio := hS.mnt.inv.fok.ok _ _ hF
 obtain ⟨f1, f2⟩ := rem_fin hS.mnt.inv hF hn hn2
 have hcn : cntF (turnF false sp x.x) (n - (7 + files)) + needC (updC C name none) = n - (7 + files) := by
  obtain ⟨b, hx4, rfl⟩ := hx
  have hu := need_upd (C := C) (v := none) n4_nodup hx4
  have e6 := hS.need hF
  have e7 := cntF_give (m := n - (7 + files)) (Nat.le_refl _) (hS.mnt.inv.fok.tk _ _ hF)
  have e3 := hS.cnt
  have e4 : needO none = 0 := rfl
  show _ + needL N4 _ = _
  have e5 : needC C = needL N4 C := rfl
  omega
 have := Dn.mk' (C' := updC C name none) (d := []) (l := []) (ch := [(x.e, [])]) hS dk hn hn2 (fun i hi => by cases hi) (by show 1 ≤ 3; omega)
  (fun c hc => by rw [List.mem_singleton.1 hc]; exact ⟨hio.e, Nat.zero_le _⟩) hcn (fun sub hs => by
    rw [List.eq_nil_of_sublist_nil hs]
    exact ⟨hS.mnt.inv, hS.cont⟩) ⟨f1, fun b => by rw [show applyA (chunksE [] []) D.lasts = D.lasts from rfl, f2 b]; unfold updC; rw [hS.cont b]⟩ hp
 exact ⟨this.1, this.2.mono (by show k + 0 + 301 ≤ _; omega)⟩
theorem ren_dn {x : Ino} {ch : List (Nat × Tx)} (hS : Stt n files C F sp D) (dk : Dk D k) (hn : 7 + files < n) (hn2 : n ≤ 4096) (hx : Nm name) (hy : Nm tn) (hne : name ≠ tn) (hF : F name = some x) (hl2 : ch.length ≤ 2) (hch : (ch.map (·.1)).Nodup) (hcm : ∀ c, c ∈ ch ↔ c = (x.e, entryE tn x) ∨ ∃ y, F tn = some y ∧ c = (y.e, []))
 (hp : p = opS D ((2 + files : Nat) : Int) 5 [] [] (spB (n - (7 + files)) (freeO sp (F tn))) ch) :
 Dn n files C (updC (updC C name none) tn (C name)) 0 D (if p.2 = 0 then renF F name tn x else F) (if p.2 = 0 then freeO sp (F tn) else sp) (decide (p.2 ≠ 0)) p.1 p.2 ∧ Dk p.1 (k + 2400) := by
 have hk := hS.mnt.inv.fok.ok _ _ hF
 have hio : InoOk files tn x := ⟨hy.good, hk.e, hk.n, hk.len, hk.sum, hk.ext⟩
 obtain ⟨f1, f2⟩ := ren_fin hS.mnt.inv hF hne hy.good hn hn2 hch hcm
 have hcn : cntF (freeO sp (F tn)) (n - (7 + files)) + needC (updC (updC C name none) tn (C name)) = n - (7 + files) := by
  obtain ⟨a, ha, rfl⟩ := hx
  obtain ⟨b, hb, rfl⟩ := hy
  have l1 := need_upd (C := updC C [a] none) (x := b) (v := C [a]) n4_nodup hb
  have l2 := need_upd (C := C) (x := a) (v := none) n4_nodup ha
  rw [updC_ne (Ne.symm hne)] at l1
  have e3 := hS.cnt
  have e4 : needO none = 0 := rfl
  show _ + needL N4 _ = _
  have e5 : needC C = needL N4 C := rfl
  cases hT : F [b] with
  | none =>
    have e6 := hS.need0 hT
    show cntF sp _ + _ = _
    omega
  | some y =>
    have e6 := hS.need hT
    have e7 := cntF_give (m := n - (7 + files)) (Nat.le_refl _) (hS.mnt.inv.fok.tk _ _ hT)
    show cntF (turnF false sp y.x) _ + _ = _
    omega
 have := Dn.mk' (C' := updC (updC C name none) tn (C name)) (d := []) (l := []) (ch := ch) hS dk hn hn2 (fun i hi => by cases hi) Z.W
  (fun c hc => by
    rcases (hcm c).1 hc with rfl | ⟨y, hy', rfl⟩
    · exact ⟨hk.e, by show (entryE _ _).length ≤ _; rw [hio.entry]; exact Nat.le_refl _⟩
    · exact ⟨(hS.mnt.inv.fok.ok _ _ hy').e, Nat.zero_le _⟩) hcn (fun sub hs => by
    rw [List.eq_nil_of_sublist_nil hs]
    exact ⟨hS.mnt.inv, hS.cont⟩) ⟨f1, fun b => by rw [show applyA (chunksE [] []) D.lasts = D.lasts from rfl, f2 b]; unfold updC; rw [hS.cont b, hS.cont name]⟩ hp
 exact ⟨this.1, this.2.mono (by show k + 0 + 301 ≤ _; omega)⟩
end
end Go.Proofs.YtckokhdjeifomaaGreatDoor
namespace Go.Proofs.YtckokhdjeifomaaGreatDoor
open Go Go.SL
def nmL (C : CF) : List Tx := (N4.filter fun x => (C [x]).isSome).map fun x => [x]
def shB (C : CF) (b : Tx) : Tx := b ++ 58 :: ((C b).getD [] ++ [10])
theorem show_nm : ∀ (l : List UInt8) (C : CF), showL l C = ((l.filter fun x => (C [x]).isSome).map fun x => [x]).flatMap (shB C)
 | [], _ => rfl
 | x :: l, C => by
   rw [showL_cons, show_nm l C, List.filter_cons]
   cases hc : C [x] with
   | none => rw [if_neg (by simp)]; rfl
   | some c =>
     rw [if_pos (by simp), List.map_cons, List.flatMap_cons]
     unfold shB
     rw [hc]; rfl
theorem nm_asc (C : CF) : Asc (nmL C) := by
 have h : Asc (N4.map fun x => ([x] : Tx)) := by unfold Asc; decide
 exact h.sublist ((List.filter_sublist (l := N4)).map _)
theorem nm_len (C : CF) : (nmL C).length ≤ 4 := by unfold nmL; rw [List.length_map]; exact List.length_filter_le _ N4
theorem nm_mem {C : CF} (h : ∀ b, C b ≠ none → Nm b) {b : Tx} : b ∈ nmL C ↔ C b ≠ none := by
 unfold nmL
 simp only [List.mem_map, List.mem_filter]
 constructor
 · rintro ⟨x, ⟨_, h2⟩, rfl⟩ e; rw [e] at h2; cases h2
 · intro hb
   obtain ⟨x, hx, rfl⟩ := h b hb
   exact ⟨x, ⟨hx, Option.isSome_iff_ne_none.2 hb⟩, rfl⟩
section
variable {n files : Nat} {sp : Nat → Bool} {C : CF} {D : DSt} {m : GoMap Tx MI} {i : Nat}
theorem ks_iff (hS : Stt n files C (fsOf m) sp D) {b : Tx} : b ∈ m.ks ↔ C b ≠ none := by
 rw [GoMap.mem_ks]
 constructor
 · rintro ⟨q, hq⟩ e
   rw [(hS.has (fs_some hq)).1] at e; cases e
 · intro hb
   cases hq : m.get b with
   | some q => exact ⟨q, rfl⟩
   | none => exact absurd (hS.no (fs_none hq)) hb
theorem m_len (hS : Stt n files C (fsOf m) sp D) (hP : PC i C) : m.l.length ≤ 4 := by
 have := nodup_len (l := m.ks) (l' := nmL C) m.keys (fun t ht => (nm_mem hP.nm).2 ((ks_iff hS).1 ht))
 have h2 := nm_len C
 have h3 : m.ks.length = m.l.length := List.length_map ..
 omega
/-- There is room for one more file. -/
theorem m_free (hS : Stt n files C (fsOf m) sp D) (hP : PC i C) (hf : 5 ≤ files) : ∃ e, e < files ∧ ∀ b q, m.get b = some q → q.1 ≠ e := by
 refine Classical.byContradiction fun hno => ?_
 have hall : ∀ e ∈ List.range 5, e ∈ m.l.map fun x => x.2.1.1 := fun e he => by
  refine Classical.byContradiction fun hne => hno ⟨e, by have := List.mem_range.1 he; omega, fun b q hb hq => hne ?_⟩
  obtain ⟨j, hj⟩ := GoMap.get_iff.1 hb
  exact List.mem_map.2 ⟨_, hj, hq⟩
 have := nodup_len (List.nodup_range (n := 5)) hall
 rw [List.length_map, List.length_range] at this
 have := m_len hS hP
 omega
end
section
variable {R : List RO} {O : List Own} {POST : Value → List RO → List Own → Prop} {n files un : Nat} {sp : Nat → Bool} {C : CF} {D : DSt} {m : GoMap Tx MI} {i : Nat}
theorem newM {E : DSt} (hE : E = (makeS (newS n) (fmtL n files)).1) (hf : 1 ≤ files ∧ files ≤ 256) (hn : 8 + files ≤ n) (hn2 : n ≤ 4096) :
 On0 (newS n) n ∧ Dk (newS n) 0 ∧ Mnt n files (fun _ => none) noneF E ∧ E.left = 0 ∧ Dk E (files + 4) ∧ E.keep = [] := by
 obtain ⟨_, a2, a3⟩ := fmt_mnt (s := newS n) rfl rfl rfl rfl hf.1 hn hn2
 have k0 : Dk (newS n) 0 := ⟨DOk.new hn2, W512.new⟩
 obtain ⟨b1, b2, b3⟩ := make_dk (x := fmtL n files) k0
 rw [fmt_len] at b1
 subst hE
 exact ⟨⟨rfl, rfl, List.length_replicate⟩, k0, a2, a3, b1.mono Z.W, b3⟩
theorem openM {F : FS} (h : Mnt n files F sp D) (hn : 7 + files ≤ n) (hn2 : n ≤ 4096) : openE D ((2 + files : Nat) : Int) 5 = (D, 0, 0) :=
 open_zero (f := 2 + files) (z := 5) (n := n) ⟨by omega, by omega, by omega, hn2⟩ h.cl
theorem readM {F : FS} (h : Mnt n files F sp D) (hn : 0 < n) : readE D 0 = (headF n files, 0) := by
 have hl := h.cl.len
 have := read_at h.cl.off h.cl.since (i := 0) Z.W
 have h0 := h.inv.head
 rw [get!_of_lt Z.W] at h0
 rw [show ((0 : Nat) : Int) = 0 from rfl, Option.some.inj h0] at this
 exact this
set_option maxRecDepth 20000 in
set_option maxHeartbeats 1000000 in
theorem shows_spec {s d l mb k : Nat} {V : DV} (hS : Stt n files C (fsOf m) sp D) (hP : PC i C) (hi16 : i ≤ 16) (hfs : files ≤ 256) (dk : Dk D k) (hk0 : k ≤ 4294900000) (hall : allM m ∈ R)
 (hk : POST (vs (showC C)) R (stO s d l mb un files sp false m V D O)) : Fun Tryz.prog 8 #[dp s] R (stO s d l mb un files sp false m V D O) POST := by
 have hml := m_len hS hP
 have hsh : showC C = (nmL C).flatMap (shB C) := show_nm N4 C
 have hbl : ∀ j, j ≤ (nmL C).length → (((nmL C).take j).flatMap (shB C)).length ≤ j * 32760 := by
  intro j
  induction j with
  | zero => intro _; exact Nat.le_refl _
  | succ j ih =>
    intro hj
    have h1 := ih Z.W
    rw [List.take_add_one, get!_of_lt Z.W, List.flatMap_append, List.length_append]
    have hmem : (nmL C)[j]! ∈ nmL C := by rw [getElem!_pos _ j Z.W]; exact List.getElem_mem _
    obtain ⟨b, hb⟩ : ∃ b, b = (nmL C)[j]! := ⟨_, rfl⟩
    rw [← hb] at hmem ⊢
    have hne := (nm_mem hP.nm).1 hmem
    obtain ⟨x, hx, rfl⟩ := hP.nm b hne
    cases hc : C [x] with
    | none => exact absurd hc hne
    | some c =>
      have := hP.len _ c hc
      have e : ((some ([x] : Tx)).toList.flatMap (shB C)).length = c.length + 3 := by
       show (shB C [x] ++ []).length = _
       rw [List.append_nil]
       unfold shB
       rw [hc]
       simp
      omega
 refine Fun.turn ?_
 refine Fun.enter (l := [_]) Tryz.func8 rfl Tryz.ntmps8 rfl (L0 := [(0, _)]) rfl ?_
 refine WC.seq ?_
 refine WC.region ?_
 refine WL.rd rfl rfl rfl (Rd.assign rfl rfl) ?_
 refine WL.nil ?_
 refine thenQ.normal ?_
 refine WC.seq ?_
 refine WC.region ?_
 refine WL.rd rfl rfl rfl (Rd.assign rfl rfl) ?_
 refine WL.nil ?_
 refine thenQ.normal ?_
 refine WC.seq ?_
 refine WC.region ?_
 refine WL.rd rfl rfl rfl (Rd.move rfl rfl) ?_
 refine WL.op rfl ?_
 refine OpW.call rfl rfl Z.E Z.K rfl rfl rfl ?_
 refine names_spec Z.W (fun b hb => by
  obtain ⟨x, hx, rfl⟩ := hP.nm b ((ks_iff hS).1 hb)
  show 1 ≤ maxLen; decide) ?_
 intro v9 ks h1 h2 h3
 obtain rfl : ks = nmL C := h1.uniq (nm_asc C) fun b => by rw [h2, ks_iff hS, nm_mem hP.nm]
 refine WL.rd rfl rfl rfl (Rd.assign rfl rfl) ?_
 refine WL.nil ?_
 refine thenQ.normal ?_
 refine WC.seq ?_
 refine WC.seq ?_
 refine WC.region ?_
 refine WL.rd rfl rfl rfl (Rd.assign rfl rfl) ?_
 refine WL.nil ?_
 refine thenQ.normal ?_
 refine WC.block ?_
 refine WC.pick [3, 5, 0, 4] Z.P ?_
 refine WC.loop1o 2 (fun (j : Nat) => [(3, vs (((nmL C).take j).flatMap (shB C))), (5, .int .i64 (j : Int))]) (fun (j : Nat) => j ≤ (nmL C).length) (fun (j : Nat) => (nmL C).length - j) (0) Z.L ?hinv1 (by repeat (first | exact Sub.nil | refine Sub.cons rfl (by rfl) ?_)) (fun _ h => h) ?_
 case hinv1 =>
  exact Nat.zero_le _
 intro j
 rintro hI1
 refine WC.seq ?_
 refine WC.seq ?_
 refine WC.region ?_
 refine WL.rd rfl rfl rfl (Rd.move rfl rfl) ?_
 refine WL.rd rfl rfl rfl (Rd.move rfl rfl) ?_
 refine WL.rd rfl rfl rfl (Rd.lenE (enc := SL.one vs) (xs := nmL C) rfl rfl Tryz.underlying40 Z.M) ?_
 refine WL.rd rfl rfl rfl (Rd.lss rfl rfl rfl) ?_
 refine WL.nil ?_
 refine thenQ.normal ?_
 refine WC.ite rfl (fun hc1 => ?_) (fun hc1 => ?_)
 ·
  have hj : j < (nmL C).length := by omega
  have h4 := nm_len C
  have hbj := hbl j Z.W
  obtain ⟨b, hb⟩ : ∃ b, b = (nmL C)[j]! := ⟨_, rfl⟩
  have hmem : b ∈ nmL C := by rw [hb, getElem!_pos _ j Z.W]; exact List.getElem_mem _
  have hne := (nm_mem hP.nm).1 hmem
  obtain ⟨x, hx, hbx⟩ := hP.nm b hne
  obtain ⟨c, hc⟩ := Option.ne_none_iff_exists'.1 hne
  have hcl := hP.len _ c hc
  have hb1 : b.length = 1 := by rw [hbx]; rfl
  obtain ⟨q, hq⟩ := GoMap.mem_ks.1 ((ks_iff hS).2 hne)
  have hcq : contE D.lasts (7 + files) (miI q) = c := by have := (hS.has (fs_some hq)).1; rw [hc] at this; exact (Option.some.inj this).symm
  have htk : (((nmL C).take (j + 1)).flatMap (shB C)) = ((nmL C).take j).flatMap (shB C) ++ (b ++ [58] ++ c ++ [10]) := by
   rw [List.take_add_one, get!_of_lt hj, List.flatMap_append, ← hb]
   show _ ++ List.flatMap (shB C) [b] = _
   unfold shB
   rw [List.flatMap_singleton, hc]
   simp
  refine WC.skip ?_
  refine thenQ.normal ?_
  refine WC.seq ?_
  refine WC.block ?_
  refine WC.seq ?_
  refine WC.region ?_
  refine WL.rd rfl rfl rfl (Rd.move rfl rfl) ?_
  refine WL.rd rfl rfl rfl (Rd.move rfl rfl) ?_
  refine WL.rd rfl rfl rfl (Rd.move rfl rfl) ?_
  refine WL.rd rfl rfl rfl (Rd.idx1 (enc := SL.one vs) (xs := nmL C) (k := j) rfl S40 rfl rfl rfl Z.M hj) ?_
  refine WL.rd rfl rfl rfl ((by exact Rd.get rfl C9 rfl Z.M (by exact get!_of_lt Z.W))) ?_
  refine WL.say 21 (u := vs b) rfl (by rw [← hb]) ?_
  refine WL.op rfl ?_
  refine OpW.call rfl rfl Z.E Z.K rfl rfl rfl ?_
  refine read_file hq hS.mnt hfs dk Z.W (by repeat (first | exact hall | refine List.mem_cons_of_mem _ ?_)) ?_
  rw [hcq]
  refine WL.rd rfl rfl rfl (Rd.move rfl rfl) ?_
  refine WL.rd rfl rfl rfl (Rd.extract rfl rfl rfl) ?_
  refine WL.rd rfl rfl rfl (Rd.extract rfl rfl rfl) ?_
  refine WL.rd rfl rfl rfl (Rd.assign rfl rfl) ?_
  refine WL.rd rfl rfl rfl (Rd.assign rfl rfl) ?_
  refine WL.nil ?_
  refine thenQ.normal ?_
  refine WC.region ?_
  refine WL.rd rfl rfl rfl (Rd.move rfl rfl) ?_
  refine WL.rd rfl rfl rfl (Rd.move rfl rfl) ?_
  refine WL.rd rfl rfl rfl (Rd.move rfl rfl) ?_
  refine WL.rd rfl rfl rfl (Rd.idx1 (enc := SL.one vs) (xs := nmL C) (k := j) rfl S40 rfl rfl rfl Z.M hj) ?_
  refine WL.rd rfl rfl rfl ((by exact Rd.get rfl C9 rfl Z.M (by exact get!_of_lt Z.W))) ?_
  refine WL.say 29 (u := vs b) rfl (by rw [← hb]) ?_
  refine WL.rd rfl rfl rfl (Rd.scat rfl rfl rfl (by simp only [List.length_append, List.length_cons, List.length_nil]; omega)) ?_
  refine WL.rd rfl rfl rfl (Rd.move rfl rfl) ?_
  refine WL.rd rfl rfl rfl (Rd.scat rfl rfl rfl (by simp only [List.length_append, List.length_cons, List.length_nil]; omega)) ?_
  refine WL.rd rfl rfl rfl (Rd.scat rfl rfl rfl (by simp only [List.length_append, List.length_cons, List.length_nil]; omega)) ?_
  refine WL.rd rfl rfl rfl (Rd.scat rfl rfl rfl (by simp only [List.length_append, List.length_cons, List.length_nil]; omega)) ?_
  refine WL.rd rfl rfl rfl (Rd.assign rfl rfl) ?_
  refine WL.nil ?_
  refine blockQ.normal ?_
  refine thenQ.normal ?_
  refine WC.region ?_
  refine WL.rd rfl rfl rfl (Rd.move rfl rfl) ?_
  refine WL.rd rfl rfl rfl (Rd.add rfl rfl rfl Z.W) ?_
  refine WL.rd rfl rfl rfl (Rd.assign rfl rfl) ?_
  refine WL.nil ?_
  exact loopQ1.mk (j + 1) Z.W Z.W (by rw [htk]; exact (by repeat (first | exact Sub.nil | refine Sub.cons rfl (by rfl) ?_))) (fun _ h => h)
 ·
  have htl : (nmL C).take j = nmL C := List.take_of_length_le Z.W
  refine WC.exit ?_
  refine thenQ.exit ?_
  refine loopQ1.exit ?_
  refine blockQ.exit ?_
  refine thenQ.normal ?_
  refine WC.seq ?_
  refine WC.region ?_
  refine WL.rd rfl rfl rfl (Rd.move rfl rfl) ?_
  refine WL.rd rfl rfl rfl (Rd.assign rfl rfl) ?_
  refine WL.nil ?_
  refine thenQ.normal ?_
  refine WC.ret (Ret.one Tryz.results8 rfl ?_)
  exact ⟨_, _, by rw [htl, ← hsh]; exact hk, Z.F⟩
set_option maxRecDepth 20000 in
set_option maxHeartbeats 1000000 in
theorem stores_spec (ht : tabR ∈ R) (hr : rootsR ∈ R) (hk : POST (.bool true) R O) : Fun Tryz.prog 4 #[] R O POST := by
 obtain ⟨E, hE⟩ : ∃ E, E = (makeS (newS 30) (fmtL 30 3)).1 := ⟨_, rfl⟩
 obtain ⟨on0, k0, hm, hl0, kE, hkE⟩ := newM (n := 30) (files := 3) hE Z.W Z.W Z.W
 have hop := openM hm Z.W Z.W
 refine Fun.turn ?_
 refine Fun.enter (l := []) Tryz.func4 rfl Tryz.ntmps4 rfl (L0 := []) rfl ?_
 refine WC.seq ?_
 refine WC.region ?_
 refine WL.rd rfl rfl rfl (Rd.assign rfl rfl) ?_
 refine WL.nil ?_
 refine thenQ.normal ?_
 refine WC.seq ?_
 refine WC.region ?_
 refine WL.op rfl ?_
 refine OpW.call rfl rfl Z.E Z.K rfl rfl rfl ?_
 refine new_spec (fun h => by exfalso; omega) (fun n hn _ _ d V hv => ?_); obtain rfl : n = 30 := by omega
 refine WL.rd rfl rfl rfl (Rd.move rfl rfl) ?_
 refine WL.rd rfl rfl rfl (Rd.extract rfl rfl rfl) ?_
 refine WL.rd rfl rfl rfl (Rd.extract rfl rfl rfl) ?_
 refine WL.rd rfl rfl rfl (Rd.assign rfl rfl) ?_
 refine WL.rd rfl rfl rfl (Rd.assign rfl rfl) ?_
 refine WL.nil ?_
 refine thenQ.normal ?_
 refine WC.seq ?_
 refine WC.seq ?_
 refine WC.region ?_
 refine WL.rd rfl rfl rfl (Rd.move rfl rfl) ?_
 refine WL.op rfl ?_
 refine OpW.call rfl rfl Z.E Z.K rfl rfl rfl ?_
 refine format_spec (n := 30) (files := 3) on0 Z.W Z.W k0 Z.W hv Z.M ?_; rw [← hE]; intro V1 hv1 hkv1
 refine WL.rd rfl rfl rfl (Rd.neq rfl rfl rfl) ?_
 refine WL.nil ?_
 refine thenQ.normal ?_
 refine WC.ite rfl (fun hc1 => ?_) (fun hc1 => ?_)
 ·
  exact absurd rfl hc1
 ·
  refine WC.skip ?_
  refine thenQ.normal ?_
  refine WC.seq ?_
  refine WC.region ?_
  refine WL.rd rfl rfl rfl (Rd.move rfl rfl) ?_
  refine WL.op rfl ?_
  refine OpW.call rfl rfl Z.E Z.K rfl rfl rfl ?_
  refine mount_spec (n := 30) (files := 3) (F := fun _ => none) (sp := noneF) (by repeat (first | exact ht | refine List.mem_cons_of_mem _ ?_)) (readM hm Z.W) hm.cl.len (by rw [hop]) (by rw [hop]; exact hm) Z.W Z.W kE Z.W hv1 (by rw [hkE, hkv1]; exact Z.M) ?_
  rw [hop]
  intro V2 s l mb m hfm hv2 hkv2
  refine WL.rd rfl rfl rfl (Rd.move rfl rfl) ?_
  refine WL.rd rfl rfl rfl (Rd.extract rfl rfl rfl) ?_
  refine WL.rd rfl rfl rfl (Rd.extract rfl rfl rfl) ?_
  refine WL.rd rfl rfl rfl (Rd.assign rfl rfl) ?_
  refine WL.rd rfl rfl rfl (Rd.assign rfl rfl) ?_
  refine WL.nil ?_
  refine thenQ.normal ?_
  refine WC.seq ?_
  refine WC.region ?_
  refine WL.op rfl ?_
  refine OpW.call rfl rfl Z.E Z.K rfl rfl rfl ?_
  refine makes_spec (by repeat (first | exact ht | refine List.mem_cons_of_mem _ ?_)) (by repeat (first | exact hr | refine List.mem_cons_of_mem _ ?_)) ?_
  refine WL.say 17 (u := .bool (decide True)) rfl (by simp) ?_
  refine WL.rd rfl rfl rfl (Rd.move rfl rfl) ?_
  refine WL.case 18 rfl (fun hg18 => ?_) (fun hg18 => ?_)
  ·
   refine WL.rd_yes rfl rfl rfl rfl rfl rfl (Rd.move rfl rfl) ?_
   refine WL.rd_yes rfl rfl rfl rfl rfl rfl (Rd.eql rfl rfl rfl) ?_
   refine WL.rd rfl rfl rfl (Rd.pick_t rfl rfl rfl) ?_
   refine WL.rd rfl rfl rfl (Rd.move rfl rfl) ?_
   refine WL.case 22 rfl (fun hg22 => ?_) (fun hg22 => ?_)
   ·
    refine WL.rd_yes rfl rfl rfl rfl rfl rfl (Rd.move rfl rfl) ?_
    refine WL.op_yes rfl rfl rfl rfl ?_
    refine OpW.call rfl rfl Z.E Z.K rfl rfl rfl ?_
    have hmg : ∀ b, m.get b = none := fun b => by
     cases e : m.get b with
     | none => rfl
     | some q => have := fs_some e; rw [hfm] at this; cases this
    refine write_none (n := 30) (name := [97]) (data := [98]) (hmg _) (good_one (by decide)) (by rw [hfm]; exact hm) rfl Z.W Z.W (by decide) (by decide) ⟨0, by omega, fun b q hb => by rw [hmg b] at hb; cases hb⟩ (by repeat (first | exact ht | refine List.mem_cons_of_mem _ ?_)) Z.M Z.M kE Z.W hv2 (by rw [hkE, hkv2, hkv1]; exact Z.M) ?_
    intro V3 p e v xs hW hp hv3 hkv3
    rw [hfm] at hW hp
    have hd := (write_dn (C := fun _ => none) ⟨hm, fun _ => rfl, by decide⟩ kE Z.W Z.W ⟨97, by decide, rfl⟩ hW hp).1.res
    have h0 : p.2 = 0 := by
     rcases hd with hd | hd
     · exact hd.1
     · exact absurd hl0 hd.1
    rw [h0]
    refine WL.rd_yes rfl rfl rfl rfl rfl rfl (Rd.eql rfl rfl rfl) ?_
    refine WL.rd rfl rfl rfl (Rd.pick_t rfl rfl rfl) ?_
    refine WL.rd rfl rfl rfl (Rd.assign rfl rfl) ?_
    refine WL.nil ?_
    refine thenQ.normal ?_
    refine WC.ret (Ret.one Tryz.results4 rfl ?_)
    exact ⟨_, _, hk, Z.F⟩
   ·
    exact absurd rfl hg22
  ·
   exact absurd trivial hg18
end
end Go.Proofs.YtckokhdjeifomaaGreatDoor
namespace Go.Proofs.YtckokhdjeifomaaGreatDoor
open Go Go.SL
section
variable {R : List RO} {O : List Own} {POST : Value → List RO → List Own → Prop} {s d l mb un n files k i : Nat} {sp : Nat → Bool} {C : CF} {m : GoMap Tx MI} {V : DV} {D : DSt} {w : Int} {name tn data : Tx}
/-- What a deed leaves. -/
def DnPost (POST : Value → List RO → List Own → Prop) (R : List RO) (O : List Own) (s d l mb un n files k : Nat) (C : CF) (q : Nat × CF) (V : DV) (D : DSt) : Prop :=
 ∀ V' D' m' sp' off e, Dn n files C q.2 q.1 D (fsOf m') sp' off D' e → Dk D' (k + 2400) → VOk V' D' → V'.kv = V.kv → POST (.int .i64 (e : Nat)) (allM m' :: R) (stO s d l mb un files sp' off m' V' D' O)
theorem DnPost.same {e : Nat} (hk : DnPost POST R O s d l mb un n files k C (e, C) V D) (hS : Stt n files C (fsOf m) sp D) (dk : Dk D k) (hv : VOk V D) : POST (.int .i64 (e : Nat)) (allM m :: R) (stO s d l mb un files sp false m V D O) :=
 hk V D m sp false e (Dn.same hS) (dk.mono Z.W) hv rfl
theorem res_write (h : ¬ w = 2) (h3 : ¬ w = 3) (h4 : ¬ w = 4) : resC w name tn data C = (0, updC C name (some data)) := by unfold resC; rw [if_neg h, if_neg h3, if_neg h4]
theorem res_app {c : Tx} (hc : C name = some c) : resC 2 name tn data C = (0, updC C name (some (c ++ data))) := by unfold resC; rw [if_pos rfl, hc]
theorem res_app0 (hc : C name = none) : resC 2 name tn data C = (9, C) := by unfold resC; rw [if_pos rfl, hc]
theorem res_ren {c : Tx} (hc : C name = some c) (hne : name ≠ tn) : resC 3 name tn data C = (0, updC (updC C name none) tn (C name)) := by unfold resC; rw [if_neg Z.W, if_pos rfl, hc]; dsimp only; rw [if_neg hne]
theorem res_ren1 {c : Tx} (hc : C name = some c) : resC 3 name name data C = (0, C) := by unfold resC; rw [if_neg Z.W, if_pos rfl, hc]; dsimp only; rw [if_pos rfl]
theorem res_ren0 (hc : C name = none) : resC 3 name tn data C = (9, C) := by unfold resC; rw [if_neg Z.W, if_pos rfl, hc]
theorem res_rem {c : Tx} (hc : C name = some c) : resC 4 name tn data C = (0, updC C name none) := by unfold resC; rw [if_neg Z.W, if_neg Z.W, if_pos rfl, hc]
theorem res_rem0 (hc : C name = none) : resC 4 name tn data C = (9, C) := by unfold resC; rw [if_neg Z.W, if_neg Z.W, if_pos rfl, hc]
theorem updC_same {b : Tx} {v : Option Tx} (h : C b = v) : updC C b v = C := by
 funext a
 unfold updC
 split
 · rename_i e; rw [e, h]
 · rfl
structure Env1 (R : List RO) (d l un n files k i : Nat) (C : CF) (m : GoMap Tx MI) (sp : Nat → Bool) (V : DV) (D : DSt) : Prop where
 st : Stt n files C (fsOf m) sp D
 pc : PC i C
 hi : i < 16
 hun : un = n - (7 + files)
 hn : 7 + files < n ∧ n ≤ 4096
 hfs : 5 ≤ files ∧ files ≤ 256
 h67 : 64 ≤ n - (7 + files)
 ht : tabR ∈ R
 log : logR l d ((2 + files : Nat) : Int) 5 ∈ R
 all : allM m ∈ R
 dk : Dk D k
 hm : k ≤ 4294700000
 hv : VOk V D
 keep : SlE (SL.one vi) V.kv D.keep ∈ R
theorem Env1.room (h : Env1 R d l un n files k i C m sp V D) : 4 ≤ cntF sp un := by
 have h1 := h.st.cnt
 have h2 := h.pc.need
 have h3 := h.h67
 have h4 := h.hi
 rw [h.hun]
 omega
theorem wr_all (h : Env1 R d l un n files k i C m sp V D) (hx : Nm name) (hd : data.length ≤ 2047) (hw : ¬ w = 2 ∧ ¬ w = 3 ∧ ¬ w = 4) (hk : DnPost POST R O s d l mb un n files k C (resC w name tn data C) V D) :
 Fun Tryz.prog 13 #[dp s, vs name, vs data] R (stO s d l mb un files sp false m V D O) POST := by
 rw [res_write hw.1 hw.2.1 hw.2.2] at hk
 have hroom := h.room
 have hnd := need_le hd
 obtain ⟨st, pc, hi, hun, hn, hfs, h67, ht, log, all, dk, hm, hv, keep⟩ := h
 have hpost : WrPost POST R O s d l mb un files n sp m V D name data := by
  intro V' p e v xs hW hp hv' hkv'
  rw [hun] at hp
  obtain ⟨g1, g2⟩ := write_dn st dk hn.1 hn.2 hx hW hp
  have hf : fsOf (if p.2 = 0 then m.set name (e, data.length, v, xs) else m) = if p.2 = 0 then updS (fsOf m) name (some ⟨e, data.length, xs⟩) else fsOf m := by
   split
   · exact fs_set m name (e, data.length, v, xs)
   · rfl
  rw [← hf] at g1
  exact hk V' p.1 _ _ _ p.2 g1 g2 hv' hkv'
 cases hg : m.get name with
 | none => exact write_none hg hx.good st.mnt hun hn hfs.2 Z.W ⟨by omega, by omega⟩ (m_free st pc hfs.1) ht log all dk hm hv keep hpost
 | some q0 => exact write_some hg hx.good st.mnt hun hn hfs.2 Z.W ⟨by omega, by omega⟩ ht log all dk hm hv keep hpost
theorem app_all (h : Env1 R d l un n files k i C m sp V D) (hx : Nm name) (hd : data.length ≤ 2047) (hk : DnPost POST R O s d l mb un n files k C (resC 2 name tn data C) V D) :
 Fun Tryz.prog 26 #[dp s, vs name, vs data] R (stO s d l mb un files sp false m V D O) POST := by
 have hroom := h.room
 have hnd := need_le hd
 obtain ⟨st, pc, hi, hun, hn, hfs, h67, ht, log, all, dk, hm, hv, keep⟩ := h
 cases hg : m.get name with
 | none =>
   rw [res_app0 (st.no (fs_none hg))] at hk
   refine Fun.turn ?_
   exact append_none hg hx.good st.mnt ⟨_, _, hk.same st dk hv, fun w h => h.derive fun w hw => hw _ all⟩
 | some q0 =>
   obtain ⟨c1, c2⟩ := st.has (fs_some hg)
   by_cases h0 : data = []
   · subst h0
     rw [res_app c1, List.append_nil, updC_same c1] at hk
     refine Fun.turn ?_
     exact append_nil hg hx.good st.mnt all ⟨_, _, hk.same st dk hv, fun w h => h.derive fun w hw => hw _ all⟩
   · rw [res_app c1] at hk
     have hql := pc.len _ _ c1
     rw [c2] at hql
     have hql' : q0.2.1 ≤ 2047 * i := hql
     have hna := (need_app q0.2.1 data.length).1
     refine append_some hg hx.good st.mnt hun hn hfs.2 h0 Z.W ⟨by omega, by unfold needsE; omega⟩ ht log all dk hm hv keep ?_
     intro V' p v xs hW hp hv' hkv'
     rw [hun] at hp
     obtain ⟨g1, g2⟩ := app_dn st dk hn.1 hn.2 hx hW hp
     have hf : fsOf (if p.2 = 0 then m.set name (q0.1, q0.2.1 + data.length, v, q0.2.2.2 ++ xs) else m) = if p.2 = 0 then updS (fsOf m) name (some (appI (miI q0) data xs)) else fsOf m := by
      split
      · exact fs_set m name (q0.1, q0.2.1 + data.length, v, q0.2.2.2 ++ xs)
      · rfl
     rw [← hf] at g1
     exact hk V' p.1 _ _ _ p.2 g1 g2 hv' hkv'
theorem rem_all (h : Env1 R d l un n files k i C m sp V D) (hx : Nm name) (hk : DnPost POST R O s d l mb un n files k C (resC 4 name tn data C) V D) :
 Fun Tryz.prog 28 #[dp s, vs name] R (stO s d l mb un files sp false m V D O) POST := by
 obtain ⟨st, pc, hi, hun, hn, hfs, h67, ht, log, all, dk, hm, hv, keep⟩ := h
 cases hg : m.get name with
 | none =>
   rw [res_rem0 (st.no (fs_none hg))] at hk
   refine Fun.turn ?_
   exact remove_none hg hx.good st.mnt ⟨_, _, hk.same st dk hv, fun w h => h.derive fun w hw => hw _ all⟩
 | some q0 =>
   rw [res_rem (st.has (fs_some hg)).1] at hk
   refine remove_some hg hx.good st.mnt hun hn hfs.2 ht log all dk hm hv keep ?_
   intro V' p hp hv' hkv'
   rw [hun] at hp
   obtain ⟨g1, g2⟩ := rem_dn st dk hn.1 hn.2 hx (fs_some hg) hp
   have hf : fsOf (if p.2 = 0 then m.del name else m) = if p.2 = 0 then updS (fsOf m) name none else fsOf m := by
    split
    · exact fs_del m name
    · rfl
   rw [← hf] at g1
   exact hk V' p.1 _ _ _ p.2 g1 g2 hv' hkv'
theorem ren_all (h : Env1 R d l un n files k i C m sp V D) (hx : Nm name) (hy : Nm tn) (hk : DnPost POST R O s d l mb un n files k C (resC 3 name tn data C) V D) :
 Fun Tryz.prog 27 #[dp s, vs name, vs tn] R (stO s d l mb un files sp false m V D O) POST := by
 obtain ⟨st, pc, hi, hun, hn, hfs, h67, ht, log, all, dk, hm, hv, keep⟩ := h
 cases hg : m.get name with
 | none =>
   rw [res_ren0 (st.no (fs_none hg))] at hk
   refine Fun.turn ?_
   exact rename_none hg hx.good hy.good st.mnt ⟨_, _, hk.same st dk hv, fun w h => h.derive fun w hw => hw _ all⟩
 | some q0 =>
   have c1 := (st.has (fs_some hg)).1
   by_cases hne : name = tn
   · subst hne
     rw [res_ren1 c1] at hk
     refine Fun.turn ?_
     exact rename_same hg hx.good st.mnt all ⟨_, _, hk.same st dk hv, fun w h => h.derive fun w hw => hw _ all⟩
   · rw [res_ren c1 hne] at hk
     have hpost : RnPost POST R O s d l mb un files sp m V D name tn q0 := by
      intro V' p ch h1 h2 h3 hp hv' hkv'
      rw [hun] at hp
      obtain ⟨g1, g2⟩ := ren_dn st dk hn.1 hn.2 hx hy hne (fs_some hg) h1 h2 h3 hp
      have hf : fsOf (if p.2 = 0 then (m.del name).set tn q0 else m) = if p.2 = 0 then renF (fsOf m) name tn (miI q0) else fsOf m := by
       split
       · rw [fs_set, fs_del]
       · rfl
      rw [← hf] at g1
      exact hk V' p.1 _ _ _ p.2 g1 g2 hv' hkv'
     cases hgt : m.get tn with
     | none => exact rename_new hg hgt hne hx.good hy.good st.mnt hun hn hfs.2 ht log all dk hm hv keep hpost
     | some z => exact rename_over hg hgt hne hx.good hy.good st.mnt hun hn hfs.2 ht log all dk hm hv keep hpost
end
end Go.Proofs.YtckokhdjeifomaaGreatDoor
namespace Go.Proofs.YtckokhdjeifomaaGreatDoor
open Go Go.SL
/-- A deed, as the law is given it. -/
abbrev Deed := Int × Int × Int × Int
def encD (x : Deed) : List Value := [.int .i64 x.1, .int .i64 x.2.1, .int .i64 x.2.2.1, .int .i64 x.2.2.2]
abbrev deedV (x : Deed) : Value := .agg #[.int .i64 x.1, .int .i64 x.2.1, .int .i64 x.2.2.1, .int .i64 x.2.2.2]
def nmB (p : Int) : Tx := [byteOf (97 + land .i64 p 3)]
theorem nmB_ok (p : Int) : Nm (nmB p) := by
 have h := land_le .i64 p 3
 unfold nmB
 obtain ⟨a, ha⟩ : ∃ a, a = land .i64 p 3 := ⟨_, rfl⟩
 rw [← ha] at h ⊢
 match a, h with
 | 0, _ => exact ⟨97, by decide, rfl⟩
 | 1, _ => exact ⟨98, by decide, rfl⟩
 | 2, _ => exact ⟨99, by decide, rfl⟩
 | 3, _ => exact ⟨100, by decide, rfl⟩
def dB (i k : Nat) : UInt8 := byteOf (i * 37 + k + k / 2 ^ 9)
def dataE (i N : Nat) : Tx := (List.range N).map (dB i)
theorem data_len (i N : Nat) : (dataE i N).length = N := by unfold dataE; rw [List.length_map, List.length_range]
def wOf (p : Int) : Int := (p.tmod 5 + 5).tmod 5
theorem tmod5 (p : Int) : -5 < p.tmod 5 ∧ p.tmod 5 < 5 := by
 rcases Int.le_total 0 p with h | h
 · rw [Int.tmod_eq_emod_of_nonneg h]; omega
 · have h1 : p.tmod 5 = -((-p) % 5) := by
    rw [← Int.tmod_eq_emod_of_nonneg (by omega : 0 ≤ -p), Int.neg_tmod]; omega
   rw [h1]; omega
def rowD (i N j : Nat) : List Value := ((List.range j).map (dB i) ++ List.replicate (N - j) 0).map vy
theorem rowD_zero (i N : Nat) : rowD i N 0 = List.replicate N (vy 0) := by unfold rowD; simp
theorem rowD_len {i N j : Nat} (h : j ≤ N) : (rowD i N j).length = N := by unfold rowD; simp; omega
theorem rowD_step {i N j : Nat} (h : j < N) : (rowD i N j).set j (vy (dB i j)) = rowD i N (j + 1) := by
 unfold rowD
 rw [List.map_append, List.map_append, List.set_append_right _ _ (by simp), List.length_map, List.length_map, List.length_range, Nat.sub_self, show N - j = (N - (j + 1)) + 1 from by omega, List.replicate_succ, List.map_cons, List.set_cons_zero, List.range_succ, List.map_append, List.map_append, List.append_assoc]
 rfl
abbrev deedR (i : Nat) (x : Deed) (C : CF) : Nat × CF := resC (wOf x.1) (nmB x.2.1) (nmB x.2.2.1) (dataE i (land .i64 x.2.2.2 2047)) C
section
variable {R : List RO} {O : List Own} {POST : Value → List RO → List Own → Prop} {s d l mb un n files k i : Nat} {sp : Nat → Bool} {C : CF} {m : GoMap Tx MI} {V : DV} {D : DSt}
set_option maxRecDepth 20000 in
set_option maxHeartbeats 1000000 in
theorem deed_spec {x : Deed} (h : Env1 R d l un n files k i C m sp V D) (hk : DnPost POST R O s d l mb un n files k C (deedR i x C) V D) :
 Fun Tryz.prog 9 #[dp s, deedV x, .int .i64 (i : Int)] R (stO s d l mb un files sp false m V D O) POST := by
 obtain ⟨xw, xa, xb, xc⟩ := x
 have hi := h.hi
 have hN := land_le .i64 xc 2047
 have hA := land_le .i64 xa 3
 have hB := land_le .i64 xb 3
 have hdl := data_len i (land .i64 xc 2047)
 have hx := nmB_ok xa
 have hy := nmB_ok xb
 have h5 := tmod5 xw
 refine Fun.turn ?_
 refine Fun.enter (l := [_, _, _]) Tryz.func9 rfl Tryz.ntmps9 rfl (L0 := [(0, _), (1, _), (2, _)]) rfl ?_
 refine WC.seq ?_
 refine WC.region ?_
 refine WL.op rfl ?_
 refine OpW.box rfl rfl Z.N rfl rfl ?_; intro b4
 refine WL.rd rfl rfl rfl (Rd.assign rfl rfl) ?_
 refine WL.nil ?_
 refine thenQ.normal ?_
 refine WC.cut (α := Unit) (fun _ => [(0, dp s), (2, .int .i64 (i : Int)), (4, .pointer (some ⟨b4, 0, none⟩)), (6, .int .i64 0), (7, vs (nmB xa)), (8, vs (nmB xb))]) (fun _ => R) (fun _ => rowC b4 36 (encD (xw, xa, xb, xc)) :: stO s d l mb un files sp false m V D O) (fun _ => True) ?_ ?_
 ·
  refine WC.drawnA 16 rfl mixed ?_
  refine WD.take 0 rfl Z.K Held.all rfl rfl rfl ((by exact Rd.field rfl F36_1 rfl rfl)) ?_
  refine WD.take 1 rfl Z.K Held.all rfl rfl rfl ((by exact Rd.row1 rfl C3 rfl Z.M (by rfl))) ?_
  refine WD.take 2 rfl Z.K Held.all rfl rfl rfl (Rd.andm (m := 3) rfl rfl rfl rfl (by decide)) ?_
  refine WD.say 13 (u := .int .i64 ((land .i64 xa 3 : Nat) : Int)) rfl rfl ?_
  refine WD.take 3 rfl Z.K Held.all rfl rfl rfl (Rd.add rfl rfl rfl Z.W) ?_
  refine WD.take 4 rfl Z.K Held.all rfl rfl rfl (Rd.convw (kd' := .u8) rfl rfl Tryz.underlying5 (hS := Tryz.underlying3)) ?_
  refine WD.say 15 (u := vy (byteOf (97 + land .i64 xa 3))) rfl (by show _ = Value.int .u8 ((byteOf _).toNat : Int); rw [← byte_wrap]; rfl) ?_
  refine WD.take 7 rfl Z.K Held.all rfl rfl rfl ((by exact Rd.field rfl F36_2 rfl rfl)) ?_
  refine WD.take 8 rfl Z.K Held.all rfl rfl rfl ((by exact Rd.row1 rfl C3 rfl Z.M (by rfl))) ?_
  refine WD.take 9 rfl Z.K Held.all rfl rfl rfl (Rd.andm (m := 3) rfl rfl rfl rfl (by decide)) ?_
  refine WD.say 20 (u := .int .i64 ((land .i64 xb 3 : Nat) : Int)) rfl rfl ?_
  refine WD.take 10 rfl Z.K Held.all rfl rfl rfl (Rd.add rfl rfl rfl Z.W) ?_
  refine WD.take 11 rfl Z.K Held.all rfl rfl rfl (Rd.convw (kd' := .u8) rfl rfl Tryz.underlying5 (hS := Tryz.underlying3)) ?_
  refine WD.say 22 (u := vy (byteOf (97 + land .i64 xb 3))) rfl (by show _ = Value.int .u8 ((byteOf _).toNat : Int); rw [← byte_wrap]; rfl) ?_
  refine WD.two 5 12 rfl rfl Z.K rfl rfl ?_ ?_
  ·
   refine OpW.buildSl (ps := [(0, _)]) rfl S70 Z.E rfl rfl Z.C Z.K rfl rfl rfl ?_; intro b16
   refine ⟨Z.H, ?_⟩
   refine WD.two 6 12 rfl rfl Z.K rfl rfl ?_ ?_
   ·
    refine OpW.rd rfl rfl (Rd.strOfR (bs := nmB xa) rfl Tryz.underlying70 Tryz.underlying9 Tryz.underlying5 rfl Z.M rfl rfl Z.W) ?_
    refine ⟨Z.H, ?_⟩
    refine WD.take 14 rfl Z.K Z.H rfl rfl rfl (Rd.assign rfl rfl) ?_
    refine WD.one 12 rfl Z.K rfl ?_
    refine OpW.buildSl (ps := [(0, _)]) rfl S70 Z.E rfl rfl Z.C Z.K rfl rfl rfl ?_; intro b23
    refine ⟨Z.H, ?_⟩
    refine WD.one 13 rfl Z.K rfl ?_
    refine OpW.rd rfl rfl (Rd.strOfR (bs := nmB xb) rfl Tryz.underlying70 Tryz.underlying9 Tryz.underlying5 rfl Z.M rfl rfl Z.W) ?_
    refine ⟨Z.H, ?_⟩
    refine WD.take 15 rfl Z.K Z.H rfl rfl rfl (Rd.assign rfl rfl) ?_
    refine WD.done Z.K ?_
    exact ⟨(), trivial, (by repeat (first | exact Sub.nil | refine Sub.cons rfl (by rfl) ?_)), Z.F⟩
   ·
    refine OpW.buildSl (ps := [(0, _)]) rfl S70 Z.E rfl rfl Z.C Z.K rfl rfl rfl ?_; intro b23
    refine ⟨Z.H, ?_⟩
    refine WD.two 6 13 rfl rfl Z.K rfl rfl ?_ ?_
    ·
     refine OpW.rd rfl rfl (Rd.strOfR (bs := nmB xa) rfl Tryz.underlying70 Tryz.underlying9 Tryz.underlying5 rfl Z.M rfl rfl Z.W) ?_
     refine ⟨Z.H, ?_⟩
     refine WD.take 14 rfl Z.K Z.H rfl rfl rfl (Rd.assign rfl rfl) ?_
     refine WD.one 13 rfl Z.K rfl ?_
     refine OpW.rd rfl rfl (Rd.strOfR (bs := nmB xb) rfl Tryz.underlying70 Tryz.underlying9 Tryz.underlying5 rfl Z.M rfl rfl Z.W) ?_
     refine ⟨Z.H, ?_⟩
     refine WD.take 15 rfl Z.K Z.H rfl rfl rfl (Rd.assign rfl rfl) ?_
     refine WD.done Z.K ?_
     exact ⟨(), trivial, (by repeat (first | exact Sub.nil | refine Sub.cons rfl (by rfl) ?_)), Z.F⟩
    ·
     refine OpW.rd rfl rfl (Rd.strOfR (bs := nmB xb) rfl Tryz.underlying70 Tryz.underlying9 Tryz.underlying5 rfl Z.M rfl rfl Z.W) ?_
     refine ⟨Z.H, ?_⟩
     refine WD.one 6 rfl Z.K rfl ?_
     refine OpW.rd rfl rfl (Rd.strOfR (bs := nmB xa) rfl Tryz.underlying70 Tryz.underlying9 Tryz.underlying5 rfl Z.M rfl rfl Z.W) ?_
     refine ⟨Z.H, ?_⟩
     refine WD.take 14 rfl Z.K Z.H rfl rfl rfl (Rd.assign rfl rfl) ?_
     refine WD.take 15 rfl Z.K Z.H rfl rfl rfl (Rd.assign rfl rfl) ?_
     refine WD.done Z.K ?_
     exact ⟨(), trivial, (by repeat (first | exact Sub.nil | refine Sub.cons rfl (by rfl) ?_)), Z.F⟩
  ·
   refine OpW.buildSl (ps := [(0, _)]) rfl S70 Z.E rfl rfl Z.C Z.K rfl rfl rfl ?_; intro b23
   refine ⟨Z.H, ?_⟩
   refine WD.two 5 13 rfl rfl Z.K rfl rfl ?_ ?_
   ·
    refine OpW.buildSl (ps := [(0, _)]) rfl S70 Z.E rfl rfl Z.C Z.K rfl rfl rfl ?_; intro b16
    refine ⟨Z.H, ?_⟩
    refine WD.two 6 13 rfl rfl Z.K rfl rfl ?_ ?_
    ·
     refine OpW.rd rfl rfl (Rd.strOfR (bs := nmB xa) rfl Tryz.underlying70 Tryz.underlying9 Tryz.underlying5 rfl Z.M rfl rfl Z.W) ?_
     refine ⟨Z.H, ?_⟩
     refine WD.take 14 rfl Z.K Z.H rfl rfl rfl (Rd.assign rfl rfl) ?_
     refine WD.one 13 rfl Z.K rfl ?_
     refine OpW.rd rfl rfl (Rd.strOfR (bs := nmB xb) rfl Tryz.underlying70 Tryz.underlying9 Tryz.underlying5 rfl Z.M rfl rfl Z.W) ?_
     refine ⟨Z.H, ?_⟩
     refine WD.take 15 rfl Z.K Z.H rfl rfl rfl (Rd.assign rfl rfl) ?_
     refine WD.done Z.K ?_
     exact ⟨(), trivial, (by repeat (first | exact Sub.nil | refine Sub.cons rfl (by rfl) ?_)), Z.F⟩
    ·
     refine OpW.rd rfl rfl (Rd.strOfR (bs := nmB xb) rfl Tryz.underlying70 Tryz.underlying9 Tryz.underlying5 rfl Z.M rfl rfl Z.W) ?_
     refine ⟨Z.H, ?_⟩
     refine WD.one 6 rfl Z.K rfl ?_
     refine OpW.rd rfl rfl (Rd.strOfR (bs := nmB xa) rfl Tryz.underlying70 Tryz.underlying9 Tryz.underlying5 rfl Z.M rfl rfl Z.W) ?_
     refine ⟨Z.H, ?_⟩
     refine WD.take 14 rfl Z.K Z.H rfl rfl rfl (Rd.assign rfl rfl) ?_
     refine WD.take 15 rfl Z.K Z.H rfl rfl rfl (Rd.assign rfl rfl) ?_
     refine WD.done Z.K ?_
     exact ⟨(), trivial, (by repeat (first | exact Sub.nil | refine Sub.cons rfl (by rfl) ?_)), Z.F⟩
   ·
    refine OpW.rd rfl rfl (Rd.strOfR (bs := nmB xb) rfl Tryz.underlying70 Tryz.underlying9 Tryz.underlying5 rfl Z.M rfl rfl Z.W) ?_
    refine ⟨Z.H, ?_⟩
    refine WD.one 5 rfl Z.K rfl ?_
    refine OpW.buildSl (ps := [(0, _)]) rfl S70 Z.E rfl rfl Z.C Z.K rfl rfl rfl ?_; intro b16
    refine ⟨Z.H, ?_⟩
    refine WD.one 6 rfl Z.K rfl ?_
    refine OpW.rd rfl rfl (Rd.strOfR (bs := nmB xa) rfl Tryz.underlying70 Tryz.underlying9 Tryz.underlying5 rfl Z.M rfl rfl Z.W) ?_
    refine ⟨Z.H, ?_⟩
    refine WD.take 14 rfl Z.K Z.H rfl rfl rfl (Rd.assign rfl rfl) ?_
    refine WD.take 15 rfl Z.K Z.H rfl rfl rfl (Rd.assign rfl rfl) ?_
    refine WD.done Z.K ?_
    exact ⟨(), trivial, (by repeat (first | exact Sub.nil | refine Sub.cons rfl (by rfl) ?_)), Z.F⟩
 ·
  rintro ⟨⟩ -
  refine WC.seq ?_
  refine WC.region ?_
  refine WL.rd rfl rfl rfl ((by exact Rd.field rfl F36_3 rfl rfl)) ?_
  refine WL.rd rfl rfl rfl ((by exact Rd.row1 rfl C3 rfl Z.M (by rfl))) ?_
  refine WL.rd rfl rfl rfl (Rd.andm (m := 2047) rfl rfl rfl rfl (by decide)) ?_
  refine WL.say 27 (u := .int .i64 ((land .i64 xc 2047 : Nat) : Int)) rfl rfl ?_
  refine WL.op rfl ?_
  refine OpW.make1 (z0 := vy 0) (m := land .i64 xc 2047) (c := land .i64 xc 2047) rfl S70 rfl rfl rfl rfl rfl Z.W Z.W Z.W rfl rfl ?_; intro b28
  refine WL.rd rfl rfl rfl (Rd.assign rfl rfl) ?_
  refine WL.nil ?_
  refine thenQ.normal ?_
  refine WC.seq ?_
  refine WC.seq ?_
  refine WC.region ?_
  refine WL.rd rfl rfl rfl (Rd.assign rfl rfl) ?_
  refine WL.nil ?_
  refine thenQ.normal ?_
  refine WC.block ?_
  refine WC.pick [10, 0, 2, 4, 7, 8, 9] Z.P ?_
  refine WC.loop1 1 (fun (j : Nat) => [(10, .int .i64 (j : Int))]) (fun (j : Nat) => rowC b28 5 (rowD i (land .i64 xc 2047) j) :: rowC b4 36 (encD (xw, xa, xb, xc)) :: stO s d l mb un files sp false m V D O) (fun (j : Nat) => j ≤ land .i64 xc 2047) (fun (j : Nat) => land .i64 xc 2047 - j) (0) Z.L ?hinv1 (by repeat (first | exact Sub.nil | refine Sub.cons rfl (by rfl) ?_)) (fun w h => by rw [rowD_zero]; exact Z.Fw h) ?_
  case hinv1 =>
   exact Nat.zero_le _
  intro j
  rintro hI1
  refine WC.seq ?_
  refine WC.seq ?_
  refine WC.region ?_
  refine WL.rd rfl rfl rfl (Rd.move rfl rfl) ?_
  refine WL.rd rfl rfl rfl (Rd.move rfl rfl) ?_
  refine WL.rd rfl rfl rfl ((by exact Rd.len rfl rfl Tryz.underlying70)) ?_
  refine WL.rd rfl rfl rfl (Rd.lss rfl rfl rfl) ?_
  refine WL.nil ?_
  refine thenQ.normal ?_
  refine WC.ite rfl (fun hc1 => ?_) (fun hc1 => ?_)
  ·
   refine WC.skip ?_
   refine thenQ.normal ?_
   refine WC.seq ?_
   refine WC.block ?_
   refine WC.region ?_
   refine WL.rd rfl rfl rfl (Rd.move rfl rfl) ?_
   refine WL.rd rfl rfl rfl (Rd.move rfl rfl) ?_
   refine WL.rd rfl rfl rfl (Rd.move rfl rfl) ?_
   refine WL.rd rfl rfl rfl (Rd.mul rfl rfl rfl Z.W) ?_
   refine WL.rd rfl rfl rfl (Rd.move rfl rfl) ?_
   refine WL.rd rfl rfl rfl (Rd.add rfl rfl rfl Z.W) ?_
   refine WL.rd rfl rfl rfl (Rd.move rfl rfl) ?_
   refine WL.rd rfl rfl rfl (Rd.shrN (a := j) (n := 9) rfl rfl rfl rfl rfl (by decide)) ?_
   refine WL.rd rfl rfl rfl (Rd.add rfl rfl rfl Z.W) ?_
   refine WL.rd rfl rfl rfl (Rd.convw (kd' := .u8) rfl rfl Tryz.underlying5 (hS := Tryz.underlying3)) ?_
   refine WL.say 44 (u := vy (dB i j)) rfl (by show _ = Value.int .u8 ((byteOf _).toNat : Int); rw [← byte_wrap]; rfl) ?_
   refine WL.rd rfl rfl rfl ((by exact Rd.idxR1 (k := j) rfl S70 rfl rfl Z.W Z.W)) ?_
   refine WL.op rfl ?_
   refine OpW.store1 rfl Z5 rfl rfl ⟨rfl, rfl⟩ Z.T (by rw [rowD_len Z.W]; omega) rfl ?_
   refine WL.heap (fun w h => by rw [rowD_step Z.W] at h; exact h) ?_
   refine WL.nil ?_
   refine blockQ.normal ?_
   refine thenQ.normal ?_
   refine WC.region ?_
   refine WL.rd rfl rfl rfl (Rd.move rfl rfl) ?_
   refine WL.rd rfl rfl rfl (Rd.add rfl rfl rfl Z.W) ?_
   refine WL.rd rfl rfl rfl (Rd.assign rfl rfl) ?_
   refine WL.nil ?_
   exact loopQ1.mk (j + 1) Z.W Z.W (by repeat (first | exact Sub.nil | refine Sub.cons rfl (by rfl) ?_)) Z.F
  ·
   obtain rfl : j = land .i64 xc 2047 := by omega
   have hrow : (dataE i (land .i64 xc 2047)).map vy = rowD i (land .i64 xc 2047) (land .i64 xc 2047) := by unfold rowD dataE; simp
   refine WC.exit ?_
   refine thenQ.exit ?_
   refine loopQ1.exit ?_
   refine blockQ.exit ?_
   refine thenQ.normal ?_
   refine WC.seq ?_
   refine WC.seq ?_
   refine WC.region ?_
   refine WL.rd rfl rfl rfl ((by exact Rd.field rfl F36_0 rfl rfl)) ?_
   refine WL.rd rfl rfl rfl ((by exact Rd.row1 rfl C3 rfl Z.M (by rfl))) ?_
   refine WL.rd rfl rfl rfl (Rd.remI (b := 5) rfl rfl rfl rfl (by decide)) ?_
   refine WL.say 48 (u := .int .i64 (xw.tmod 5)) rfl rfl ?_
   refine WL.rd rfl rfl rfl (Rd.add rfl rfl rfl Z.W) ?_
   refine WL.rd rfl rfl rfl (Rd.remI (b := 5) rfl rfl rfl rfl (by decide)) ?_
   refine WL.say 50 (u := .int .i64 (wOf xw)) rfl rfl ?_
   refine WL.nil ?_
   refine thenQ.normal ?_
   refine WC.block ?_
   refine WC.seq ?_
   refine WC.region ?_
   refine WL.rd rfl rfl rfl (Rd.eql rfl rfl rfl) ?_
   refine WL.rd rfl rfl rfl (Rd.assign rfl rfl) ?_
   refine WL.nil ?_
   refine thenQ.normal ?_
   refine WC.ite rfl (fun hc2 => ?_) (fun hc2 => ?_)
   ·
    refine WC.seq ?_
    refine WC.region ?_
    refine WL.rd rfl rfl rfl (Rd.move rfl rfl) ?_
    refine WL.rd rfl rfl rfl (Rd.move rfl rfl) ?_
    refine WL.rd rfl rfl rfl (Rd.move rfl rfl) ?_
    refine WL.rd rfl rfl rfl (Rd.strOfR (bs := dataE i (land .i64 xc 2047)) rfl Tryz.underlying70 Tryz.underlying9 Tryz.underlying5 rfl Z.M hrow hdl Z.W) ?_
    refine WL.op rfl ?_
    refine OpW.call rfl rfl Z.E Z.K rfl rfl rfl ?_
    refine Fun.heap (R' := R) (O' := stO s d l mb un files sp false m V D (rowC b28 5 (rowD i (land .i64 xc 2047) (land .i64 xc 2047)) :: rowC b4 36 (encD (xw, xa, xb, xc)) :: O)) Z.F ?_
    refine app_all (tn := nmB xb) h hx Z.W ?_
    intro V' D' m' sp' off e hd hdk hv' hkv'
    rw [show (2 : Int) = wOf xw from hc2.symm] at hd
    refine WL.rd rfl rfl rfl (Rd.assign rfl rfl) ?_
    refine WL.nil ?_
    refine thenQ.normal ?_
    refine WC.ret (blockQ.retR (thenQ.retR (Ret.one Tryz.results9 rfl ?_)))
    exact ⟨_, _, hk V' D' m' sp' off e hd hdk hv' hkv', Z.F⟩
   ·
    refine WC.seq ?_
    refine WC.region ?_
    refine WL.rd rfl rfl rfl (Rd.eql rfl rfl rfl) ?_
    refine WL.rd rfl rfl rfl (Rd.assign rfl rfl) ?_
    refine WL.nil ?_
    refine thenQ.normal ?_
    refine WC.ite rfl (fun hc3 => ?_) (fun hc3 => ?_)
    ·
     refine WC.seq ?_
     refine WC.region ?_
     refine WL.rd rfl rfl rfl (Rd.move rfl rfl) ?_
     refine WL.rd rfl rfl rfl (Rd.move rfl rfl) ?_
     refine WL.rd rfl rfl rfl (Rd.move rfl rfl) ?_
     refine WL.op rfl ?_
     refine OpW.call rfl rfl Z.E Z.K rfl rfl rfl ?_
     refine Fun.heap (R' := R) (O' := stO s d l mb un files sp false m V D (rowC b28 5 (rowD i (land .i64 xc 2047) (land .i64 xc 2047)) :: rowC b4 36 (encD (xw, xa, xb, xc)) :: O)) Z.F ?_
     refine ren_all (data := dataE i (land .i64 xc 2047)) h hx hy ?_
     intro V' D' m' sp' off e hd hdk hv' hkv'
     rw [show (3 : Int) = wOf xw from hc3.symm] at hd
     refine WL.rd rfl rfl rfl (Rd.assign rfl rfl) ?_
     refine WL.nil ?_
     refine thenQ.normal ?_
     refine WC.ret (blockQ.retR (thenQ.retR (Ret.one Tryz.results9 rfl ?_)))
     exact ⟨_, _, hk V' D' m' sp' off e hd hdk hv' hkv', Z.F⟩
    ·
     refine WC.seq ?_
     refine WC.region ?_
     refine WL.rd rfl rfl rfl (Rd.eql rfl rfl rfl) ?_
     refine WL.rd rfl rfl rfl (Rd.assign rfl rfl) ?_
     refine WL.nil ?_
     refine thenQ.normal ?_
     refine WC.ite rfl (fun hc4 => ?_) (fun hc4 => ?_)
     ·
      refine WC.seq ?_
      refine WC.region ?_
      refine WL.rd rfl rfl rfl (Rd.move rfl rfl) ?_
      refine WL.rd rfl rfl rfl (Rd.move rfl rfl) ?_
      refine WL.op rfl ?_
      refine OpW.call rfl rfl Z.E Z.K rfl rfl rfl ?_
      refine Fun.heap (R' := R) (O' := stO s d l mb un files sp false m V D (rowC b28 5 (rowD i (land .i64 xc 2047) (land .i64 xc 2047)) :: rowC b4 36 (encD (xw, xa, xb, xc)) :: O)) Z.F ?_
      refine rem_all (tn := nmB xb) (data := dataE i (land .i64 xc 2047)) h hx ?_
      intro V' D' m' sp' off e hd hdk hv' hkv'
      rw [show (4 : Int) = wOf xw from hc4.symm] at hd
      refine WL.rd rfl rfl rfl (Rd.assign rfl rfl) ?_
      refine WL.nil ?_
      refine thenQ.normal ?_
      refine WC.ret (blockQ.retR (thenQ.retR (Ret.one Tryz.results9 rfl ?_)))
      exact ⟨_, _, hk V' D' m' sp' off e hd hdk hv' hkv', Z.F⟩
     ·
      refine WC.skip ?_
      refine blockQ.normal ?_
      refine thenQ.normal ?_
      refine WC.seq ?_
      refine WC.region ?_
      refine WL.rd rfl rfl rfl (Rd.move rfl rfl) ?_
      refine WL.rd rfl rfl rfl (Rd.move rfl rfl) ?_
      refine WL.rd rfl rfl rfl (Rd.move rfl rfl) ?_
      refine WL.rd rfl rfl rfl (Rd.strOfR (bs := dataE i (land .i64 xc 2047)) rfl Tryz.underlying70 Tryz.underlying9 Tryz.underlying5 rfl Z.M hrow hdl Z.W) ?_
      refine WL.op rfl ?_
      refine OpW.call rfl rfl Z.E Z.K rfl rfl rfl ?_
      refine Fun.heap (R' := R) (O' := stO s d l mb un files sp false m V D (rowC b28 5 (rowD i (land .i64 xc 2047) (land .i64 xc 2047)) :: rowC b4 36 (encD (xw, xa, xb, xc)) :: O)) Z.F ?_
      refine wr_all (w := wOf xw) (tn := nmB xb) h hx Z.W ⟨hc2, hc3, hc4⟩ ?_
      intro V' D' m' sp' off e hd hdk hv' hkv'
      refine WL.rd rfl rfl rfl (Rd.assign rfl rfl) ?_
      refine WL.nil ?_
      refine thenQ.normal ?_
      refine WC.ret (Ret.one Tryz.results9 rfl ?_)
      exact ⟨_, _, hk V' D' m' sp' off e hd hdk hv' hkv', Z.F⟩
end
end Go.Proofs.YtckokhdjeifomaaGreatDoor
