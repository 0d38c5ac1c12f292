/-
  Layer 13: Make.
-/
import Derived.Test.YtnpnjebogmfdkaaDe4
namespace Go.Proofs.Ytnpnjebogmfdkaa
open Go Go.SL

/-- The library's variable holds some number. -/
def anyInt (g : Nat) : RO := fun w => ∃ m, w.cell? ⟨g, 0, none⟩ = some (.int .i64 m)
theorem anyInt_stable {W : World} {g : Nat} (h : anyInt g W) (w' : World) (ha : Agree (· ∈ owned []) W w') : anyInt g w' := by
  obtain ⟨m, hm⟩ := h
  refine ⟨m, ?_⟩
  rw [← hm]
  exact World.cell?_of_block (ha.2.2.2.2 _ (World.block_lt_of_cell? W _ hm) (by simp [owned]))
/-- What is new up to a place is said. -/
def sayE (target : List UInt8) (done to : Nat) (out : List UInt8) : List UInt8 := if done < to then out ++ (0 :: (putE (to - done) ++ (target.take to).drop done)) else out
theorem say_enc {base target out : List UInt8} {done to : Nat} (h : Enc base out (target.take done)) (hto : to ≤ target.length) (ht : target.length ≤ 262208) (hd : done ≤ to) : Enc base (sayE target done to out) (target.take to) := by
  unfold sayE
  split
  · have hl : ((target.take to).drop done).length = to - done := by rw [List.length_drop, List.length_take]; omega
    have e : target.take to = target.take done ++ (target.take to).drop done := by
      have := List.take_append_drop done (target.take to)
      rw [List.take_take, Nat.min_eq_left hd] at this
      exact this.symm
    rw [e, ← hl]
    have h1 := h.add (ord_fresh (base := base) (x := (target.take to).drop done) (fun h0 => by rw [h0] at hl; simp at hl; omega) (by omega))
    rw [List.drop_append_of_le_length (by rw [List.length_take]; omega)]
    have e2 : (target.take done).drop done = [] := List.drop_eq_nil_of_le (by rw [List.length_take]; omega)
    rw [e2, List.nil_append]
    exact h1
  · obtain rfl : done = to := by omega
    exact h
theorem say_len {target out : List UInt8} {done to : Nat} (hto : to ≤ target.length) (ht : target.length ≤ 262208) (hd : done ≤ to) : (sayE target done to out).length = out.length + if done < to then 1 + (putE (to - done)).length + (to - done) else 0 := by
  unfold sayE
  split
  · rw [List.length_append, List.length_cons, List.length_append, List.length_drop, List.length_take]; omega
  · rfl
theorem joinE_one (x : List UInt8) (h : x.length ≤ 1099511627776) : joinE [x] = putE x.length ++ x := by
  unfold joinE
  rw [List.flatMap_cons, List.flatMap_nil, List.append_nil, putI_nat h]
/-- What a place holds: where its text stands in the base. -/
def Pl (base : List UInt8) (m : GoMap (List UInt8) Int) : Prop := ∀ w i, m.get w = some i → ∃ j : Nat, i = j ∧ j + 16 ≤ base.length ∧ w = (base.take (j + 16)).drop j
/-- Parts that are alike. -/
def Same (t b : List UInt8) (a f n : Nat) : Prop := a + n ≤ t.length ∧ f + n ≤ b.length ∧ (t.take (a + n)).drop a = (b.take (f + n)).drop f
theorem cut_next {t : List UInt8} {a n : Nat} (h : a + n < t.length) : (t.take (a + (n + 1))).drop a = (t.take (a + n)).drop a ++ [t[a + n]!] := by
  rw [show a + (n + 1) = a + n + 1 from rfl, List.take_add_one, get!_of_lt h, List.drop_append_of_le_length (by rw [List.length_take]; omega)]; rfl
theorem cut_prev {t : List UInt8} {a n : Nat} (h : a + 1 + n ≤ t.length) : (t.take (a + (n + 1))).drop a = t[a]! :: (t.take (a + 1 + n)).drop (a + 1) := by
  rw [show a + (n + 1) = a + 1 + n from by omega, List.drop_eq_getElem_cons (by rw [List.length_take]; omega), List.getElem_take, getElem!_pos t a (by omega)]
theorem Same.next {t b : List UInt8} {a f n : Nat} (h : Same t b a f n) (h1 : a + n < t.length) (h2 : f + n < b.length) (he : t[a + n]! = b[f + n]!) : Same t b a f (n + 1) :=
  ⟨by omega, by omega, by rw [cut_next h1, cut_next h2, h.2.2, he]⟩
theorem Same.prev {t b : List UInt8} {a f n : Nat} (h : Same t b (a + 1) (f + 1) n) (he : t[a]! = b[f]!) : Same t b a f (n + 1) :=
  ⟨by have := h.1; omega, by have := h.2.1; omega, by rw [cut_prev (by have := h.1; omega), cut_prev (by have := h.2.1; omega), h.2.2, he]⟩
theorem u8_inj {a b : UInt8} (h : (a.toNat : Int) = (b.toNat : Int)) : a = b := UInt8.toNat_inj.1 (by omega)
section
variable {R : List RO} {O : List Own} {POST : Value → List RO → List Own → Prop}
theorem index_spec {s sub : List UInt8} (hg : anyInt 0 ∈ R) (hs : s.length < 4294967281) (hk : POST (.int .i64 (Lib.index s sub)) R O) : Fun Try.prog 17 #[vs s, vs sub] R O POST := fun w hw => by
  obtain ⟨m, hm⟩ := hw.read hg
  refine (Try.strings_Index ⟨s.toArray⟩ ⟨sub.toArray⟩ m w (by simpa [ByteArray.size] using hs) hm).mono fun e w' ⟨he, hb⟩ => ⟨_, R, O, he, hk, by rw [hb]; exact hw⟩
abbrev mkr (b : Nat) (base target : List UInt8) (mv p v : Value) (done : Nat) : Own := rowC b 45 [vs base, vs target, mv, p, v, .int .i64 (done : Int)]
set_option maxHeartbeats 1000000 in
theorem say_spec {b to done : Nat} {base target out : List UInt8} {mv p v : Value} (hp : p = .pointer none ∨ p = pself b 3) (hv : OneV v) (ht : target.length ≤ 262208) (hto : to ≤ target.length) (hout : out.length ≤ 1000000000)
    (hk : ∀ p' v', (p' = .pointer none ∨ p' = pself b 3) → OneV v' → POST (.tuple #[]) R (mkr b base target mv p' v' to :: accC 5 1 (one vy) v' (sayE target done to out) :: O)) :
    Fun Try.prog 15 #[pself b 0, .int .i64 (to : Int)] R (mkr b base target mv p v done :: accC 5 1 (one vy) v out :: O) POST := by
  refine Fun.enter (l := [_, _]) Try.func15 rfl Try.ntmps15 rfl (L0 := [(0, _), (1, _)]) rfl ?_
  refine WC.seq ?_
  refine WC.seq ?_
  refine WC.region ?_
  refine WL.rd rfl rfl rfl (Rd.move rfl rfl) ?_
  refine WL.rd rfl rfl rfl (Rd.move rfl rfl) ?_
  refine WL.rd rfl rfl rfl (Rd.nilc rfl rfl) ?_
  refine WL.rd rfl rfl rfl ((by first | exact Rd.field rfl F45_4 rfl rfl | exact Rd.fieldE rfl F45_4 rfl (by repeat (first | assumption | exact List.mem_cons_self | refine List.mem_cons_of_mem _ ?_)) (by omega) | exact Rd.fieldA rfl F45_4 rfl (by repeat (first | assumption | exact List.mem_cons_self | refine List.mem_cons_of_mem _ ?_)) (by omega))) ?_
  refine WL.rd rfl rfl rfl (Rd.row1 (off := 5) rfl C3 rfl List.mem_cons_self rfl) ?_
  refine WL.rd rfl rfl rfl (Rd.gtr rfl rfl rfl) ?_
  refine WL.nil ?_
  refine thenQ.normal ?_
  first | refine WC.ite rfl (fun hc1 => ?_) (fun hc1 => ?_) | refine WC.cond rfl (fun hc1 => ?_) (fun hc1 => ?_)
  · skip
    have hl : ((target.take to).drop done).length = to - done := by rw [List.length_drop, List.length_take]; omega
    refine WC.drawn (O) 17 rfl mixed ?_
    refine WD.take 0 rfl (by kernel_rfl) (Held.mk' (by repeat (first | exact SubL.refl | refine SubL.cons (by repeat (first | assumption | exact List.mem_cons_self | refine List.mem_cons_of_mem _ ?_)) ?_ | refine SubL.skip ?_)) (by repeat (first | exact OwnL.refl | apply OwnL.take (by repeat (first | exact Take.head _ | apply Take.tail)) | apply OwnL.drop))) rfl rfl rfl (Rd.move rfl rfl) ?_
    refine WD.take 1 rfl (by kernel_rfl) (Held.mk' (by repeat (first | exact SubL.refl | refine SubL.cons (by repeat (first | assumption | exact List.mem_cons_self | refine List.mem_cons_of_mem _ ?_)) ?_ | refine SubL.skip ?_)) (by repeat (first | exact OwnL.refl | apply OwnL.take (by repeat (first | exact Take.head _ | apply Take.tail)) | apply OwnL.drop))) rfl rfl rfl (Rd.nilc rfl rfl) ?_
    refine WD.take 2 rfl (by kernel_rfl) (Held.mk' (by repeat (first | exact SubL.refl | refine SubL.cons (by repeat (first | assumption | exact List.mem_cons_self | refine List.mem_cons_of_mem _ ?_)) ?_ | refine SubL.skip ?_)) (by repeat (first | exact OwnL.refl | apply OwnL.take (by repeat (first | exact Take.head _ | apply Take.tail)) | apply OwnL.drop))) rfl rfl rfl ((by first | exact Rd.field rfl F45_3 rfl rfl | exact Rd.fieldE rfl F45_3 rfl (by repeat (first | assumption | exact List.mem_cons_self | refine List.mem_cons_of_mem _ ?_)) (by omega) | exact Rd.fieldA rfl F45_3 rfl (by repeat (first | assumption | exact List.mem_cons_self | refine List.mem_cons_of_mem _ ?_)) (by omega))) ?_
    refine WD.take 3 rfl (by kernel_rfl) (Held.mk' (by repeat (first | exact SubL.refl | refine SubL.cons (by repeat (first | assumption | exact List.mem_cons_self | refine List.mem_cons_of_mem _ ?_)) ?_ | refine SubL.skip ?_)) (by repeat (first | exact OwnL.refl | apply OwnL.take (by repeat (first | exact Take.head _ | apply Take.tail)) | apply OwnL.drop))) rfl rfl rfl (Rd.move rfl rfl) ?_
    refine WD.take 4 rfl (by kernel_rfl) (Held.mk' (by repeat (first | exact SubL.refl | refine SubL.cons (by repeat (first | assumption | exact List.mem_cons_self | refine List.mem_cons_of_mem _ ?_)) ?_ | refine SubL.skip ?_)) (by repeat (first | exact OwnL.refl | apply OwnL.take (by repeat (first | exact Take.head _ | apply Take.tail)) | apply OwnL.drop))) rfl rfl rfl (Rd.nilc rfl rfl) ?_
    refine WD.take 5 rfl (by kernel_rfl) (Held.mk' (by repeat (first | exact SubL.refl | refine SubL.cons (by repeat (first | assumption | exact List.mem_cons_self | refine List.mem_cons_of_mem _ ?_)) ?_ | refine SubL.skip ?_)) (by repeat (first | exact OwnL.refl | apply OwnL.take (by repeat (first | exact Take.head _ | apply Take.tail)) | apply OwnL.drop))) rfl rfl rfl ((by first | exact Rd.field rfl F45_1 rfl rfl | exact Rd.fieldE rfl F45_1 rfl (by repeat (first | assumption | exact List.mem_cons_self | refine List.mem_cons_of_mem _ ?_)) (by omega) | exact Rd.fieldA rfl F45_1 rfl (by repeat (first | assumption | exact List.mem_cons_self | refine List.mem_cons_of_mem _ ?_)) (by omega))) ?_
    refine WD.take 7 rfl (by kernel_rfl) (Held.mk' (by repeat (first | exact SubL.refl | refine SubL.cons (by repeat (first | assumption | exact List.mem_cons_self | refine List.mem_cons_of_mem _ ?_)) ?_ | refine SubL.skip ?_)) (by repeat (first | exact OwnL.refl | apply OwnL.take (by repeat (first | exact Take.head _ | apply Take.tail)) | apply OwnL.drop))) rfl rfl rfl (Rd.move rfl rfl) ?_
    refine WD.take 8 rfl (by kernel_rfl) (Held.mk' (by repeat (first | exact SubL.refl | refine SubL.cons (by repeat (first | assumption | exact List.mem_cons_self | refine List.mem_cons_of_mem _ ?_)) ?_ | refine SubL.skip ?_)) (by repeat (first | exact OwnL.refl | apply OwnL.take (by repeat (first | exact Take.head _ | apply Take.tail)) | apply OwnL.drop))) rfl rfl rfl (Rd.nilc rfl rfl) ?_
    refine WD.take 9 rfl (by kernel_rfl) (Held.mk' (by repeat (first | exact SubL.refl | refine SubL.cons (by repeat (first | assumption | exact List.mem_cons_self | refine List.mem_cons_of_mem _ ?_)) ?_ | refine SubL.skip ?_)) (by repeat (first | exact OwnL.refl | apply OwnL.take (by repeat (first | exact Take.head _ | apply Take.tail)) | apply OwnL.drop))) rfl rfl rfl ((by first | exact Rd.field rfl F45_4 rfl rfl | exact Rd.fieldE rfl F45_4 rfl (by repeat (first | assumption | exact List.mem_cons_self | refine List.mem_cons_of_mem _ ?_)) (by omega) | exact Rd.fieldA rfl F45_4 rfl (by repeat (first | assumption | exact List.mem_cons_self | refine List.mem_cons_of_mem _ ?_)) (by omega))) ?_
    refine WD.take 11 rfl (by kernel_rfl) (Held.mk' (by repeat (first | exact SubL.refl | refine SubL.cons (by repeat (first | assumption | exact List.mem_cons_self | refine List.mem_cons_of_mem _ ?_)) ?_ | refine SubL.skip ?_)) (by repeat (first | exact OwnL.refl | apply OwnL.take (by repeat (first | exact Take.head _ | apply Take.tail)) | apply OwnL.drop))) rfl rfl rfl (Rd.move rfl rfl) ?_
    refine WD.two 6 10 rfl rfl (by kernel_rfl) rfl rfl ?_ ?_
    · skip
      refine OpW.rd rfl rfl (Rd.row1 (off := 1) rfl C9 rfl List.mem_cons_self rfl) ?_
      refine ⟨(Held.mk' (by repeat (first | exact SubL.refl | refine SubL.cons (by repeat (first | assumption | exact List.mem_cons_self | refine List.mem_cons_of_mem _ ?_)) ?_ | refine SubL.skip ?_)) (by repeat (first | exact OwnL.refl | apply OwnL.take (by repeat (first | exact Take.head _ | apply Take.tail)) | apply OwnL.drop))), ?_⟩
      refine WD.one 10 rfl (by kernel_rfl) rfl ?_
      refine OpW.rd rfl rfl (Rd.row1 (off := 5) rfl C3 rfl List.mem_cons_self rfl) ?_
      refine ⟨(Held.mk' (by repeat (first | exact SubL.refl | refine SubL.cons (by repeat (first | assumption | exact List.mem_cons_self | refine List.mem_cons_of_mem _ ?_)) ?_ | refine SubL.skip ?_)) (by repeat (first | exact OwnL.refl | apply OwnL.take (by repeat (first | exact Take.head _ | apply Take.tail)) | apply OwnL.drop))), ?_⟩
      refine WD.take 12 rfl (by kernel_rfl) (Held.mk' (by repeat (first | exact SubL.refl | refine SubL.cons (by repeat (first | assumption | exact List.mem_cons_self | refine List.mem_cons_of_mem _ ?_)) ?_ | refine SubL.skip ?_)) (by repeat (first | exact OwnL.refl | apply OwnL.take (by repeat (first | exact Take.head _ | apply Take.tail)) | apply OwnL.drop))) rfl rfl rfl (Rd.scut_lh (lo := done) (hi := to) rfl Try.underlying9 rfl rfl rfl rfl rfl (by omega) (by omega)) ?_
      refine WD.one 13 rfl (by kernel_rfl) rfl ?_
      refine OpW.buildSl (ps := [(0, _)]) rfl S71 (by repeat (first | exact Evs.nil | apply Evs.cons rfl)) rfl rfl (by repeat (first | exact CellsOf.nil | apply CellsOf.cons rfl)) (by kernel_rfl) rfl rfl rfl ?_; intro b23
      refine ⟨(Held.mk' (by repeat (first | exact SubL.refl | refine SubL.cons (by repeat (first | assumption | exact List.mem_cons_self | refine List.mem_cons_of_mem _ ?_)) ?_ | refine SubL.skip ?_)) (by repeat (first | exact OwnL.refl | apply OwnL.take (by repeat (first | exact Take.head _ | apply Take.tail)) | apply OwnL.drop))), ?_⟩
      refine WD.heap (fun w h => Sat.shareRow (enc := one vs) (xs := [(target.take to).drop done]) (m := 1) (by repeat (first | assumption | exact Take.head _ | apply Take.tail)) rfl rfl (by decide) h) ?_
      refine WD.one 14 rfl (by kernel_rfl) rfl ?_
      refine OpW.call rfl rfl (by repeat (first | exact Evs.nil | apply Evs.cons rfl)) (by kernel_rfl) rfl rfl rfl ?_
      have hpl := putE_le (n := to - done) (by omega)
      refine join_spec (l := [(target.take to).drop done]) (by repeat (first | assumption | exact List.mem_cons_self | refine List.mem_cons_of_mem _ ?_)) (by rw [joinE_one _ (by omega), List.length_append, hl]; omega) ?_
      rw [joinE_one _ (by omega), hl]
      refine ⟨(Held.mk' (by repeat (first | exact SubL.refl | refine SubL.cons (by repeat (first | assumption | exact List.mem_cons_self | refine List.mem_cons_of_mem _ ?_)) ?_ | refine SubL.skip ?_)) (by repeat (first | exact OwnL.refl | apply OwnL.take (by repeat (first | exact Take.head _ | apply Take.tail)) | apply OwnL.drop))), ?_⟩
      refine WD.take 15 rfl (by kernel_rfl) (Held.mk' (by repeat (first | exact SubL.refl | refine SubL.cons (by repeat (first | assumption | exact List.mem_cons_self | refine List.mem_cons_of_mem _ ?_)) ?_ | refine SubL.skip ?_)) (by repeat (first | exact OwnL.refl | apply OwnL.take (by repeat (first | exact Take.head _ | apply Take.tail)) | apply OwnL.drop))) rfl rfl rfl (Rd.scat rfl rfl rfl (by have hpl := putE_le (n := to - done) (by omega); rw [List.length_append, hl]; show 1 + _ ≤ _; omega)) ?_
      refine WD.one 16 rfl (by kernel_rfl) rfl ?_
      refine OpW.call rfl rfl (by repeat (first | exact Evs.nil | apply Evs.cons rfl)) (by kernel_rfl) rfl rfl rfl ?_
      have hpl := putE_le (n := to - done) (by omega)
      refine Fun.heap (R' := R) (O' := mkr b base target mv p v done :: accC 5 1 (one vy) v out :: O) (fun w h => OwnL.sat (by repeat (first | exact OwnL.refl | apply OwnL.take (by repeat (first | exact Take.head _ | apply Take.tail)) | apply OwnL.drop)) w (h.thin (SubL.mem (by repeat (first | exact SubL.refl | refine SubL.cons (by repeat (first | assumption | exact List.mem_cons_self | refine List.mem_cons_of_mem _ ?_)) ?_ | refine SubL.skip ?_))))) ?_
      refine bws_spec (off := 3) (bs := out) (s := 0 :: (putE (to - done) ++ (target.take to).drop done)) hp rfl rfl (by kernel_rfl) (by rw [List.length_cons, List.length_append, hl]; omega) ?_; intro v26 hv26
      refine ⟨(Held.mk' (by repeat (first | exact SubL.refl | refine SubL.cons (by repeat (first | assumption | exact List.mem_cons_self | refine List.mem_cons_of_mem _ ?_)) ?_ | refine SubL.skip ?_)) (by repeat (first | exact OwnL.refl | apply OwnL.take (by repeat (first | exact Take.head _ | apply Take.tail)) | apply OwnL.drop))), ?_⟩
      refine WD.done (by kernel_rfl) ?_
      refine thenQ.normal ?_
      refine WC.region ?_
      refine WL.rd rfl rfl rfl (Rd.move rfl rfl) ?_
      refine WL.rd rfl rfl rfl (Rd.move rfl rfl) ?_
      refine WL.rd rfl rfl rfl (Rd.nilc rfl rfl) ?_
      refine WL.rd rfl rfl rfl ((by first | exact Rd.field rfl F45_4 rfl rfl | exact Rd.fieldE rfl F45_4 rfl (by repeat (first | assumption | exact List.mem_cons_self | refine List.mem_cons_of_mem _ ?_)) (by omega) | exact Rd.fieldA rfl F45_4 rfl (by repeat (first | assumption | exact List.mem_cons_self | refine List.mem_cons_of_mem _ ?_)) (by omega))) ?_
      refine WL.op rfl ?_
      refine OpW.store1 rfl Z3 rfl rfl (by first | exact ⟨rfl, rfl⟩ | assumption) (by repeat (first | assumption | exact Take.head _ | apply Take.tail)) (by first | (simp; done) | omega | exact of_decide_eq_true rfl | (simp only [List.length_append, List.length_replicate, List.length_map, List.length_set]; omega)) rfl ?_
      refine WL.nil ?_
      -- ret_1
      refine Ret.normal (Ret.zero Try.results15 ?_)
      have hk' := hk (pself b 3) v26 (.inr rfl) hv26
      unfold sayE at hk'
      rw [if_pos (by omega)] at hk'
      exact hk'
    · skip
      refine OpW.rd rfl rfl (Rd.row1 (off := 5) rfl C3 rfl List.mem_cons_self rfl) ?_
      refine ⟨(Held.mk' (by repeat (first | exact SubL.refl | refine SubL.cons (by repeat (first | assumption | exact List.mem_cons_self | refine List.mem_cons_of_mem _ ?_)) ?_ | refine SubL.skip ?_)) (by repeat (first | exact OwnL.refl | apply OwnL.take (by repeat (first | exact Take.head _ | apply Take.tail)) | apply OwnL.drop))), ?_⟩
      refine WD.one 6 rfl (by kernel_rfl) rfl ?_
      refine OpW.rd rfl rfl (Rd.row1 (off := 1) rfl C9 rfl List.mem_cons_self rfl) ?_
      refine ⟨(Held.mk' (by repeat (first | exact SubL.refl | refine SubL.cons (by repeat (first | assumption | exact List.mem_cons_self | refine List.mem_cons_of_mem _ ?_)) ?_ | refine SubL.skip ?_)) (by repeat (first | exact OwnL.refl | apply OwnL.take (by repeat (first | exact Take.head _ | apply Take.tail)) | apply OwnL.drop))), ?_⟩
      refine WD.take 12 rfl (by kernel_rfl) (Held.mk' (by repeat (first | exact SubL.refl | refine SubL.cons (by repeat (first | assumption | exact List.mem_cons_self | refine List.mem_cons_of_mem _ ?_)) ?_ | refine SubL.skip ?_)) (by repeat (first | exact OwnL.refl | apply OwnL.take (by repeat (first | exact Take.head _ | apply Take.tail)) | apply OwnL.drop))) rfl rfl rfl (Rd.scut_lh (lo := done) (hi := to) rfl Try.underlying9 rfl rfl rfl rfl rfl (by omega) (by omega)) ?_
      refine WD.one 13 rfl (by kernel_rfl) rfl ?_
      refine OpW.buildSl (ps := [(0, _)]) rfl S71 (by repeat (first | exact Evs.nil | apply Evs.cons rfl)) rfl rfl (by repeat (first | exact CellsOf.nil | apply CellsOf.cons rfl)) (by kernel_rfl) rfl rfl rfl ?_; intro b23
      refine ⟨(Held.mk' (by repeat (first | exact SubL.refl | refine SubL.cons (by repeat (first | assumption | exact List.mem_cons_self | refine List.mem_cons_of_mem _ ?_)) ?_ | refine SubL.skip ?_)) (by repeat (first | exact OwnL.refl | apply OwnL.take (by repeat (first | exact Take.head _ | apply Take.tail)) | apply OwnL.drop))), ?_⟩
      refine WD.heap (fun w h => Sat.shareRow (enc := one vs) (xs := [(target.take to).drop done]) (m := 1) (by repeat (first | assumption | exact Take.head _ | apply Take.tail)) rfl rfl (by decide) h) ?_
      refine WD.one 14 rfl (by kernel_rfl) rfl ?_
      refine OpW.call rfl rfl (by repeat (first | exact Evs.nil | apply Evs.cons rfl)) (by kernel_rfl) rfl rfl rfl ?_
      have hpl := putE_le (n := to - done) (by omega)
      refine join_spec (l := [(target.take to).drop done]) (by repeat (first | assumption | exact List.mem_cons_self | refine List.mem_cons_of_mem _ ?_)) (by rw [joinE_one _ (by omega), List.length_append, hl]; omega) ?_
      rw [joinE_one _ (by omega), hl]
      refine ⟨(Held.mk' (by repeat (first | exact SubL.refl | refine SubL.cons (by repeat (first | assumption | exact List.mem_cons_self | refine List.mem_cons_of_mem _ ?_)) ?_ | refine SubL.skip ?_)) (by repeat (first | exact OwnL.refl | apply OwnL.take (by repeat (first | exact Take.head _ | apply Take.tail)) | apply OwnL.drop))), ?_⟩
      refine WD.take 15 rfl (by kernel_rfl) (Held.mk' (by repeat (first | exact SubL.refl | refine SubL.cons (by repeat (first | assumption | exact List.mem_cons_self | refine List.mem_cons_of_mem _ ?_)) ?_ | refine SubL.skip ?_)) (by repeat (first | exact OwnL.refl | apply OwnL.take (by repeat (first | exact Take.head _ | apply Take.tail)) | apply OwnL.drop))) rfl rfl rfl (Rd.scat rfl rfl rfl (by have hpl := putE_le (n := to - done) (by omega); rw [List.length_append, hl]; show 1 + _ ≤ _; omega)) ?_
      refine WD.one 16 rfl (by kernel_rfl) rfl ?_
      refine OpW.call rfl rfl (by repeat (first | exact Evs.nil | apply Evs.cons rfl)) (by kernel_rfl) rfl rfl rfl ?_
      have hpl := putE_le (n := to - done) (by omega)
      refine Fun.heap (R' := R) (O' := mkr b base target mv p v done :: accC 5 1 (one vy) v out :: O) (fun w h => OwnL.sat (by repeat (first | exact OwnL.refl | apply OwnL.take (by repeat (first | exact Take.head _ | apply Take.tail)) | apply OwnL.drop)) w (h.thin (SubL.mem (by repeat (first | exact SubL.refl | refine SubL.cons (by repeat (first | assumption | exact List.mem_cons_self | refine List.mem_cons_of_mem _ ?_)) ?_ | refine SubL.skip ?_))))) ?_
      refine bws_spec (off := 3) (bs := out) (s := 0 :: (putE (to - done) ++ (target.take to).drop done)) hp rfl rfl (by kernel_rfl) (by rw [List.length_cons, List.length_append, hl]; omega) ?_; intro v26 hv26
      refine ⟨(Held.mk' (by repeat (first | exact SubL.refl | refine SubL.cons (by repeat (first | assumption | exact List.mem_cons_self | refine List.mem_cons_of_mem _ ?_)) ?_ | refine SubL.skip ?_)) (by repeat (first | exact OwnL.refl | apply OwnL.take (by repeat (first | exact Take.head _ | apply Take.tail)) | apply OwnL.drop))), ?_⟩
      refine WD.done (by kernel_rfl) ?_
      refine thenQ.normal ?_
      refine WC.region ?_
      refine WL.rd rfl rfl rfl (Rd.move rfl rfl) ?_
      refine WL.rd rfl rfl rfl (Rd.move rfl rfl) ?_
      refine WL.rd rfl rfl rfl (Rd.nilc rfl rfl) ?_
      refine WL.rd rfl rfl rfl ((by first | exact Rd.field rfl F45_4 rfl rfl | exact Rd.fieldE rfl F45_4 rfl (by repeat (first | assumption | exact List.mem_cons_self | refine List.mem_cons_of_mem _ ?_)) (by omega) | exact Rd.fieldA rfl F45_4 rfl (by repeat (first | assumption | exact List.mem_cons_self | refine List.mem_cons_of_mem _ ?_)) (by omega))) ?_
      refine WL.op rfl ?_
      refine OpW.store1 rfl Z3 rfl rfl (by first | exact ⟨rfl, rfl⟩ | assumption) (by repeat (first | assumption | exact Take.head _ | apply Take.tail)) (by first | (simp; done) | omega | exact of_decide_eq_true rfl | (simp only [List.length_append, List.length_replicate, List.length_map, List.length_set]; omega)) rfl ?_
      refine WL.nil ?_
      -- ret_2
      refine Ret.normal (Ret.zero Try.results15 ?_)
      have hk' := hk (pself b 3) v26 (.inr rfl) hv26
      unfold sayE at hk'
      rw [if_pos (by omega)] at hk'
      exact hk'
  · skip
    refine WC.skip ?_
    refine thenQ.normal ?_
    refine WC.region ?_
    refine WL.rd rfl rfl rfl (Rd.move rfl rfl) ?_
    refine WL.rd rfl rfl rfl (Rd.move rfl rfl) ?_
    refine WL.rd rfl rfl rfl (Rd.nilc rfl rfl) ?_
    refine WL.rd rfl rfl rfl ((by first | exact Rd.field rfl F45_4 rfl rfl | exact Rd.fieldE rfl F45_4 rfl (by repeat (first | assumption | exact List.mem_cons_self | refine List.mem_cons_of_mem _ ?_)) (by omega) | exact Rd.fieldA rfl F45_4 rfl (by repeat (first | assumption | exact List.mem_cons_self | refine List.mem_cons_of_mem _ ?_)) (by omega))) ?_
    refine WL.op rfl ?_
    refine OpW.store1 rfl Z3 rfl rfl (by first | exact ⟨rfl, rfl⟩ | assumption) (by repeat (first | assumption | exact Take.head _ | apply Take.tail)) (by first | (simp; done) | omega | exact of_decide_eq_true rfl | (simp only [List.length_append, List.length_replicate, List.length_map, List.length_set]; omega)) rfl ?_
    refine WL.nil ?_
    -- ret_3
    refine Ret.normal (Ret.zero Try.results15 ?_)
    have hk' := hk p v hp hv
    unfold sayE at hk'
    rw [if_neg (by omega)] at hk'
    exact hk'
set_option maxHeartbeats 1000000 in
theorem learn_spec {b mb done : Nat} {base target : List UInt8} {p v : Value} (hb : base.length ≤ 262208)
    (hk : ∀ m, Pl base m → POST (.tuple #[]) R (mapC vs vi mb m :: mkr b base target (.map (some mb)) p v done :: O)) :
    Fun Try.prog 18 #[pself b 0] R (mapC vs vi mb GoMap.empty :: mkr b base target (.map (some mb)) p v done :: O) POST := by
  refine Fun.enter (l := [_]) Try.func18 rfl Try.ntmps18 rfl (L0 := [(0, _)]) rfl ?_
  refine WC.seq ?_
  refine WC.region ?_
  refine WL.rd rfl rfl rfl (Rd.move rfl rfl) ?_
  refine WL.rd rfl rfl rfl (Rd.nilc rfl rfl) ?_
  refine WL.rd rfl rfl rfl ((by first | exact Rd.field rfl F45_0 rfl rfl | exact Rd.fieldE rfl F45_0 rfl (by repeat (first | assumption | exact List.mem_cons_self | refine List.mem_cons_of_mem _ ?_)) (by omega) | exact Rd.fieldA rfl F45_0 rfl (by repeat (first | assumption | exact List.mem_cons_self | refine List.mem_cons_of_mem _ ?_)) (by omega))) ?_
  refine WL.rd rfl rfl rfl (Rd.row1 (off := 0) (u := vs base) rfl C9 rfl (by repeat (first | assumption | exact List.mem_cons_self | refine List.mem_cons_of_mem _ ?_)) rfl) ?_
  refine WL.rd rfl rfl rfl (Rd.slen (ts := #[]) (ty := 0) rfl rfl Try.underlying9) ?_
  refine WL.rd rfl rfl rfl (Rd.sub rfl rfl rfl (by omega)) ?_
  refine WL.rd rfl rfl rfl (Rd.assign rfl rfl) ?_
  refine WL.nil ?_
  refine thenQ.normal ?_
  refine WC.block ?_
  refine WC.pick [2, 0] (by repeat (first | exact Pick.nil | apply Pick.cons rfl)) ?_
  refine WC.loop2 1 (fun (i : Int) (m : GoMap (List UInt8) Int) => [(2, .int .i64 i)]) (fun (i : Int) (m : GoMap (List UInt8) Int) => mapC vs vi mb m :: mkr b base target (.map (some mb)) p v done :: O) (fun (i : Int) (m : GoMap (List UInt8) Int) => -16 ≤ i ∧ i + 16 ≤ base.length ∧ Pl base m) (fun (i : Int) (m : GoMap (List UInt8) Int) => (i + 1).toNat) ((base.length : Int) - 16) (GoMap.empty) (by repeat (first | exact Split.zero | apply Split.succ)) ?hinv1 (by repeat (first | exact Sub.nil | refine Sub.cons rfl (by first | rfl | (congr 1; omega) | assumption) ?_)) (fun _ h => h) ?_
  case hinv1 =>
    exact ⟨by omega, by omega, fun w i h => by cases h⟩
  intro i m
  rintro ⟨i1, i2, i3⟩
  refine WC.seq ?_
  refine WC.seq ?_
  refine WC.region ?_
  refine WL.rd rfl rfl rfl (Rd.move rfl rfl) ?_
  refine WL.rd rfl rfl rfl (Rd.geq rfl rfl rfl) ?_
  refine WL.nil ?_
  refine thenQ.normal ?_
  first | refine WC.ite rfl (fun hc1 => ?_) (fun hc1 => ?_) | refine WC.cond rfl (fun hc1 => ?_) (fun hc1 => ?_)
  · skip
    obtain ⟨k, rfl⟩ : ∃ k : Nat, i = k := ⟨i.toNat, by omega⟩
    refine WC.skip ?_
    refine thenQ.normal ?_
    refine WC.seq ?_
    refine WC.block ?_
    refine WC.tail 13 mixed (by kernel_rfl) ?_
    refine WS.rd rfl rfl rfl (Rd.move rfl rfl) ?_
    refine WS.rd rfl rfl rfl (Rd.nilc rfl rfl) ?_
    refine WS.rd rfl rfl rfl ((by first | exact Rd.field rfl F45_2 rfl rfl | exact Rd.fieldE rfl F45_2 rfl (by repeat (first | assumption | exact List.mem_cons_self | refine List.mem_cons_of_mem _ ?_)) (by omega) | exact Rd.fieldA rfl F45_2 rfl (by repeat (first | assumption | exact List.mem_cons_self | refine List.mem_cons_of_mem _ ?_)) (by omega))) ?_
    refine WS.rd rfl rfl rfl (Rd.row1 (off := 2) (u := .map (some mb)) rfl C40 rfl (by repeat (first | assumption | exact List.mem_cons_self | refine List.mem_cons_of_mem _ ?_)) rfl) ?_
    refine WS.rd rfl rfl rfl (Rd.move rfl rfl) ?_
    refine WS.rd rfl rfl rfl (Rd.nilc rfl rfl) ?_
    refine WS.rd rfl rfl rfl ((by first | exact Rd.field rfl F45_0 rfl rfl | exact Rd.fieldE rfl F45_0 rfl (by repeat (first | assumption | exact List.mem_cons_self | refine List.mem_cons_of_mem _ ?_)) (by omega) | exact Rd.fieldA rfl F45_0 rfl (by repeat (first | assumption | exact List.mem_cons_self | refine List.mem_cons_of_mem _ ?_)) (by omega))) ?_
    refine WS.rd rfl rfl rfl (Rd.row1 (off := 0) (u := vs base) rfl C9 rfl (by repeat (first | assumption | exact List.mem_cons_self | refine List.mem_cons_of_mem _ ?_)) rfl) ?_
    refine WS.rd rfl rfl rfl (Rd.move rfl rfl) ?_
    refine WS.rd rfl rfl rfl (Rd.move rfl rfl) ?_
    refine WS.rd rfl rfl rfl (Rd.add rfl rfl rfl (by omega)) ?_
    refine WS.rd rfl rfl rfl (Rd.scut_lh (lo := k) (hi := k + 16) rfl Try.underlying9 rfl rfl rfl rfl (by omega) (by omega) (by omega)) ?_
    refine WS.rd rfl rfl rfl (Rd.move rfl rfl) ?_
    refine WS.switch ?_
    refine WL.op rfl ?_
    refine OpW.mapUpdate M40 K9 rfl rfl rfl rfl (by repeat (first | assumption | exact Take.head _ | apply Take.tail)) (by rfl) (by rfl) rfl ?_
    refine WL.nil ?_
    refine blockQ.normal ?_
    refine thenQ.normal ?_
    refine WC.region ?_
    refine WL.rd rfl rfl rfl (Rd.move rfl rfl) ?_
    refine WL.rd rfl rfl rfl (Rd.sub rfl rfl rfl (by omega)) ?_
    refine WL.rd rfl rfl rfl (Rd.assign rfl rfl) ?_
    refine WL.nil ?_
    -- next1_1
    exact loopQ2.mk ((k : Int) - 1) (m.set ((base.take (k + 16)).drop k) (k : Int)) ⟨by omega, by omega, fun w i h => by
    rw [GoMap.get_set] at h
    split at h
    · next hw => obtain rfl : (k : Int) = i := by simpa using h
                 exact ⟨k, rfl, by omega, hw⟩
    · exact i3 w i h⟩ (by omega) (by repeat (first | exact Sub.nil | refine Sub.cons rfl (by first | rfl | (congr 1; omega) | assumption) ?_)) (fun w h => OwnL.sat (by repeat (first | exact OwnL.refl | apply OwnL.take (by repeat (first | exact Take.head _ | apply Take.tail)) | apply OwnL.drop)) w (h.thin (SubL.mem (by repeat (first | exact SubL.refl | refine SubL.cons (by repeat (first | assumption | exact List.mem_cons_self | refine List.mem_cons_of_mem _ ?_)) ?_ | refine SubL.skip ?_)))))
  · skip
    refine WC.exit ?_
    refine thenQ.exit ?_
    refine loopQ2.exit ?_
    refine blockQ.exit ?_
    -- ret_1
    refine Ret.normal (Ret.zero Try.results18 ?_)
    exact hk m i3
set_option maxHeartbeats 2000000 in
theorem longest_spec {b at_ from_ done : Nat} {base target : List UInt8} {mv p v : Value} (hb : base.length ≤ 262208) (ht : target.length ≤ 262208) (hs : Same target base at_ from_ 16) (hd : done ≤ at_)
    (hk : ∀ a f n, done ≤ a → a ≤ at_ → at_ + 16 ≤ a + n → Same target base a f n → POST (.tuple #[.int .i64 (a : Int), .int .i64 (f : Int), .int .i64 (n : Int)]) R (mkr b base target mv p v done :: O)) :
    Fun Try.prog 19 #[pself b 0, .int .i64 (at_ : Int), .int .i64 (from_ : Int)] R (mkr b base target mv p v done :: O) POST := by
  have hs1 := hs.1
  have hs2 := hs.2.1
  refine Fun.enter (l := [_, _, _]) Try.func19 rfl Try.ntmps19 rfl (L0 := [(0, _), (1, _), (2, _)]) rfl ?_
  refine WC.seq ?_
  refine WC.region ?_
  refine WL.rd rfl rfl rfl (Rd.assign rfl rfl) ?_
  refine WL.rd rfl rfl rfl (Rd.assign rfl rfl) ?_
  refine WL.rd rfl rfl rfl (Rd.assign rfl rfl) ?_
  refine WL.nil ?_
  refine thenQ.normal ?_
  refine WC.seq ?_
  refine WC.region ?_
  refine WL.rd rfl rfl rfl (Rd.assign rfl rfl) ?_
  refine WL.nil ?_
  refine thenQ.normal ?_
  refine WC.cut (α := Nat) (fun n => [(0, pself b 0), (1, .int .i64 (at_ : Int)), (2, .int .i64 (from_ : Int)), (9, .int .i64 (n : Int))]) (fun _ => R) (fun _ => mkr b base target mv p v done :: O) (fun n => 16 ≤ n ∧ Same target base at_ from_ n) ?_ ?_
  · skip
    refine WC.block ?_
    refine WC.pick [9, 0, 1, 2] (by repeat (first | exact Pick.nil | apply Pick.cons rfl)) ?_
    refine WC.loop1o 1 (fun (n : Nat) => [(9, .int .i64 (n : Int))]) (fun (n : Nat) => 16 ≤ n ∧ Same target base at_ from_ n) (fun (n : Nat) => target.length - n) (16) (by repeat (first | exact Split.zero | apply Split.succ)) ?hinv1 (by repeat (first | exact Sub.nil | refine Sub.cons rfl (by first | rfl | (congr 1; omega) | assumption) ?_)) (fun _ h => h) ?_
    case hinv1 =>
      exact ⟨Nat.le_refl _, hs⟩
    intro n
    rintro ⟨i1, i2⟩
    
    have i3 := i2.1
    have i4 := i2.2.1
    refine WC.seq ?_
    refine WC.seq ?_
    refine WC.still mixed (by kernel_rfl) ?_
    refine WA.rd rfl rfl rfl (Rd.move rfl rfl) ?_
    refine WA.rd rfl rfl rfl (Rd.move rfl rfl) ?_
    refine WA.rd rfl rfl rfl (Rd.add rfl rfl rfl (by omega)) ?_
    refine WA.rd rfl rfl rfl (Rd.move rfl rfl) ?_
    refine WA.rd rfl rfl rfl (Rd.nilc rfl rfl) ?_
    refine WA.rd rfl rfl rfl ((by first | exact Rd.field rfl F45_1 rfl rfl | exact Rd.fieldE rfl F45_1 rfl (by repeat (first | assumption | exact List.mem_cons_self | refine List.mem_cons_of_mem _ ?_)) (by omega) | exact Rd.fieldA rfl F45_1 rfl (by repeat (first | assumption | exact List.mem_cons_self | refine List.mem_cons_of_mem _ ?_)) (by omega))) ?_
    refine WA.rd rfl rfl rfl (Rd.row1 (off := 1) (u := vs target) rfl C9 rfl List.mem_cons_self rfl) ?_
    refine WA.rd rfl rfl rfl (Rd.slen (ts := #[]) (ty := 0) rfl rfl Try.underlying9) ?_
    refine WA.rd rfl rfl rfl (Rd.lss rfl rfl rfl) ?_
    refine WA.rd rfl rfl rfl (Rd.move rfl rfl) ?_
    refine WA.case 19 rfl (fun hg19 => ?_) (fun hg19 => ?_)
    · skip
      refine WA.rd_yes rfl rfl rfl rfl rfl rfl (Rd.move rfl rfl) ?_
      refine WA.rd_yes rfl rfl rfl rfl rfl rfl (Rd.move rfl rfl) ?_
      refine WA.rd_yes rfl rfl rfl rfl rfl rfl (Rd.add rfl rfl rfl (by omega)) ?_
      refine WA.rd_yes rfl rfl rfl rfl rfl rfl (Rd.move rfl rfl) ?_
      refine WA.rd_yes rfl rfl rfl rfl rfl rfl (Rd.nilc rfl rfl) ?_
      refine WA.rd_yes rfl rfl rfl rfl rfl rfl ((by first | exact Rd.field rfl F45_0 rfl rfl | exact Rd.fieldE rfl F45_0 rfl (by repeat (first | assumption | exact List.mem_cons_self | refine List.mem_cons_of_mem _ ?_)) (by omega) | exact Rd.fieldA rfl F45_0 rfl (by repeat (first | assumption | exact List.mem_cons_self | refine List.mem_cons_of_mem _ ?_)) (by omega))) ?_
      refine WA.rd_yes rfl rfl rfl rfl rfl rfl (Rd.row1 (off := 0) (u := vs base) rfl C9 rfl List.mem_cons_self rfl) ?_
      refine WA.rd_yes rfl rfl rfl rfl rfl rfl (Rd.slen (ts := #[]) (ty := 0) rfl rfl Try.underlying9) ?_
      refine WA.rd_yes rfl rfl rfl rfl rfl rfl (Rd.lss rfl rfl rfl) ?_
      refine WA.rd rfl rfl rfl (Rd.pick_t rfl rfl rfl) ?_
      refine WA.rd rfl rfl rfl (Rd.move rfl rfl) ?_
      refine WA.case 30 rfl (fun hg30 => ?_) (fun hg30 => ?_)
      · skip
        refine WA.rd_yes rfl rfl rfl rfl rfl rfl (Rd.move rfl rfl) ?_
        refine WA.rd_yes rfl rfl rfl rfl rfl rfl (Rd.nilc rfl rfl) ?_
        refine WA.rd_yes rfl rfl rfl rfl rfl rfl ((by first | exact Rd.field rfl F45_1 rfl rfl | exact Rd.fieldE rfl F45_1 rfl (by repeat (first | assumption | exact List.mem_cons_self | refine List.mem_cons_of_mem _ ?_)) (by omega) | exact Rd.fieldA rfl F45_1 rfl (by repeat (first | assumption | exact List.mem_cons_self | refine List.mem_cons_of_mem _ ?_)) (by omega))) ?_
        refine WA.rd_yes rfl rfl rfl rfl rfl rfl (Rd.row1 (off := 1) (u := vs target) rfl C9 rfl List.mem_cons_self rfl) ?_
        refine WA.rd_yes rfl rfl rfl rfl rfl rfl (Rd.move rfl rfl) ?_
        refine WA.rd_yes rfl rfl rfl rfl rfl rfl (Rd.move rfl rfl) ?_
        refine WA.rd_yes rfl rfl rfl rfl rfl rfl (Rd.add rfl rfl rfl (by omega)) ?_
        refine WA.rd_yes rfl rfl rfl rfl rfl rfl (Rd.sidx (k := at_ + n) (b := target[at_ + n]!) rfl Try.underlying9 rfl rfl (by omega) (get!_of_lt (by omega))) ?_
        refine WA.rd_yes rfl rfl rfl rfl rfl rfl (Rd.move rfl rfl) ?_
        refine WA.rd_yes rfl rfl rfl rfl rfl rfl (Rd.nilc rfl rfl) ?_
        refine WA.rd_yes rfl rfl rfl rfl rfl rfl ((by first | exact Rd.field rfl F45_0 rfl rfl | exact Rd.fieldE rfl F45_0 rfl (by repeat (first | assumption | exact List.mem_cons_self | refine List.mem_cons_of_mem _ ?_)) (by omega) | exact Rd.fieldA rfl F45_0 rfl (by repeat (first | assumption | exact List.mem_cons_self | refine List.mem_cons_of_mem _ ?_)) (by omega))) ?_
        refine WA.rd_yes rfl rfl rfl rfl rfl rfl (Rd.row1 (off := 0) (u := vs base) rfl C9 rfl List.mem_cons_self rfl) ?_
        refine WA.rd_yes rfl rfl rfl rfl rfl rfl (Rd.move rfl rfl) ?_
        refine WA.rd_yes rfl rfl rfl rfl rfl rfl (Rd.move rfl rfl) ?_
        refine WA.rd_yes rfl rfl rfl rfl rfl rfl (Rd.add rfl rfl rfl (by omega)) ?_
        refine WA.rd_yes rfl rfl rfl rfl rfl rfl (Rd.sidx (k := from_ + n) (b := base[from_ + n]!) rfl Try.underlying9 rfl rfl (by omega) (get!_of_lt (by omega))) ?_
        refine WA.rd_yes rfl rfl rfl rfl rfl rfl (Rd.eql rfl rfl rfl) ?_
        refine WA.rd rfl rfl rfl (Rd.pick_t rfl rfl rfl) ?_
        refine WA.nil ?_
        refine thenQ.normal ?_
        first | refine WC.ite rfl (fun hc1 => ?_) (fun hc1 => ?_) | refine WC.cond rfl (fun hc1 => ?_) (fun hc1 => ?_)
        · skip
          refine WC.skip ?_
          refine thenQ.normal ?_
          refine WC.block ?_
          refine WC.region ?_
          refine WL.rd rfl rfl rfl (Rd.move rfl rfl) ?_
          refine WL.rd rfl rfl rfl (Rd.add rfl rfl rfl (by omega)) ?_
          refine WL.rd rfl rfl rfl (Rd.assign rfl rfl) ?_
          refine WL.nil ?_
          refine blockQ.normal ?_
          -- next1_1
          exact loopQ1.mk (n + 1) ⟨by omega, i2.next (by omega) (by omega) (u8_inj hc1)⟩ (by omega) (by repeat (first | exact Sub.nil | refine Sub.cons rfl (by first | rfl | (congr 1; omega) | assumption) ?_)) (fun w h => OwnL.sat (by repeat (first | exact OwnL.refl | apply OwnL.take (by repeat (first | exact Take.head _ | apply Take.tail)) | apply OwnL.drop)) w (h.thin (SubL.mem (by repeat (first | exact SubL.refl | refine SubL.cons (by repeat (first | assumption | exact List.mem_cons_self | refine List.mem_cons_of_mem _ ?_)) ?_ | refine SubL.skip ?_)))))
        · skip
          refine WC.exit ?_
          refine thenQ.exit ?_
          refine loopQ1.exit ?_
          refine blockQ.exit ?_
          -- kut_l1 1
          exact ⟨n, ⟨i1, i2⟩, (by repeat (first | exact Sub.nil | refine Sub.cons rfl (by first | rfl | (congr 1; omega) | assumption) ?_)), (fun w h => OwnL.sat (by repeat (first | exact OwnL.refl | apply OwnL.take (by repeat (first | exact Take.head _ | apply Take.tail)) | apply OwnL.drop)) w (h.thin (SubL.mem (by repeat (first | exact SubL.refl | refine SubL.cons (by repeat (first | assumption | exact List.mem_cons_self | refine List.mem_cons_of_mem _ ?_)) ?_ | refine SubL.skip ?_)))))⟩
      · skip
        refine WA.no rfl rfl rfl rfl rfl rfl ?_
        refine WA.no rfl rfl rfl rfl rfl rfl ?_
        refine WA.no rfl rfl rfl rfl rfl rfl ?_
        refine WA.no rfl rfl rfl rfl rfl rfl ?_
        refine WA.no rfl rfl rfl rfl rfl rfl ?_
        refine WA.no rfl rfl rfl rfl rfl rfl ?_
        refine WA.no rfl rfl rfl rfl rfl rfl ?_
        refine WA.no rfl rfl rfl rfl rfl rfl ?_
        refine WA.no rfl rfl rfl rfl rfl rfl ?_
        refine WA.no rfl rfl rfl rfl rfl rfl ?_
        refine WA.no rfl rfl rfl rfl rfl rfl ?_
        refine WA.no rfl rfl rfl rfl rfl rfl ?_
        refine WA.no rfl rfl rfl rfl rfl rfl ?_
        refine WA.no rfl rfl rfl rfl rfl rfl ?_
        refine WA.no rfl rfl rfl rfl rfl rfl ?_
        refine WA.no rfl rfl rfl rfl rfl rfl ?_
        refine WA.no rfl rfl rfl rfl rfl rfl ?_
        refine WA.rd rfl rfl rfl (Rd.pick_f rfl rfl rfl) ?_
        refine WA.nil ?_
        refine thenQ.normal ?_
        refine WC.no rfl ?_
        refine WC.exit ?_
        refine thenQ.exit ?_
        refine loopQ1.exit ?_
        refine blockQ.exit ?_
        -- kut_l1 2
        exact ⟨n, ⟨i1, i2⟩, (by repeat (first | exact Sub.nil | refine Sub.cons rfl (by first | rfl | (congr 1; omega) | assumption) ?_)), (fun w h => OwnL.sat (by repeat (first | exact OwnL.refl | apply OwnL.take (by repeat (first | exact Take.head _ | apply Take.tail)) | apply OwnL.drop)) w (h.thin (SubL.mem (by repeat (first | exact SubL.refl | refine SubL.cons (by repeat (first | assumption | exact List.mem_cons_self | refine List.mem_cons_of_mem _ ?_)) ?_ | refine SubL.skip ?_)))))⟩
    · skip
      refine WA.no rfl rfl rfl rfl rfl rfl ?_
      refine WA.no rfl rfl rfl rfl rfl rfl ?_
      refine WA.no rfl rfl rfl rfl rfl rfl ?_
      refine WA.no rfl rfl rfl rfl rfl rfl ?_
      refine WA.no rfl rfl rfl rfl rfl rfl ?_
      refine WA.no rfl rfl rfl rfl rfl rfl ?_
      refine WA.no rfl rfl rfl rfl rfl rfl ?_
      refine WA.no rfl rfl rfl rfl rfl rfl ?_
      refine WA.no rfl rfl rfl rfl rfl rfl ?_
      refine WA.rd rfl rfl rfl (Rd.pick_f rfl rfl rfl) ?_
      refine WA.rd rfl rfl rfl (Rd.move rfl rfl) ?_
      refine WA.no rfl rfl rfl rfl rfl rfl ?_
      refine WA.no rfl rfl rfl rfl rfl rfl ?_
      refine WA.no rfl rfl rfl rfl rfl rfl ?_
      refine WA.no rfl rfl rfl rfl rfl rfl ?_
      refine WA.no rfl rfl rfl rfl rfl rfl ?_
      refine WA.no rfl rfl rfl rfl rfl rfl ?_
      refine WA.no rfl rfl rfl rfl rfl rfl ?_
      refine WA.no rfl rfl rfl rfl rfl rfl ?_
      refine WA.no rfl rfl rfl rfl rfl rfl ?_
      refine WA.no rfl rfl rfl rfl rfl rfl ?_
      refine WA.no rfl rfl rfl rfl rfl rfl ?_
      refine WA.no rfl rfl rfl rfl rfl rfl ?_
      refine WA.no rfl rfl rfl rfl rfl rfl ?_
      refine WA.no rfl rfl rfl rfl rfl rfl ?_
      refine WA.no rfl rfl rfl rfl rfl rfl ?_
      refine WA.no rfl rfl rfl rfl rfl rfl ?_
      refine WA.no rfl rfl rfl rfl rfl rfl ?_
      refine WA.rd rfl rfl rfl (Rd.pick_f rfl rfl rfl) ?_
      refine WA.nil ?_
      refine thenQ.normal ?_
      refine WC.no rfl ?_
      refine WC.exit ?_
      refine thenQ.exit ?_
      refine loopQ1.exit ?_
      refine blockQ.exit ?_
      -- kut_l1 3
      exact ⟨n, ⟨i1, i2⟩, (by repeat (first | exact Sub.nil | refine Sub.cons rfl (by first | rfl | (congr 1; omega) | assumption) ?_)), (fun w h => OwnL.sat (by repeat (first | exact OwnL.refl | apply OwnL.take (by repeat (first | exact Take.head _ | apply Take.tail)) | apply OwnL.drop)) w (h.thin (SubL.mem (by repeat (first | exact SubL.refl | refine SubL.cons (by repeat (first | assumption | exact List.mem_cons_self | refine List.mem_cons_of_mem _ ?_)) ?_ | refine SubL.skip ?_)))))⟩
  · skip
    rintro n0 ⟨i1, i2⟩
    refine WC.seq ?_
    refine WC.block ?_
    refine WC.pick [1, 2, 9, 0] (by repeat (first | exact Pick.nil | apply Pick.cons rfl)) ?_
    refine WC.loop3o 3 (fun (a : Nat) (f : Nat) (n : Nat) => [(1, .int .i64 (a : Int)), (2, .int .i64 (f : Int)), (9, .int .i64 (n : Int))]) (fun (a : Nat) (f : Nat) (n : Nat) => done ≤ a ∧ a ≤ at_ ∧ at_ + 16 ≤ a + n ∧ Same target base a f n) (fun (a : Nat) (f : Nat) (n : Nat) => a) (at_) (from_) (n0) (by repeat (first | exact Split.zero | apply Split.succ)) ?hinv2 (by repeat (first | exact Sub.nil | refine Sub.cons rfl (by first | rfl | (congr 1; omega) | assumption) ?_)) (fun _ h => h) ?_
    case hinv2 =>
      exact ⟨hd, Nat.le_refl _, by omega, i2⟩
    intro a f n
    rintro ⟨j1, j2, j3, j4⟩
    
    have j5 := j4.1
    have j6 := j4.2.1
    refine WC.seq ?_
    refine WC.seq ?_
    refine WC.still mixed (by kernel_rfl) ?_
    refine WA.rd rfl rfl rfl (Rd.move rfl rfl) ?_
    refine WA.rd rfl rfl rfl (Rd.move rfl rfl) ?_
    refine WA.rd rfl rfl rfl (Rd.nilc rfl rfl) ?_
    refine WA.rd rfl rfl rfl ((by first | exact Rd.field rfl F45_4 rfl rfl | exact Rd.fieldE rfl F45_4 rfl (by repeat (first | assumption | exact List.mem_cons_self | refine List.mem_cons_of_mem _ ?_)) (by omega) | exact Rd.fieldA rfl F45_4 rfl (by repeat (first | assumption | exact List.mem_cons_self | refine List.mem_cons_of_mem _ ?_)) (by omega))) ?_
    refine WA.rd rfl rfl rfl (Rd.row1 (off := 5) (u := .int .i64 (done : Int)) rfl C3 rfl List.mem_cons_self rfl) ?_
    refine WA.rd rfl rfl rfl (Rd.gtr rfl rfl rfl) ?_
    refine WA.rd rfl rfl rfl (Rd.move rfl rfl) ?_
    refine WA.case 57 rfl (fun hg57 => ?_) (fun hg57 => ?_)
    · skip
      refine WA.rd_yes rfl rfl rfl rfl rfl rfl (Rd.move rfl rfl) ?_
      refine WA.rd_yes rfl rfl rfl rfl rfl rfl (Rd.gtr rfl rfl rfl) ?_
      refine WA.rd rfl rfl rfl (Rd.pick_t rfl rfl rfl) ?_
      refine WA.rd rfl rfl rfl (Rd.move rfl rfl) ?_
      refine WA.case 61 rfl (fun hg61 => ?_) (fun hg61 => ?_)
      · skip
        refine WA.rd_yes rfl rfl rfl rfl rfl rfl (Rd.move rfl rfl) ?_
        refine WA.rd_yes rfl rfl rfl rfl rfl rfl (Rd.nilc rfl rfl) ?_
        refine WA.rd_yes rfl rfl rfl rfl rfl rfl ((by first | exact Rd.field rfl F45_1 rfl rfl | exact Rd.fieldE rfl F45_1 rfl (by repeat (first | assumption | exact List.mem_cons_self | refine List.mem_cons_of_mem _ ?_)) (by omega) | exact Rd.fieldA rfl F45_1 rfl (by repeat (first | assumption | exact List.mem_cons_self | refine List.mem_cons_of_mem _ ?_)) (by omega))) ?_
        refine WA.rd_yes rfl rfl rfl rfl rfl rfl (Rd.row1 (off := 1) (u := vs target) rfl C9 rfl List.mem_cons_self rfl) ?_
        refine WA.rd_yes rfl rfl rfl rfl rfl rfl (Rd.move rfl rfl) ?_
        refine WA.rd_yes rfl rfl rfl rfl rfl rfl (Rd.sub rfl rfl rfl (by omega)) ?_
        refine WA.rd_yes rfl rfl rfl rfl rfl rfl (Rd.sidx (k := a - 1) (b := target[a - 1]!) rfl Try.underlying9 rfl rfl (by omega) (get!_of_lt (by omega))) ?_
        refine WA.rd_yes rfl rfl rfl rfl rfl rfl (Rd.move rfl rfl) ?_
        refine WA.rd_yes rfl rfl rfl rfl rfl rfl (Rd.nilc rfl rfl) ?_
        refine WA.rd_yes rfl rfl rfl rfl rfl rfl ((by first | exact Rd.field rfl F45_0 rfl rfl | exact Rd.fieldE rfl F45_0 rfl (by repeat (first | assumption | exact List.mem_cons_self | refine List.mem_cons_of_mem _ ?_)) (by omega) | exact Rd.fieldA rfl F45_0 rfl (by repeat (first | assumption | exact List.mem_cons_self | refine List.mem_cons_of_mem _ ?_)) (by omega))) ?_
        refine WA.rd_yes rfl rfl rfl rfl rfl rfl (Rd.row1 (off := 0) (u := vs base) rfl C9 rfl List.mem_cons_self rfl) ?_
        refine WA.rd_yes rfl rfl rfl rfl rfl rfl (Rd.move rfl rfl) ?_
        refine WA.rd_yes rfl rfl rfl rfl rfl rfl (Rd.sub rfl rfl rfl (by omega)) ?_
        refine WA.rd_yes rfl rfl rfl rfl rfl rfl (Rd.sidx (k := f - 1) (b := base[f - 1]!) rfl Try.underlying9 rfl rfl (by omega) (get!_of_lt (by omega))) ?_
        refine WA.rd_yes rfl rfl rfl rfl rfl rfl (Rd.eql rfl rfl rfl) ?_
        refine WA.rd rfl rfl rfl (Rd.pick_t rfl rfl rfl) ?_
        refine WA.nil ?_
        refine thenQ.normal ?_
        first | refine WC.ite rfl (fun hc2 => ?_) (fun hc2 => ?_) | refine WC.cond rfl (fun hc2 => ?_) (fun hc2 => ?_)
        · skip
          refine WC.skip ?_
          refine thenQ.normal ?_
          refine WC.block ?_
          refine WC.region ?_
          refine WL.rd rfl rfl rfl (Rd.move rfl rfl) ?_
          refine WL.rd rfl rfl rfl (Rd.sub rfl rfl rfl (by omega)) ?_
          refine WL.rd rfl rfl rfl (Rd.move rfl rfl) ?_
          refine WL.rd rfl rfl rfl (Rd.sub rfl rfl rfl (by omega)) ?_
          refine WL.rd rfl rfl rfl (Rd.move rfl rfl) ?_
          refine WL.rd rfl rfl rfl (Rd.add rfl rfl rfl (by omega)) ?_
          refine WL.rd rfl rfl rfl (Rd.assign rfl rfl) ?_
          refine WL.rd rfl rfl rfl (Rd.assign rfl rfl) ?_
          refine WL.rd rfl rfl rfl (Rd.assign rfl rfl) ?_
          refine WL.nil ?_
          refine blockQ.normal ?_
          -- next2_1
          obtain ⟨a', rfl⟩ : ∃ a', a = a' + 1 := ⟨a - 1, by omega⟩
          obtain ⟨f', rfl⟩ : ∃ f', f = f' + 1 := ⟨f - 1, by omega⟩
          exact loopQ3.mk a' f' (n + 1) ⟨by omega, by omega, by omega, j4.prev (u8_inj hc2)⟩ (by omega) (by repeat (first | exact Sub.nil | refine Sub.cons rfl (by first | rfl | (congr 1; omega) | assumption) ?_)) (fun w h => OwnL.sat (by repeat (first | exact OwnL.refl | apply OwnL.take (by repeat (first | exact Take.head _ | apply Take.tail)) | apply OwnL.drop)) w (h.thin (SubL.mem (by repeat (first | exact SubL.refl | refine SubL.cons (by repeat (first | assumption | exact List.mem_cons_self | refine List.mem_cons_of_mem _ ?_)) ?_ | refine SubL.skip ?_)))))
        · skip
          refine WC.exit ?_
          refine thenQ.exit ?_
          refine loopQ3.exit ?_
          refine blockQ.exit ?_
          refine thenQ.normal ?_
          refine WC.seq ?_
          refine WC.region ?_
          refine WL.rd rfl rfl rfl (Rd.move rfl rfl) ?_
          refine WL.rd rfl rfl rfl (Rd.move rfl rfl) ?_
          refine WL.rd rfl rfl rfl (Rd.move rfl rfl) ?_
          refine WL.rd rfl rfl rfl (Rd.assign rfl rfl) ?_
          refine WL.rd rfl rfl rfl (Rd.assign rfl rfl) ?_
          refine WL.rd rfl rfl rfl (Rd.assign rfl rfl) ?_
          refine WL.nil ?_
          refine thenQ.normal ?_
          -- ret_1
          refine WC.ret (Ret.three Try.results19 rfl rfl rfl ?_)
          exact hk a f n j1 j2 j3 j4
      · skip
        refine WA.no rfl rfl rfl rfl rfl rfl ?_
        refine WA.no rfl rfl rfl rfl rfl rfl ?_
        refine WA.no rfl rfl rfl rfl rfl rfl ?_
        refine WA.no rfl rfl rfl rfl rfl rfl ?_
        refine WA.no rfl rfl rfl rfl rfl rfl ?_
        refine WA.no rfl rfl rfl rfl rfl rfl ?_
        refine WA.no rfl rfl rfl rfl rfl rfl ?_
        refine WA.no rfl rfl rfl rfl rfl rfl ?_
        refine WA.no rfl rfl rfl rfl rfl rfl ?_
        refine WA.no rfl rfl rfl rfl rfl rfl ?_
        refine WA.no rfl rfl rfl rfl rfl rfl ?_
        refine WA.no rfl rfl rfl rfl rfl rfl ?_
        refine WA.no rfl rfl rfl rfl rfl rfl ?_
        refine WA.no rfl rfl rfl rfl rfl rfl ?_
        refine WA.no rfl rfl rfl rfl rfl rfl ?_
        refine WA.rd rfl rfl rfl (Rd.pick_f rfl rfl rfl) ?_
        refine WA.nil ?_
        refine thenQ.normal ?_
        refine WC.no rfl ?_
        refine WC.exit ?_
        refine thenQ.exit ?_
        refine loopQ3.exit ?_
        refine blockQ.exit ?_
        refine thenQ.normal ?_
        refine WC.seq ?_
        refine WC.region ?_
        refine WL.rd rfl rfl rfl (Rd.move rfl rfl) ?_
        refine WL.rd rfl rfl rfl (Rd.move rfl rfl) ?_
        refine WL.rd rfl rfl rfl (Rd.move rfl rfl) ?_
        refine WL.rd rfl rfl rfl (Rd.assign rfl rfl) ?_
        refine WL.rd rfl rfl rfl (Rd.assign rfl rfl) ?_
        refine WL.rd rfl rfl rfl (Rd.assign rfl rfl) ?_
        refine WL.nil ?_
        refine thenQ.normal ?_
        -- ret_2
        refine WC.ret (Ret.three Try.results19 rfl rfl rfl ?_)
        exact hk a f n j1 j2 j3 j4
    · skip
      refine WA.no rfl rfl rfl rfl rfl rfl ?_
      refine WA.no rfl rfl rfl rfl rfl rfl ?_
      refine WA.rd rfl rfl rfl (Rd.pick_f rfl rfl rfl) ?_
      refine WA.rd rfl rfl rfl (Rd.move rfl rfl) ?_
      refine WA.no rfl rfl rfl rfl rfl rfl ?_
      refine WA.no rfl rfl rfl rfl rfl rfl ?_
      refine WA.no rfl rfl rfl rfl rfl rfl ?_
      refine WA.no rfl rfl rfl rfl rfl rfl ?_
      refine WA.no rfl rfl rfl rfl rfl rfl ?_
      refine WA.no rfl rfl rfl rfl rfl rfl ?_
      refine WA.no rfl rfl rfl rfl rfl rfl ?_
      refine WA.no rfl rfl rfl rfl rfl rfl ?_
      refine WA.no rfl rfl rfl rfl rfl rfl ?_
      refine WA.no rfl rfl rfl rfl rfl rfl ?_
      refine WA.no rfl rfl rfl rfl rfl rfl ?_
      refine WA.no rfl rfl rfl rfl rfl rfl ?_
      refine WA.no rfl rfl rfl rfl rfl rfl ?_
      refine WA.no rfl rfl rfl rfl rfl rfl ?_
      refine WA.no rfl rfl rfl rfl rfl rfl ?_
      refine WA.rd rfl rfl rfl (Rd.pick_f rfl rfl rfl) ?_
      refine WA.nil ?_
      refine thenQ.normal ?_
      refine WC.no rfl ?_
      refine WC.exit ?_
      refine thenQ.exit ?_
      refine loopQ3.exit ?_
      refine blockQ.exit ?_
      refine thenQ.normal ?_
      refine WC.seq ?_
      refine WC.region ?_
      refine WL.rd rfl rfl rfl (Rd.move rfl rfl) ?_
      refine WL.rd rfl rfl rfl (Rd.move rfl rfl) ?_
      refine WL.rd rfl rfl rfl (Rd.move rfl rfl) ?_
      refine WL.rd rfl rfl rfl (Rd.assign rfl rfl) ?_
      refine WL.rd rfl rfl rfl (Rd.assign rfl rfl) ?_
      refine WL.rd rfl rfl rfl (Rd.assign rfl rfl) ?_
      refine WL.nil ?_
      refine thenQ.normal ?_
      -- ret_3
      refine WC.ret (Ret.three Try.results19 rfl rfl rfl ?_)
      exact hk a f n j1 j2 j3 j4
end
end Go.Proofs.Ytnpnjebogmfdkaa
