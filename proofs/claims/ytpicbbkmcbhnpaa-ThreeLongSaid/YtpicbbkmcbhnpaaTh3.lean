/-
  Layer 21: what stays of a list (pick).
-/
import Derived.Test.YtpicbbkmcbhnpaaTh2
import Derived.Test.YtpicbbkmcbhnpaaAcc
namespace Go.Proofs.Ytpicbbkmcbhnpaa
open Go Go.SL

/-- The three maps that are asked. -/
structure Asks (b1 b2 b3 : Nat) (us them was : List (List UInt8)) (O : List Own) : Prop where
  a : ∃ c m, SetOf m us ∧ rowC b1 45 [.map (some c)] ∈ O ∧ mapC vs vbl c m ∈ O
  b : ∃ c m, SetOf m them ∧ rowC b2 45 [.map (some c)] ∈ O ∧ mapC vs vbl c m ∈ O
  c : ∃ c m, SetOf m was ∧ rowC b3 45 [.map (some c)] ∈ O ∧ mapC vs vbl c m ∈ O
theorem Asks.mono {b1 b2 b3 : Nat} {us them was : List (List UInt8)} {O O' : List Own} (h : Asks b1 b2 b3 us them was O) (hs : ∀ c ∈ O, c ∈ O') : Asks b1 b2 b3 us them was O' := by
  obtain ⟨⟨c1, m1, h1, h2, h3⟩, ⟨c4, m4, h4, h5, h6⟩, ⟨c7, m7, h7, h8, h9⟩⟩ := h
  exact ⟨⟨c1, m1, h1, hs _ h2, hs _ h3⟩, ⟨c4, m4, h4, hs _ h5, hs _ h6⟩, ⟨c7, m7, h7, hs _ h8, hs _ h9⟩⟩
def staysB (us them was : List (List UInt8)) (s : List UInt8) : Bool := decide ((s ∈ us ∧ s ∈ them) ∨ s ∉ was)
theorem stays_spec {R : List RO} {O : List Own} {POST : Value → List RO → List Own → Prop} {us them was : List (List UInt8)} {s : List UInt8} {b1 b2 b3 : Nat} (h : Asks b1 b2 b3 us them was O)
    (hk : POST (.bool (staysB us them was s)) R O) : Fun Try.prog 20 #[vs s, .pointer (some ⟨b1, 0, none⟩), .pointer (some ⟨b2, 0, none⟩), .pointer (some ⟨b3, 0, none⟩)] R O POST := by
  obtain ⟨⟨c1, m1, h1, h2, h3⟩, ⟨c4, m4, h4, h5, h6⟩, ⟨c7, m7, h7, h8, h9⟩⟩ := h
  refine Fun.enter (l := [_, _, _, _]) Try.func20 rfl Try.ntmps20 rfl (L0 := [(0, _), (1, _), (2, _), (3, _)]) rfl ?_
  refine WC.seq ?_
  refine WC.region ?_
  refine WL.rd rfl rfl rfl (Rd.assign rfl rfl) ?_
  refine WL.nil ?_
  refine thenQ.normal ?_
  refine WC.seq ?_
  refine WC.region ?_
  refine WL.rd rfl rfl rfl (Rd.row1 rfl C45 rfl h2 rfl) ?_
  refine WL.rd rfl rfl rfl (Rd.move rfl rfl) ?_
  refine WL.rd rfl rfl rfl (Rd.lookup M45 K9 rfl rfl rfl h3 rfl) ?_
  refine WL.say 8 (u := .bool (decide (s ∈ us))) rfl (h1.look s) ?_
  refine WL.rd rfl rfl rfl (Rd.move rfl rfl) ?_
  refine WL.case 9 rfl (fun hg9 => ?_) (fun hg9 => ?_)
  · skip
    refine WL.rd_yes rfl rfl rfl rfl rfl rfl (Rd.row1 rfl C45 rfl h5 rfl) ?_
    refine WL.rd_yes rfl rfl rfl rfl rfl rfl (Rd.move rfl rfl) ?_
    refine WL.rd_yes rfl rfl rfl rfl rfl rfl (Rd.lookup M45 K9 rfl rfl rfl h6 rfl) ?_
    refine WL.say 12 (u := .bool (decide (s ∈ them))) rfl (h4.look s) ?_
    refine WL.rd rfl rfl rfl (Rd.pick_t rfl rfl rfl) ?_
    refine WL.rd rfl rfl rfl (Rd.move rfl rfl) ?_
    refine WL.case 14 rfl (fun hg14 => ?_) (fun hg14 => ?_)
    · skip
      refine WL.no rfl rfl rfl rfl rfl rfl ?_
      refine WL.no rfl rfl rfl rfl rfl rfl ?_
      refine WL.no rfl rfl rfl rfl rfl rfl ?_
      refine WL.no rfl rfl rfl rfl rfl rfl ?_
      refine WL.rd rfl rfl rfl (Rd.pick_t rfl rfl rfl) ?_
      refine WL.rd rfl rfl rfl (Rd.assign rfl rfl) ?_
      refine WL.nil ?_
      refine thenQ.normal ?_
      -- ret_1
      refine WC.ret (Ret.one Try.results20 rfl ?_)
      simpa [staysB, *] using hk
    · skip
      refine WL.rd_yes rfl rfl rfl rfl rfl rfl (Rd.row1 rfl C45 rfl h8 rfl) ?_
      refine WL.rd_yes rfl rfl rfl rfl rfl rfl (Rd.move rfl rfl) ?_
      refine WL.rd_yes rfl rfl rfl rfl rfl rfl (Rd.lookup M45 K9 rfl rfl rfl h9 rfl) ?_
      refine WL.say 17 (u := .bool (decide (s ∈ was))) rfl (h7.look s) ?_
      refine WL.rd_yes rfl rfl rfl rfl rfl rfl ((by first | exact Rd.notd rfl rfl | exact Rd.not rfl rfl)) ?_
      refine WL.rd rfl rfl rfl (Rd.pick_f rfl rfl rfl) ?_
      refine WL.rd rfl rfl rfl (Rd.assign rfl rfl) ?_
      refine WL.nil ?_
      refine thenQ.normal ?_
      -- ret_2
      refine WC.ret (Ret.one Try.results20 rfl ?_)
      simpa [staysB, *] using hk
  · skip
    refine WL.no rfl rfl rfl rfl rfl rfl ?_
    refine WL.no rfl rfl rfl rfl rfl rfl ?_
    refine WL.no rfl rfl rfl rfl rfl rfl ?_
    refine WL.rd rfl rfl rfl (Rd.pick_f rfl rfl rfl) ?_
    refine WL.rd rfl rfl rfl (Rd.move rfl rfl) ?_
    refine WL.rd_yes rfl rfl rfl rfl rfl rfl (Rd.row1 rfl C45 rfl h8 rfl) ?_
    refine WL.rd_yes rfl rfl rfl rfl rfl rfl (Rd.move rfl rfl) ?_
    refine WL.rd_yes rfl rfl rfl rfl rfl rfl (Rd.lookup M45 K9 rfl rfl rfl h9 rfl) ?_
    refine WL.say 17 (u := .bool (decide (s ∈ was))) rfl (h7.look s) ?_
    refine WL.rd_yes rfl rfl rfl rfl rfl rfl ((by first | exact Rd.notd rfl rfl | exact Rd.not rfl rfl)) ?_
    refine WL.rd rfl rfl rfl (Rd.pick_f rfl rfl rfl) ?_
    refine WL.rd rfl rfl rfl (Rd.assign rfl rfl) ?_
    refine WL.nil ?_
    refine thenQ.normal ?_
    -- ret_3
    refine WC.ret (Ret.one Try.results20 rfl ?_)
    simpa [staysB, *] using hk
theorem pick1_spec {R : List RO} {O : List Own} {POST : Value → List RO → List Own → Prop} {us them was : List (List UInt8)} {s : List UInt8} {bf b1 b2 b3 : Nat} (h : Asks b1 b2 b3 us them was O)
    (hf : rowC bf 50 [.func (.func 20) #[] #[.pointer (some ⟨b1, 0, none⟩), .pointer (some ⟨b2, 0, none⟩), .pointer (some ⟨b3, 0, none⟩)]] ∈ O)
    (hk : POST (.bool (!staysB us them was s)) R O) : Fun Try.prog 34 #[vs s, .pointer (some ⟨bf, 0, none⟩)] R O POST := by
  refine Fun.enter (l := [_, _]) Try.func34 rfl Try.ntmps34 rfl (L0 := [(0, _), (1, _)]) rfl ?_
  refine WC.seq ?_
  refine WC.region ?_
  refine WL.rd rfl rfl rfl (Rd.assign rfl rfl) ?_
  refine WL.nil ?_
  refine thenQ.normal ?_
  refine WC.seq ?_
  refine WC.region ?_
  refine WL.rd rfl rfl rfl (Rd.row1 rfl C50 rfl hf rfl) ?_
  refine WL.rd rfl rfl rfl (Rd.move rfl rfl) ?_
  refine WL.op rfl ?_
  refine OpW.call rfl rfl (by repeat (first | exact Evs.nil | apply Evs.cons rfl)) (by kernel_rfl) rfl rfl rfl ?_
  refine stays_spec h ?_
  refine WL.rd rfl rfl rfl ((by first | exact Rd.notd rfl rfl | exact Rd.not rfl rfl)) ?_
  refine WL.rd rfl rfl rfl (Rd.assign rfl rfl) ?_
  refine WL.nil ?_
  refine thenQ.normal ?_
  -- ret_1
  refine WC.ret (Ret.one Try.results34 rfl ?_)
  rw [staysB, ← decide_not] at hk
  exact hk
theorem find_spec {R : List RO} {O : List Own} {POST : Value → List RO → List Own → Prop} {us them was xs : List (List UInt8)} {v : Value} {bf b1 b2 b3 : Nat} (h : Asks b1 b2 b3 us them was O)
    (hf : rowC bf 50 [.func (.func 20) #[] #[.pointer (some ⟨b1, 0, none⟩), .pointer (some ⟨b2, 0, none⟩), .pointer (some ⟨b3, 0, none⟩)]] ∈ O)
    (hx : accC 9 1 (one vs) v xs ∈ O) (hl : xs.length ≤ 4294967296)
    (hk1 : ∀ i : Nat, i < xs.length → (∀ j, j < i → staysB us them was xs[j]! = true) → staysB us them was xs[i]! = false → POST (.int .i64 i) R O)
    (hk2 : (∀ j, j < xs.length → staysB us them was xs[j]! = true) → POST (.int .i64 (-1)) R O) : Fun Try.prog 40 #[v, .func (.func 34) #[] #[.pointer (some ⟨bf, 0, none⟩)]] R O POST := by
  refine Fun.enter (l := [_, _]) Try.func40 rfl Try.ntmps40 rfl (L0 := [(0, _), (1, _)]) rfl ?_
  refine WC.seq ?_
  refine WC.region ?_
  refine WL.rd rfl rfl rfl (Rd.assign rfl rfl) ?_
  refine WL.nil ?_
  refine thenQ.normal ?_
  refine WC.seq ?_
  refine WC.seq ?_
  refine WC.region ?_
  refine WL.rd rfl rfl rfl (Rd.move rfl rfl) ?_
  refine WL.rd rfl rfl rfl (Rd.lenA rfl rfl Try.underlying22 hx) ?_
  refine WL.rd rfl rfl rfl (Rd.move rfl rfl) ?_
  refine WL.nil ?_
  refine thenQ.normal ?_
  refine WC.block ?_
  refine WC.pick [8, 0, 1, 7] (by repeat (first | exact Pick.nil | apply Pick.cons rfl)) ?_
  refine WC.loop1o 1 (fun (i : Nat) => [(8, .int .i64 (i : Int))]) (fun (i : Nat) => i ≤ xs.length ∧ ∀ j, j < i → staysB us them was xs[j]! = true) (fun (i : Nat) => xs.length - i) (0) (by repeat (first | exact Split.zero | apply Split.succ)) ?hinv1 (by repeat (first | exact Sub.nil | refine Sub.cons rfl (by first | rfl | (congr 1; omega) | assumption) ?_)) (fun _ h => h) ?_
  case hinv1 =>
    exact ⟨Nat.zero_le _, fun j hj => absurd hj (Nat.not_lt_zero _)⟩
  intro i
  rintro ⟨i1, i2⟩
  refine WC.seq ?_
  refine WC.region ?_
  refine WL.rd rfl rfl rfl (Rd.lss rfl rfl rfl) ?_
  refine WL.nil ?_
  refine thenQ.normal ?_
  refine WC.seq ?_
  first | refine WC.ite rfl (fun hc1 => ?_) (fun hc1 => ?_) | refine WC.cond rfl (fun hc1 => ?_) (fun hc1 => ?_)
  · skip
    refine WC.skip ?_
    refine thenQ.normal ?_
    refine WC.seq ?_
    refine WC.block ?_
    refine WC.seq ?_
    refine WC.region ?_
    refine WL.rd rfl rfl rfl (Rd.move rfl rfl) ?_
    refine WL.rd rfl rfl rfl (Rd.assign rfl rfl) ?_
    refine WL.nil ?_
    refine thenQ.normal ?_
    refine WC.seq ?_
    refine WC.region ?_
    refine WL.rd rfl rfl rfl (Rd.move rfl rfl) ?_
    refine WL.rd rfl rfl rfl (Rd.move rfl rfl) ?_
    refine WL.rd rfl rfl rfl (Rd.move rfl rfl) ?_
    refine WL.rd rfl rfl rfl (Rd.idxA1 (k := i) rfl S22 rfl rfl rfl hx (by omega)) ?_
    refine WL.rd rfl rfl rfl (Rd.getA (k := i) rfl C9 rfl hx (get!_of_lt (by omega))) ?_
    refine WL.op rfl ?_
    refine OpW.call rfl rfl (by repeat (first | exact Evs.nil | apply Evs.cons rfl)) (by kernel_rfl) rfl rfl rfl ?_
    refine pick1_spec h hf ?_
    refine WL.nil ?_
    refine thenQ.normal ?_
    first | refine WC.ite rfl (fun hc2 => ?_) (fun hc2 => ?_) | refine WC.cond rfl (fun hc2 => ?_) (fun hc2 => ?_)
    · skip
      refine WC.seq ?_
      refine WC.region ?_
      refine WL.rd rfl rfl rfl (Rd.move rfl rfl) ?_
      refine WL.rd rfl rfl rfl (Rd.assign rfl rfl) ?_
      refine WL.nil ?_
      refine thenQ.normal ?_
      -- ret_1
      refine WC.ret (Ret.one Try.results40 rfl ?_)
      exact hk1 i (by omega) i2 (by simpa using hc2)
    · skip
      refine WC.skip ?_
      refine blockQ.normal ?_
      refine thenQ.normal ?_
      refine WC.region ?_
      refine WL.rd rfl rfl rfl (Rd.add rfl rfl rfl (by omega)) ?_
      refine WL.rd rfl rfl rfl (Rd.move rfl rfl) ?_
      refine WL.nil ?_
      -- next1_1
      exact loopQ1.mk (i + 1) ⟨by omega, fun j hj => by
      rcases Nat.lt_or_ge j i with h | h
      · exact i2 j h
      · obtain rfl : j = i := by omega
        simpa using hc2⟩ (by omega) (by repeat (first | exact Sub.nil | refine Sub.cons rfl (by first | rfl | (congr 1; omega) | assumption) ?_)) (fun w h => OwnL.sat (by repeat (first | exact OwnL.refl | apply OwnL.take (by repeat (first | exact Take.head _ | apply Take.tail)) | apply OwnL.drop)) w (h.thin (SubL.mem (by repeat (first | exact SubL.refl | refine SubL.cons (by repeat (first | assumption | exact List.mem_cons_self | refine List.mem_cons_of_mem _ ?_)) ?_ | refine SubL.skip ?_)))))
  · skip
    refine WC.exit ?_
    refine thenQ.exit ?_
    refine loopQ1.exit ?_
    refine blockQ.exit ?_
    refine thenQ.normal ?_
    refine WC.seq ?_
    refine WC.region ?_
    refine WL.rd rfl rfl rfl (Rd.assign rfl rfl) ?_
    refine WL.nil ?_
    refine thenQ.normal ?_
    -- ret_2
    refine WC.ret (Ret.one Try.results40 rfl ?_)
    exact hk2 fun j hj => i2 j (by omega)
end Go.Proofs.Ytpicbbkmcbhnpaa
