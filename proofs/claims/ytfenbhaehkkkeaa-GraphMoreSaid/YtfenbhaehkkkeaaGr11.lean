/-
  Layer 18: the document's Find, Come.
-/
import Derived.Test.YtfenbhaehkkkeaaGr10
namespace Go.SL
open Go
theorem Rd.more {P : Program} {o : Oper} {L : Env} {R : List RO} {O : List Own} {u : Value} {q : RO} (h : Rd P o L (q :: R) O u) (hq : ∀ w, (∀ p ∈ R, p w) → q w) : Rd P o L R O u := fun ρ w h1 h2 h3 => h ρ w h1 (fun p hp => by
  rcases List.mem_cons.1 hp with rfl | hp
  · exact hq w h2
  · exact h2 p hp) h3
end Go.SL
namespace Go.Proofs.Ytfenbhaehkkkeaa
open Go Go.SL
section
variable {P : Program} {v : Value} {L : List Nd} {R : List RO} {O : List Own} {nvs : List Nv} {i j k : Nat} {o : Oper} {E : Env} {t : TypeId} {x y : Operand}
theorem NLs.rdLen {e : TypeId} (h : NLs v L R nvs) (ho : o.op = .call { callee := .builtin .len, args := #[x], argTypes := #[t] }) (hx : ev E x = some v) (hT : P.underlying t = some (.slice e)) : Rd P o E R O (vi L.length) := by
  rw [← h.len]; exact Rd.lenE ho hx hT h.sl
theorem NLs.rdIdx {e : TypeId} {bytes : Nat} {z : Value} {kd : IntKind} {p : Int} (h : NLs v L R nvs) (hi : i < L.length) (ho : o.op = .indexAddr t x y) (hT : SlT P t e 3 bytes z) (hx : ev E x = some v) (hy : ev E y = some (.int kd p)) (hp : p = (i : Int)) : Rd P o E R O (.pointer (some (elemAddr v (i * 3)))) :=
  Rd.idx (enc := encN) ho hT hx hy hp h.sl (by rw [h.len]; exact hi)
theorem NLs.rdId (h : NLs v L R nvs) (hi : i < L.length) (ho : o.op = .load t x) (hc : Cell1 P t) (hx : ev E x = some (.pointer (some (elemAddr v j)))) (hj : j = i * 3 + 0) : Rd P o E R O (vs L[i]!.1) :=
  Rd.getF (enc := encN) (size := 3) (f := 0) ho hc hx h.sl (fun _ => rfl) hj (get!_of_lt (by rw [h.len]; exact hi)) (by rw [← (h.id i hi).1]; rfl)
theorem NLs.rdTm (h : NLs v L R nvs) (hi : i < L.length) (ho : o.op = .load t x) (hc : Cell1 P t) (hx : ev E x = some (.pointer (some (elemAddr v j)))) (hj : j = i * 3 + 2) : Rd P o E R O (vi L[i]!.2.2) :=
  Rd.getF (enc := encN) (size := 3) (f := 2) ho hc hx h.sl (fun _ => rfl) hj (get!_of_lt (by rw [h.len]; exact hi)) (by rw [← (h.id i hi).2]; rfl)
theorem NLs.rdPs (h : NLs v L R nvs) (hi : i < L.length) (ho : o.op = .load t x) (hc : Cell1 P t) (hx : ev E x = some (.pointer (some (elemAddr v j)))) (hj : j = i * 3 + 1) : Rd P o E R O (slv nvs[i]!.2.1) :=
  Rd.getF (enc := encN) (size := 3) (f := 1) ho hc hx h.sl (fun _ => rfl) hj (get!_of_lt (by rw [h.len]; exact hi)) rfl
theorem NLs.rdPLen {e : TypeId} (h : NLs v L R nvs) (hi : i < L.length) (ho : o.op = .call { callee := .builtin .len, args := #[x], argTypes := #[t] }) (hx : ev E x = some (slv nvs[i]!.2.1)) (hT : P.underlying t = some (.slice e)) : Rd P o E R O (vi L[i]!.2.1.length) :=
  Rd.more (q := SlE (SL.one vs) (slv nvs[i]!.2.1) L[i]!.2.1) (Rd.lenE ho hx hT List.mem_cons_self) (fun w hw => hw _ h.ps i hi)
theorem NLs.rdPIdx {e : TypeId} {bytes : Nat} {z : Value} {kd : IntKind} {p : Int} (h : NLs v L R nvs) (hi : i < L.length) (hk : k < L[i]!.2.1.length) (ho : o.op = .indexAddr t x y) (hT : SlT P t e 1 bytes z) (hx : ev E x = some (slv nvs[i]!.2.1)) (hy : ev E y = some (.int kd p)) (hp : p = (k : Int)) : Rd P o E R O (.pointer (some (elemAddr (slv nvs[i]!.2.1) k))) :=
  Rd.more (q := SlE (SL.one vs) (slv nvs[i]!.2.1) L[i]!.2.1) (Rd.idx1 ho hT hx hy hp List.mem_cons_self hk) (fun w hw => hw _ h.ps i hi)
theorem NLs.rdP (h : NLs v L R nvs) (hi : i < L.length) (hk : k < L[i]!.2.1.length) (ho : o.op = .load t x) (hc : Cell1 P t) (hx : ev E x = some (.pointer (some (elemAddr (slv nvs[i]!.2.1) k)))) : Rd P o E R O (vs L[i]!.2.1[k]!) :=
  Rd.more (q := SlE (SL.one vs) (slv nvs[i]!.2.1) L[i]!.2.1) (Rd.get (g := vs) ho hc hx List.mem_cons_self (get!_of_lt hk)) (fun w hw => hw _ h.ps i hi)
end
theorem NLs.mono {v : Value} {L : List Nd} {R R' : List RO} {nvs : List Nv} (h : NLs v L R nvs) (hs : ∀ p ∈ R, p ∈ R') : NLs v L R' nvs := ⟨hs _ h.sl, hs _ h.ps, h.len, h.id⟩
def FindIs (L : List Nd) (id : T) (k : Int) : Prop := (k = -1 ∧ id ∉ ids L) ∨ ∃ i : Nat, k = i ∧ i < L.length ∧ L[i]!.1 = id ∧ ∀ j, j < i → L[j]!.1 ≠ id
theorem mem_ids {L : List Nd} {id : T} : id ∈ ids L ↔ ∃ j, j < L.length ∧ L[j]!.1 = id := by
  constructor
  · intro h
    obtain ⟨n, hn, rfl⟩ := List.mem_map.1 h
    obtain ⟨j, hj, e⟩ := List.getElem_of_mem hn
    exact ⟨j, hj, by rw [getElem!_pos L j hj, e]⟩
  · rintro ⟨j, hj, rfl⟩
    exact List.mem_map_of_mem (f := fun x : Nd => x.1) (get!_mem hj)
theorem ids_inj {L : List Nd} (hn : (ids L).Nodup) {i j : Nat} (hi : i < L.length) (hj : j < L.length) (h : L[i]!.1 = L[j]!.1) : i = j := by
  have key : ∀ {i j : Nat}, i < L.length → j < L.length → i < j → L[i]!.1 ≠ L[j]!.1 := fun {i j} hi hj hlt => by
    have := List.pairwise_iff_getElem.1 hn i j (by unfold ids; rw [List.length_map]; exact hi) (by unfold ids; rw [List.length_map]; exact hj) hlt
    unfold ids at this
    rw [List.getElem_map, List.getElem_map, ← getElem!_pos L i hi, ← getElem!_pos L j hj] at this
    exact this
  rcases Nat.lt_trichotomy i j with g | g | g
  · exact absurd h (key hi hj g)
  · exact g
  · exact absurd h.symm (key hj hi g)
/-! ### what Come does -/
def CSt (L : List Nd) (fs : List T) (bs : List Bool) : Prop := bs.length = L.length ∧ ∀ j, j < L.length → bs[j]! = true → Come (gOf L) fs L[j]!.1
def Mk (L : List Nd) (bs : List Bool) (x : T) : Prop := ∃ j, j < L.length ∧ L[j]!.1 = x ∧ bs[j]! = true
def cf (bs : List Bool) : Nat := bs.count false
theorem set_at {bs : List Bool} {m j : Nat} (hj : j < bs.length) : (bs.set m true)[j]! = if m = j then true else bs[j]! := by
  rw [getElem!_pos _ j (by rw [List.length_set]; exact hj), List.getElem_set, ← getElem!_pos bs j hj]
theorem vbl_dec (b : Bool) : vbl b = .bool (decide (b = true)) := by cases b <;> rfl
theorem CSt.set {L : List Nd} {fs : List T} {bs : List Bool} {m : Nat} (h : CSt L fs bs) (hc : Come (gOf L) fs L[m]!.1) : CSt L fs (bs.set m true) := by
  refine ⟨by rw [List.length_set]; exact h.1, fun j hj hb => ?_⟩
  rw [set_at (by rw [h.1]; exact hj)] at hb
  by_cases e : m = j
  · subst e; exact hc
  · rw [if_neg e] at hb; exact h.2 j hj hb
theorem Mk.set {L : List Nd} {fs : List T} {bs : List Bool} {m : Nat} {x : T} (hc : CSt L fs bs) (h : Mk L bs x) : Mk L (bs.set m true) x := by
  obtain ⟨j, h1, h2, h3⟩ := h
  refine ⟨j, h1, h2, ?_⟩
  rw [set_at (by rw [hc.1]; exact h1)]
  split
  · rfl
  · exact h3
theorem Mk.new {L : List Nd} {fs : List T} {bs : List Bool} {m : Nat} (hc : CSt L fs bs) (hm : m < L.length) : Mk L (bs.set m true) L[m]!.1 := ⟨m, hm, rfl, by rw [set_at (by rw [hc.1]; exact hm), if_pos rfl]⟩
theorem cf_set : ∀ {bs : List Bool} {m : Nat}, m < bs.length → bs[m]! = false → cf (bs.set m true) + 1 = cf bs
  | b :: bs, 0, _, h => by
    have h' : b = false := by simpa using h
    subst h'
    simp [cf]
  | b :: bs, m + 1, hm, h => by
    have h' : bs[m]! = false := by simpa using h
    have ih := cf_set (bs := bs) (m := m) (by simpa using hm) h'
    unfold cf at *
    rw [List.set_cons_succ, List.count_cons, List.count_cons]
    omega
theorem pars_at {L : List Nd} (hn : (ids L).Nodup) {i : Nat} (hi : i < L.length) {p : T} : p ∈ (gOf L).pars L[i]!.1 ↔ p ∈ L[i]!.2.1 := by
  show p ∈ cs (ndOf L L[i]!.1).2.1 ↔ _
  rw [ndOf_get hn hi, cs_mem]
def ComeB (L : List Nd) (fs : List T) (bs : List Bool) : Prop := bs.length = L.length ∧ ∀ i, i < L.length → (bs[i]! = true ↔ Come (gOf L) fs L[i]!.1)
def Beg (L : List Nd) (fs : List T) (bs : List Bool) (n : Nat) : Prop := ∀ j, j < n → fs[j]! ∈ ids L → Mk L bs fs[j]!
theorem Beg.set {L : List Nd} {fs gs : List T} {bs : List Bool} {n m : Nat} (hc : CSt L gs bs) (h : Beg L fs bs n) : Beg L fs (bs.set m true) n := fun j hj hi => (h j hj hi).set hc
def Shut (L : List Nd) (bs : List Bool) (n : Nat) : Prop := ∀ j, j < n → bs[j]! = true → ∀ p ∈ L[j]!.2.1, p ∈ ids L → Mk L bs p
theorem come_done {L : List Nd} {fs : List T} {bs : List Bool} (hn : (ids L).Nodup) (h1 : CSt L fs bs) (h2 : Beg L fs bs fs.length) (h3 : Shut L bs L.length) : ComeB L fs bs := by
  refine ⟨h1.1, fun i hi => ⟨h1.2 i hi, fun hc => ?_⟩⟩
  have key : L[i]!.1 ∈ ids L → Mk L bs L[i]!.1 := Come.all (M := fun x => x ∈ ids L → Mk L bs x) (fun f hf _ hk => by
    obtain ⟨j, hj, rfl⟩ := mem_get! hf
    exact h2 j hj hk) (fun x hx hm p hp hpk => by
    obtain ⟨j, hj, e, hb⟩ := hm hx
    refine h3 j hj hb p ?_ hpk
    rw [← e, pars_at hn hj] at hp
    exact hp) hc
  obtain ⟨j, hj, e, hb⟩ := key (mem_ids.2 ⟨i, hi, rfl⟩)
  rw [← ids_inj hn hj hi e]; exact hb
abbrev accB (v : Value) (bs : List Bool) : Own := accC 4 1 (SL.one vbl) v bs
section
variable {R : List RO} {O O' : List Own} {POST : Value → List RO → List Own → Prop} {v : Value} {L : List Nd} {nvs : List Nv}
set_option maxRecDepth 20000 in
theorem rfind_spec {id : T} (hN : NLs v L R nvs) (hl : L.length ≤ 1000000) (hk : ∀ k, FindIs L id k → POST (vi k) R O) : Fun Try.prog 18 #[v, vs id] R O POST := by
  refine Fun.enter (l := [_, _]) Try.func18 rfl Try.ntmps18 rfl (L0 := [(0, _), (1, _)]) rfl ?_
  refine WC.seq ?_
  refine WC.region ?_
  refine WL.rd rfl rfl rfl (Rd.assign rfl rfl) ?_
  refine WL.nil ?_
  refine thenQ.normal ?_
  refine WC.seq ?_
  refine WC.seq ?_
  refine WC.region ?_
  refine WL.rd rfl rfl rfl (Rd.assign rfl rfl) ?_
  refine WL.nil ?_
  refine thenQ.normal ?_
  refine WC.block ?_
  refine WC.pick [5, 0, 1] (by repeat (first | exact Pick.nil | apply Pick.cons rfl)) ?_
  refine WC.loop1o 1 (fun (i : Nat) => [(5, vi i)]) (fun (i : Nat) => i ≤ L.length ∧ ∀ j, j < i → L[j]!.1 ≠ id) (fun (i : Nat) => L.length - i) (0) (by repeat (first | exact Split.zero | apply Split.succ)) ?hinv1 (by repeat (first | exact Sub.nil | refine Sub.cons rfl (by first | rfl | (congr 1; omega) | assumption) ?_)) (fun _ h => h) ?_
  case hinv1 =>
    exact ⟨Nat.zero_le _, fun j h => absurd h (Nat.not_lt_zero _)⟩
  intro i
  rintro ⟨i1, i2⟩
  refine WC.seq ?_
  refine WC.seq ?_
  refine WC.region ?_
  refine WL.rd rfl rfl rfl (Rd.move rfl rfl) ?_
  refine WL.rd rfl rfl rfl (Rd.move rfl rfl) ?_
  refine WL.rd rfl rfl rfl (hN.rdLen rfl rfl Try.underlying25) ?_
  refine WL.rd rfl rfl rfl (Rd.lss rfl rfl rfl) ?_
  refine WL.nil ?_
  refine thenQ.normal ?_
  first | refine WC.ite rfl (fun hc1 => ?_) (fun hc1 => ?_) | refine WC.cond rfl (fun hc1 => ?_) (fun hc1 => ?_)
  · skip
    refine WC.skip ?_
    refine thenQ.normal ?_
    refine WC.seq ?_
    refine WC.block ?_
    refine WC.seq ?_
    refine WC.region ?_
    refine WL.rd rfl rfl rfl (Rd.move rfl rfl) ?_
    refine WL.rd rfl rfl rfl (Rd.move rfl rfl) ?_
    refine WL.rd rfl rfl rfl (hN.rdIdx (i := i) (by omega) rfl S25 rfl rfl rfl) ?_
    refine WL.rd rfl rfl rfl (Rd.fieldE rfl F31_0 rfl hN.sl (by have := hN.len; omega)) ?_
    refine WL.rd rfl rfl rfl (hN.rdId (i := i) (by omega) rfl C9 rfl rfl) ?_
    refine WL.rd rfl rfl rfl (Rd.move rfl rfl) ?_
    refine WL.rd rfl rfl rfl (Rd.seql rfl rfl rfl) ?_
    refine WL.nil ?_
    refine thenQ.normal ?_
    first | refine WC.ite rfl (fun hc2 => ?_) (fun hc2 => ?_) | refine WC.cond rfl (fun hc2 => ?_) (fun hc2 => ?_)
    · skip
      refine WC.seq ?_
      refine WC.region ?_
      refine WL.rd rfl rfl rfl (Rd.move rfl rfl) ?_
      refine WL.rd rfl rfl rfl (Rd.assign rfl rfl) ?_
      refine WL.nil ?_
      refine thenQ.normal ?_
      refine WC.ret (Ret.one Try.results18 rfl ?_)
      exact hk i (.inr ⟨i, rfl, by omega, hc2, i2⟩)
    · skip
      refine WC.skip ?_
      refine blockQ.normal ?_
      refine thenQ.normal ?_
      refine WC.region ?_
      refine WL.rd rfl rfl rfl (Rd.move rfl rfl) ?_
      refine WL.rd rfl rfl rfl (Rd.add rfl rfl rfl (by omega)) ?_
      refine WL.rd rfl rfl rfl (Rd.assign rfl rfl) ?_
      refine WL.nil ?_
      exact loopQ1.mk (i + 1) ⟨by omega, fun j hj => by
      rcases Nat.lt_or_ge j i with h | h
      · exact i2 j h
      · obtain rfl : j = i := by omega
        exact hc2⟩ (by omega) (by repeat (first | exact Sub.nil | refine Sub.cons rfl (by first | rfl | (congr 1; omega) | assumption) ?_)) (fun w h => OwnL.sat (by repeat (first | exact OwnL.refl | apply OwnL.take (by repeat (first | exact Take.head _ | apply Take.tail)) | apply OwnL.drop)) w (h.thin (SubL.mem (by repeat (first | exact SubL.refl | refine SubL.cons (by repeat (first | assumption | exact mS | apply mT)) ?_ | refine SubL.skip ?_)))))
  · skip
    refine WC.exit ?_
    refine thenQ.exit ?_
    refine loopQ1.exit ?_
    refine blockQ.exit ?_
    refine thenQ.normal ?_
    refine WC.seq ?_
    refine WC.region ?_
    refine WL.rd rfl rfl rfl (Rd.assign rfl rfl) ?_
    refine WL.nil ?_
    refine thenQ.normal ?_
    refine WC.ret (Ret.one Try.results18 rfl ?_)
    exact hk (-1) (.inl ⟨rfl, fun hm => by
      obtain ⟨j, hj, e⟩ := mem_ids.1 hm
      exact i2 j (by omega) e⟩)
set_option maxRecDepth 20000 in
set_option maxHeartbeats 8000000 in
theorem rcome_spec {fs : List T} {fv : Value} (hN : NLs v L R nvs) (hn : (ids L).Nodup) (hf : SlE (SL.one vs) fv fs ∈ R) (hl : L.length ≤ 1000) (hfl : fs.length ≤ 1000000) (hps : ∀ n ∈ L, n.2.1.length ≤ 1000) (hk : ∀ u bs, ComeB L fs bs → POST u R (accB u bs :: O)) : Fun Try.prog 17 #[v, fv] R O POST := by
  refine Fun.enter (l := [_, _]) Try.func17 rfl Try.ntmps17 rfl (L0 := [(0, _), (1, _)]) rfl ?_
  refine WC.seq ?_
  refine WC.region ?_
  refine WL.rd rfl rfl rfl (Rd.assign rfl rfl) ?_
  refine WL.nil ?_
  refine thenQ.normal ?_
  refine WC.seq ?_
  refine WC.region ?_
  refine WL.rd rfl rfl rfl (Rd.move rfl rfl) ?_
  refine WL.rd rfl rfl rfl (hN.rdLen rfl rfl Try.underlying25) ?_
  refine WL.op rfl ?_
  refine OpW.make1 (m := L.length) (c := L.length) rfl S45 rfl rfl rfl rfl rfl (Nat.le_refl _) (by omega) (by omega) rfl rfl ?_; intro b14
  refine WL.heap (fun w h => Sat.accRow (enc := SL.one vbl) (size := 1) (m := L.length) (xs := List.replicate L.length false) (by repeat (first | assumption | exact Take.head _ | apply Take.tail)) (by rw [flat_one, List.map_replicate]) (by simp) (fun _ => rfl) (by omega) h) ?_
  refine WL.rd rfl rfl rfl (Rd.assign rfl rfl) ?_
  refine WL.nil ?_
  refine thenQ.normal ?_
  refine WC.seq ?_
  refine WC.seq ?_
  refine WC.region ?_
  refine WL.rd rfl rfl rfl (Rd.assign rfl rfl) ?_
  refine WL.nil ?_
  refine thenQ.normal ?_
  refine WC.block ?_
  refine WC.pick [6, 0, 1, 5] (by repeat (first | exact Pick.nil | apply Pick.cons rfl)) ?_
  refine WC.loop2 1 (fun (i : Nat) (bs : List Bool) => [(6, vi i)]) (fun (i : Nat) (bs : List Bool) => accB (.slice (some ⟨b14, 0, none⟩) L.length L.length) bs :: O) (fun (i : Nat) (bs : List Bool) => i ≤ fs.length ∧ CSt L fs bs ∧ Beg L fs bs i) (fun (i : Nat) (bs : List Bool) => fs.length - i) (0) (List.replicate L.length false) (by repeat (first | exact Split.zero | apply Split.succ)) ?hinv1 (by repeat (first | exact Sub.nil | refine Sub.cons rfl (by first | rfl | (congr 1; omega) | assumption) ?_)) (fun _ h => h) ?_
  case hinv1 =>
    exact ⟨Nat.zero_le _, ⟨by simp, fun j hj hb => by simp [hj] at hb⟩, fun j h => absurd h (Nat.not_lt_zero _)⟩
  intro i bs
  rintro ⟨i1, i2, i3⟩
  refine WC.seq ?_
  refine WC.seq ?_
  refine WC.region ?_
  refine WL.rd rfl rfl rfl (Rd.move rfl rfl) ?_
  refine WL.rd rfl rfl rfl (Rd.move rfl rfl) ?_
  refine WL.rd rfl rfl rfl (Rd.lenE (enc := SL.one vs) (xs := fs) rfl rfl Try.underlying28 hf) ?_
  refine WL.rd rfl rfl rfl (Rd.lss rfl rfl rfl) ?_
  refine WL.nil ?_
  refine thenQ.normal ?_
  first | refine WC.ite rfl (fun hc1 => ?_) (fun hc1 => ?_) | refine WC.cond rfl (fun hc1 => ?_) (fun hc1 => ?_)
  · skip
    refine WC.skip ?_
    refine thenQ.normal ?_
    refine WC.seq ?_
    refine WC.block ?_
    refine WC.seq ?_
    refine WC.region ?_
    refine WL.rd rfl rfl rfl (Rd.move rfl rfl) ?_
    refine WL.rd rfl rfl rfl (Rd.move rfl rfl) ?_
    refine WL.rd rfl rfl rfl (Rd.move rfl rfl) ?_
    refine WL.rd rfl rfl rfl (Rd.idx1 (enc := SL.one vs) (xs := fs) (k := i) rfl S28 rfl rfl rfl hf (by omega)) ?_
    refine WL.rd rfl rfl rfl (Rd.get (g := vs) (xs := fs) (k := i) (a := fs[i]!) rfl C9 rfl hf (get!_of_lt (by omega))) ?_
    refine WL.op rfl ?_
    refine OpW.call rfl rfl (by repeat (first | exact Evs.nil | apply Evs.cons rfl)) (by kernel_rfl) rfl rfl rfl ?_
    refine rfind_spec hN (by omega) ?_; intro k hk26
    refine WL.rd rfl rfl rfl (Rd.assign rfl rfl) ?_
    refine WL.nil ?_
    refine thenQ.normal ?_
    refine WC.seq ?_
    refine WC.region ?_
    refine WL.rd rfl rfl rfl (Rd.move rfl rfl) ?_
    refine WL.rd rfl rfl rfl (Rd.geq rfl rfl rfl) ?_
    refine WL.nil ?_
    refine thenQ.normal ?_
    first | refine WC.ite rfl (fun hc2 => ?_) (fun hc2 => ?_) | refine WC.cond rfl (fun hc2 => ?_) (fun hc2 => ?_)
    · skip
      obtain ⟨m, rfl, m1, m2, m3⟩ : ∃ m : Nat, k = m ∧ m < L.length ∧ L[m]!.1 = fs[i]! ∧ ∀ j, j < m → L[j]!.1 ≠ fs[i]! := by
        rcases hk26 with ⟨rfl, _⟩ | h
        · omega
        · exact h
      have hbl := i2.1
      refine WC.region ?_
      refine WL.rd rfl rfl rfl (Rd.move rfl rfl) ?_
      refine WL.rd rfl rfl rfl (Rd.move rfl rfl) ?_
      refine WL.rd rfl rfl rfl (Rd.idxA1 (enc := SL.one vbl) (xs := bs) (k := m) rfl S45 rfl rfl rfl (by repeat (first | assumption | exact mS | apply mT)) (by omega)) ?_
      refine WL.op rfl ?_
      refine OpW.storeAcc (k := m) (a := true) rfl Z4 rfl rfl rfl rfl (by repeat (first | assumption | exact Take.head _ | apply Take.tail)) (by omega) rfl ?_
      refine WL.nil ?_
      refine blockQ.normal ?_
      refine thenQ.normal ?_
      refine WC.region ?_
      refine WL.rd rfl rfl rfl (Rd.move rfl rfl) ?_
      refine WL.rd rfl rfl rfl (Rd.add rfl rfl rfl (by omega)) ?_
      refine WL.rd rfl rfl rfl (Rd.assign rfl rfl) ?_
      refine WL.nil ?_
      exact loopQ2.mk (i + 1) (bs.set m true) ⟨by omega, i2.set ⟨fs[i]!, get!_mem (by omega), by rw [← m2]; exact mem_ids.2 ⟨m, m1, rfl⟩, by rw [m2]; exact .refl _⟩, fun j hj hin => by
      rcases Nat.lt_or_ge j i with h | h
      · exact (i3 j h hin).set i2
      · obtain rfl : j = i := by omega
        rw [← m2]; exact Mk.new i2 m1⟩ (by omega) (by repeat (first | exact Sub.nil | refine Sub.cons rfl (by first | rfl | (congr 1; omega) | assumption) ?_)) (fun w h => OwnL.sat (by repeat (first | exact OwnL.refl | apply OwnL.take (by repeat (first | exact Take.head _ | apply Take.tail)) | apply OwnL.drop)) w (h.thin (SubL.mem (by repeat (first | exact SubL.refl | refine SubL.cons (by repeat (first | assumption | exact mS | apply mT)) ?_ | refine SubL.skip ?_)))))
    · skip
      refine WC.skip ?_
      refine blockQ.normal ?_
      refine thenQ.normal ?_
      refine WC.region ?_
      refine WL.rd rfl rfl rfl (Rd.move rfl rfl) ?_
      refine WL.rd rfl rfl rfl (Rd.add rfl rfl rfl (by omega)) ?_
      refine WL.rd rfl rfl rfl (Rd.assign rfl rfl) ?_
      refine WL.nil ?_
      exact loopQ2.mk (i + 1) bs ⟨by omega, i2, fun j hj hin => by
      rcases Nat.lt_or_ge j i with h | h
      · exact i3 j h hin
      · obtain rfl : j = i := by omega
        rcases hk26 with ⟨_, h⟩ | ⟨m, rfl, _⟩
        · exact absurd hin h
        · omega⟩ (by omega) (by repeat (first | exact Sub.nil | refine Sub.cons rfl (by first | rfl | (congr 1; omega) | assumption) ?_)) (fun w h => OwnL.sat (by repeat (first | exact OwnL.refl | apply OwnL.take (by repeat (first | exact Take.head _ | apply Take.tail)) | apply OwnL.drop)) w (h.thin (SubL.mem (by repeat (first | exact SubL.refl | refine SubL.cons (by repeat (first | assumption | exact mS | apply mT)) ?_ | refine SubL.skip ?_)))))
  · skip
    obtain rfl : i = fs.length := by omega
    refine WC.exit ?_
    refine thenQ.exit ?_
    refine loopQ2.exit ?_
    refine blockQ.exit ?_
    refine thenQ.normal ?_
    refine WC.seq ?_
    refine WC.seq ?_
    refine WC.region ?_
    refine WL.rd rfl rfl rfl (Rd.assign rfl rfl) ?_
    refine WL.nil ?_
    refine thenQ.normal ?_
    refine WC.block ?_
    refine WC.pick [8, 0, 5] (by repeat (first | exact Pick.nil | apply Pick.cons rfl)) ?_
    refine WC.loop2 1 (fun (more : Bool) (bs2 : List Bool) => [(8, .bool more)]) (fun (more : Bool) (bs2 : List Bool) => accB (.slice (some ⟨b14, 0, none⟩) L.length L.length) bs2 :: O) (fun (more : Bool) (bs2 : List Bool) => CSt L fs bs2 ∧ Beg L fs bs2 fs.length ∧ (more = false → Shut L bs2 L.length)) (fun (more : Bool) (bs2 : List Bool) => cf bs2 + (if more = true then 1 else 0)) (true) (bs) (by repeat (first | exact Split.zero | apply Split.succ)) ?hinv2 (by repeat (first | exact Sub.nil | refine Sub.cons rfl (by first | rfl | (congr 1; omega) | assumption) ?_)) (fun _ h => h) ?_
    case hinv2 =>
      exact ⟨i2, i3, fun h => Bool.noConfusion h⟩
    intro more bs2
    rintro ⟨j1, j2, j3⟩
    refine WC.seq ?_
    refine WC.seq ?_
    refine WC.region ?_
    refine WL.rd rfl rfl rfl (Rd.move rfl rfl) ?_
    refine WL.nil ?_
    refine thenQ.normal ?_
    first | refine WC.ite rfl (fun hc3 => ?_) (fun hc3 => ?_) | refine WC.cond rfl (fun hc3 => ?_) (fun hc3 => ?_)
    · skip
      subst hc3
      refine WC.skip ?_
      refine thenQ.normal ?_
      refine WC.block ?_
      refine WC.seq ?_
      refine WC.region ?_
      refine WL.rd rfl rfl rfl (Rd.assign rfl rfl) ?_
      refine WL.nil ?_
      refine thenQ.normal ?_
      refine WC.seq ?_
      refine WC.region ?_
      refine WL.rd rfl rfl rfl (Rd.assign rfl rfl) ?_
      refine WL.nil ?_
      refine thenQ.normal ?_
      refine WC.block ?_
      refine WC.pick [9, 8, 0, 5] (by repeat (first | exact Pick.nil | apply Pick.cons rfl)) ?_
      refine WC.loop3 2 (fun (i : Nat) (more3 : Bool) (bs3 : List Bool) => [(9, vi i), (8, .bool more3)]) (fun (i : Nat) (more3 : Bool) (bs3 : List Bool) => accB (.slice (some ⟨b14, 0, none⟩) L.length L.length) bs3 :: O) (fun (i : Nat) (more3 : Bool) (bs3 : List Bool) => i ≤ L.length ∧ CSt L fs bs3 ∧ Beg L fs bs3 fs.length ∧ cf bs3 + (if more3 = true then 1 else 0) ≤ cf bs2 ∧ (more3 = false → Shut L bs3 i)) (fun (i : Nat) (more3 : Bool) (bs3 : List Bool) => L.length - i) (0) (false) (bs2) (by repeat (first | exact Split.zero | apply Split.succ)) ?hinv3 (by repeat (first | exact Sub.nil | refine Sub.cons rfl (by first | rfl | (congr 1; omega) | assumption) ?_)) (fun _ h => h) ?_
      case hinv3 =>
        exact ⟨Nat.zero_le _, j1, j2, by simp, fun _ j h => absurd h (Nat.not_lt_zero _)⟩
      intro i more3 bs3
      rintro ⟨l1, l2, l3, l4, l5⟩
      refine WC.seq ?_
      refine WC.seq ?_
      refine WC.region ?_
      refine WL.rd rfl rfl rfl (Rd.move rfl rfl) ?_
      refine WL.rd rfl rfl rfl (Rd.move rfl rfl) ?_
      refine WL.rd rfl rfl rfl (hN.rdLen rfl rfl Try.underlying25) ?_
      refine WL.rd rfl rfl rfl (Rd.lss rfl rfl rfl) ?_
      refine WL.nil ?_
      refine thenQ.normal ?_
      first | refine WC.ite rfl (fun hc4 => ?_) (fun hc4 => ?_) | refine WC.cond rfl (fun hc4 => ?_) (fun hc4 => ?_)
      · skip
        have hil : i < L.length := by omega
        have hpl := hps _ (get!_mem hil)
        refine WC.skip ?_
        refine thenQ.normal ?_
        refine WC.seq ?_
        refine WC.block ?_
        refine WC.seq ?_
        refine WC.region ?_
        refine WL.rd rfl rfl rfl (Rd.assign rfl rfl) ?_
        refine WL.nil ?_
        refine thenQ.normal ?_
        refine WC.block ?_
        refine WC.pick [10, 8, 0, 5, 9] (by repeat (first | exact Pick.nil | apply Pick.cons rfl)) ?_
        refine WC.loop3 2 (fun (k : Nat) (more4 : Bool) (bs4 : List Bool) => [(10, vi k), (8, .bool more4)]) (fun (k : Nat) (more4 : Bool) (bs4 : List Bool) => accB (.slice (some ⟨b14, 0, none⟩) L.length L.length) bs4 :: O) (fun (k : Nat) (more4 : Bool) (bs4 : List Bool) => k ≤ L[i]!.2.1.length ∧ CSt L fs bs4 ∧ Beg L fs bs4 fs.length ∧ cf bs4 + (if more4 = true then 1 else 0) ≤ cf bs2 ∧ (more4 = false → Shut L bs4 i ∧ ∀ k', k' < k → bs4[i]! = true → L[i]!.2.1[k']! ∈ ids L → Mk L bs4 L[i]!.2.1[k']!)) (fun (k : Nat) (more4 : Bool) (bs4 : List Bool) => L[i]!.2.1.length - k) (0) (more3) (bs3) (by repeat (first | exact Split.zero | apply Split.succ)) ?hinv4 (by repeat (first | exact Sub.nil | refine Sub.cons rfl (by first | rfl | (congr 1; omega) | assumption) ?_)) (fun _ h => h) ?_
        case hinv4 =>
          exact ⟨Nat.zero_le _, l2, l3, l4, fun h => ⟨l5 h, fun j h => absurd h (Nat.not_lt_zero _)⟩⟩
        intro k more4 bs4
        rintro ⟨n1, n2, n3, n4, n5⟩
        refine WC.seq ?_
        refine WC.seq ?_
        have hbl := n2.1
        refine WC.region ?_
        refine WL.rd rfl rfl rfl (Rd.move rfl rfl) ?_
        refine WL.rd rfl rfl rfl (Rd.move rfl rfl) ?_
        refine WL.rd rfl rfl rfl (Rd.idxA1 (enc := SL.one vbl) (xs := bs4) (k := i) rfl S45 rfl rfl rfl (by repeat (first | assumption | exact mS | apply mT)) (by omega)) ?_
        refine WL.rd rfl rfl rfl (Rd.getA (g := vbl) (xs := bs4) (k := i) rfl C4 rfl (by repeat (first | assumption | exact mS | apply mT)) (get!_of_lt (by omega))) ?_
        refine WL.say 42 (u := .bool (decide (bs4[i]! = true))) rfl (vbl_dec _) ?_
        refine WL.rd rfl rfl rfl (Rd.move rfl rfl) ?_
        refine WL.case 43 rfl (fun hg43 => ?_) (fun hg43 => ?_)
        · skip
          refine WL.rd_yes rfl rfl rfl rfl rfl rfl (Rd.move rfl rfl) ?_
          refine WL.rd_yes rfl rfl rfl rfl rfl rfl (Rd.move rfl rfl) ?_
          refine WL.rd_yes rfl rfl rfl rfl rfl rfl (Rd.move rfl rfl) ?_
          refine WL.rd_yes rfl rfl rfl rfl rfl rfl (hN.rdIdx (i := i) hil rfl S25 rfl rfl rfl) ?_
          refine WL.rd_yes rfl rfl rfl rfl rfl rfl (Rd.fieldE rfl F31_1 rfl hN.sl (by have := hN.len; omega)) ?_
          refine WL.rd_yes rfl rfl rfl rfl rfl rfl (hN.rdPs (i := i) hil rfl C28 rfl rfl) ?_
          refine WL.rd_yes rfl rfl rfl rfl rfl rfl (hN.rdPLen (i := i) hil rfl rfl Try.underlying28) ?_
          refine WL.rd_yes rfl rfl rfl rfl rfl rfl (Rd.lss rfl rfl rfl) ?_
          refine WL.rd rfl rfl rfl (Rd.pick_t rfl rfl rfl) ?_
          refine WL.nil ?_
          refine thenQ.normal ?_
          first | refine WC.ite rfl (fun hc5 => ?_) (fun hc5 => ?_) | refine WC.cond rfl (fun hc5 => ?_) (fun hc5 => ?_)
          · skip
            refine WC.skip ?_
            refine thenQ.normal ?_
            refine WC.seq ?_
            refine WC.block ?_
            refine WC.seq ?_
            refine WC.region ?_
            refine WL.rd rfl rfl rfl (Rd.move rfl rfl) ?_
            refine WL.rd rfl rfl rfl (Rd.move rfl rfl) ?_
            refine WL.rd rfl rfl rfl (Rd.move rfl rfl) ?_
            refine WL.rd rfl rfl rfl (hN.rdIdx (i := i) hil rfl S25 rfl rfl rfl) ?_
            refine WL.rd rfl rfl rfl (Rd.fieldE rfl F31_1 rfl hN.sl (by have := hN.len; omega)) ?_
            refine WL.rd rfl rfl rfl (hN.rdPs (i := i) hil rfl C28 rfl rfl) ?_
            refine WL.rd rfl rfl rfl (Rd.move rfl rfl) ?_
            refine WL.rd rfl rfl rfl (hN.rdPIdx (i := i) (k := k) hil (by omega) rfl S28 rfl rfl rfl) ?_
            refine WL.rd rfl rfl rfl (hN.rdP (i := i) (k := k) hil (by omega) rfl C9 rfl) ?_
            refine WL.op rfl ?_
            refine OpW.call rfl rfl (by repeat (first | exact Evs.nil | apply Evs.cons rfl)) (by kernel_rfl) rfl rfl rfl ?_
            refine rfind_spec hN (by omega) ?_; intro f hf64
            refine WL.rd rfl rfl rfl (Rd.assign rfl rfl) ?_
            refine WL.nil ?_
            refine thenQ.normal ?_
            refine WC.seq ?_
            refine WC.region ?_
            refine WL.rd rfl rfl rfl (Rd.move rfl rfl) ?_
            refine WL.rd rfl rfl rfl (Rd.geq rfl rfl rfl) ?_
            refine WL.rd rfl rfl rfl (Rd.move rfl rfl) ?_
            refine WL.case 67 rfl (fun hg67 => ?_) (fun hg67 => ?_)
            · skip
              obtain ⟨m, rfl, m1, m2, m3⟩ : ∃ m : Nat, f = m ∧ m < L.length ∧ L[m]!.1 = L[i]!.2.1[k]! ∧ ∀ j, j < m → L[j]!.1 ≠ L[i]!.2.1[k]! := by
                rcases hf64 with ⟨rfl, _⟩ | h
                · omega
                · exact h
              have hkl : k < L[i]!.2.1.length := by omega
              have hcome : Come (gOf L) fs L[m]!.1 := (n2.2 i hil hg43).path (.step (mem_ids.2 ⟨i, hil, rfl⟩) ((pars_at hn hil).2 (get!_mem hkl)) (by rw [m2]; exact .refl _))
              refine WL.rd_yes rfl rfl rfl rfl rfl rfl (Rd.move rfl rfl) ?_
              refine WL.rd_yes rfl rfl rfl rfl rfl rfl (Rd.move rfl rfl) ?_
              refine WL.rd_yes rfl rfl rfl rfl rfl rfl (Rd.idxA1 (enc := SL.one vbl) (xs := bs4) (k := m) rfl S45 rfl rfl rfl (by repeat (first | assumption | exact mS | apply mT)) (by omega)) ?_
              refine WL.rd_yes rfl rfl rfl rfl rfl rfl (Rd.getA (g := vbl) (xs := bs4) (k := m) rfl C4 rfl (by repeat (first | assumption | exact mS | apply mT)) (get!_of_lt (by omega))) ?_
              refine WL.say 71 (u := .bool (decide (bs4[m]! = true))) rfl (vbl_dec _) ?_
              refine WL.rd_yes rfl rfl rfl rfl rfl rfl ((by first | exact Rd.notd rfl rfl | exact Rd.not rfl rfl)) ?_
              refine WL.rd rfl rfl rfl (Rd.pick_t rfl rfl rfl) ?_
              refine WL.nil ?_
              refine thenQ.normal ?_
              first | refine WC.ite rfl (fun hc6 => ?_) (fun hc6 => ?_) | refine WC.cond rfl (fun hc6 => ?_) (fun hc6 => ?_)
              · skip
                refine WC.seq ?_
                refine WC.region ?_
                refine WL.rd rfl rfl rfl (Rd.move rfl rfl) ?_
                refine WL.rd rfl rfl rfl (Rd.move rfl rfl) ?_
                refine WL.rd rfl rfl rfl (Rd.idxA1 (enc := SL.one vbl) (xs := bs4) (k := m) rfl S45 rfl rfl rfl (by repeat (first | assumption | exact mS | apply mT)) (by omega)) ?_
                refine WL.op rfl ?_
                refine OpW.storeAcc (k := m) (a := true) rfl Z4 rfl rfl rfl rfl (by repeat (first | assumption | exact Take.head _ | apply Take.tail)) (by omega) rfl ?_
                refine WL.nil ?_
                refine thenQ.normal ?_
                refine WC.region ?_
                refine WL.rd rfl rfl rfl (Rd.assign rfl rfl) ?_
                refine WL.nil ?_
                refine blockQ.normal ?_
                refine thenQ.normal ?_
                refine WC.region ?_
                refine WL.rd rfl rfl rfl (Rd.move rfl rfl) ?_
                refine WL.rd rfl rfl rfl (Rd.add rfl rfl rfl (by omega)) ?_
                refine WL.rd rfl rfl rfl (Rd.assign rfl rfl) ?_
                refine WL.nil ?_
                exact loopQ3.mk (k + 1) true (bs4.set m true) ⟨by omega, n2.set hcome, n3.set n2, by
                have := cf_set (bs := bs4) (m := m) (by omega) (by simpa using hc6)
                simp only [if_true]; omega, fun h => Bool.noConfusion h⟩ (by omega) (by repeat (first | exact Sub.nil | refine Sub.cons rfl (by first | rfl | (congr 1; omega) | assumption) ?_)) (fun w h => OwnL.sat (by repeat (first | exact OwnL.refl | apply OwnL.take (by repeat (first | exact Take.head _ | apply Take.tail)) | apply OwnL.drop)) w (h.thin (SubL.mem (by repeat (first | exact SubL.refl | refine SubL.cons (by repeat (first | assumption | exact mS | apply mT)) ?_ | refine SubL.skip ?_)))))
              · skip
                refine WC.skip ?_
                refine blockQ.normal ?_
                refine thenQ.normal ?_
                refine WC.region ?_
                refine WL.rd rfl rfl rfl (Rd.move rfl rfl) ?_
                refine WL.rd rfl rfl rfl (Rd.add rfl rfl rfl (by omega)) ?_
                refine WL.rd rfl rfl rfl (Rd.assign rfl rfl) ?_
                refine WL.nil ?_
                exact loopQ3.mk (k + 1) more4 bs4 ⟨by omega, n2, n3, n4, fun h => ⟨(n5 h).1, fun k' hk' hb hin => by
                rcases Nat.lt_or_ge k' k with g | g
                · exact (n5 h).2 k' g hb hin
                · obtain rfl : k' = k := by omega
                  exact ⟨m, m1, m2, by simpa using hc6⟩⟩⟩ (by omega) (by repeat (first | exact Sub.nil | refine Sub.cons rfl (by first | rfl | (congr 1; omega) | assumption) ?_)) (fun w h => OwnL.sat (by repeat (first | exact OwnL.refl | apply OwnL.take (by repeat (first | exact Take.head _ | apply Take.tail)) | apply OwnL.drop)) w (h.thin (SubL.mem (by repeat (first | exact SubL.refl | refine SubL.cons (by repeat (first | assumption | exact mS | apply mT)) ?_ | refine SubL.skip ?_)))))
            · skip
              refine WL.no rfl rfl rfl rfl rfl rfl ?_
              refine WL.no rfl rfl rfl rfl rfl rfl ?_
              refine WL.no rfl rfl rfl rfl rfl rfl ?_
              refine WL.no rfl rfl rfl rfl rfl rfl ?_
              refine WL.no rfl rfl rfl rfl rfl rfl ?_
              refine WL.rd rfl rfl rfl (Rd.pick_f rfl rfl rfl) ?_
              refine WL.nil ?_
              refine thenQ.normal ?_
              refine WC.no rfl ?_
              refine WC.skip ?_
              refine blockQ.normal ?_
              refine thenQ.normal ?_
              refine WC.region ?_
              refine WL.rd rfl rfl rfl (Rd.move rfl rfl) ?_
              refine WL.rd rfl rfl rfl (Rd.add rfl rfl rfl (by omega)) ?_
              refine WL.rd rfl rfl rfl (Rd.assign rfl rfl) ?_
              refine WL.nil ?_
              exact loopQ3.mk (k + 1) more4 bs4 ⟨by omega, n2, n3, n4, fun h => ⟨(n5 h).1, fun k' hk' hb hin => by
              rcases Nat.lt_or_ge k' k with g | g
              · exact (n5 h).2 k' g hb hin
              · obtain rfl : k' = k := by omega
                rcases hf64 with ⟨_, g2⟩ | ⟨m, rfl, _⟩
                · exact absurd hin g2
                · omega⟩⟩ (by omega) (by repeat (first | exact Sub.nil | refine Sub.cons rfl (by first | rfl | (congr 1; omega) | assumption) ?_)) (fun w h => OwnL.sat (by repeat (first | exact OwnL.refl | apply OwnL.take (by repeat (first | exact Take.head _ | apply Take.tail)) | apply OwnL.drop)) w (h.thin (SubL.mem (by repeat (first | exact SubL.refl | refine SubL.cons (by repeat (first | assumption | exact mS | apply mT)) ?_ | refine SubL.skip ?_)))))
          · skip
            refine WC.exit ?_
            refine thenQ.exit ?_
            refine loopQ3.exit ?_
            refine blockQ.exit ?_
            refine blockQ.normal ?_
            refine thenQ.normal ?_
            refine WC.region ?_
            refine WL.rd rfl rfl rfl (Rd.move rfl rfl) ?_
            refine WL.rd rfl rfl rfl (Rd.add rfl rfl rfl (by omega)) ?_
            refine WL.rd rfl rfl rfl (Rd.assign rfl rfl) ?_
            refine WL.nil ?_
            exact loopQ3.mk (i + 1) more4 bs4 ⟨by omega, n2, n3, n4, fun h j hj hb p hp hin => by
            rcases Nat.lt_or_ge j i with g | g
            · exact (n5 h).1 j g hb p hp hin
            · obtain rfl : j = i := by omega
              obtain ⟨k', hk', rfl⟩ := mem_get! hp
              exact (n5 h).2 k' (by omega) hb hin⟩ (by omega) (by repeat (first | exact Sub.nil | refine Sub.cons rfl (by first | rfl | (congr 1; omega) | assumption) ?_)) (fun w h => OwnL.sat (by repeat (first | exact OwnL.refl | apply OwnL.take (by repeat (first | exact Take.head _ | apply Take.tail)) | apply OwnL.drop)) w (h.thin (SubL.mem (by repeat (first | exact SubL.refl | refine SubL.cons (by repeat (first | assumption | exact mS | apply mT)) ?_ | refine SubL.skip ?_)))))
        · skip
          refine WL.no rfl rfl rfl rfl rfl rfl ?_
          refine WL.no rfl rfl rfl rfl rfl rfl ?_
          refine WL.no rfl rfl rfl rfl rfl rfl ?_
          refine WL.no rfl rfl rfl rfl rfl rfl ?_
          refine WL.no rfl rfl rfl rfl rfl rfl ?_
          refine WL.no rfl rfl rfl rfl rfl rfl ?_
          refine WL.no rfl rfl rfl rfl rfl rfl ?_
          refine WL.no rfl rfl rfl rfl rfl rfl ?_
          refine WL.rd rfl rfl rfl (Rd.pick_f rfl rfl rfl) ?_
          refine WL.nil ?_
          refine thenQ.normal ?_
          refine WC.no rfl ?_
          refine WC.exit ?_
          refine thenQ.exit ?_
          refine loopQ3.exit ?_
          refine blockQ.exit ?_
          refine blockQ.normal ?_
          refine thenQ.normal ?_
          refine WC.region ?_
          refine WL.rd rfl rfl rfl (Rd.move rfl rfl) ?_
          refine WL.rd rfl rfl rfl (Rd.add rfl rfl rfl (by omega)) ?_
          refine WL.rd rfl rfl rfl (Rd.assign rfl rfl) ?_
          refine WL.nil ?_
          exact loopQ3.mk (i + 1) more4 bs4 ⟨by omega, n2, n3, n4, fun h j hj hb p hp hin => by
          rcases Nat.lt_or_ge j i with g | g
          · exact (n5 h).1 j g hb p hp hin
          · obtain rfl : j = i := by omega
            exact absurd hb hg43⟩ (by omega) (by repeat (first | exact Sub.nil | refine Sub.cons rfl (by first | rfl | (congr 1; omega) | assumption) ?_)) (fun w h => OwnL.sat (by repeat (first | exact OwnL.refl | apply OwnL.take (by repeat (first | exact Take.head _ | apply Take.tail)) | apply OwnL.drop)) w (h.thin (SubL.mem (by repeat (first | exact SubL.refl | refine SubL.cons (by repeat (first | assumption | exact mS | apply mT)) ?_ | refine SubL.skip ?_)))))
      · skip
        obtain rfl : i = L.length := by omega
        refine WC.exit ?_
        refine thenQ.exit ?_
        refine loopQ3.exit ?_
        refine blockQ.exit ?_
        refine blockQ.normal ?_
        exact loopQ2.mk more3 bs3 ⟨l2, l3, l5⟩ (by simp; omega) (by repeat (first | exact Sub.nil | refine Sub.cons rfl (by first | rfl | (congr 1; omega) | assumption) ?_)) (fun w h => OwnL.sat (by repeat (first | exact OwnL.refl | apply OwnL.take (by repeat (first | exact Take.head _ | apply Take.tail)) | apply OwnL.drop)) w (h.thin (SubL.mem (by repeat (first | exact SubL.refl | refine SubL.cons (by repeat (first | assumption | exact mS | apply mT)) ?_ | refine SubL.skip ?_)))))
    · skip
      have hfin := come_done hn j1 j2 (j3 (by simpa using hc3))
      refine WC.exit ?_
      refine thenQ.exit ?_
      refine loopQ2.exit ?_
      refine blockQ.exit ?_
      refine thenQ.normal ?_
      refine WC.seq ?_
      refine WC.region ?_
      refine WL.rd rfl rfl rfl (Rd.move rfl rfl) ?_
      refine WL.rd rfl rfl rfl (Rd.assign rfl rfl) ?_
      refine WL.nil ?_
      refine thenQ.normal ?_
      refine WC.ret (Ret.one Try.results17 rfl ?_)
      exact hk _ bs2 hfin
end
end Go.Proofs.Ytfenbhaehkkkeaa
