/-
 Layer 18: New.
-/
import Derived.Test.YtfenbhaehkkkeaaGr9
namespace Go.SL
open Go
/-- A row that is only read from now on. -/
theorem Sat.shareG {R : List RO} {O O' : List Own} {b : Nat} {e : TypeId} {cs : List Value} {w : World} (hT : Take (rowC b e cs) O O') (h : Sat R O w) : Sat (garr b cs :: R) O' w := (h.perm hT.perm).share _ (fun w hp _ j u hj => row_cell hp hj)
end Go.SL
namespace Go.Proofs.Ytfenbhaehkkkeaa
open Go Go.SL
/-- A node as the document has it: its ID, its parents, its time. -/
abbrev Nd := T × List T × Int
def ndsP (nvs : List Nv) (L : List Nd) : RO := fun w => ∀ i, i < L.length → SlE (SL.one vs) (slv nvs[i]!.2.1) L[i]!.2.1 w
structure NLs (v : Value) (L : List Nd) (R : List RO) (nvs : List Nv) : Prop where
 sl : SlE encN v nvs ∈ R
 ps : ndsP nvs L ∈ R
 len : nvs.length = L.length
 id : ∀ i, i < L.length → nvs[i]!.1 = L[i]!.1 ∧ nvs[i]!.2.2 = L[i]!.2.2
def NdL (v : Value) (L : List Nd) (R : List RO) : Prop := ∃ nvs, NLs v L R nvs
theorem NdL.mono {v : Value} {L : List Nd} {R R' : List RO} (h : NdL v L R) (hs : ∀ p ∈ R, p ∈ R') : NdL v L R' := by
 obtain ⟨nvs, h⟩ := h
 exact ⟨nvs, hs _ h.sl, hs _ h.ps, h.len, h.id⟩
def nd00 : Nd := ([], [], 0)
def ndOf (L : List Nd) (x : T) : Nd := (L.find? fun n => decide (n.1 = x)).getD nd00
def ids (L : List Nd) : List T := L.map (·.1)
def cs (xs : List T) : List T := Go.Lib.compact (srt xs)
def gOf (L : List Nd) : PG := ⟨ids L, fun x => cs (ndOf L x).2.1, fun x => (ndOf L x).2.2⟩
theorem keeps_mem (zs : List T) : ∀ i, i < zs.length → zs[i]! ∈ Go.Lib.compact zs := by
 intro i
 induction i with
 | zero =>
  intro h
  unfold Go.Lib.compact Go.Lib.compactUpTo
  exact List.mem_map.2 ⟨0, List.mem_filter.2 ⟨List.mem_range.2 h, by simp [Go.Lib.keeps]⟩, by simp⟩
 | succ i ih =>
  intro h
  by_cases e : zs[i + 1]! = zs[i]!
  ·
   rw [e]; exact ih (by omega)
  ·
   unfold Go.Lib.compact Go.Lib.compactUpTo
   exact List.mem_map.2 ⟨i + 1, List.mem_filter.2 ⟨List.mem_range.2 h, by simp [Go.Lib.keeps]; simpa using e⟩, by simp⟩
theorem compact_len (zs : List T) : (Go.Lib.compact zs).length ≤ zs.length := by
 unfold Go.Lib.compact Go.Lib.compactUpTo
 rw [List.length_map]
 exact Nat.le_trans (List.length_filter_le _ _) (by rw [List.length_range]; exact Nat.le_refl _)
theorem compact_mem {zs : List T} {x : T} : x ∈ Go.Lib.compact zs ↔ x ∈ zs := by
 constructor
 ·
  intro h
  unfold Go.Lib.compact Go.Lib.compactUpTo at h
  obtain ⟨j, hj, rfl⟩ := List.mem_map.1 h
  have := List.mem_range.1 (List.mem_filter.1 hj).1
  rw [show zs.toArray[j]! = zs[j]! from by simp]
  exact get!_mem this
 ·
  intro h
  obtain ⟨j, hj, rfl⟩ := mem_get! h
  exact keeps_mem zs j hj
theorem cs_mem {xs : List T} {x : T} : x ∈ cs xs ↔ x ∈ xs := compact_mem.trans (srt_perm xs).mem_iff
theorem cs_len (xs : List T) : (cs xs).length ≤ xs.length := by
 have := compact_len (srt xs)
 rw [(srt_perm xs).length_eq] at this
 exact this
theorem ndOf_get {L : List Nd} : ∀ {i : Nat}, (ids L).Nodup → i < L.length → ndOf L L[i]!.1 = L[i]! := by
 induction L with
 | nil => intro i _ h; exact absurd h (Nat.not_lt_zero _)
 | cons a L ih =>
  intro i hn hi
  have hn' := List.nodup_cons.1 hn
  cases i with
  | zero => simp [ndOf]
  | succ i =>
   have hi' : i < L.length := by simpa using hi
   have e : (a :: L)[i + 1]! = L[i]! := by simp
   rw [e]
   have hne : ¬ a.1 = L[i]!.1 := fun h => hn'.1 (by show a.1 ∈ _; rw [h]; exact List.mem_map_of_mem (f := fun x : Nd => x.1) (get!_mem hi'))
   have := ih (i := i) hn'.2 hi'
   unfold ndOf at *
   rw [List.find?_cons]
   simp only [hne, decide_false]
   exact this
theorem ndOf_not {L : List Nd} {x : T} (h : x ∉ ids L) : ndOf L x = nd00 := by
 unfold ndOf
 rw [List.find?_eq_none.2 fun n hn => by
  simp only [decide_eq_true_eq]
  rintro rfl
  exact h (List.mem_map_of_mem hn)]
 rfl
theorem ndOf_mem {L : List Nd} {x : T} (h : x ∈ ids L) : ndOf L x ∈ L ∧ (ndOf L x).1 = x := by
 unfold ndOf
 cases e : L.find? fun n => decide (n.1 = x) with
 | none =>
  obtain ⟨n, hn, rfl⟩ := List.mem_map.1 h
  exact absurd (decide_eq_true rfl) (List.find?_eq_none.1 e n hn)
 | some n =>
  have h1 := List.find?_some e
  exact ⟨List.mem_of_find?_eq_some e, of_decide_eq_true h1⟩
theorem ndOf_snoc {A : List Nd} {n : Nd} {x : T} : ndOf (A ++ [n]) x = if x ∈ ids A then ndOf A x else if x = n.1 then n else nd00 := by
 by_cases h : x ∈ ids A
 ·
  rw [if_pos h]
  unfold ndOf
  rw [List.find?_append]
  cases e : A.find? fun n => decide (n.1 = x) with
  | none =>
   obtain ⟨n, hn, rfl⟩ := List.mem_map.1 h
   exact absurd (decide_eq_true rfl) (List.find?_eq_none.1 e n hn)
  | some n => rfl
 ·
  rw [if_neg h]
  have h1 : A.find? (fun n => decide (n.1 = x)) = none := List.find?_eq_none.2 fun n hn => by
   simp only [decide_eq_true_eq]
   rintro rfl
   exact h (List.mem_map_of_mem hn)
  unfold ndOf
  rw [List.find?_append, h1]
  by_cases e : x = n.1
  ·
   rw [if_pos e]; simp [e]
  ·
   rw [if_neg e]
   have : ¬ n.1 = x := fun g => e g.symm
   simp [this]
theorem gOf_small {L : List Nd} (h1 : L.length ≤ 1000) (h2 : ∀ n ∈ L, n.2.1.length ≤ 100) : Small (gOf L) := by
 refine ⟨by show (ids L).length ≤ _; unfold ids; rw [List.length_map]; exact h1, fun x => ?_⟩
 show (cs (ndOf L x).2.1).length ≤ 100
 refine Nat.le_trans (cs_len _) ?_
 by_cases h : x ∈ ids L
 ·
  exact h2 _ (ndOf_mem h).1
 ·
  rw [ndOf_not h]; simp [nd00]
theorem MapG.start : MapG (GoMap.empty : GoMap T Nv) (gOf []) := ⟨fun id => ⟨fun h => (by cases h), fun ⟨q, h⟩ => (by simp at h)⟩, fun id q h => (by simp at h), rfl⟩
theorem MapG.next {m : GoMap T Nv} {A : List Nd} {n : Nd} {q : Nv} (h : MapG m (gOf A)) (hn : n.1 ∉ ids A) (h1 : q.1 = n.1) (h2 : q.2.2 = n.2.2) : MapG (m.set n.1 q) (gOf (A ++ [n])) := by
 have hnone : m.get n.1 = none := by
  cases e : m.get n.1 with
  | none => rfl
  | some v => exact absurd ((h.keys n.1).2 ⟨v, e⟩) hn
 refine ⟨fun id => ?_, fun id r hr => ?_, ?_⟩
 ·
  rw [GoMap.get_set]
  show id ∈ ids (A ++ [n]) ↔ _
  have hk : id ∈ ids A ↔ ∃ r, m.get id = some r := h.keys id
  rw [show ids (A ++ [n]) = ids A ++ [n.1] from by simp [ids], List.mem_append, List.mem_singleton]
  by_cases e : id = n.1
  ·
   rw [if_pos e]; exact ⟨fun _ => ⟨_, rfl⟩, fun _ => .inr e⟩
  ·
   rw [if_neg e, ← hk]; exact ⟨fun g => g.resolve_right e, .inl⟩
 ·
  rw [GoMap.get_set] at hr
  show r.1 = id ∧ r.2.2 = (ndOf (A ++ [n]) id).2.2
  rw [ndOf_snoc]
  by_cases e : id = n.1
  ·
   rw [if_pos e] at hr
   obtain rfl := Option.some.inj hr
   rw [if_neg (by rw [e]; exact hn), if_pos e]
   exact ⟨h1.trans e.symm, h2⟩
  ·
   rw [if_neg e] at hr
   have hm : id ∈ ids A := (h.keys id).2 ⟨_, hr⟩
   rw [if_pos hm]
   exact h.nd id r hr
 ·
  rw [GoMap.set_len, hnone]
  have := h.len
  show m.l.length + 1 = (ids (A ++ [n])).length
  rw [this]; simp [gOf, ids]
theorem parP_next {m : GoMap T Nv} {A : List Nd} {n : Nd} {d : Option Addr × Nat × Nat} {w : World} {z : Int} (hm : MapG m (gOf A)) (hn : n.1 ∉ ids A) (h : parP m (gOf A) w) (hd : SlE (SL.one vs) (slv d) (cs n.2.1) w) : parP (m.set n.1 (n.1, d, z)) (gOf (A ++ [n])) w := by
 intro id q hq
 rw [GoMap.get_set] at hq
 show SlE (SL.one vs) (slv q.2.1) (cs (ndOf (A ++ [n]) id).2.1) w
 rw [ndOf_snoc]
 by_cases e : id = n.1
 ·
  rw [if_pos e] at hq
  obtain rfl := Option.some.inj hq
  rw [if_neg (by rw [e]; exact hn), if_pos e]
  exact hd
 ·
  rw [if_neg e] at hq
  have hin : id ∈ ids A := (hm.keys id).2 ⟨_, hq⟩
  rw [if_pos hin]
  exact h id q hq
section
variable {R : List RO} {O O' : List Own} {POST : Value → List RO → List Own → Prop} {gv : Value} {G : PG}
theorem compact_spec {v : Value} {xs : List T} (hl : xs.length ≤ 1000000) (hk : ∀ d, POST (slv d) (SlE (SL.one vs) (slv d) (Go.Lib.compact xs) :: R) O) : Fun Try.prog 25 #[v] R (accT v xs :: O) POST := by
 have h : Fun Try.prog 25 #[v] R (accT v xs :: O) (fun v' R' O' => R' = R ∧ O' = accT v' (Go.Lib.compact xs) :: O) :=
  Fun.compacts (fun blk off cap zs w h1 h2 h3 => Try.slices_Compact_string blk off cap zs w h1 h2 h3) (fun a cap w => Try.slices_Compact_string_empty a cap w) (compact_len xs) (by omega) (fun v' => ⟨rfl, rfl⟩)
 intro w hs
 refine (h w hs).mono ?_
 rintro e' w' ⟨v', R', O', he, ⟨rfl, rfl⟩, hs'⟩
 have hs2 := Sat.shareA (Take.head _) hs'
 obtain ⟨o, c, e, _⟩ := hs2.read List.mem_cons_self
 subst e
 exact ⟨_, _, _, he, hk (o, _, c), hs2⟩
/-- What New says of nodes. -/
inductive Made (L : List Nd) : Int → Prop
 | dup (h : ¬ (ids L).Nodup) : Made L 10
 | lost (h : (ids L).Nodup) (h2 : ¬ Closed (gOf L)) : Made L 9
 | round (h : (ids L).Nodup) (h2 : Closed (gOf L)) (z : T) (hz : Cyc (gOf L) z) : Made L 12
set_option maxRecDepth 20000 in
set_option maxHeartbeats 8000000 in
theorem new_spec {v : Value} {L : List Nd} (hL : NdL v L R) (h1 : L.length ≤ 1000) (h2 : ∀ n ∈ L, n.2.1.length ≤ 100)
  (hno : ∀ e, Made L e → POST (.tuple #[.pointer none, vi e]) R O)
  (hk : ∀ gv p1 p2 p3, (ids L).Nodup → Closed (gOf L) → (∀ z, ¬ Cyc (gOf L) z) → OneV gv → gv ≠ .pointer none → GV gv (gOf L) (p1 :: p2 :: p3 :: R) → POST (.tuple #[gv, vi 0]) (p1 :: p2 :: p3 :: R) O) :
  Fun Try.prog 11 #[v] R O POST := by
 obtain ⟨nvs, n1, n2, n3, n4⟩ := hL
 have hS := gOf_small h1 h2
 refine Fun.enter (l := [_]) Try.func11 rfl Try.ntmps11 rfl (L0 := [(0, _)]) rfl ?_
 refine WC.seq ?_
 refine WC.region ?_
 refine WL.rd rfl rfl rfl (Rd.assign rfl rfl) ?_
 refine WL.rd rfl rfl rfl (Rd.assign rfl rfl) ?_
 refine WL.nil ?_
 refine thenQ.normal ?_
 refine WC.seq ?_
 refine WC.region ?_
 refine WL.op rfl ?_
 refine OpW.makeMap vs ndV rfl rfl rfl ?_; intro b11
 refine WL.rd rfl rfl rfl (Rd.buildN (ps := [(0, _)]) rfl Bs59 I59 rfl (by repeat (first | exact Evs.nil | apply Evs.cons rfl)) (by repeat (first | exact CellsOf.nil | apply CellsOf.cons rfl)) (by apply NFo.mk; repeat (first | exact NF.nil | apply NF.cons))) ?_
 refine WL.op rfl ?_
 refine OpW.box rfl rfl Z.N rfl rfl ?_; intro b13
 refine WL.op rfl ?_
 refine OpW.alloc rfl I32 rfl Z.N rfl rfl ?_; intro b4
 refine WL.op rfl ?_
 refine OpW.store1 rfl Z32 rfl rfl (by first | exact ⟨rfl, rfl⟩ | assumption) Z.T (by first | (simp; done) | omega | exact of_decide_eq_true rfl | (simp only [List.length_append, List.length_replicate, List.length_map, List.length_set]; omega)) rfl ?_
 refine WL.nil ?_
 refine thenQ.normal ?_
 refine WC.seq ?_
 refine WC.seq ?_
 refine WC.region ?_
 refine WL.rd rfl rfl rfl (Rd.move rfl rfl) ?_
 refine WL.rd rfl rfl rfl (Rd.lenE (enc := encN) (xs := nvs) rfl rfl Try.underlying24 n1) ?_
 refine WL.rd rfl rfl rfl (Rd.move rfl rfl) ?_
 refine WL.nil ?_
 refine thenQ.normal ?_
 refine WC.block ?_
 refine WC.pick [16, 4, 14, 15] (by repeat (first | exact Pick.nil | apply Pick.cons rfl)) ?_
 refine WC.loop2r 1 (fun (i : Nat) (cm : GoMap T Nv) => [(16, vi i)]) (fun (i : Nat) (cm : GoMap T Nv) => parP cm (gOf (L.take i)) :: R) (fun (i : Nat) (cm : GoMap T Nv) => mapC vs ndV b11 cm :: rowC b13 59 [.map (some b11)] :: rowC b4 32 [.pointer (some ⟨b13, 0, none⟩)] :: O) (fun (i : Nat) (cm : GoMap T Nv) => i ≤ L.length ∧ (ids (L.take i)).Nodup ∧ MapG cm (gOf (L.take i))) (fun (i : Nat) (cm : GoMap T Nv) => L.length - i) (0) (GoMap.empty) (by repeat (first | exact Split.zero | apply Split.succ)) ?hinv1 (by repeat (first | exact Sub.nil | refine Sub.cons rfl (by first | rfl | (congr 1; omega) | assumption) ?_)) (fun w h => by
 have h3 := h.derive (q := parP GoMap.empty (gOf (L.take 0))) (fun _ _ id q hq => by simp at hq)
 exact (fun w h => OwnL.sat (by repeat (first | exact OwnL.refl | apply OwnL.take (by repeat (first | exact Take.head _ | apply Take.tail)) | apply OwnL.drop)) w (h.thin (SubL.mem (by repeat (first | exact SubL.refl | refine SubL.cons (by repeat (first | assumption | exact mS | apply mT)) ?_ | refine SubL.skip ?_))))) w h3) ?_
 case hinv1 =>
  exact ⟨Nat.zero_le _, List.nodup_nil, MapG.start⟩
 intro i cm
 rintro ⟨i1, i2, i3⟩
 refine WC.seq ?_
 refine WC.region ?_
 refine WL.rd rfl rfl rfl (Rd.lss rfl rfl rfl) ?_
 refine WL.nil ?_
 refine thenQ.normal ?_
 refine WC.seq ?_
 first | refine WC.ite rfl (fun hc1 => ?_) (fun hc1 => ?_) | refine WC.cond rfl (fun hc1 => ?_) (fun hc1 => ?_)
 ·
  have hiL : i < L.length := by omega
  have hn4 := n4 i hiL
  have hnm : L[i]! ∈ L := get!_mem hiL
  have hpl := h2 _ hnm
  have hsn := take_snoc' hiL
  refine WC.skip ?_
  refine thenQ.normal ?_
  refine WC.seq ?_
  refine WC.block ?_
  refine WC.seq ?_
  refine WC.region ?_
  refine WL.rd rfl rfl rfl (Rd.idx (enc := encN) (xs := nvs) (size := 3) (k := i) rfl S24 rfl rfl rfl (List.mem_cons_of_mem _ n1) (by omega)) ?_
  refine WL.rd rfl rfl rfl (Rd.getS (enc := encN) (size := 3) (xs := nvs) (k := i) (a := nvs[i]!) (cs := [vs L[i]!.1, slv nvs[i]!.2.1, vi L[i]!.2.2]) rfl G30 rfl (List.mem_cons_of_mem _ n1) (fun x => rfl) (get!_of_lt (by omega)) (by rw [← hn4.1, ← hn4.2]; exact NF.refl _)) ?_
  refine WL.op rfl ?_
  refine OpW.alloc rfl I30 rfl Z.N rfl rfl ?_; intro b6
  refine WL.op rfl ?_
  refine OpW.storeS rfl G30 rfl rfl Z.N Z.T rfl rfl Z.N rfl ?_
  refine WL.nil ?_
  refine thenQ.normal ?_
  refine WC.seq ?_
  refine WC.seq ?_
  refine WC.drawnA 13 rfl mixed ?_
  refine WD.take 0 rfl (by kernel_rfl) Held.all rfl rfl rfl ((by first | exact Rd.get rfl C32 rfl (by repeat (first | assumption | exact mS | apply mT)) (by first | assumption | rfl | exact get!_of_lt (by omega)) | exact Rd.getA rfl C32 rfl (by repeat (first | assumption | exact mS | apply mT)) (by first | assumption | rfl | exact get!_of_lt (by omega)) | exact Rd.row1 rfl C32 rfl (by repeat (first | assumption | exact mS | apply mT)) (by rfl) | exact Rd.getF rfl C32 rfl (by repeat (first | assumption | exact mS | apply mT)) (by intro x; first | rfl | (cases x; rfl) | (rcases x with ⟨_, _, _⟩; rfl) | (rcases x with ⟨_, _, _, _⟩; rfl)) rfl (by first | assumption | rfl | exact get!_of_lt (by omega)) (by rfl) | exact Rd.getFA rfl C32 rfl (by repeat (first | assumption | exact mS | apply mT)) (by intro x; first | rfl | (cases x; rfl) | (rcases x with ⟨_, _, _⟩; rfl) | (rcases x with ⟨_, _, _, _⟩; rfl)) rfl (by first | assumption | rfl | exact get!_of_lt (by omega)) (by rfl))) ?_
  refine WD.take 1 rfl (by kernel_rfl) Held.all rfl rfl rfl (Rd.nilc rfl rfl) ?_
  refine WD.take 2 rfl (by kernel_rfl) Held.all rfl rfl rfl ((by first | exact Rd.field rfl F59_0 rfl rfl | exact Rd.fieldE rfl F59_0 rfl (by repeat (first | assumption | exact mS | apply mT)) (by omega) | exact Rd.fieldA rfl F59_0 rfl (by repeat (first | assumption | exact mS | apply mT)) (by omega))) ?_
  refine WD.take 3 rfl (by kernel_rfl) Held.all rfl rfl rfl (Rd.row1 (b := b13) (off := 0) (u := .map (some b11)) rfl C57 rfl (by repeat (first | assumption | exact mS | apply mT)) rfl) ?_
  refine WD.take 4 rfl (by kernel_rfl) Held.all rfl rfl rfl ((by first | exact Rd.field rfl F30_0 rfl rfl | exact Rd.fieldE rfl F30_0 rfl (by repeat (first | assumption | exact mS | apply mT)) (by omega) | exact Rd.fieldA rfl F30_0 rfl (by repeat (first | assumption | exact mS | apply mT)) (by omega))) ?_
  refine WD.take 5 rfl (by kernel_rfl) Held.all rfl rfl rfl ((by first | exact Rd.get rfl C9 rfl (by repeat (first | assumption | exact mS | apply mT)) (by first | assumption | rfl | exact get!_of_lt (by omega)) | exact Rd.getA rfl C9 rfl (by repeat (first | assumption | exact mS | apply mT)) (by first | assumption | rfl | exact get!_of_lt (by omega)) | exact Rd.row1 rfl C9 rfl (by repeat (first | assumption | exact mS | apply mT)) (by rfl) | exact Rd.getF rfl C9 rfl (by repeat (first | assumption | exact mS | apply mT)) (by intro x; first | rfl | (cases x; rfl) | (rcases x with ⟨_, _, _⟩; rfl) | (rcases x with ⟨_, _, _, _⟩; rfl)) rfl (by first | assumption | rfl | exact get!_of_lt (by omega)) (by rfl) | exact Rd.getFA rfl C9 rfl (by repeat (first | assumption | exact mS | apply mT)) (by intro x; first | rfl | (cases x; rfl) | (rcases x with ⟨_, _, _⟩; rfl) | (rcases x with ⟨_, _, _, _⟩; rfl)) rfl (by first | assumption | rfl | exact get!_of_lt (by omega)) (by rfl))) ?_
  refine WD.take 6 rfl (by kernel_rfl) Held.all rfl rfl rfl (Rd.lookup2 (k := L[i]!.1) M57 K9 rfl rfl rfl (venc := ndV) (m := cm) (by repeat (first | assumption | exact mS | apply mT)) rfl) ?_
  refine WD.say 27 (u := .tuple #[.agg #[vs (lk cm L[i]!.1).1, slv (lk cm L[i]!.1).2.1, vi (lk cm L[i]!.1).2.2], .bool (decide (L[i]!.1 ∈ ids (L.take i)))]) rfl (by rw [show decide (L[i]!.1 ∈ ids (L.take i)) = (cm.get L[i]!.1).isSome from (i3.isSome _).symm, ← lk_v]; rfl) ?_
  refine WD.take 7 rfl (by kernel_rfl) Held.all rfl rfl rfl (Rd.move rfl rfl) ?_
  refine WD.take 8 rfl (by kernel_rfl) Held.all rfl rfl rfl (Rd.extract rfl rfl rfl) ?_
  refine WD.take 9 rfl (by kernel_rfl) Held.all rfl rfl rfl (Rd.extract rfl rfl rfl) ?_
  refine WD.one 10 rfl (by kernel_rfl) rfl ?_
  refine OpW.alloc rfl I30 rfl Z.N rfl rfl ?_; intro b7
  refine ⟨Z.H, ?_⟩
  refine WD.one 11 rfl (by kernel_rfl) rfl ?_
  refine OpW.storeS rfl G30 rfl rfl Z.N Z.T rfl rfl Z.N rfl ?_
  refine ⟨Z.H, ?_⟩
  refine WD.take 12 rfl (by kernel_rfl) Z.H rfl rfl rfl (Rd.assign rfl rfl) ?_
  refine WD.done (by kernel_rfl) ?_
  refine thenQ.normal ?_
  refine WC.seq ?_
  refine WC.region ?_
  refine WL.rd rfl rfl rfl (Rd.move rfl rfl) ?_
  refine WL.nil ?_
  refine thenQ.normal ?_
  first | refine WC.ite rfl (fun hc2 => ?_) (fun hc2 => ?_) | refine WC.cond rfl (fun hc2 => ?_) (fun hc2 => ?_)
  ·
   refine WC.seq ?_
   refine WC.region ?_
   refine WL.rd rfl rfl rfl (Rd.assign rfl rfl) ?_
   refine WL.rd rfl rfl rfl (Rd.assign rfl rfl) ?_
   refine WL.nil ?_
   refine thenQ.normal ?_
   refine WC.heap (R' := R) (O' := O) (fun w h => OwnL.sat (by repeat (first | exact OwnL.refl | apply OwnL.take (by repeat (first | exact Take.head _ | apply Take.tail)) | apply OwnL.drop)) w (h.thin (SubL.mem (by repeat (first | exact SubL.refl | refine SubL.cons (by repeat (first | assumption | exact mS | apply mT)) ?_ | refine SubL.skip ?_))))) ?_
   refine WC.ret (Ret.two Try.results11 rfl rfl ?_)
   exact hno 10 (.dup fun hnd => by
    have h3 : (ids (L.take (i + 1))).Nodup := hnd.sublist ((List.take_sublist _ _).map _)
    rw [hsn, show ids (L.take i ++ [L[i]!]) = ids (L.take i) ++ [L[i]!.1] from by simp [ids], List.nodup_append] at h3
    exact h3.2.2 _ hc2 _ (List.mem_singleton.2 rfl) rfl)
  ·
   refine WC.skip ?_
   refine thenQ.normal ?_
   refine WC.drawn (rowC b6 30 [vs L[i]!.1, slv nvs[i]!.2.1, vi L[i]!.2.2] :: rowC b13 59 [.map (some b11)] :: rowC b4 32 [.pointer (some ⟨b13, 0, none⟩)] :: O) 17 rfl mixed ?_
   refine WD.take 0 rfl (by kernel_rfl) Z.H rfl rfl rfl ((by first | exact Rd.get rfl C32 rfl (by repeat (first | assumption | exact mS | apply mT)) (by first | assumption | rfl | exact get!_of_lt (by omega)) | exact Rd.getA rfl C32 rfl (by repeat (first | assumption | exact mS | apply mT)) (by first | assumption | rfl | exact get!_of_lt (by omega)) | exact Rd.row1 rfl C32 rfl (by repeat (first | assumption | exact mS | apply mT)) (by rfl) | exact Rd.getF rfl C32 rfl (by repeat (first | assumption | exact mS | apply mT)) (by intro x; first | rfl | (cases x; rfl) | (rcases x with ⟨_, _, _⟩; rfl) | (rcases x with ⟨_, _, _, _⟩; rfl)) rfl (by first | assumption | rfl | exact get!_of_lt (by omega)) (by rfl) | exact Rd.getFA rfl C32 rfl (by repeat (first | assumption | exact mS | apply mT)) (by intro x; first | rfl | (cases x; rfl) | (rcases x with ⟨_, _, _⟩; rfl) | (rcases x with ⟨_, _, _, _⟩; rfl)) rfl (by first | assumption | rfl | exact get!_of_lt (by omega)) (by rfl))) ?_
   refine WD.take 1 rfl (by kernel_rfl) Z.H rfl rfl rfl (Rd.nilc rfl rfl) ?_
   refine WD.take 2 rfl (by kernel_rfl) Z.H rfl rfl rfl ((by first | exact Rd.field rfl F59_0 rfl rfl | exact Rd.fieldE rfl F59_0 rfl (by repeat (first | assumption | exact mS | apply mT)) (by omega) | exact Rd.fieldA rfl F59_0 rfl (by repeat (first | assumption | exact mS | apply mT)) (by omega))) ?_
   refine WD.take 3 rfl (by kernel_rfl) Z.H rfl rfl rfl (Rd.row1 (b := b13) (off := 0) (u := .map (some b11)) rfl C57 rfl (by repeat (first | assumption | exact mS | apply mT)) rfl) ?_
   refine WD.take 4 rfl (by kernel_rfl) Z.H rfl rfl rfl ((by first | exact Rd.field rfl F30_0 rfl rfl | exact Rd.fieldE rfl F30_0 rfl (by repeat (first | assumption | exact mS | apply mT)) (by omega) | exact Rd.fieldA rfl F30_0 rfl (by repeat (first | assumption | exact mS | apply mT)) (by omega))) ?_
   refine WD.take 5 rfl (by kernel_rfl) Z.H rfl rfl rfl ((by first | exact Rd.get rfl C9 rfl (by repeat (first | assumption | exact mS | apply mT)) (by first | assumption | rfl | exact get!_of_lt (by omega)) | exact Rd.getA rfl C9 rfl (by repeat (first | assumption | exact mS | apply mT)) (by first | assumption | rfl | exact get!_of_lt (by omega)) | exact Rd.row1 rfl C9 rfl (by repeat (first | assumption | exact mS | apply mT)) (by rfl) | exact Rd.getF rfl C9 rfl (by repeat (first | assumption | exact mS | apply mT)) (by intro x; first | rfl | (cases x; rfl) | (rcases x with ⟨_, _, _⟩; rfl) | (rcases x with ⟨_, _, _, _⟩; rfl)) rfl (by first | assumption | rfl | exact get!_of_lt (by omega)) (by rfl) | exact Rd.getFA rfl C9 rfl (by repeat (first | assumption | exact mS | apply mT)) (by intro x; first | rfl | (cases x; rfl) | (rcases x with ⟨_, _, _⟩; rfl) | (rcases x with ⟨_, _, _, _⟩; rfl)) rfl (by first | assumption | rfl | exact get!_of_lt (by omega)) (by rfl))) ?_
   refine WD.take 6 rfl (by kernel_rfl) Z.H rfl rfl rfl ((by first | exact Rd.field rfl F30_0 rfl rfl | exact Rd.fieldE rfl F30_0 rfl (by repeat (first | assumption | exact mS | apply mT)) (by omega) | exact Rd.fieldA rfl F30_0 rfl (by repeat (first | assumption | exact mS | apply mT)) (by omega))) ?_
   refine WD.take 7 rfl (by kernel_rfl) Z.H rfl rfl rfl ((by first | exact Rd.get rfl C9 rfl (by repeat (first | assumption | exact mS | apply mT)) (by first | assumption | rfl | exact get!_of_lt (by omega)) | exact Rd.getA rfl C9 rfl (by repeat (first | assumption | exact mS | apply mT)) (by first | assumption | rfl | exact get!_of_lt (by omega)) | exact Rd.row1 rfl C9 rfl (by repeat (first | assumption | exact mS | apply mT)) (by rfl) | exact Rd.getF rfl C9 rfl (by repeat (first | assumption | exact mS | apply mT)) (by intro x; first | rfl | (cases x; rfl) | (rcases x with ⟨_, _, _⟩; rfl) | (rcases x with ⟨_, _, _, _⟩; rfl)) rfl (by first | assumption | rfl | exact get!_of_lt (by omega)) (by rfl) | exact Rd.getFA rfl C9 rfl (by repeat (first | assumption | exact mS | apply mT)) (by intro x; first | rfl | (cases x; rfl) | (rcases x with ⟨_, _, _⟩; rfl) | (rcases x with ⟨_, _, _, _⟩; rfl)) rfl (by first | assumption | rfl | exact get!_of_lt (by omega)) (by rfl))) ?_
   refine WD.take 8 rfl (by kernel_rfl) Z.H rfl rfl rfl ((by first | exact Rd.field rfl F30_1 rfl rfl | exact Rd.fieldE rfl F30_1 rfl (by repeat (first | assumption | exact mS | apply mT)) (by omega) | exact Rd.fieldA rfl F30_1 rfl (by repeat (first | assumption | exact mS | apply mT)) (by omega))) ?_
   refine WD.take 9 rfl (by kernel_rfl) Z.H rfl rfl rfl ((by first | exact Rd.get rfl C28 rfl (by repeat (first | assumption | exact mS | apply mT)) (by first | assumption | rfl | exact get!_of_lt (by omega)) | exact Rd.getA rfl C28 rfl (by repeat (first | assumption | exact mS | apply mT)) (by first | assumption | rfl | exact get!_of_lt (by omega)) | exact Rd.row1 rfl C28 rfl (by repeat (first | assumption | exact mS | apply mT)) (by rfl) | exact Rd.getF rfl C28 rfl (by repeat (first | assumption | exact mS | apply mT)) (by intro x; first | rfl | (cases x; rfl) | (rcases x with ⟨_, _, _⟩; rfl) | (rcases x with ⟨_, _, _, _⟩; rfl)) rfl (by first | assumption | rfl | exact get!_of_lt (by omega)) (by rfl) | exact Rd.getFA rfl C28 rfl (by repeat (first | assumption | exact mS | apply mT)) (by intro x; first | rfl | (cases x; rfl) | (rcases x with ⟨_, _, _⟩; rfl) | (rcases x with ⟨_, _, _, _⟩; rfl)) rfl (by first | assumption | rfl | exact get!_of_lt (by omega)) (by rfl))) ?_
   refine WD.heap (fun w h => h.weaken (p := ndsP nvs L) (q := SlE (SL.one vs) (slv nvs[i]!.2.1) L[i]!.2.1) (List.mem_cons_of_mem _ n2) (fun w hw => hw i hiL)) ?_
   refine WD.take 13 rfl (by kernel_rfl) Z.H rfl rfl rfl ((by first | exact Rd.field rfl F30_2 rfl rfl | exact Rd.fieldE rfl F30_2 rfl (by repeat (first | assumption | exact mS | apply mT)) (by omega) | exact Rd.fieldA rfl F30_2 rfl (by repeat (first | assumption | exact mS | apply mT)) (by omega))) ?_
   refine WD.take 14 rfl (by kernel_rfl) Z.H rfl rfl rfl ((by first | exact Rd.get rfl C3 rfl (by repeat (first | assumption | exact mS | apply mT)) (by first | assumption | rfl | exact get!_of_lt (by omega)) | exact Rd.getA rfl C3 rfl (by repeat (first | assumption | exact mS | apply mT)) (by first | assumption | rfl | exact get!_of_lt (by omega)) | exact Rd.row1 rfl C3 rfl (by repeat (first | assumption | exact mS | apply mT)) (by rfl) | exact Rd.getF rfl C3 rfl (by repeat (first | assumption | exact mS | apply mT)) (by intro x; first | rfl | (cases x; rfl) | (rcases x with ⟨_, _, _⟩; rfl) | (rcases x with ⟨_, _, _, _⟩; rfl)) rfl (by first | assumption | rfl | exact get!_of_lt (by omega)) (by rfl) | exact Rd.getFA rfl C3 rfl (by repeat (first | assumption | exact mS | apply mT)) (by intro x; first | rfl | (cases x; rfl) | (rcases x with ⟨_, _, _⟩; rfl) | (rcases x with ⟨_, _, _, _⟩; rfl)) rfl (by first | assumption | rfl | exact get!_of_lt (by omega)) (by rfl))) ?_
   refine WD.one 10 rfl (by kernel_rfl) rfl ?_
   refine OpW.call rfl rfl (by repeat (first | exact Evs.nil | apply Evs.cons rfl)) (by kernel_rfl) rfl rfl rfl ?_
   refine values_spec ⟨rfl, rfl⟩ ?_; intro bv
   refine ⟨Z.H, ?_⟩
   refine WD.one 11 rfl (by kernel_rfl) rfl ?_
   refine OpW.call rfl rfl (by repeat (first | exact Evs.nil | apply Evs.cons rfl)) (by kernel_rfl) rfl rfl rfl ?_
   refine sorted_it (values_it (xs := L[i]!.2.1) (b := bv) (v := slv nvs[i]!.2.1) List.mem_cons_self (by omega)) (by kernel_rfl) (by omega) (fun xs hx => by rw [hx]; omega) (fun c hc => by rw [List.mem_singleton.1 hc]; exact List.mem_cons_self) ?_; rintro v42 xs rfl
   refine ⟨Z.H, ?_⟩
   refine WD.one 12 rfl (by kernel_rfl) rfl ?_
   refine OpW.call rfl rfl (by repeat (first | exact Evs.nil | apply Evs.cons rfl)) (by kernel_rfl) rfl rfl rfl ?_
   refine compact_spec (xs := srt L[i]!.2.1) (by rw [(srt_perm _).length_eq]; omega) ?_; intro d43
   refine ⟨Z.H, ?_⟩
   refine WD.take 15 rfl (by kernel_rfl) Z.H rfl rfl rfl (Rd.buildN (ps := [(0, _), (1, _), (2, _)]) rfl Bs30 I30 rfl (by repeat (first | exact Evs.nil | apply Evs.cons rfl)) (by repeat (first | exact CellsOf.nil | apply CellsOf.cons rfl)) (by apply NFo.mk; repeat (first | exact NF.nil | apply NF.cons))) ?_
   refine WD.one 16 rfl (by kernel_rfl) rfl ?_
   refine OpW.mapUpdate (k := L[i]!.1) (v := (L[i]!.1, d43, L[i]!.2.2)) M57 K9 rfl rfl rfl rfl Z.T rfl rfl rfl ?_
   refine ⟨Z.H, ?_⟩
   refine WD.done (by kernel_rfl) ?_
   refine blockQ.normal ?_
   refine thenQ.normal ?_
   refine WC.region ?_
   refine WL.rd rfl rfl rfl (Rd.add rfl rfl rfl (by omega)) ?_
   refine WL.rd rfl rfl rfl (Rd.move rfl rfl) ?_
   refine WL.nil ?_
   exact loopQ2.mk (i + 1) (cm.set L[i]!.1 (L[i]!.1, d43, L[i]!.2.2)) ⟨by omega, by
   rw [hsn, show ids (L.take i ++ [L[i]!]) = ids (L.take i) ++ [L[i]!.1] from by simp [ids], List.nodup_append]
   exact ⟨i2, by simp, fun a ha b hb => by rw [List.mem_singleton.1 hb]; rintro rfl; exact hc2 ha⟩, by rw [hsn]; exact i3.next hc2 rfl rfl⟩ (by omega) (by repeat (first | exact Sub.nil | refine Sub.cons rfl (by first | rfl | (congr 1; omega) | assumption) ?_)) (fun w h => by
    have h3 := h.derive (q := parP (cm.set L[i]!.1 (L[i]!.1, d43, L[i]!.2.2)) (gOf (L.take (i + 1)))) (fun w hw => by rw [hsn]; exact parP_next i3 hc2 (hw _ (by repeat (first | assumption | exact mS | apply mT))) (hw (SlE (SL.one vs) (slv d43) (cs L[i]!.2.1)) List.mem_cons_self))
    exact (fun w h => OwnL.sat (by repeat (first | exact OwnL.refl | apply OwnL.take (by repeat (first | exact Take.head _ | apply Take.tail)) | apply OwnL.drop)) w (h.thin (SubL.mem (by repeat (first | exact SubL.refl | refine SubL.cons (by repeat (first | assumption | exact mS | apply mT)) ?_ | refine SubL.skip ?_))))) w h3)
 ·
  obtain rfl : i = L.length := by omega
  rw [List.take_length] at i2 i3
  refine WC.heap (R' := garr b13 [.map (some b11)] :: mapP vs ndV b11 cm :: parP cm (gOf L) :: R) (O' := rowC b4 32 [.pointer (some ⟨b13, 0, none⟩)] :: O) (fun w h => by
   rw [List.take_length] at h
   have h3 := Sat.shareM (m := cm) Z.T h
   exact Sat.shareG Z.T h3) ?_
  have hG : GV (.pointer (some ⟨b13, 0, none⟩)) (gOf L) (garr b13 [.map (some b11)] :: mapP vs ndV b11 cm :: parP cm (gOf L) :: R) := .some b13 b11 cm rfl List.mem_cons_self (by simp) (by simp) i3
  refine WC.exit ?_
  refine thenQ.exit ?_
  refine loopQ2.exit ?_
  refine blockQ.exit ?_
  refine thenQ.normal ?_
  refine WC.seq ?_
  refine WC.seq ?_
  refine WC.region ?_
  refine WL.rd rfl rfl rfl ((by first | exact Rd.get rfl C32 rfl (by repeat (first | assumption | exact mS | apply mT)) (by first | assumption | rfl | exact get!_of_lt (by omega)) | exact Rd.getA rfl C32 rfl (by repeat (first | assumption | exact mS | apply mT)) (by first | assumption | rfl | exact get!_of_lt (by omega)) | exact Rd.row1 rfl C32 rfl (by repeat (first | assumption | exact mS | apply mT)) (by rfl) | exact Rd.getF rfl C32 rfl (by repeat (first | assumption | exact mS | apply mT)) (by intro x; first | rfl | (cases x; rfl) | (rcases x with ⟨_, _, _⟩; rfl) | (rcases x with ⟨_, _, _, _⟩; rfl)) rfl (by first | assumption | rfl | exact get!_of_lt (by omega)) (by rfl) | exact Rd.getFA rfl C32 rfl (by repeat (first | assumption | exact mS | apply mT)) (by intro x; first | rfl | (cases x; rfl) | (rcases x with ⟨_, _, _⟩; rfl) | (rcases x with ⟨_, _, _, _⟩; rfl)) rfl (by first | assumption | rfl | exact get!_of_lt (by omega)) (by rfl))) ?_
  refine WL.rd rfl rfl rfl (Rd.nilc rfl rfl) ?_
  refine WL.rd rfl rfl rfl ((by first | exact Rd.field rfl F59_0 rfl rfl | exact Rd.fieldE rfl F59_0 rfl (by repeat (first | assumption | exact mS | apply mT)) (by omega) | exact Rd.fieldA rfl F59_0 rfl (by repeat (first | assumption | exact mS | apply mT)) (by omega))) ?_
  refine WL.rd rfl rfl rfl (Rd.getGl rfl C57 rfl (by repeat (first | assumption | exact mS | apply mT)) rfl) ?_
  refine WL.op rfl ?_
  refine OpW.rangeM (kenc := vs) (venc := ndV) (m := cm) M57 rfl rfl (by repeat (first | assumption | exact mS | apply mT)) rfl rfl ?_; intro it
  refine WL.nil ?_
  refine thenQ.normal ?_
  refine WC.block ?_
  refine WC.pick [4, 52] (by repeat (first | exact Pick.nil | apply Pick.cons rfl)) ?_
  refine WC.loop2 0 (fun (xs : List T) (seen : List Nat) => []) (fun (xs : List T) (seen : List Nat) => iterC it b11 cm.clock seen :: rowC b4 32 [.pointer (some ⟨b13, 0, none⟩)] :: O) (fun (xs : List T) (seen : List Nat) => Came cm xs seen ∧ ∀ x ∈ xs, ∀ p ∈ (gOf L).pars x, p ∈ (gOf L).ks) (fun (xs : List T) (seen : List Nat) => cm.l.length - xs.length) ([]) ([]) (by repeat (first | exact Split.zero | apply Split.succ)) ?hinv2 (by repeat (first | exact Sub.nil | refine Sub.cons rfl (by first | rfl | (congr 1; omega) | assumption) ?_)) (fun _ h => h) ?_
  case hinv2 =>
   exact ⟨Came.start cm, fun x hx => (by cases hx)⟩
  intro xs seen
  rintro ⟨j1, j2⟩
  refine WC.seq ?_
  refine WC.region ?_
  refine WL.op rfl ?_
  refine OpW.nextM (kenc := vs) (venc := ndV) (m := cm) (seen := seen) rfl rfl (by repeat (first | assumption | exact mS | apply mT)) Z.T rfl rfl ?_; intro r hr
  refine WL.rd rfl rfl rfl (Rd.stepOn rfl rfl) ?_
  refine WL.nil ?_
  refine thenQ.normal ?_
  refine WC.seq ?_
  first | refine WC.ite rfl (fun hc3 => ?_) (fun hc3 => ?_) | refine WC.cond rfl (fun hc3 => ?_) (fun hc3 => ?_)
  ·
   obtain ⟨x, rfl⟩ := Option.isSome_iff_exists.1 hc3
   have hq : cm.get x.1 = some x.2.1 := GoMap.get_iff.2 ⟨x.2.2, hr.1⟩
   have hxk : x.1 ∈ (gOf L).ks := (i3.keys x.1).2 ⟨_, hq⟩
   have hpl := hS.p x.1
   have hlt := j1.lt hr.1 hr.2
   refine WC.skip ?_
   refine thenQ.normal ?_
   refine WC.block ?_
   refine WC.seq ?_
   refine WC.region ?_
   refine WL.op rfl ?_
   refine OpW.rd rfl rfl (Rd.entryM (kenc := vs) (venc := ndV) (m := cm) (q := x) (seen := seen) rfl rfl (by repeat (first | assumption | exact mS | apply mT)) (by repeat (first | assumption | exact mS | apply mT)) hr.1 rfl) ?_
   refine WL.heap (fun w h => h.weaken (p := parP cm (gOf L)) (q := SlE (SL.one vs) (slv x.2.1.2.1) ((gOf L).pars x.1)) (by repeat (first | assumption | exact mS | apply mT)) (fun w hw => hw _ _ hq)) ?_
   refine WL.rd rfl rfl rfl (Rd.extract rfl rfl rfl) ?_
   refine WL.say 56 (u := .agg #[vs x.2.1.1, slv x.2.1.2.1, vi x.2.1.2.2]) rfl rfl ?_
   refine WL.op rfl ?_
   refine OpW.alloc rfl I30 rfl Z.N rfl rfl ?_; intro b10
   refine WL.op rfl ?_
   refine OpW.storeS rfl G30 rfl rfl Z.N Z.T rfl rfl Z.N rfl ?_
   refine WL.nil ?_
   refine thenQ.normal ?_
   refine WC.seq ?_
   refine WC.region ?_
   refine WL.rd rfl rfl rfl ((by first | exact Rd.field rfl F30_1 rfl rfl | exact Rd.fieldE rfl F30_1 rfl (by repeat (first | assumption | exact mS | apply mT)) (by omega) | exact Rd.fieldA rfl F30_1 rfl (by repeat (first | assumption | exact mS | apply mT)) (by omega))) ?_
   refine WL.rd rfl rfl rfl ((by first | exact Rd.get rfl C28 rfl (by repeat (first | assumption | exact mS | apply mT)) (by first | assumption | rfl | exact get!_of_lt (by omega)) | exact Rd.getA rfl C28 rfl (by repeat (first | assumption | exact mS | apply mT)) (by first | assumption | rfl | exact get!_of_lt (by omega)) | exact Rd.row1 rfl C28 rfl (by repeat (first | assumption | exact mS | apply mT)) (by rfl) | exact Rd.getF rfl C28 rfl (by repeat (first | assumption | exact mS | apply mT)) (by intro x; first | rfl | (cases x; rfl) | (rcases x with ⟨_, _, _⟩; rfl) | (rcases x with ⟨_, _, _, _⟩; rfl)) rfl (by first | assumption | rfl | exact get!_of_lt (by omega)) (by rfl) | exact Rd.getFA rfl C28 rfl (by repeat (first | assumption | exact mS | apply mT)) (by intro x; first | rfl | (cases x; rfl) | (rcases x with ⟨_, _, _⟩; rfl) | (rcases x with ⟨_, _, _, _⟩; rfl)) rfl (by first | assumption | rfl | exact get!_of_lt (by omega)) (by rfl))) ?_
   refine WL.rd rfl rfl rfl (Rd.func rfl (by repeat (first | exact Evs.nil | apply Evs.cons rfl)) (by repeat (first | exact Evs.nil | apply Evs.cons rfl)) ⟨_, rfl⟩) ?_
   refine WL.op rfl ?_
   refine OpW.call rfl rfl (by repeat (first | exact Evs.nil | apply Evs.cons rfl)) (by kernel_rfl) rfl rfl rfl ?_
   refine contains_spec (b := b4) (xs := (gOf L).pars x.1) (hG.mono fun p hp => List.mem_cons_of_mem _ hp) (by repeat (first | assumption | exact mS | apply mT)) List.mem_cons_self (by omega) ?_
   refine WL.nil ?_
   refine thenQ.normal ?_
   first | refine WC.ite rfl (fun hc4 => ?_) (fun hc4 => ?_) | refine WC.cond rfl (fun hc4 => ?_) (fun hc4 => ?_)
   ·
    refine WC.seq ?_
    refine WC.region ?_
    refine WL.rd rfl rfl rfl (Rd.assign rfl rfl) ?_
    refine WL.rd rfl rfl rfl (Rd.assign rfl rfl) ?_
    refine WL.nil ?_
    refine thenQ.normal ?_
    refine WC.heap (R' := R) (O' := O) (fun w h => OwnL.sat (by repeat (first | exact OwnL.refl | apply OwnL.take (by repeat (first | exact Take.head _ | apply Take.tail)) | apply OwnL.drop)) w (h.thin (SubL.mem (by repeat (first | exact SubL.refl | refine SubL.cons (by repeat (first | assumption | exact mS | apply mT)) ?_ | refine SubL.skip ?_))))) ?_
    refine WC.ret (Ret.two Try.results11 rfl rfl ?_)
    obtain ⟨p, hp, hpn⟩ := hc4
    exact hno 9 (.lost i2 fun hcl => hpn (hcl x.1 hxk p hp))
   ·
    refine WC.skip ?_
    refine blockQ.normal ?_
    exact loopQ2.mk (xs ++ [x.1]) (seen ++ [x.2.2]) ⟨j1.step hr.1 hr.2, fun y hy p hp => by
    rcases List.mem_append.1 hy with g | g
    ·
     exact j2 y g p hp
    ·
     rw [List.mem_singleton.1 g] at hp
     exact Decidable.byContradiction fun g2 => hc4 ⟨p, hp, g2⟩⟩ (by rw [List.length_append, List.length_singleton]; omega) (by repeat (first | exact Sub.nil | refine Sub.cons rfl (by first | rfl | (congr 1; omega) | assumption) ?_)) (fun w h => OwnL.sat (by repeat (first | exact OwnL.refl | apply OwnL.take (by repeat (first | exact Take.head _ | apply Take.tail)) | apply OwnL.drop)) w (h.thin (SubL.mem (by repeat (first | exact SubL.refl | refine SubL.cons (by repeat (first | assumption | exact mS | apply mT)) ?_ | refine SubL.skip ?_)))))
  ·
   obtain rfl : r = none := by
    cases r with
    | some x => exact absurd rfl hc3
    | none => rfl
   have hall := j1.all hr
   have hcl : Closed (gOf L) := fun x hx p hp => j2 x (hall.mem_iff.2 (GoMap.mem_ks.2 ((i3.keys x).1 hx))) p hp
   have hkl := i3.len
   have hn := hS.n
   refine WC.exit ?_
   refine thenQ.exit ?_
   refine loopQ2.exit ?_
   refine blockQ.exit ?_
   refine thenQ.normal ?_
   refine WC.seq ?_
   refine WC.seq ?_
   refine WC.drawnA 15 rfl mixed ?_
   refine WD.take 0 rfl (by kernel_rfl) Held.all rfl rfl rfl ((by first | exact Rd.get rfl C32 rfl (by repeat (first | assumption | exact mS | apply mT)) (by first | assumption | rfl | exact get!_of_lt (by omega)) | exact Rd.getA rfl C32 rfl (by repeat (first | assumption | exact mS | apply mT)) (by first | assumption | rfl | exact get!_of_lt (by omega)) | exact Rd.row1 rfl C32 rfl (by repeat (first | assumption | exact mS | apply mT)) (by rfl) | exact Rd.getF rfl C32 rfl (by repeat (first | assumption | exact mS | apply mT)) (by intro x; first | rfl | (cases x; rfl) | (rcases x with ⟨_, _, _⟩; rfl) | (rcases x with ⟨_, _, _, _⟩; rfl)) rfl (by first | assumption | rfl | exact get!_of_lt (by omega)) (by rfl) | exact Rd.getFA rfl C32 rfl (by repeat (first | assumption | exact mS | apply mT)) (by intro x; first | rfl | (cases x; rfl) | (rcases x with ⟨_, _, _⟩; rfl) | (rcases x with ⟨_, _, _, _⟩; rfl)) rfl (by first | assumption | rfl | exact get!_of_lt (by omega)) (by rfl))) ?_
   refine WD.take 1 rfl (by kernel_rfl) Held.all rfl rfl rfl ((by first | exact Rd.get rfl C32 rfl (by repeat (first | assumption | exact mS | apply mT)) (by first | assumption | rfl | exact get!_of_lt (by omega)) | exact Rd.getA rfl C32 rfl (by repeat (first | assumption | exact mS | apply mT)) (by first | assumption | rfl | exact get!_of_lt (by omega)) | exact Rd.row1 rfl C32 rfl (by repeat (first | assumption | exact mS | apply mT)) (by rfl) | exact Rd.getF rfl C32 rfl (by repeat (first | assumption | exact mS | apply mT)) (by intro x; first | rfl | (cases x; rfl) | (rcases x with ⟨_, _, _⟩; rfl) | (rcases x with ⟨_, _, _, _⟩; rfl)) rfl (by first | assumption | rfl | exact get!_of_lt (by omega)) (by rfl) | exact Rd.getFA rfl C32 rfl (by repeat (first | assumption | exact mS | apply mT)) (by intro x; first | rfl | (cases x; rfl) | (rcases x with ⟨_, _, _⟩; rfl) | (rcases x with ⟨_, _, _, _⟩; rfl)) rfl (by first | assumption | rfl | exact get!_of_lt (by omega)) (by rfl))) ?_
   refine WD.take 2 rfl (by kernel_rfl) Held.all rfl rfl rfl (Rd.nilc rfl rfl) ?_
   refine WD.take 3 rfl (by kernel_rfl) Held.all rfl rfl rfl ((by first | exact Rd.field rfl F59_0 rfl rfl | exact Rd.fieldE rfl F59_0 rfl (by repeat (first | assumption | exact mS | apply mT)) (by omega) | exact Rd.fieldA rfl F59_0 rfl (by repeat (first | assumption | exact mS | apply mT)) (by omega))) ?_
   refine WD.take 4 rfl (by kernel_rfl) Held.all rfl rfl rfl (Rd.getGl rfl C57 rfl (by repeat (first | assumption | exact mS | apply mT)) rfl) ?_
   refine WD.take 9 rfl (by kernel_rfl) Held.all rfl rfl rfl ((by first | exact Rd.get rfl C32 rfl (by repeat (first | assumption | exact mS | apply mT)) (by first | assumption | rfl | exact get!_of_lt (by omega)) | exact Rd.getA rfl C32 rfl (by repeat (first | assumption | exact mS | apply mT)) (by first | assumption | rfl | exact get!_of_lt (by omega)) | exact Rd.row1 rfl C32 rfl (by repeat (first | assumption | exact mS | apply mT)) (by rfl) | exact Rd.getF rfl C32 rfl (by repeat (first | assumption | exact mS | apply mT)) (by intro x; first | rfl | (cases x; rfl) | (rcases x with ⟨_, _, _⟩; rfl) | (rcases x with ⟨_, _, _, _⟩; rfl)) rfl (by first | assumption | rfl | exact get!_of_lt (by omega)) (by rfl) | exact Rd.getFA rfl C32 rfl (by repeat (first | assumption | exact mS | apply mT)) (by intro x; first | rfl | (cases x; rfl) | (rcases x with ⟨_, _, _⟩; rfl) | (rcases x with ⟨_, _, _, _⟩; rfl)) rfl (by first | assumption | rfl | exact get!_of_lt (by omega)) (by rfl))) ?_
   refine WD.take 10 rfl (by kernel_rfl) Held.all rfl rfl rfl (Rd.nilc rfl rfl) ?_
   refine WD.take 11 rfl (by kernel_rfl) Held.all rfl rfl rfl ((by first | exact Rd.field rfl F59_0 rfl rfl | exact Rd.fieldE rfl F59_0 rfl (by repeat (first | assumption | exact mS | apply mT)) (by omega) | exact Rd.fieldA rfl F59_0 rfl (by repeat (first | assumption | exact mS | apply mT)) (by omega))) ?_
   refine WD.take 12 rfl (by kernel_rfl) Held.all rfl rfl rfl (Rd.getGl rfl C57 rfl (by repeat (first | assumption | exact mS | apply mT)) rfl) ?_
   refine WD.one 5 rfl (by kernel_rfl) rfl ?_
   refine OpW.call rfl rfl (by repeat (first | exact Evs.nil | apply Evs.cons rfl)) (by kernel_rfl) rfl rfl rfl ?_
   refine keysN_spec ?_; intro cb
   refine ⟨Z.H, ?_⟩
   refine WD.one 6 rfl (by kernel_rfl) rfl ?_
   refine OpW.call rfl rfl (by repeat (first | exact Evs.nil | apply Evs.cons rfl)) (by kernel_rfl) rfl rfl rfl ?_
   refine collect_it (keysN_it (m := cm) (b := b11) (by repeat (first | assumption | exact mS | apply mT))) (by kernel_rfl) (by omega) (fun c hc => by rw [List.mem_singleton.1 hc]; exact List.mem_cons_self) ?_
   intro v67 fs hfs
   have hfl := hfs.length_eq
   simp only [GoMap.ks, List.length_map] at hfl
   have hfk : ∀ x, x ∈ fs ↔ x ∈ (gOf L).ks := fun x => by rw [hfs.mem_iff, GoMap.mem_ks]; exact (i3.keys x).symm
   refine ⟨Z.H, ?_⟩
   refine WD.heap (fun w h => Sat.shareA (xs := fs) Z.T h) ?_
   refine WD.one 7 rfl (by kernel_rfl) rfl ?_
   refine OpW.call rfl rfl (by repeat (first | exact Evs.nil | apply Evs.cons rfl)) (by kernel_rfl) rfl rfl rfl ?_
   refine log_spec (fs := fs) (hG.mono fun p hp => List.mem_cons_of_mem _ hp) hcl hS List.mem_cons_self (by omega) ?_; intro v68 out hout
   refine ⟨Z.H, ?_⟩
   refine WD.take 13 rfl (by kernel_rfl) Z.H rfl rfl rfl (Rd.lenMR (kenc := vs) (venc := ndV) (m := cm) M57 rfl rfl (by repeat (first | assumption | exact mS | apply mT))) ?_
   refine WD.one 8 rfl (by kernel_rfl) rfl ?_
   refine OpW.rd rfl rfl (Rd.lenA (enc := SL.one vs) (xs := out) rfl rfl Try.underlying28 (by repeat (first | assumption | exact mS | apply mT))) ?_
   refine ⟨Z.H, ?_⟩
   refine WD.take 14 rfl (by kernel_rfl) Z.H rfl rfl rfl (Rd.lss rfl rfl rfl) ?_
   refine WD.done (by kernel_rfl) ?_
   refine thenQ.normal ?_
   first | refine WC.ite rfl (fun hc5 => ?_) (fun hc5 => ?_) | refine WC.cond rfl (fun hc5 => ?_) (fun hc5 => ?_)
   ·
    have hA : ∀ x, Come (gOf L) fs x → x ∈ (gOf L).ks := fun x h => h.mem hcl
    obtain ⟨z, hz⟩ : ∃ z, Cyc (gOf L) z := Classical.byContradiction fun hno' => by
     have hall2 := kahn_all hA (fun z hz => hno' ⟨z, hz⟩) (hout.inv (J := fun _ => True) (fun _ _ _ _ => trivial) trivial).2
     have := nodup_len' (l := (gOf L).ks) i2 (l' := out) (fun x hx => hall2 x ⟨x, (hfk x).2 hx, hx, .refl _⟩)
     omega
    refine WC.seq ?_
    refine WC.region ?_
    refine WL.rd rfl rfl rfl (Rd.assign rfl rfl) ?_
    refine WL.rd rfl rfl rfl (Rd.assign rfl rfl) ?_
    refine WL.nil ?_
    refine thenQ.normal ?_
    refine WC.heap (R' := R) (O' := O) (fun w h => OwnL.sat (by repeat (first | exact OwnL.refl | apply OwnL.take (by repeat (first | exact Take.head _ | apply Take.tail)) | apply OwnL.drop)) w (h.thin (SubL.mem (by repeat (first | exact SubL.refl | refine SubL.cons (by repeat (first | assumption | exact mS | apply mT)) ?_ | refine SubL.skip ?_))))) ?_
    refine WC.ret (Ret.two Try.results11 rfl rfl ?_)
    exact hno 12 (.round i2 hcl z hz)
   ·
    have hnocyc : ∀ z, ¬ Cyc (gOf L) z := fun z hz => by
     have h3 := kahn_cyc (fun x y hx hp => hx.path hp) hout hz
     have h4 := hout.nodup
     have h5 : (z :: out).Nodup := List.nodup_cons.2 ⟨h3, h4.1⟩
     have := nodup_len' h5 (l' := (gOf L).ks) (fun y hy => by
      rcases List.mem_cons.1 hy with rfl | hy
      ·
       exact hz.1
      ·
       exact (h4.2 y hy).mem hcl)
     rw [List.length_cons] at this
     omega
    refine WC.heap (R' := garr b13 [.map (some b11)] :: mapP vs ndV b11 cm :: parP cm (gOf L) :: R) (O' := rowC b4 32 [.pointer (some ⟨b13, 0, none⟩)] :: O) (fun w h => OwnL.sat (by repeat (first | exact OwnL.refl | apply OwnL.take (by repeat (first | exact Take.head _ | apply Take.tail)) | apply OwnL.drop)) w (h.thin (SubL.mem (by repeat (first | exact SubL.refl | refine SubL.cons (by repeat (first | assumption | exact mS | apply mT)) ?_ | refine SubL.skip ?_))))) ?_
    refine WC.skip ?_
    refine thenQ.normal ?_
    refine WC.seq ?_
    refine WC.region ?_
    refine WL.rd rfl rfl rfl ((by first | exact Rd.get rfl C32 rfl (by repeat (first | assumption | exact mS | apply mT)) (by first | assumption | rfl | exact get!_of_lt (by omega)) | exact Rd.getA rfl C32 rfl (by repeat (first | assumption | exact mS | apply mT)) (by first | assumption | rfl | exact get!_of_lt (by omega)) | exact Rd.row1 rfl C32 rfl (by repeat (first | assumption | exact mS | apply mT)) (by rfl) | exact Rd.getF rfl C32 rfl (by repeat (first | assumption | exact mS | apply mT)) (by intro x; first | rfl | (cases x; rfl) | (rcases x with ⟨_, _, _⟩; rfl) | (rcases x with ⟨_, _, _, _⟩; rfl)) rfl (by first | assumption | rfl | exact get!_of_lt (by omega)) (by rfl) | exact Rd.getFA rfl C32 rfl (by repeat (first | assumption | exact mS | apply mT)) (by intro x; first | rfl | (cases x; rfl) | (rcases x with ⟨_, _, _⟩; rfl) | (rcases x with ⟨_, _, _, _⟩; rfl)) rfl (by first | assumption | rfl | exact get!_of_lt (by omega)) (by rfl))) ?_
    refine WL.rd rfl rfl rfl (Rd.assign rfl rfl) ?_
    refine WL.rd rfl rfl rfl (Rd.assign rfl rfl) ?_
    refine WL.nil ?_
    refine thenQ.normal ?_
    refine WC.heap (R' := garr b13 [.map (some b11)] :: mapP vs ndV b11 cm :: parP cm (gOf L) :: R) (O' := O) (fun w h => OwnL.sat (by repeat (first | exact OwnL.refl | apply OwnL.take (by repeat (first | exact Take.head _ | apply Take.tail)) | apply OwnL.drop)) w (h.thin (SubL.mem (by repeat (first | exact SubL.refl | refine SubL.cons (by repeat (first | assumption | exact mS | apply mT)) ?_ | refine SubL.skip ?_))))) ?_
    refine WC.ret (Ret.two Try.results11 rfl rfl ?_)
    exact hk _ _ _ _ i2 hcl hnocyc ⟨rfl, rfl⟩ (by simp) hG
end
end Go.Proofs.Ytfenbhaehkkkeaa
