/-
  Part 3 of the texts that the law TopAgreed is proved with: Kd6, Kd9, Kd11, Ag1, Rf, Srt, Shelf, Gr1, Gr2, Ato, Inv, Hp1, Wde, Gr3, Gr4, Gr5, Rno. No premise.
-/
import Derived.Test.YtnjfgcpmcjmddaaGreatDoorZ2
import Derived.RangeFuncIn
import Derived.RangeFuncRecord
import Derived.RangeFuncSeq
import Derived.TacticsIn
import Derived.OrdersIn
import Derived.Sort.Row
import Derived.Sort.Grow
import Derived.Sort.KeysCollected
import Derived.Lib.SlicesCompact
import Derived.Shelf.Strings.Builder1
import Derived.Shelf.Strings.Builder2
import Derived.Shelf.Strings.OnBuilder
import Derived.Shelf.Small.Bits
import Derived.Shelf.Small.Strs
import Derived.Shelf.Strings.BuilderF
import Derived.Shelf.Utf8.RuneCount
import Derived.Shelf.Strconv.Itoa0
import Derived.Shelf.Strconv.Itoa1
import Derived.Shelf.LaysM
import Derived.Shelf.Strconv.Itoa2
import Derived.Shelf.Strconv.Itoa3
import Derived.Shelf.Strings.Search1
import Derived.Shelf.Strings.Search2
import Derived.Shelf.Strings.Search3
import Derived.Shelf.Strings.Cut
import Derived.Shelf.Strings.Count
import Derived.Shelf.Strings.Shaped
import Derived.Shelf.Sort.Plain
import Derived.Shelf.GgClosure.StringsIndexFunc
import Derived.Ground.GgwProg
import Derived.Shelf.GgClosure.StringsIndexFuncTop
import Derived.Shelf.GgClosure.StringsRunes
import Derived.Shelf.Strings.Prefix
import Derived.Shelf.Strings.Split
import Derived.Shelf.Strings.SplitShaped
import Derived.Shelf.Unicode.Decode
import Derived.Shelf.Strings.RuneCount
import Derived.Shelf.Strings.Explode
import Derived.Shelf.Bits.Mul64
import Derived.Shelf.Strings.Repeat
import Derived.Shelf.Unicode.DecodeSlow
import Derived.Shelf.Unicode.DecodeAny
import Derived.Shelf.Slices.Turned
import Derived.Ground.Names2Prog
import Derived.Shelf.Slices.Clone
import Derived.Shelf.Slices.CompactS
import Derived.Shelf.Slices.SearchI
import Derived.Shelf.Slices.Cells
import Derived.Shelf.Slices.In.SortNone
import Derived.Ground.SlgnProg
import Derived.Shelf.SlicesE.Clone
import Derived.Test.YtnjfgcpmcjmddaaGreatDoorProg
import Derived.Laws.LoneSync
namespace Go.Proofs.YtnjfgcpmcjmddaaGreatDoor.Kd
open Go Go.SL
def Clash (u v w : List It) (k : List UInt8) : Prop := says v k ≠ says w k ∧ says w k ≠ says u k ∧ says v k ≠ says u k
instance (u v w : List It) (k : List UInt8) : Decidable (Clash u v w k) := by unfold Clash; infer_instance
def mval (u v w : List It) (k : List UInt8) : Sd := if says v k = says w k ∨ says w k = says u k then says v k else says w k
def mbad (u v w : List It) (ks : List (List UInt8)) : List Cf := ks.filterMap fun k => if Clash u v w k then some ⟨k, says u k, says v k, says w k⟩ else none
theorem mbad_snoc (u v w : List It) {ks : List (List UInt8)} {i : Nat} (h : i < ks.length) : mbad u v w (ks.take (i + 1)) = mbad u v w (ks.take i) ++ (if Clash u v w ks[i]! then [⟨ks[i]!, says u ks[i]!, says v ks[i]!, says w ks[i]!⟩] else []) := by
 rw [take_snoc h, mbad, mbad, List.filterMap_append]
 congr 1
 generalize ks[i]! = k
 rw [List.filterMap_cons]
 by_cases e : Clash u v w k
 · rw [if_pos e, if_pos e]; rfl
 · rw [if_neg e, if_neg e]; rfl
theorem mbad_len (u v w : List It) (ks : List (List UInt8)) : (mbad u v w ks).length ≤ ks.length := List.length_filterMap_le _ _
theorem mbad_nil {u v w : List It} {ks : List (List UInt8)} (h : mbad u v w ks = []) : ∀ k ∈ ks, ¬ Clash u v w k := fun k hk hc => by
 have := List.filterMap_eq_nil_iff.1 h k hk
 rw [if_pos hc] at this; cases this
structure Mrg (u v w : List It) (m : GoMap (List UInt8) Sd) (kl : List (List UInt8)) : Prop where
 ks : ∀ k, k ∈ m.ks ↔ k ∈ kl ∧ ¬ Clash u v w k
 sd : ∀ k ∈ m.ks, sdOf m k = mval u v w k
 len : m.l.length ≤ kl.length
theorem Mrg.start (u v w : List It) : Mrg u v w GoMap.empty [] := ⟨fun k => by simp [GoMap.ks, GoMap.empty], fun k hk => by simp [GoMap.ks, GoMap.empty] at hk, Nat.le_refl _⟩
theorem Mrg.put {u v w : List It} {m : GoMap (List UInt8) Sd} {ks : List (List UInt8)} (h : Mrg u v w m ks) {k : List UInt8} {s : Sd} (hc : ¬ Clash u v w k) (hs : s = mval u v w k) : Mrg u v w (m.set k s) (ks ++ [k]) := by
 have hm : ∀ k', k' ∈ (m.set k s).ks ↔ k' = k ∨ k' ∈ m.ks := fun k' => by
  rw [GoMap.mem_ks, GoMap.get_set]
  by_cases e : k' = k
  · rw [if_pos e]; simp [e]
  · rw [if_neg e, ← GoMap.mem_ks]; simp [e]
 refine ⟨fun k' => ?_, fun k' hk' => ?_, ?_⟩
 · rw [hm, h.ks k', List.mem_append, List.mem_singleton]
   constructor
   · rintro (e | ⟨h1, h2⟩)
     · exact ⟨.inr e, by rw [e]; exact hc⟩
     · exact ⟨.inl h1, h2⟩
   · rintro ⟨h1 | h1, h2⟩
     · exact .inr ⟨h1, h2⟩
     · exact .inl h1
 · rw [sdOf, GoMap.get_set]
   by_cases e : k' = k
   · rw [if_pos e, e]; exact hs
   · rw [if_neg e, ← sdOf]
     exact h.sd k' (((hm k').1 hk').resolve_left e)
 · have := GoMap.set_len_le m k s
   have := h.len
   simp only [List.length_append, List.length_singleton]; omega
theorem Mrg.pass {u v w : List It} {m : GoMap (List UInt8) Sd} {ks : List (List UInt8)} (h : Mrg u v w m ks) {k : List UInt8} (hc : Clash u v w k) : Mrg u v w m (ks ++ [k]) := by
 refine ⟨fun k' => ?_, h.sd, ?_⟩
 · rw [h.ks k', List.mem_append, List.mem_singleton]
   constructor
   · rintro ⟨h1, h2⟩; exact ⟨.inl h1, h2⟩
   · rintro ⟨h1 | h1, h2⟩
     · exact ⟨h1, h2⟩
     · exact absurd (by rw [h1]; exact hc) h2
 · have := h.len
   simp only [List.length_append, List.length_singleton]; omega
theorem itemsL_congr {f g : List UInt8 → Sd} {ks : List (List UInt8)} (h : ∀ k ∈ ks, f k = g k) : itemsL f ks = itemsL g ks := by
 induction ks with
 | nil => rfl
 | cons a r ih =>
   have h1 := ih fun k hk => h k (List.mem_cons_of_mem _ hk)
   unfold itemsL at h1 ⊢
   rw [List.filterMap_cons, List.filterMap_cons, h a List.mem_cons_self, h1]
section
variable {R : List RO} {O O' : List Own} {POST : Value → List RO → List Own → Prop}
set_option maxRecDepth 20000 in
set_option maxHeartbeats 4000000 in
theorem merge_spec {u v w : List It} {uv vv wv : Value} (hu : SlE encI uv u ∈ R) (hv : SlE encI vv v ∈ R) (hw : SlE encI wv w ∈ R) (hKu : KL u) (hKv : KL v) (hKw : KL w)
 (hkO : ¬ (RightP u ∧ RightP v ∧ RightP w) → POST (.tuple #[.slice none 0 0, .slice none 0 0, .int .i64 12]) R O)
 (hkB : RightP u → RightP v → RightP w → ∀ x ks, KsOf ks [u, v, w] → mbad u v w ks ≠ [] → POST (.tuple #[.slice none 0 0, x, .int .i64 0]) R (accC 56 7 encF x (mbad u v w ks) :: O))
 (hk : RightP u → RightP v → RightP w → ∀ x ks, KsOf ks [u, v, w] → mbad u v w ks = [] → POST (.tuple #[x, .slice none 0 0, .int .i64 0]) R (accC 35 2 encI x (itemsL (mval u v w) ks) :: O)) :
 Fun Tryz.prog 7 #[uv, vv, wv] R O POST := by
 refine Fun.oneV hu fun huv => ?_
 refine Fun.oneV hv fun hvv => ?_
 refine Fun.oneV hw fun hwv => ?_
 refine Fun.enter (l := [_, _, _]) Tryz.func7 rfl Tryz.ntmps7 rfl (L0 := [(0, _), (1, _), (2, _)]) rfl ?_
 refine Z.s1 <| Z.a1 rfl <| Z.a1 rfl <| Z.a1 rfl <| Z.n1 ?_
 refine WC.seq ?_
 refine WC.pick [0, 1, 2] Z.P ?_
 refine WC.val 31 (.bool (decide (¬ (RightP u ∧ RightP v ∧ RightP w)))) ?_ ?_
 ·
  refine WC.region ?_
  refine Z.m1 rfl ?_
  refine WL.op rfl ?_
  refine OpW.call rfl rfl Z.E Z.K rfl rfl rfl ?_
  refine right_spec hu ?_
  refine Z.r1 rfl (by exact Rd.notd rfl rfl) ?_
  refine Z.m1 rfl ?_
  refine WL.case 22 rfl (fun hg22 => ?_) (fun hg22 => ?_)
  ·
   refine Z.o1 rfl <| Z.o1 rfl <| Z.o1 rfl <| Z.r1 rfl (Rd.pick_t rfl rfl rfl) <| Z.m1 rfl <| Z.o1 rfl <| Z.o1 rfl <| Z.o1 rfl <| Z.r1 rfl (Rd.pick_t rfl rfl rfl) ?_
   refine WL.nil ?_
   exact ⟨by repeat (first | exact Sub.nil | refine Sub.cons rfl (by first | rfl | (exact vb_t (fun h => hg22 h.1))) ?_), by exact (fun _ h => h.thin (SubL.mem Z.S))⟩
  ·
   refine Z.y1 rfl (Rd.move rfl rfl) ?_
   refine WL.op_yes rfl rfl rfl rfl ?_
   refine OpW.call rfl rfl Z.E Z.K rfl rfl rfl ?_
   refine right_spec hv ?_
   refine Z.y1 rfl (by exact Rd.notd rfl rfl) ?_
   refine Z.r1 rfl (Rd.pick_f rfl rfl rfl) <| Z.m1 rfl ?_
   refine WL.case 27 rfl (fun hg27 => ?_) (fun hg27 => ?_)
   ·
    refine Z.o1 rfl <| Z.o1 rfl <| Z.o1 rfl <| Z.r1 rfl (Rd.pick_t rfl rfl rfl) ?_
    refine WL.nil ?_
    exact ⟨by repeat (first | exact Sub.nil | refine Sub.cons rfl (by first | rfl | (exact vb_t (fun h => hg27 h.2.1))) ?_), by exact (fun _ h => h.thin (SubL.mem Z.S))⟩
   ·
    refine Z.y1 rfl (Rd.move rfl rfl) ?_
    refine WL.op_yes rfl rfl rfl rfl ?_
    refine OpW.call rfl rfl Z.E Z.K rfl rfl rfl ?_
    refine right_spec hw ?_
    refine Z.y1 rfl (by exact Rd.notd rfl rfl) ?_
    refine Z.r1 rfl (Rd.pick_f rfl rfl rfl) ?_
    refine WL.nil ?_
    exact ⟨by repeat (first | exact Sub.nil | refine Sub.cons rfl (by first | rfl | (exact vb ⟨fun h h2 => h h2.2.2, fun h h2 => h ⟨Decidable.not_not.1 hg22, Decidable.not_not.1 hg27, h2⟩⟩)) ?_), by exact (fun _ h => h.thin (SubL.mem Z.S))⟩
 ·
  refine WC.ite rfl (fun hc1 => ?_) (fun hc1 => ?_)
  ·
   refine Z.s1 <| Z.a1 rfl <| Z.a1 rfl <| Z.a1 rfl <| Z.n1 ?_
   refine WC.ret (Ret.three Tryz.results7 rfl rfl rfl ?_)
   exact hkO hc1
  ·
   obtain ⟨hru, hrv, hrw⟩ := Decidable.not_not.1 hc1
   refine WC.skip ?_
   refine thenQ.normal ?_
   refine Z.s1 <| Z.m1 rfl ?_
   refine WL.op rfl ?_
   refine OpW.call rfl rfl Z.E Z.K rfl rfl rfl ?_
   refine of_spec hu hru.nodup ?_; intro b33 m33 h33
   refine Z.m1 rfl ?_
   refine WL.op rfl ?_
   refine OpW.call rfl rfl Z.E Z.K rfl rfl rfl ?_
   refine of_spec hv hrv.nodup ?_; intro b35 m35 h35
   refine Z.m1 rfl ?_
   refine WL.op rfl ?_
   refine OpW.call rfl rfl Z.E Z.K rfl rfl rfl ?_
   refine of_spec hw hrw.nodup ?_; intro b37 m37 h37
   refine WL.heap (R' := mapP vs sdv b33 m33 :: mapP vs sdv b35 m35 :: mapP vs sdv b37 m37 :: R) (O' := O) (fun w h => (((h.shareM (Take.head _)).shareM (Take.head _)).shareM (Take.head _))) ?_
   refine Z.a1 rfl <| Z.a1 rfl <| Z.a1 rfl <| Z.q1 ?_
   refine WL.op rfl ?_
   refine OpW.makeMap vs sdv rfl rfl rfl ?_; intro b38
   refine Z.a1 rfl <| Z.q1 <| Z.a1 rfl <| Z.n1 <| Z.s2 <| Z.m1 rfl <| Z.m1 rfl <| Z.m1 rfl ?_
   refine WL.op rfl ?_
   refine OpW.buildSl (ps := [(0, _), (1, _), (2, _)]) (cells := [uv, vv, wv]) rfl S74 Z.E rfl rfl (CellsOf.cons huv.cells (CellsOf.cons hvv.cells (CellsOf.cons hwv.cells CellsOf.nil))) rfl rfl rfl rfl ?_; intro b42
   refine WL.heap (R' := SlE (SL.one vid) (.slice (some ⟨b42, 0, none⟩) 3 3) [uv, vv, wv] :: mapP vs sdv b33 m33 :: mapP vs sdv b35 m35 :: mapP vs sdv b37 m37 :: R) (O' := mapC vs sdv b38 GoMap.empty :: O) (fun w h => h.shareRow (e := 25) (enc := SL.one vid) (cells := [uv, vv, wv]) (Take.head _) rfl rfl (by decide)) ?_
   refine WL.op rfl ?_
   refine OpW.call rfl rfl Z.E Z.K rfl rfl rfl ?_
   refine keys_spec (ll := [u, v, w]) (List.mem_cons_self) (ListsOf.three (List.mem_cons_of_mem _ (List.mem_cons_of_mem _ (List.mem_cons_of_mem _ (List.mem_cons_of_mem _ hu)))) (List.mem_cons_of_mem _ (List.mem_cons_of_mem _ (List.mem_cons_of_mem _ (List.mem_cons_of_mem _ hv)))) (List.mem_cons_of_mem _ (List.mem_cons_of_mem _ (List.mem_cons_of_mem _ (List.mem_cons_of_mem _ hw))))) (fun j hj => ?_) (fun j hj => ?_) (Nat.le_refl 3) ?_
   · match j, hj with
     | 0, _ => exact hru.nodup
     | 1, _ => exact hrv.nodup
     | 2, _ => exact hrw.nodup
   · match j, hj with
     | 0, _ => exact hKu
     | 1, _ => exact hKv
     | 2, _ => exact hKw
   intro v43 ks hks hk3
   refine WL.heap (R' := mapP vs sdv b33 m33 :: mapP vs sdv b35 m35 :: mapP vs sdv b37 m37 :: R) (O' := accC 56 7 encF (.slice none 0 0) [] :: mapC vs sdv b38 GoMap.empty :: accC 9 1 (SL.one vs) v43 ks :: O) (fun w h => Sat.accNil (by revert w; exact Z.F)) ?_
   refine Z.r1 rfl (by exact Rd.lenA rfl rfl Tryz.underlying24 Z.M) ?_
   refine Z.m1 rfl <| Z.n1 ?_
   refine WC.block ?_
   refine WC.pick [13, 45, 9, 10, 11, 12, 43, 44] Z.P ?_
   refine WC.loop3 2 (fun (i : Nat) (x : Value) (m : GoMap (List UInt8) Sd) => [(13, x), (45, .int .i64 (i : Int))]) (fun (i : Nat) (x : Value) (m : GoMap (List UInt8) Sd) => accC 56 7 encF x (mbad u v w (ks.take i)) :: mapC vs sdv b38 m :: accC 9 1 (SL.one vs) v43 ks :: O) (fun (i : Nat) (x : Value) (m : GoMap (List UInt8) Sd) => i ≤ ks.length ∧ Mrg u v w m (ks.take i)) (fun (i : Nat) (x : Value) (m : GoMap (List UInt8) Sd) => ks.length - i) (0) (.slice none 0 0) (GoMap.empty) Z.L ?hinv1 (by repeat (first | exact Sub.nil | refine Sub.cons rfl (by rfl) ?_)) (fun _ h => h) ?_
   case hinv1 =>
    exact ⟨Nat.zero_le _, Mrg.start u v w⟩
   intro i x m
   rintro ⟨i1, i2⟩
   refine Z.s1 <| Z.r1 rfl (Rd.lss rfl rfl rfl) <| Z.n1 ?_
   refine WC.seq ?_
   refine WC.ite rfl (fun hc2 => ?_) (fun hc2 => ?_)
   ·
    refine WC.skip ?_
    refine thenQ.normal ?_
    refine WC.seq ?_
    refine WC.block ?_
    refine Z.s1 <| Z.r1 rfl (by exact Rd.idxA1 (k := i) rfl S24 rfl rfl Z.W Z.M Z.W) ?_
    refine Z.r1 rfl (by exact Rd.getA rfl C9 rfl Z.M (by exact get!_of_lt Z.W)) ?_
    refine Z.a1 rfl <| Z.n1 ?_
    refine WC.cut (α := Nat × Nat × Nat) (fun q => [(9, .map (some b33)), (10, .map (some b35)), (11, .map (some b37)), (12, .map (some b38)), (13, x), (15, vs ks[i]!), (16, .pointer (some ⟨q.1, 0, none⟩)), (17, .pointer (some ⟨q.2.1, 0, none⟩)), (18, .pointer (some ⟨q.2.2, 0, none⟩)), (43, v43), (44, .int .i64 ks.length), (45, .int .i64 i)]) (fun _ => mapP vs sdv b33 m33 :: mapP vs sdv b35 m35 :: mapP vs sdv b37 m37 :: R) (fun q => rowC q.1 54 [vs (says u ks[i]!).1, .bool (says u ks[i]!).2] :: rowC q.2.1 54 [vs (says v ks[i]!).1, .bool (says v ks[i]!).2] :: rowC q.2.2 54 [vs (says w ks[i]!).1, .bool (says w ks[i]!).2] :: accC 56 7 encF x (mbad u v w (ks.take i)) :: mapC vs sdv b38 m :: accC 9 1 (SL.one vs) v43 ks :: O) (fun _ => True) ?_ ?_
    ·
     refine WC.drawnA 15 rfl mixed ?_
     refine WD.take 0 rfl Z.K Held.all rfl rfl rfl (Rd.move rfl rfl) ?_
     refine WD.take 1 rfl Z.K Held.all rfl rfl rfl (Rd.move rfl rfl) ?_
     refine WD.take 2 rfl Z.K Held.all rfl rfl rfl ((by exact Rd.lookupR M50 K9 rfl rfl rfl Z.M (by rfl))) ?_
     refine WD.say 51 (u := sdv (says u ks[i]!)) rfl (h33.v _) ?_
     refine WD.take 3 rfl Z.K Held.all rfl rfl rfl (Rd.move rfl rfl) ?_
     refine WD.take 4 rfl Z.K Held.all rfl rfl rfl (Rd.move rfl rfl) ?_
     refine WD.take 5 rfl Z.K Held.all rfl rfl rfl ((by exact Rd.lookupR M50 K9 rfl rfl rfl Z.M (by rfl))) ?_
     refine WD.say 54 (u := sdv (says v ks[i]!)) rfl (h35.v _) ?_
     refine WD.take 6 rfl Z.K Held.all rfl rfl rfl (Rd.move rfl rfl) ?_
     refine WD.take 7 rfl Z.K Held.all rfl rfl rfl (Rd.move rfl rfl) ?_
     refine WD.take 8 rfl Z.K Held.all rfl rfl rfl ((by exact Rd.lookupR M50 K9 rfl rfl rfl Z.M (by rfl))) ?_
     refine WD.say 57 (u := sdv (says w ks[i]!)) rfl (h37.v _) ?_
     refine WD.some [9, 10, 11] Z.K (by simp) ?_
     intro i hi; simp only [List.mem_cons, List.not_mem_nil, or_false] at hi; rcases hi with rfl | rfl | rfl
     · refine ⟨_, rfl, rfl, ?_⟩
       refine OpW.alloc rfl I54 rfl Z.N rfl rfl ?_; intro b16
       refine ⟨Z.H, ?_⟩
       refine WD.two 10 11 rfl rfl Z.K rfl rfl ?_ ?_
       ·
        refine OpW.alloc rfl I54 rfl Z.N rfl rfl ?_; intro b17
        refine ⟨Z.H, ?_⟩
        refine WD.one 11 rfl Z.K rfl ?_
        refine OpW.alloc rfl I54 rfl Z.N rfl rfl ?_; intro b18
        refine ⟨Z.H, ?_⟩
        refine WD.one 12 rfl Z.K rfl ?_
        refine OpW.storeS rfl G54 rfl rfl Z.N Z.T rfl rfl Z.N rfl ?_
        refine ⟨Z.H, ?_⟩
        refine WD.one 13 rfl Z.K rfl ?_
        refine OpW.storeS rfl G54 rfl rfl Z.N Z.T rfl rfl Z.N rfl ?_
        refine ⟨Z.H, ?_⟩
        refine WD.one 14 rfl Z.K rfl ?_
        refine OpW.storeS rfl G54 rfl rfl Z.N Z.T rfl rfl Z.N rfl ?_
        refine ⟨Z.H, ?_⟩
        refine WD.done Z.K ?_
        exact ⟨(b16, b17, b18), trivial, (by repeat (first | exact Sub.nil | refine Sub.cons rfl (by rfl) ?_)), Z.F⟩
       ·
        refine OpW.alloc rfl I54 rfl Z.N rfl rfl ?_; intro b18
        refine ⟨Z.H, ?_⟩
        refine WD.one 10 rfl Z.K rfl ?_
        refine OpW.alloc rfl I54 rfl Z.N rfl rfl ?_; intro b17
        refine ⟨Z.H, ?_⟩
        refine WD.one 12 rfl Z.K rfl ?_
        refine OpW.storeS rfl G54 rfl rfl Z.N Z.T rfl rfl Z.N rfl ?_
        refine ⟨Z.H, ?_⟩
        refine WD.one 13 rfl Z.K rfl ?_
        refine OpW.storeS rfl G54 rfl rfl Z.N Z.T rfl rfl Z.N rfl ?_
        refine ⟨Z.H, ?_⟩
        refine WD.one 14 rfl Z.K rfl ?_
        refine OpW.storeS rfl G54 rfl rfl Z.N Z.T rfl rfl Z.N rfl ?_
        refine ⟨Z.H, ?_⟩
        refine WD.done Z.K ?_
        exact ⟨(b16, b17, b18), trivial, (by repeat (first | exact Sub.nil | refine Sub.cons rfl (by rfl) ?_)), Z.F⟩
     · refine ⟨_, rfl, rfl, ?_⟩
       refine OpW.alloc rfl I54 rfl Z.N rfl rfl ?_; intro b17
       refine ⟨Z.H, ?_⟩
       refine WD.two 9 11 rfl rfl Z.K rfl rfl ?_ ?_
       ·
        refine OpW.alloc rfl I54 rfl Z.N rfl rfl ?_; intro b16
        refine ⟨Z.H, ?_⟩
        refine WD.one 11 rfl Z.K rfl ?_
        refine OpW.alloc rfl I54 rfl Z.N rfl rfl ?_; intro b18
        refine ⟨Z.H, ?_⟩
        refine WD.one 12 rfl Z.K rfl ?_
        refine OpW.storeS rfl G54 rfl rfl Z.N Z.T rfl rfl Z.N rfl ?_
        refine ⟨Z.H, ?_⟩
        refine WD.one 13 rfl Z.K rfl ?_
        refine OpW.storeS rfl G54 rfl rfl Z.N Z.T rfl rfl Z.N rfl ?_
        refine ⟨Z.H, ?_⟩
        refine WD.one 14 rfl Z.K rfl ?_
        refine OpW.storeS rfl G54 rfl rfl Z.N Z.T rfl rfl Z.N rfl ?_
        refine ⟨Z.H, ?_⟩
        refine WD.done Z.K ?_
        exact ⟨(b16, b17, b18), trivial, (by repeat (first | exact Sub.nil | refine Sub.cons rfl (by rfl) ?_)), Z.F⟩
       ·
        refine OpW.alloc rfl I54 rfl Z.N rfl rfl ?_; intro b18
        refine ⟨Z.H, ?_⟩
        refine WD.one 9 rfl Z.K rfl ?_
        refine OpW.alloc rfl I54 rfl Z.N rfl rfl ?_; intro b16
        refine ⟨Z.H, ?_⟩
        refine WD.one 12 rfl Z.K rfl ?_
        refine OpW.storeS rfl G54 rfl rfl Z.N Z.T rfl rfl Z.N rfl ?_
        refine ⟨Z.H, ?_⟩
        refine WD.one 13 rfl Z.K rfl ?_
        refine OpW.storeS rfl G54 rfl rfl Z.N Z.T rfl rfl Z.N rfl ?_
        refine ⟨Z.H, ?_⟩
        refine WD.one 14 rfl Z.K rfl ?_
        refine OpW.storeS rfl G54 rfl rfl Z.N Z.T rfl rfl Z.N rfl ?_
        refine ⟨Z.H, ?_⟩
        refine WD.done Z.K ?_
        exact ⟨(b16, b17, b18), trivial, (by repeat (first | exact Sub.nil | refine Sub.cons rfl (by rfl) ?_)), Z.F⟩
     · refine ⟨_, rfl, rfl, ?_⟩
       refine OpW.alloc rfl I54 rfl Z.N rfl rfl ?_; intro b18
       refine ⟨Z.H, ?_⟩
       refine WD.two 9 10 rfl rfl Z.K rfl rfl ?_ ?_
       ·
        refine OpW.alloc rfl I54 rfl Z.N rfl rfl ?_; intro b16
        refine ⟨Z.H, ?_⟩
        refine WD.one 10 rfl Z.K rfl ?_
        refine OpW.alloc rfl I54 rfl Z.N rfl rfl ?_; intro b17
        refine ⟨Z.H, ?_⟩
        refine WD.one 12 rfl Z.K rfl ?_
        refine OpW.storeS rfl G54 rfl rfl Z.N Z.T rfl rfl Z.N rfl ?_
        refine ⟨Z.H, ?_⟩
        refine WD.one 13 rfl Z.K rfl ?_
        refine OpW.storeS rfl G54 rfl rfl Z.N Z.T rfl rfl Z.N rfl ?_
        refine ⟨Z.H, ?_⟩
        refine WD.one 14 rfl Z.K rfl ?_
        refine OpW.storeS rfl G54 rfl rfl Z.N Z.T rfl rfl Z.N rfl ?_
        refine ⟨Z.H, ?_⟩
        refine WD.done Z.K ?_
        exact ⟨(b16, b17, b18), trivial, (by repeat (first | exact Sub.nil | refine Sub.cons rfl (by rfl) ?_)), Z.F⟩
       ·
        refine OpW.alloc rfl I54 rfl Z.N rfl rfl ?_; intro b17
        refine ⟨Z.H, ?_⟩
        refine WD.one 9 rfl Z.K rfl ?_
        refine OpW.alloc rfl I54 rfl Z.N rfl rfl ?_; intro b16
        refine ⟨Z.H, ?_⟩
        refine WD.one 12 rfl Z.K rfl ?_
        refine OpW.storeS rfl G54 rfl rfl Z.N Z.T rfl rfl Z.N rfl ?_
        refine ⟨Z.H, ?_⟩
        refine WD.one 13 rfl Z.K rfl ?_
        refine OpW.storeS rfl G54 rfl rfl Z.N Z.T rfl rfl Z.N rfl ?_
        refine ⟨Z.H, ?_⟩
        refine WD.one 14 rfl Z.K rfl ?_
        refine OpW.storeS rfl G54 rfl rfl Z.N Z.T rfl rfl Z.N rfl ?_
        refine ⟨Z.H, ?_⟩
        refine WD.done Z.K ?_
        exact ⟨(b16, b17, b18), trivial, (by repeat (first | exact Sub.nil | refine Sub.cons rfl (by rfl) ?_)), Z.F⟩
    ·
     rintro ⟨b16, b17, b18⟩ -
     refine WC.block ?_
     refine WC.pick [9, 10, 11, 12, 13, 15, 16, 17, 18, 43, 44, 45] Z.P ?_
     refine WC.val 66 (.bool (decide (says v ks[i]! = says w ks[i]! ∨ says w ks[i]! = says u ks[i]!))) ?_ ?_
     ·
      refine Z.s1 <| Z.r1 rfl (by exact Rd.rowS rfl G54 rfl Z.M Z.N rfl) ?_
      refine Z.r1 rfl (by exact Rd.rowS rfl G54 rfl Z.M Z.N rfl) ?_
      refine Z.r1 rfl (Rd.aeql rfl rfl rfl (EqSd (says v ks[i]!) (says w ks[i]!))) <| Z.a1 rfl <| Z.n1 ?_
      refine WC.ite rfl (fun hc3 => ?_) (fun hc3 => ?_)
      ·
       refine WC.skip ?_
       exact ⟨by repeat (first | exact Sub.nil | refine Sub.cons rfl (by first | rfl | (exact vb ⟨fun h => .inl h, fun _ => hc3⟩)) ?_), by exact (fun _ h => h.thin (SubL.mem Z.S))⟩
      ·
       refine WC.region ?_
       refine Z.r1 rfl (by exact Rd.rowS rfl G54 rfl Z.M Z.N rfl) ?_
       refine Z.r1 rfl (by exact Rd.rowS rfl G54 rfl Z.M Z.N rfl) ?_
       refine Z.r1 rfl (Rd.aeql rfl rfl rfl (EqSd (says w ks[i]!) (says u ks[i]!))) <| Z.a1 rfl ?_
       refine WL.nil ?_
       exact ⟨by repeat (first | exact Sub.nil | refine Sub.cons rfl (by first | rfl | (exact vb ⟨fun h => .inr h, fun h => h.resolve_left hc3⟩)) ?_), by exact (fun _ h => h.thin (SubL.mem Z.S))⟩
     ·
      refine WC.ite rfl (fun hc4 => ?_) (fun hc4 => ?_)
      ·
       have hcl : ¬ Clash u v w ks[i]! := fun h => hc4.elim h.1 h.2.1
       refine WC.region ?_
       refine Z.m1 rfl <| Z.m1 rfl <| Z.r1 rfl (by exact Rd.rowS rfl G54 rfl Z.M Z.N rfl) ?_
       refine WL.op rfl ?_
       refine OpW.mapUpdate (venc := sdv) (v := says v ks[i]!) M50 K9 rfl rfl rfl rfl Z.T (by rfl) (by rfl) rfl ?_
       refine WL.nil ?_
       refine blockQ.normal ?_
       refine blockQ.normal ?_
       refine thenQ.normal ?_
       refine WC.region ?_
       refine Z.r1 rfl (Rd.add rfl rfl rfl Z.W) ?_
       refine Z.m1 rfl ?_
       refine WL.nil ?_
       exact loopQ3.mk (i + 1) x (m.set ks[i]! (says v ks[i]!)) ⟨by omega, by rw [take_snoc Z.W]; exact i2.put hcl (by rw [mval, if_pos hc4])⟩ Z.W (by repeat (first | exact Sub.nil | refine Sub.cons rfl (by rfl) ?_)) (by rw [mbad_snoc _ _ _ Z.W, if_neg hcl, List.append_nil]; exact Z.F)
      ·
       refine Z.s1 <| Z.r1 rfl (by exact Rd.rowS rfl G54 rfl Z.M Z.N rfl) ?_
       refine Z.r1 rfl (by exact Rd.rowS rfl G54 rfl Z.M Z.N rfl) ?_
       refine Z.r1 rfl (Rd.aeql rfl rfl rfl (EqSd (says v ks[i]!) (says u ks[i]!))) <| Z.a1 rfl <| Z.n1 ?_
       refine WC.ite rfl (fun hc5 => ?_) (fun hc5 => ?_)
       ·
        have hcl : ¬ Clash u v w ks[i]! := fun h => h.2.2 hc5
        refine WC.region ?_
        refine Z.m1 rfl <| Z.m1 rfl <| Z.r1 rfl (by exact Rd.rowS rfl G54 rfl Z.M Z.N rfl) ?_
        refine WL.op rfl ?_
        refine OpW.mapUpdate (venc := sdv) (v := says w ks[i]!) M50 K9 rfl rfl rfl rfl Z.T (by rfl) (by rfl) rfl ?_
        refine WL.nil ?_
        refine blockQ.normal ?_
        refine blockQ.normal ?_
        refine thenQ.normal ?_
        refine WC.region ?_
        refine Z.r1 rfl (Rd.add rfl rfl rfl Z.W) ?_
        refine Z.m1 rfl ?_
        refine WL.nil ?_
        exact loopQ3.mk (i + 1) x (m.set ks[i]! (says w ks[i]!)) ⟨by omega, by rw [take_snoc Z.W]; exact i2.put hcl (by rw [mval, if_neg hc4])⟩ Z.W (by repeat (first | exact Sub.nil | refine Sub.cons rfl (by rfl) ?_)) (by rw [mbad_snoc _ _ _ Z.W, if_neg hcl, List.append_nil]; exact Z.F)
       ·
        have hcl : Clash u v w ks[i]! := ⟨fun h => hc4 (.inl h), fun h => hc4 (.inr h), hc5⟩
        refine WC.region ?_
        refine Z.m1 rfl <| Z.m1 rfl <| Z.r1 rfl (by exact Rd.rowS rfl G54 rfl Z.M Z.N rfl) ?_
        refine Z.r1 rfl (by exact Rd.rowS rfl G54 rfl Z.M Z.N rfl) ?_
        refine Z.r1 rfl (by exact Rd.rowS rfl G54 rfl Z.M Z.N rfl) ?_
        refine Z.r1 rfl (Rd.buildN (ps := [(0, _), (1, _), (2, _), (3, _)]) rfl Bs56 I56 rfl Z.E Z.C (by apply NFo.mk; repeat (first | exact NF.nil | apply NF.cons))) ?_
        refine WL.op rfl ?_
        refine OpW.buildSl (ps := [(0, _)]) rfl S31 Z.E rfl rfl Z.C Z.K rfl rfl rfl ?_; intro b64
        have hil := mbad_len u v w (ks.take i); rw [List.length_take] at hil
        refine WL.op rfl ?_
        refine OpW.appendRow (enc := encF) rfl S31 rfl rfl Z.T Z.T [⟨ks[i]!, says u ks[i]!, says v ks[i]!, says w ks[i]!⟩] rfl (by rfl) rfl (by intro x; rfl) (by intro x; rfl) (by exact ⟨by simp only [maxLen, List.length_append, List.length_nil, List.length_cons, List.length_drop, List.length_take, List.length_map]; omega, by omega⟩) rfl rfl ?_; intro v65 hv65
        refine Z.a1 rfl ?_
        refine WL.nil ?_
        refine blockQ.normal ?_
        refine blockQ.normal ?_
        refine thenQ.normal ?_
        refine WC.region ?_
        refine Z.r1 rfl (Rd.add rfl rfl rfl Z.W) ?_
        refine Z.m1 rfl ?_
        refine WL.nil ?_
        exact loopQ3.mk (i + 1) v65 m ⟨by omega, by rw [take_snoc Z.W]; exact i2.pass hcl⟩ Z.W (by repeat (first | exact Sub.nil | refine Sub.cons rfl (by rfl) ?_)) (by rw [mbad_snoc _ _ _ Z.W, if_pos hcl]; exact Z.F)
   ·
    rw [List.take_of_length_le Z.W] at i2
    rw [List.take_of_length_le Z.W]
    refine WC.exit ?_
    refine thenQ.exit ?_
    refine loopQ3.exit ?_
    refine blockQ.exit ?_
    refine thenQ.normal ?_
    refine Z.s2 <| Z.m1 rfl <| Z.r1 rfl (by exact Rd.lenA rfl rfl Tryz.underlying31 Z.M) ?_
    refine Z.r1 rfl (Rd.gtr rfl rfl rfl) <| Z.n1 ?_
    refine WC.ite rfl (fun hc6 => ?_) (fun hc6 => ?_)
    ·
     refine WC.heap (R' := R) (O' := accC 56 7 encF x (mbad u v w ks) :: O) Z.F ?_
     refine Z.s1 <| Z.m1 rfl <| Z.a1 rfl <| Z.a1 rfl <| Z.a1 rfl <| Z.n1 ?_
     refine WC.ret (Ret.three Tryz.results7 rfl rfl rfl ?_)
     exact hkB hru hrv hrw x ks hks (fun e => by rw [e] at hc6; exact absurd hc6 (by decide))
    ·
     have hnb : mbad u v w ks = [] := by
      cases e : mbad u v w ks with
      | nil => rfl
      | cons a r => rw [e] at hc6; exact absurd (by simp only [List.length_cons]; omega) hc6
     refine WC.heap (R' := mapP vs sdv b38 m :: R) (O' := O) (fun w h => Sat.shareM (Take.head _) (by revert w; exact Z.F)) ?_
     refine WC.skip ?_
     refine thenQ.normal ?_
     refine Z.s1 <| Z.m1 rfl ?_
     refine WL.op rfl ?_
     refine OpW.call rfl rfl Z.E Z.K rfl rfl rfl ?_
     refine items_spec (m := m) List.mem_cons_self (by have := i2.len; omega) (fun k hk' => ?_) ?_
     · have h1 := (hks.2 k).1 ((i2.ks k).1 hk').1
       simp only [keysIn, List.flatMap_cons, List.flatMap_nil, List.append_nil, List.mem_append] at h1
       rcases h1 with h1 | h1 | h1 <;> obtain ⟨y, hy, rfl⟩ := List.mem_map.1 h1
       · exact hKu.2 y hy
       · exact hKv.2 y hy
       · exact hKw.2 y hy
     intro v89 ks' hka hkm
     refine WL.heap (R' := R) (O' := accC 35 2 encI v89 (itemsL (sdOf m) ks') :: O) Z.F ?_
     refine Z.a1 rfl <| Z.a1 rfl <| Z.a1 rfl <| Z.n1 ?_
     refine WC.ret (Ret.three Tryz.results7 rfl rfl rfl ?_)
     have e1 : ks' = ks := Asc.uniq hka hks.1 fun k => by rw [hkm k, i2.ks k]; exact ⟨fun h => h.1, fun h => ⟨h, mbad_nil hnb k h⟩⟩
     subst e1
     rw [itemsL_congr (g := mval u v w) fun k hk' => i2.sd k ((hkm k).1 hk')]
     exact hk hru hrv hrw v89 ks' hks hnb
end
end Go.Proofs.YtnjfgcpmcjmddaaGreatDoor.Kd
namespace Go.Proofs.YtnjfgcpmcjmddaaGreatDoor.Kd
open Go Go.SL
def MRes (U V W : List It) (l : List It) (c : List Cf) (e : Int) : Prop :=
 (¬ (RightP U ∧ RightP V ∧ RightP W) → e = 12 ∧ l = [] ∧ c = []) ∧
 (RightP U → RightP V → RightP W → e = 0 ∧ ∃ ks, KsOf ks [U, V, W] ∧ c = mbad U V W ks ∧ (c ≠ [] → l = []) ∧ (c = [] → l = itemsL (mval U V W) ks))
section
variable {R : List RO} {O O' : List Own} {POST : Value → List RO → List Own → Prop}
theorem Fun.turn {P : Program} {f : FuncId} {args : Array Value} (h : Fun P f args R O (fun v R' O' => ∃ R2 O2, POST v R2 O2 ∧ ∀ w, Sat R' O' w → Sat R2 O2 w)) : Fun P f args R O POST := Fun.thin h (fun _ _ _ h => h)
theorem merge2_spec {U V W : List It} {uv vv wv : Value} (hu : SlE encI uv U ∈ R) (hv : SlE encI vv V ∈ R) (hw : SlE encI wv W ∈ R) (hKu : KL U) (hKv : KL V) (hKw : KL W)
 (hk : ∀ l c e lv cv, MRes U V W l c e → POST (.tuple #[lv, cv, .int .i64 e]) (SlE encI lv l :: SlE encF cv c :: R) O) : Fun Tryz.prog 7 #[uv, vv, wv] R O POST := by
 refine Fun.turn (merge_spec hu hv hw hKu hKv hKw (fun h => ?_) (fun h1 h2 h3 x ks hks hb => ?_) (fun h1 h2 h3 x ks hks hb => ?_))
 · exact ⟨_, _, hk [] [] 12 _ _ ⟨fun _ => ⟨rfl, rfl, rfl⟩, fun h1 h2 h3 => absurd ⟨h1, h2, h3⟩ h⟩, fun w h => h.nilE.nilE⟩
 · exact ⟨_, _, hk [] (mbad U V W ks) 0 _ _ ⟨fun h => absurd ⟨h1, h2, h3⟩ h, fun _ _ _ => ⟨rfl, ks, hks, rfl, fun _ => rfl, fun h => absurd h hb⟩⟩, fun w h => (h.shareA (Take.head _)).nilE⟩
 · refine ⟨_, _, hk (itemsL (mval U V W) ks) [] 0 _ _ ⟨fun h => absurd ⟨h1, h2, h3⟩ h, fun _ _ _ => ⟨rfl, ks, hks, hb.symm, fun h => absurd rfl h, fun _ => rfl⟩⟩, fun w h => (Sat.nilE h).shareA (Take.head _)⟩
end
end Go.Proofs.YtnjfgcpmcjmddaaGreatDoor.Kd
namespace Go.Proofs.YtnjfgcpmcjmddaaGreatDoor.Kd
open Go Go.SL
theorem itemsL_split (f : List UInt8 → Sd) (ks : List (List UInt8)) : itemsL f ks = (ks.filter fun k => (f k).2).map fun k => (k, (f k).1) := by
 unfold itemsL
 induction ks with
 | nil => rfl
 | cons k r ih =>
   rw [List.filterMap_cons]
   cases h : (f k).2 with
   | true => rw [List.filter_cons_of_pos (by exact h), List.map_cons, if_pos rfl]; simp only [ih]
   | false => rw [List.filter_cons_of_neg (by simp [h]), if_neg (by simp)]; simp only [ih]
end Go.Proofs.YtnjfgcpmcjmddaaGreatDoor.Kd
namespace Go.Proofs.YtnjfgcpmcjmddaaGreatDoor.Ag
open Go Go.SL
abbrev T := List UInt8
theorem nodup1 {α : Type} {a : α} : [a].Nodup := List.pairwise_singleton _ _
theorem items_keyA (f : T → Kd.Sd) (ks : List T) : (Kd.itemsL f ks).map (·.1) = ks.filter fun k => (f k).2 := by
 rw [Kd.itemsL_split, List.map_map]
 exact List.map_id _
def ltr (c : Nat) : T := [UInt8.ofNat (97 + c)]
def plc (n : Int) : Nat := (n.tmod 9 + 9).toNat % 9
theorem plc_lt (n : Int) : plc n < 9 := Nat.mod_lt _ (by decide)
theorem tmod9 (n : Int) : -9 < n.tmod 9 ∧ n.tmod 9 < 9 := by
 have h : ∀ n : Nat, n % 9 < 9 := fun n => Nat.mod_lt _ (by decide)
 cases n with
 | ofNat n => have := h n; show -9 < ((n % 9 : Nat) : Int) ∧ ((n % 9 : Nat) : Int) < 9; omega
 | negSucc n => have := h (n + 1); show -9 < -((n.succ % 9 : Nat) : Int) ∧ -((n.succ % 9 : Nat) : Int) < 9; have e : n.succ = n + 1 := rfl; rw [e]; omega
def addT (out : List T) (s : T) : List T := if s ∈ out then out else out ++ [s]
def outTo (ns : List Int) : Nat → List T
 | 0 => []
 | k + 1 => addT (outTo ns k) (ltr (plc ns[k]!))
structure Ltrs (l : List T) : Prop where
 nd : l.Nodup
 lt : ∀ s ∈ l, ∃ c, c < 9 ∧ s = ltr c
theorem out_ok (ns : List Int) : ∀ k, Ltrs (outTo ns k) ∧ (outTo ns k).length ≤ k
 | 0 => ⟨⟨List.nodup_nil, fun _ h => absurd h List.not_mem_nil⟩, Nat.le_refl _⟩
 | k + 1 => by
   obtain ⟨h, hl⟩ := out_ok ns k
   show Ltrs (addT (outTo ns k) _) ∧ (addT (outTo ns k) _).length ≤ _
   unfold addT
   split
   · exact ⟨h, by omega⟩
   · rename_i hn
     refine ⟨⟨List.nodup_append.2 ⟨h.nd, nodup1, fun a ha b hb e => ?_⟩, fun s hs => ?_⟩, by rw [List.length_append, List.length_singleton]; omega⟩
     · rw [List.mem_singleton.1 hb] at e
       exact hn (e ▸ ha)
     · rcases List.mem_append.1 hs with hs | hs
       · exact h.lt s hs
       · exact ⟨_, plc_lt _, List.mem_singleton.1 hs⟩
def ofT (s : T) : T := [111, 102, 32] ++ s
def itTo (out : List T) (c : Nat) : List Kd.It := (List.range c).filterMap fun j => if ltr j ∈ out then some (ltr j, ofT (ltr j)) else none
theorem itTo_next (out : List T) (c : Nat) : itTo out (c + 1) = itTo out c ++ if ltr c ∈ out then [(ltr c, ofT (ltr c))] else [] := by
 unfold itTo
 rw [List.range_succ, List.filterMap_append]
 congr 1
 rw [List.filterMap_cons]
 split <;> simp_all
theorem itTo_len (out : List T) (c : Nat) : (itTo out c).length ≤ c := by
 have := List.length_filterMap_le (fun j => if ltr j ∈ out then some (ltr j, ofT (ltr j)) else none) (List.range c)
 rw [List.length_range] at this
 exact this
theorem itTo_keys (out : List T) (c : Nat) : (itTo out c).map (·.1) = ((List.range c).filter fun j => decide (ltr j ∈ out)).map ltr := by
 unfold itTo
 induction c with
 | zero => rfl
 | succ c ih =>
   rw [List.range_succ, List.filterMap_append, List.filter_append, List.map_append, List.map_append, ih]
   congr 1
   by_cases h : ltr c ∈ out
   · rw [List.filterMap_cons, if_pos h, List.filter_cons_of_pos (by simpa using h)]; rfl
   · rw [List.filterMap_cons, if_neg h, List.filter_cons_of_neg (by simpa using h)]; rfl
theorem ltr_lt {c d : Nat} (h : c < d) (hd : d < 9) : Op.bytesLess (ltr c) (ltr d) = true := by
 have : ∀ d, d < 9 → ∀ c, c < d → Op.bytesLess (ltr c) (ltr d) = true := by decide
 exact this d hd c h
theorem range_asc : ∀ c, c ≤ 9 → Asc ((List.range c).map ltr)
 | 0, _ => List.Pairwise.nil
 | c + 1, h => by
   rw [List.range_succ, List.map_append]
   refine List.pairwise_append.2 ⟨range_asc c Z.W, List.pairwise_singleton _ _, fun a ha b hb => ?_⟩
   obtain ⟨j, hj, rfl⟩ := List.mem_map.1 ha
   rw [List.mem_range] at hj
   rw [List.map_singleton, List.mem_singleton] at hb
   subst hb
   exact ltr_lt hj Z.W
theorem it_asc (out : List T) : Asc ((itTo out 9).map (·.1)) := by
 rw [itTo_keys]
 exact List.Pairwise.sublist (List.Sublist.map _ List.filter_sublist) (range_asc 9 (Nat.le_refl _))
theorem it_right (out : List T) : Kd.RightP (itTo out 9) := Kd.RightP.of (it_asc out)
theorem it_key {out : List T} (h : Ltrs out) (k : T) : k ∈ (itTo out 9).map (·.1) ↔ k ∈ out := by
 rw [itTo_keys, List.mem_map]
 constructor
 · rintro ⟨j, hj, rfl⟩
   rw [List.mem_filter, decide_eq_true_eq] at hj
   exact hj.2
 · intro hk
   obtain ⟨c, hc, rfl⟩ := h.lt k hk
   exact ⟨c, List.mem_filter.2 ⟨List.mem_range.2 hc, by simpa using hk⟩, rfl⟩
theorem it_val (out : List T) {x : Kd.It} (h : x ∈ itTo out 9) : x.2 = ofT x.1 := by
 unfold itTo at h
 rw [List.mem_filterMap] at h
 obtain ⟨j, _, hj⟩ := h
 split at hj
 · cases hj; rfl
 · cases hj
theorem it_says {out : List T} (h : Ltrs out) (k : T) : Kd.says (itTo out 9) k = if k ∈ out then (ofT k, true) else ([], false) := by
 unfold Kd.says
 by_cases hk : k ∈ out
 · rw [if_pos hk]
   cases e : Kd.look (itTo out 9) k with
   | none => exact absurd ((it_key h k).2 hk) (Kd.look_none.1 e)
   | some s =>
     unfold Kd.look at e
     rw [Option.map_eq_some_iff] at e
     obtain ⟨x, hx, rfl⟩ := e
     have h1 := List.find?_some hx
     have h2 := List.mem_of_find?_eq_some hx
     have h1 : x.1 = k := by simpa using h1
     show (x.2, true) = _
     rw [it_val out h2, h1]
 · rw [if_neg hk, Kd.look_none.2 (fun hm => hk ((it_key h k).1 hm))]; rfl
section
variable {a b c : List T}
theorem no_clash (ha : Ltrs a) (hb : Ltrs b) (hc : Ltrs c) (k : T) : ¬ Kd.Clash (itTo a 9) (itTo b 9) (itTo c 9) k := by
 unfold Kd.Clash
 rw [it_says ha, it_says hb, it_says hc]
 by_cases h1 : k ∈ a <;> by_cases h2 : k ∈ b <;> by_cases h3 : k ∈ c <;> simp [h1, h2, h3]
theorem no_bad (ha : Ltrs a) (hb : Ltrs b) (hc : Ltrs c) (ks : List T) : Kd.mbad (itTo a 9) (itTo b 9) (itTo c 9) ks = [] := by
 unfold Kd.mbad
 rw [List.filterMap_eq_nil_iff]
 intro k _
 rw [if_neg (no_clash ha hb hc k)]
def Stay (a b c : List T) (k : T) : Prop := if (k ∈ b ↔ k ∈ c) ∨ (k ∈ c ↔ k ∈ a) then k ∈ b else k ∈ c
theorem stay_two (ha : Ltrs a) (hb : Ltrs b) (hc : Ltrs c) (k : T) : (Kd.mval (itTo a 9) (itTo b 9) (itTo c 9) k).2 = true ↔ Stay a b c k := by
 unfold Kd.mval Stay
 rw [it_says ha, it_says hb, it_says hc]
 by_cases h1 : k ∈ a <;> by_cases h2 : k ∈ b <;> by_cases h3 : k ∈ c <;> simp [h1, h2, h3]
theorem stay_in {k : T} (h : Stay a b c k) : k ∈ b ∨ k ∈ c := by
 unfold Stay at h
 split at h
 · exact .inl h
 · exact .inr h
theorem merged_keys (ha : Ltrs a) (hb : Ltrs b) (hc : Ltrs c) {ks : List T} (hk : Kd.KsOf ks [itTo a 9, itTo b 9, itTo c 9]) (k : T) :
 k ∈ (Kd.itemsL (Kd.mval (itTo a 9) (itTo b 9) (itTo c 9)) ks).map (·.1) ↔ Stay a b c k := by
 rw [items_keyA, List.mem_filter, stay_two ha hb hc]
 refine ⟨fun h => h.2, fun h => ⟨(hk.2 k).2 ?_, h⟩⟩
 rcases stay_in h with h | h
 · exact List.mem_flatMap.2 ⟨itTo b 9, by simp, (it_key hb k).2 h⟩
 · exact List.mem_flatMap.2 ⟨itTo c 9, by simp, (it_key hc k).2 h⟩
theorem both_len {X Y K r : List T} (hX : X.Nodup) (hY : Y.Nodup) (hK : K.Nodup) (hm : ∀ s, s ∈ K ↔ s ∈ X ∨ s ∈ Y) (he : X.filter (fun s => decide (s ∈ Y)) = Y.filter (fun s => decide (s ∈ X)))
 (hr : r.length + (X.filter (fun s => decide (s ∈ Y))).length = X.length + Y.length) : r.length = K.length := by
 have h1 : (X ++ Y.filter fun s => decide (s ∉ X)).Nodup := List.nodup_append.2 ⟨hX, hY.filter _, fun p hp q hq e => by
  rw [List.mem_filter, decide_eq_true_eq] at hq
  exact hq.2 (e ▸ hp)⟩
 have hmm : ∀ s, s ∈ X ++ Y.filter (fun s => decide (s ∉ X)) ↔ s ∈ X ∨ s ∈ Y := fun s => by
  rw [List.mem_append, List.mem_filter, decide_eq_true_eq]
  by_cases h : s ∈ X <;> simp [h]
 have l1 := nodup_len h1 (l' := K) fun s hs => (hm s).2 ((hmm s).1 hs)
 have l2 := nodup_len hK (l' := X ++ Y.filter fun s => decide (s ∉ X)) fun s hs => (hmm s).2 ((hm s).1 hs)
 rw [List.length_append] at l1 l2
 have l3 : (Y.filter fun s => decide (s ∈ X)).length + (Y.filter fun s => decide (s ∉ X)).length = Y.length := by
  have := List.length_eq_countP_add_countP (fun s => decide (s ∈ X)) (l := Y)
  rw [List.countP_eq_length_filter, List.countP_eq_length_filter] at this
  have e : (fun s : T => decide (s ∉ X)) = fun s => decide ¬ (decide (s ∈ X) = true) := by funext s; simp
  rw [e]; omega
 rw [he] at hr
 omega
theorem agreed (ha : Ltrs a) (hb : Ltrs b) (hc : Ltrs c) {K : List T} (hK : K.Nodup) (hm : ∀ k, k ∈ K ↔ Stay a b c k) (h0 : (Ld.listsE a b c).2.1 = []) : (Ld.listsE a b c).1.length = K.length ∧ ∀ s ∈ (Ld.listsE a b c).1, s ∈ K := by
 unfold Ld.listsE at h0 ⊢
 rw [if_neg (by intro h; exact h ⟨ha.nd, hb.nd, hc.nd⟩)] at h0 ⊢
 by_cases h1 : (Ld.oneE a b c).isSome
 · rw [if_pos h1]
   obtain ⟨l, hl⟩ := Option.isSome_iff_exists.1 h1
   have key : l.Nodup ∧ ∀ k, k ∈ l ↔ Stay a b c k := by
    unfold Ld.oneE at hl
    split at hl
    · rename_i g
      cases hl
      refine ⟨hb.nd, fun k => ?_⟩
      unfold Stay
      rw [if_pos (by rcases g with g | g <;> simp [g])]
    · split at hl
      · rename_i g
        cases hl
        refine ⟨hc.nd, fun k => ?_⟩
        unfold Stay
        subst g
        split
        · rename_i g; rcases g with g | g <;> simp [g]
        · rfl
      · cases hl
   rw [hl]
   refine ⟨Nat.le_antisymm (nodup_len key.1 fun s hs => (hm s).2 ((key.2 s).1 hs)) (nodup_len hK fun s hs => (key.2 s).2 ((hm s).1 hs)), fun s hs => (hm s).2 ((key.2 s).1 hs)⟩
 · rw [if_neg h1] at h0 ⊢
   have hX : (b.filter (Ld.staysB b c a)).Nodup := hb.nd.filter _
   have hY : (c.filter (Ld.staysB b c a)).Nodup := hc.nd.filter _
   have hst : ∀ s, (s ∈ b.filter (Ld.staysB b c a) ∨ s ∈ c.filter (Ld.staysB b c a)) ↔ Stay a b c s := fun s => by
    unfold Stay Ld.staysB
    rw [List.mem_filter, List.mem_filter, decide_eq_true_eq]
    by_cases h1 : s ∈ a <;> by_cases h2 : s ∈ b <;> by_cases h3 : s ∈ c <;> simp [h1, h2, h3]
   rcases Ld.shufE_all _ _ [] hX hY with ⟨he, r, h2, h3, h4⟩ | ⟨_, p, q, h2⟩
   · have e : Ld.shufR (b.filter (Ld.staysB b c a)) (c.filter (Ld.staysB b c a)) = (r, []) := by unfold Ld.shufR; rw [h2]
     rw [e]
     refine ⟨both_len hX hY hK (fun s => (hm s).trans (hst s).symm) he (by simpa using h4), fun s hs => (hm s).2 ((hst s).1 ?_)⟩
     simpa using (h3 s).1 hs
   · exfalso
     have e : Ld.shufR (b.filter (Ld.staysB b c a)) (c.filter (Ld.staysB b c a)) = ([], [p, q]) := by unfold Ld.shufR; rw [h2]
     rw [e] at h0
     cases h0
theorem clash_two (a b c : List T) : (Ld.listsE a b c).2.1.length = 0 ∨ (Ld.listsE a b c).2.1.length = 2 := by
 unfold Ld.listsE
 split
 · exact .inl rfl
 · split
   · exact .inl rfl
   · show (Ld.shufR _ _).2.length = 0 ∨ (Ld.shufR _ _).2.length = 2
     unfold Ld.shufR
     split
     · exact .inl rfl
     · exact .inr rfl
theorem lists_ok (ha : Ltrs a) (hb : Ltrs b) (hc : Ltrs c) : (Ld.listsE a b c).2.2 = 0 := by
 unfold Ld.listsE
 rw [if_neg (by intro h; exact h ⟨ha.nd, hb.nd, hc.nd⟩)]
 split <;> rfl
end
end Go.Proofs.YtnjfgcpmcjmddaaGreatDoor.Ag
namespace Go.SL
open Go Go.RowKit
def fw (ro : Option Nat) : Fence := { Fence.wide with round := ro }
theorem stepsIn_fw {P : Program} {ro : Option Nat} {m m' : Machine} : StepsIn (Machine.fenced P (fw ro)) P m m' ↔ Steps P m m' := stepsIn_wide
theorem callsIn_fw {P : Program} {ro : Option Nat} {k : Nat} {f : FuncId} {args : Array Value} {w : World} {R : Ending → World → Prop} : CallsIn (fw ro) k P f args w R ↔ Calls P f args w R := callsIn_wide (n := k)
def noDef (l : List Oper) : Bool := l.all fun o => match o.op with
 | .defer _ => false
 | _ => true
theorem noDef_spec {l : List Oper} (h : noDef l = true) {o : Oper} (ho : o ∈ l) : ∀ c, o.op ≠ .defer c := fun c e => by
 have := List.all_eq_true.1 h o ho
 rw [e] at this
 cases this
section
variable {P : Program} {ro : Option Nat} {o : Oper} {a : Act} {w : World} {K : Act → World → Prop} {Q : Exit → Act → World → Prop} {ops : Array Oper} {md : Region.Mode}
theorem wp_in (hd : ∀ c, o.op ≠ .defer c) (h : o.wp P a w K Q) : o.wpIn (fw ro) 0 P a w K Q := by
 refine ⟨fun _ _ => trivial, ?_⟩
 show o.uponIn _ _ _ _ _ _ ((o.semAt ro a.eval).run P w)
 rw [Oper.semAt_eq ro a.eval o hd]
 unfold Oper.wp at h
 generalize (execOp a.eval o).run P w = r at h ⊢
 have dep : (fw ro).depth.isSome = true → 1 ≤ 0 := fun hx => by cases hx
 cases r with
 | ok x w' =>
   cases x with
   | value v => exact h
   | skip => exact h
   | defer d => exact h
   | enter f args => exact ⟨dep, callsIn_fw.2 h⟩
   | row row args => exact ⟨dep, fun c cs _ => let ⟨v, w', r, s⟩ := h c cs; ⟨v, w', r, stepsIn_fw.2 s⟩⟩
   | round l f tmps assign body => exact h.elim
   | _ => exact h.elim
 | halt x w' => cases x <;> exact h
theorem wpOp_in {i : Nat} (hd : ∀ o ∈ ops.toList, ∀ c, o.op ≠ .defer c) (hQ : ¬ LetsOut Q) (h : wpOp P ops Q i K a w) : wpOpIn (fw ro) 0 P ops Q i K a w := by
 unfold wpOp at h
 unfold wpOpIn
 cases e : ops[i]? with
 | none => rw [e] at h; exact h
 | some o =>
   rw [e] at h
   simp only at h ⊢
   have hm : o ∈ ops.toList := Array.mem_toList_iff.2 (Array.mem_of_getElem? e)
   split
   · rename_i hw
     rw [if_pos hw] at h
     rcases h with h | h
     · exact wp_in (hd o hm) h
     · exact absurd h.2 hQ
   · rename_i hw
     rw [if_neg hw] at h
     exact ⟨fun _ _ => trivial, h⟩
theorem wpAny_in (hd : ∀ o ∈ ops.toList, ∀ c, o.op ≠ .defer c) (hQ : ¬ LetsOut Q) : ∀ (fuel : Nat) (listed : Array Bool) (a : Act) (w : World), wpAny P md ops Q fuel listed a w → wpAnyIn (fw ro) 0 P md ops Q fuel listed a w
 | 0, _, _, _, h => h
 | fuel + 1, listed, a, w, h => ⟨h.1, fun i hi => wpOpIn_mono (fun a w => wpAny_in hd hQ fuel _ a w) (wpOp_in hd hQ (h.2 i hi))⟩
theorem wpList_in (hQ : ¬ LetsOut Q) : ∀ (l : List Oper) (a : Act) (w : World), (∀ o ∈ l, ∀ c, o.op ≠ .defer c) → wpList P ops Q l a w → wpListIn (fw ro) 0 P ops Q l a w
 | [], _, _, _, h => h
 | o :: l, a, w, hd, h => by
   unfold wpList at h
   unfold wpListIn
   split
   · rename_i hw
     rw [if_pos hw] at h
     rcases h with h | h
     · exact Oper.wpIn_mono (fun a w => wpList_in hQ l a w (fun o ho => hd o (List.mem_cons_of_mem _ ho))) (wp_in (hd o List.mem_cons_self) h)
     · exact absurd h.2 hQ
   · rename_i hw
     rw [if_neg hw] at h
     exact ⟨fun _ _ => trivial, wpList_in hQ l _ w (fun o ho => hd o (List.mem_cons_of_mem _ ho)) h⟩
end
def WR (ro : Option Nat) (P : Program) (n : Sz) (c : Code) (Q : Post) (L : Env) (R : List RO) (O : List Own) : Prop :=
 ∀ a w, Fr n L a → Sat R O w → c.wpIn (fw ro) 0 P (lift n Q) a w
def WY (P : Program) (n : Sz) (ops : Array Oper) (Q : Post) (rest : List Oper) (L : Env) (R : List RO) (O : List Own) : Prop :=
 ∀ a w, Fr n L a → Sat R O w → wpListIn (fw none) 0 P ops (lift n Q) rest a w
theorem lift_out {n : Sz} {Q : Post} : ¬ LetsOut (lift n Q) := fun ⟨_, _, h⟩ => h
section
variable {P : Program} {ro : Option Nat} {n : Sz} {ops : Array Oper} {Q : Post} {rest : List Oper} {o : Oper} {L : Env} {R : List RO} {O O' : List Own}
theorem WR.region {id : Nat} {l : List Oper} (h : WL P n l.toArray Q l L R O) (hd : noDef l = true := by kernel_rfl) : WR ro P n (.region id l.toArray false) Q L R O :=
 fun a w hf hs => wpIn_region_lit (wpList_in lift_out l a w (fun o ho => noDef_spec hd ho) (h a w hf hs))
theorem WR.regionY {id : Nat} {l : List Oper} (h : WY P n l.toArray Q l L R O) : WR none P n (.region id l.toArray false) Q L R O :=
 fun a w hf hs => wpIn_region_lit (h a w hf hs)
theorem WR.drawn {id : Nat} {l : List Oper} (T : List Own) (m : Nat) (hlen : l.length = m) (hm : P.follows .mixedOrders = true) (h : WD P n l.toArray Q R T m (Array.replicate m false) L R O) (hd : noDef l = true := by kernel_rfl) : WR ro P n (.region id l.toArray true) Q L R O := by
 subst hlen
 intro a w hf hs
 exact wpIn_region_any hm (wpAny_in (fun o ho => noDef_spec hd (by simpa using ho)) lift_out _ _ _ _ (wpAny_of_held _ _ _ _ (h a _ hf (hs.drew _))))
theorem WY.nil (h : Q .normal L R O) : WY P n ops Q [] L R O := fun _ _ hf hs => wpListIn_nil (lift_normal h hf hs)
theorem WY.op (hg : o.guard = none) (h : OpW P n o L R O (fun L' R' O' => WY P n ops Q rest L' R' O')) (hd : noDef [o] = true := by kernel_rfl) : WY P n ops Q (o :: rest) L R O := by
 intro a w hf hs
 refine wpListIn_plain hg fun K hK => wp_in (noDef_spec hd List.mem_cons_self) ?_
 exact Oper.wp_mono (fun a' w' ⟨L', R', O', hk, hf', hs'⟩ => hK _ _ (hk a' w' hf' hs')) (h a w hf hs _)
theorem WY.rd {v : Value} {d : Nat} (hg : o.guard = none) (hd : o.dst = some d) (hn : Nat.blt d n.n = true) (h : Rd P o L R O v) (k : WY P n ops Q rest ((d, v) :: L) R O) (hdf : noDef [o] = true := by kernel_rfl) : WY P n ops Q (o :: rest) L R O :=
 WY.op hg (OpW.rd hd hn h k) hdf
theorem WY.heap {R' : List RO} {O' : List Own} (hs : ∀ w, Sat R O w → Sat R' O' w) (k : WY P n ops Q rest L R' O') : WY P n ops Q rest L R O := fun a w hf h => k a w hf (hs w h)
def thenR (ro : Option Nat) (P : Program) (n : Sz) (y : Code) (Q : Post) : Post
 | .normal, L, R, O => WR ro P n y Q L R O
 | e, L, R, O => Q e L R O
theorem thenR.normal {y : Code} (h : WR ro P n y Q L R O) : thenR ro P n y Q .normal L R O := h
theorem thenR.exit {y : Code} {id : Nat} (h : Q (.exit id) L R O) : thenR ro P n y Q (.exit id) L R O := h
theorem WR.seq {x y : Code} (h : WR ro P n x (thenR ro P n y Q) L R O) : WR ro P n (.seq x y) Q L R O := by
 intro a w hf hs
 refine wpIn_seq (wpIn_mono (h a w hf hs) fun e a' w' hq => ?_)
 cases e with
 | normal => obtain ⟨L', R', O', hk, hf', hs'⟩ := hq; exact hk a' w' hf' hs'
 | exit id => exact hq
 | goto l => exact hq
 | ret => exact hq
 | panic c => exact hq
 | outgrown => exact hq
theorem WR.skip (h : Q .normal L R O) : WR ro P n .skip Q L R O := fun _ _ hf hs => wpIn_skip (lift_normal h hf hs)
theorem WR.exit {id : Nat} (h : Q (.exit id) L R O) : WR ro P n (.exit id) Q L R O := fun _ _ hf hs => wpIn_exit ⟨_, _, _, h, hf, hs⟩
theorem WR.retO {O' : List Own} (hF : FinO n.ds O O') (h : Q .ret L R O') : WR ro P n .ret Q L R O := fun _ _ hf hs => wpIn_ret ⟨_, _, _, h, hf.own, by rw [hf.defers]; exact hF.fin hs⟩
theorem WR.ret (h : Q .ret L R O) (hF : FinO n.ds O O := by exact FinO.nil) : WR ro P n .ret Q L R O := WR.retO hF h
theorem WR.block {id : Nat} {c : Code} (h : WR ro P n c (blockQ id Q) L R O) : WR ro P n (.block id c) Q L R O := by
 intro a w hf hs
 refine wpIn_block (wpIn_mono (h a w hf hs) fun e a' w' hq => ?_)
 cases e with
 | normal => exact hq
 | exit id' =>
   obtain ⟨L', R', O', hk, hf', hs'⟩ := hq
   by_cases e : id' = id
   · subst e
     simp only [blockQ, Nat.beq_refl] at hk
     simp only [Exit.inBlock, if_true]
     exact ⟨_, _, _, hk, hf', hs'⟩
   · simp only [blockQ, show Nat.beq id' id = false from by rw [← Bool.not_eq_true, Nat.beq_eq]; exact e] at hk
     simp only [Exit.inBlock, e, if_false]
     exact ⟨_, _, _, hk, hf', hs'⟩
 | goto l => exact hq
 | ret => exact hq
 | panic c => exact hq
 | outgrown => exact hq
theorem WR.cond {c : Operand} {x y : Code} {b : Bool} (hc : ev L c = some (.bool b)) (ht : b = true → WR ro P n x Q L R O) (hf : b = false → WR ro P n y Q L R O) : WR ro P n (.cond c x y) Q L R O := by
 intro a w hfr hs
 exact wpIn_cond_split (hfr.ev hc) (fun h => ht h a w hfr hs) (fun h => hf h a w hfr hs)
theorem WR.ite {c : Operand} {x y : Code} {p : Prop} [Decidable p] (hc : ev L c = some (.bool (decide p))) (ht : p → WR ro P n x Q L R O) (hf : ¬ p → WR ro P n y Q L R O) : WR ro P n (.cond c x y) Q L R O :=
 WR.cond hc (fun h => ht (of_decide_eq_true h)) (fun h => hf (of_decide_eq_false h))
theorem WR.frame {c : Code} {L' : Env} (hs : Sub L' L) (k : WR ro P n c Q L' R O) : WR ro P n c Q L R O := fun a w hf h => k a w (hf.sub hs) h
theorem WR.pick {c : Code} (ks : List Nat) {L' : Env} (hp : Pick L ks L') (k : WR ro P n c Q L' R O) : WR ro P n c Q L R O := WR.frame hp.sub k
theorem WR.heap {c : Code} {R' : List RO} {O' : List Own} (hs : ∀ w, Sat R O w → Sat R' O' w) (k : WR ro P n c Q L R' O') : WR ro P n c Q L R O := fun a w hf h => k a w hf (hs w h)
theorem WR.loop {c : Code} {α : Type} (LF : α → Env) (RF : α → List RO) (OF : α → List Own) (I : α → Prop) (μ : α → Nat) (x0 : α) (h0 : I x0) (hL : Sub (LF x0) L) (hS : ∀ w, Sat R O w → Sat (RF x0) (OF x0) w)
 (round : ∀ x, I x → WR ro P n c (loopQ LF RF OF I μ (μ x) Q) (LF x) (RF x) (OF x)) : WR ro P n (.loop c) Q L R O := by
 intro a0 w0 hf0 hs0
 have hst : ∀ a w, (∃ x, I x ∧ Fr n (LF x) a ∧ Sat (RF x) (OF x) w) → ∃ x, (I x ∧ Fr n (LF x) a ∧ Sat (RF x) (OF x) w) ∧ ∀ y, I y → Fr n (LF y) a → Sat (RF y) (OF y) w → μ x ≤ μ y := fun a w ⟨x, hx⟩ => by
  have : ∀ m x, μ x ≤ m → (I x ∧ Fr n (LF x) a ∧ Sat (RF x) (OF x) w) → ∃ x, (I x ∧ Fr n (LF x) a ∧ Sat (RF x) (OF x) w) ∧ ∀ y, I y → Fr n (LF y) a → Sat (RF y) (OF y) w → μ x ≤ μ y := by
   intro m
   induction m with
   | zero => exact fun x hm hx => ⟨x, hx, fun y _ _ _ => by omega⟩
   | succ m ih =>
     intro x hm hx
     by_cases h : ∃ y, (I y ∧ Fr n (LF y) a ∧ Sat (RF y) (OF y) w) ∧ μ y ≤ m
     · obtain ⟨y, hy, hl⟩ := h; exact ih y hl hy
     · exact ⟨x, hx, fun y h1 h2 h3 => Nat.le_of_not_lt fun hlt => h ⟨y, ⟨h1, h2, h3⟩, by omega⟩⟩
  exact this _ x (Nat.le_refl _) hx
 haveI : ∀ (a : Act) (w : World), Decidable (∃ x, I x ∧ Fr n (LF x) a ∧ Sat (RF x) (OF x) w) := fun _ _ => Classical.propDecidable _
 let M : Act → World → Nat := fun a w => if h : ∃ x, I x ∧ Fr n (LF x) a ∧ Sat (RF x) (OF x) w then μ (hst a w h).choose else 0
 refine wpIn_loop (fun a w => ∃ x, I x ∧ Fr n (LF x) a ∧ Sat (RF x) (OF x) w) M ⟨x0, h0, hf0.sub hL, hS _ hs0⟩ fun a w hI => ?_
 have hM : M a w = μ (hst a w hI).choose := dif_pos hI
 obtain ⟨⟨h1, h2, h3⟩, h4⟩ := (hst a w hI).choose_spec
 refine wpIn_mono (round _ h1 a w h2 h3) fun e a' w' hq => ?_
 cases e with
 | normal =>
   obtain ⟨L', R', O', ⟨y, hy, hlt, hL', hS'⟩, hf', hs'⟩ := hq
   have hJ : ∃ x, I x ∧ Fr n (LF x) a' ∧ Sat (RF x) (OF x) w' := ⟨y, hy, hf'.sub hL', hS' _ hs'⟩
   refine ⟨hJ, ?_⟩
   have hM' : M a' w' = μ (hst a' w' hJ).choose := dif_pos hJ
   rw [hM, hM']
   exact Nat.lt_of_le_of_lt ((hst a' w' hJ).choose_spec.2 y hy (hf'.sub hL') (hS' _ hs')) hlt
 | exit id => exact hq
 | goto l => exact hq
 | ret => exact hq
 | panic c => exact hq
 | outgrown => exact hq
section
variable {c : Code} {α β γ : Type}
theorem WR.loop2 (m : Nat) (ch : α → β → Env) (OF : α → β → List Own) (I : α → β → Prop) (μ : α → β → Nat) (x0 : α) (y0 : β) {pre Lc : Env} (_hs : Split m L pre Lc) (h0 : I x0 y0) (hL : Sub (ch x0 y0 ++ Lc) L) (hS : ∀ w, Sat R O w → Sat R (OF x0 y0) w)
 (round : ∀ x y, I x y → WR ro P n c (loopQ2 ch Lc (fun _ _ => R) OF I μ (μ x y) Q) (ch x y ++ Lc) R (OF x y)) : WR ro P n (.loop c) Q L R O :=
 WR.loop (α := α × β) (fun q => ch q.1 q.2 ++ Lc) (fun _ => R) (fun q => OF q.1 q.2) (fun q => I q.1 q.2) (fun q => μ q.1 q.2) (x0, y0) h0 hL hS (fun q hq => round q.1 q.2 hq)
end
theorem Fun.enterR {f : FuncId} {fn : Func} {n : Nat} {c : Code} {l : List Value} {post : Value → List RO → List Own → Prop} (hf : P.funcs[f]? = some fn) (hb : fn.body = some c) (hn : fn.ntmps = n) (hl : Nat.ble l.length n = true) {L0 : Env} (hL : argsEnv l 0 = L0)
 (h : WR none P ⟨n, []⟩ c (retQ P fn ⟨n, []⟩ post) L0 R O) : Fun P f l.toArray R O post := by
 intro w hs
 refine callsIn_fw.1 (callsIn_of_wp_marks (F := fw none) (n := 0) hf hb trivial ?_)
 have hl' : l.length ≤ n := Nat.le_of_ble_eq_true hl
 refine wpIn_mono (h _ w ⟨?_, rfl, ?_⟩ hs) fun e a' w' hq => ?_
 · simp [hn]; omega
 · intro t v ht
   rw [← hL] at ht
   obtain ⟨_, h2⟩ := argsEnv_find ht
   simp only [Nat.sub_zero] at h2
   have hlt : t < l.length := (List.getElem?_eq_some_iff.1 h2).1
   simp only [Array.getD_eq_getD_getElem?]
   rw [Array.getElem?_append_left (by simpa using hlt)]
   simp [h2]
 · cases e with
   | normal => obtain ⟨L', R', O', ⟨v, hr, hp⟩, hf', hs'⟩ := hq; exact Fin.leaves (f := f) hr hp hf'.own (.inl ⟨hf'.defers, hs'⟩)
   | ret => obtain ⟨L', R', O', ⟨v, hr, hp⟩, hf', hs'⟩ := hq; exact Fin.leaves (f := f) hr hp hf' hs'
   | exit id => obtain ⟨L', R', O', hk, _⟩ := hq; exact hk.elim
   | goto l => obtain ⟨L', R', O', hk, _⟩ := hq; exact hk.elim
   | panic c => exact hq.elim
   | outgrown => exact hq.elim
def Yld (P : Program) (l : Nat) (args : List Value) (R : List RO) (O : List Own) (K : Bool → List RO → List Own → Prop) : Prop :=
 ∀ w, Sat R O w → YieldAt (fw none) 0 P l args.toArray w fun e w' => ∃ b R' O', e = .returned (.bool b) ∧ K b R' O' ∧ Sat R' O' w'
theorem WY.yield {l : Nat} {x : Operand} {xs : List Operand} {azs : List Value} {ts : Array TypeId} {d : Nat} (hg : o.guard = none) (ho : o.op = .call { callee := .value x, args := xs.toArray, argTypes := ts })
 (hx : ev L x = some (.func (.yield l) #[] #[])) (has : Evs L xs azs) (hd : o.dst = some d) (hn : Nat.blt d n.n = true)
 (h : Yld P l azs R O (fun b R' O' => WY P n ops Q rest ((d, .bool b) :: L) R' O')) : WY P n ops Q (o :: rest) L R O := by
 intro a w hf hs
 refine wpListIn_plain hg fun K hK => ⟨fun _ _ => trivial, ?_⟩
 have e1 : a.eval x = _ := hf.ev hx
 have e2 := has.eval (ρ := a.eval) (fun x u hx => hf.ev hx)
 obtain ⟨fn, tmps, assign, body, hy, hR⟩ := h w hs
 have hr : (execOp a.eval o).run P w = .ok (.round l fn tmps assign body) w := by
  simp only [execOp, ho, resolve, e1, Deferred.ofValue, List.map_toArray, e2, Sem.run_bind, Sem.run_pure, Result.andThen_ok, invoke]
  simpa using hy
 show o.uponIn _ _ _ _ _ _ ((o.semAt none a.eval).run P w)
 rw [Oper.semAt_none, hr, Oper.uponIn_round]
 refine ⟨fun hx => Bool.noConfusion hx, hR.mono fun e w' hq => ?_⟩
 obtain ⟨b, R', O', he, hk, hs'⟩ := hq
 subst he
 rw [hd]
 exact hK _ _ (hk _ _ (hf.put hn _) hs')
def recC (l : Nat) (n : Sz) (L : Env) (D : Nat) (st : LoopState) (pe : Option Code) (ps : Array Tmp) (assign body : Code) : Own :=
 ⟨[l], fun w => ∃ f tmps, w.heap[l]? = some (.loop { state := st, pending := pe, fn := f, tmps, params := ps, assign, body, defers := D }) ∧ Fr ⟨n.n, []⟩ L { tmps := tmps, defers := [] }⟩
def paramsEnv : List Nat → List Value → Env → Env
 | p :: ps, v :: vs, L => paramsEnv ps vs ((p, v) :: L)
 | _, _, L => L
theorem Fr.params : ∀ (ps : List Nat) (vs : List Value) {L : Env} {m : Nat} {tmps : Array Value}, ps.all (fun p => Nat.blt p m) = true → Fr ⟨m, []⟩ L { tmps := tmps, defers := [] } →
 Fr ⟨m, []⟩ (paramsEnv ps vs L) { tmps := (ps.zip vs).foldl (fun t (p, v) => t.setIfInBounds p v) tmps, defers := [] }
 | [], _, _, _, _, _, h => by simpa [paramsEnv] using h
 | _ :: _, [], _, _, _, _, h => by simpa [paramsEnv] using h
 | p :: ps, v :: vs, L, m, tmps, hp, h => by
   simp only [List.all_cons, Bool.and_eq_true] at hp
   simp only [List.zip_cons_cons, List.foldl_cons, paramsEnv]
   exact Fr.params ps vs hp.2 (h.put hp.1 v)
theorem Sat.loopPut {l : Nat} {n : Sz} {L : Env} {D : Nat} {st st' : LoopState} {pe pe' : Option Code} {ps : Array Tmp} {assign body : Code} {w : World} {f : FuncId} {tmps : Array Value}
 (h : Sat R (recC l n L D st pe ps assign body :: O) w) (hf : Fr ⟨n.n, []⟩ L { tmps := tmps, defers := [] }) :
 Sat R (recC l n L D st' pe' ps assign body :: O) (w.putObj l (.loop { state := st', pending := pe', fn := f, tmps, params := ps, assign, body, defers := D })) := by
 have hlt : l < w.heap.size := h.lt l (by simp [owned, recC])
 refine h.update _ ⟨rfl, rfl, rfl, by simp [World.putObj], fun k _ hn => World.putObj_heap_other (fun e => hn (by rw [e]; exact List.mem_singleton.2 rfl))⟩
  (fun k hk => .inl hk) (fun k hk => by rw [List.mem_singleton.1 hk]; simpa [World.putObj] using hlt) (by simp [recC]) (fun w2 ha _ => ⟨f, tmps, ?_, hf⟩)
 rw [ha.2.2.2.2 l (by simpa [World.putObj] using hlt) (fun hn => hn (by simp [recC]))]
 exact World.putObj_heap_same hlt
def roundQ (l : Nat) (n : Sz) (L : Env) (D : Nat) (ps : Array Tmp) (assign body : Code) (K : Bool → List RO → List Own → Prop) : Post
 | .normal, _, R, O => ∃ O2, Take (recC l n L D .busy none ps assign body) O O2 ∧ K true R (recC l n L D .ready none ps assign body :: O2)
 | .ret, _, R, O => ∃ O2, Take (recC l n L D .busy none ps assign body) O O2 ∧ K false R (recC l n L D .done (some .ret) ps assign body :: O2)
 | _, _, _, _ => False
def assignQ (l : Nat) (P : Program) (n : Sz) (L : Env) (D : Nat) (ps : Array Tmp) (assign body : Code) (K : Bool → List RO → List Own → Prop) : Post
 | .normal, L', R, O => ∃ O2, Take (recC l n L D .ready none ps assign body) O O2 ∧ WR (some l) P ⟨n.n, []⟩ body (roundQ l n L D ps assign body K) L' R (recC l n L D .busy none ps assign body :: O2)
 | _, _, _, _ => False
theorem assignQ.mk {l : Nat} {Lr L' : Env} {D : Nat} {ps : Array Tmp} {assign body : Code} {K : Bool → List RO → List Own → Prop} {O2 : List Own} (hT : Take (recC l n Lr D .ready none ps assign body) O O2)
 (h : WR (some l) P ⟨n.n, []⟩ body (roundQ l n Lr D ps assign body K) L' R (recC l n Lr D .busy none ps assign body :: O2)) : assignQ l P n Lr D ps assign body K .normal L' R O := ⟨O2, hT, h⟩
theorem roundQ.on {l : Nat} {Lr L' : Env} {D : Nat} {ps : Array Tmp} {assign body : Code} {K : Bool → List RO → List Own → Prop} {O2 : List Own} (hT : Take (recC l n Lr D .busy none ps assign body) O O2)
 (h : K true R (recC l n Lr D .ready none ps assign body :: O2)) : roundQ l n Lr D ps assign body K .normal L' R O := ⟨O2, hT, h⟩
theorem Yld.round {l : Nat} {Lr : Env} {D : Nat} {ps : List Nat} {assign body : Code} {args : List Value} {K : Bool → List RO → List Own → Prop} {L0 : Env}
 (hT : Take (recC l n Lr D .ready none ps.toArray assign body) O O') (hsz : args.length = ps.length) (hps : ps.all (fun p => Nat.blt p n.n) = true) (hL0 : paramsEnv ps args Lr = L0)
 (h : WR (some l) P ⟨n.n, []⟩ assign (assignQ l P n Lr D ps.toArray assign body K) L0 R (recC l n Lr D .ready none ps.toArray assign body :: O')) : Yld P l args R O K := by
 intro w hs
 have hs1 := hs.perm hT.perm
 obtain ⟨f, tmps, hl, hf⟩ := hs1.see List.mem_cons_self
 have hy := run_yield (P := P) (args := args.toArray) hl (by simpa using hsz)
 refine ⟨f, _, assign, body, hy, ?_⟩
 refine roundIn_of_wpIn trivial ?_
 have hzip : (ps.toArray.zip args.toArray).foldl (fun t (p, v) => t.setIfInBounds p v) tmps = (ps.zip args).foldl (fun t (p, v) => t.setIfInBounds p v) tmps := by
  rw [← Array.foldl_toList]; simp
 have hf0 : Fr ⟨n.n, []⟩ L0 { tmps := (ps.toArray.zip args.toArray).foldl (fun t (p, v) => t.setIfInBounds p v) tmps, defers := [] } := by
  rw [hzip, ← hL0]; exact Fr.params ps args hps hf
 refine wpIn_mono (h _ w hf0 hs1) fun e a1 w1 hq => ?_
 cases e with
 | normal =>
   obtain ⟨L1, R1, O1, ⟨O2, hT1, hb⟩, hf1, hs1⟩ := hq
   have hs2 := hs1.perm hT1.perm
   obtain ⟨f1, tmps1, hl1, hfr1⟩ := hs2.see List.mem_cons_self
   refine ⟨_, run_beginRound hl1 rfl, ?_⟩
   refine wpIn_mono (hb a1 _ hf1 (hs2.loopPut hfr1)) fun e a2 w2 hq => ?_
   cases e with
   | normal =>
     obtain ⟨L2, R2, O3, ⟨O4, hT2, hk⟩, _, hs3⟩ := hq
     have hs4 := hs3.perm hT2.perm
     obtain ⟨f2, tmps2, hl2, hfr2⟩ := hs4.see List.mem_cons_self
     exact ⟨_, _, run_endRound none hl2, true, _, _, rfl, hk, hs4.loopPut hfr2⟩
   | ret =>
     obtain ⟨L2, R2, O3, ⟨O4, hT2, hk⟩, hfr, hfin⟩ := hq
     rcases hfin with ⟨_, hs3⟩ | ⟨D', _, hs3⟩
     · have hs4 := hs3.perm hT2.perm
       obtain ⟨f2, tmps2, hl2, hfr2⟩ := hs4.see List.mem_cons_self
       exact ⟨_, _, run_endRound (some .ret) hl2, false, _, _, rfl, hk, hs4.loopPut hfr2⟩
     · have hs4 := hs3.drop.perm hT2.perm
       obtain ⟨f2, tmps2, hl2, hfr2⟩ := hs4.see List.mem_cons_self
       exact ⟨_, _, run_endRound (some .ret) hl2, false, _, _, rfl, hk, hs4.loopPut hfr2⟩
   | exit id => obtain ⟨_, _, _, hk, _⟩ := hq; exact hk.elim
   | goto t => obtain ⟨_, _, _, hk, _⟩ := hq; exact hk.elim
   | panic c => exact hq.elim
   | outgrown => exact hq.elim
 | ret => obtain ⟨_, _, _, hk, _⟩ := hq; exact hk.elim
 | exit id => obtain ⟨_, _, _, hk, _⟩ := hq; exact hk.elim
 | goto t => obtain ⟨_, _, _, hk, _⟩ := hq; exact hk.elim
 | panic c => exact hq.elim
 | outgrown => exact hq.elim
theorem Yld.mono {l : Nat} {args : List Value} {K K' : Bool → List RO → List Own → Prop} (h : Yld P l args R O K) (hk : ∀ b R O, K b R O → K' b R O) : Yld P l args R O K' := fun w hs => by
 obtain ⟨fn, tmps, assign, body, hy, hR⟩ := h w hs
 exact ⟨fn, tmps, assign, body, hy, hR.mono fun e w' ⟨b, R', O', he, hK, hs'⟩ => ⟨b, R', O', he, hk _ _ _ hK, hs'⟩⟩
theorem Yld.heap {l : Nat} {args : List Value} {K : Bool → List RO → List Own → Prop} {R' : List RO} (hs : ∀ w, Sat R O w → Sat R' O' w) (h : Yld P l args R' O' K) : Yld P l args R O K := fun w h0 => h w (hs w h0)
def onlyRet (Q : Post) : Post
 | .ret, L, R, O => Q .ret L R O
 | _, _, _, _ => False
theorem onlyRet.mk {Q : Post} (h : Q .ret L R O) : onlyRet Q .ret L R O := h
abbrev markOf (D : Nat) : List Deferred := [{ target := .collected D, args := #[] }]
def RangeOk (P : Program) (n : Sz) (g : Operand) (ps : List Nat) (assign body y : Code) (Q : Post) (L : Env) (R : List RO) (O : List Own) : Prop :=
 ∃ gf lb, ev L g = some (.func (.func gf) #[] (List.toArray lb)) ∧ hasBody P gf = true ∧
  ∀ l D, Fun P gf (.func (.yield l) #[] #[] :: lb).toArray R (recC l n L D .ready none ps.toArray assign body :: dfC D :: O) (fun _ R' O' => ∃ O2, Take (recC l n L D .ready none ps.toArray assign body) O' O2 ∧ WC P ⟨n.n, markOf D⟩ y (onlyRet Q) L R' O2)
theorem RangeOk.mk {g : Operand} {ps : List Nat} {assign body y : Code} {gf : Nat} {lb : List Value} (hg : ev L g = some (.func (.func gf) #[] lb.toArray)) (hb : hasBody P gf = true)
 (h : ∀ l D, Fun P gf (.func (.yield l) #[] #[] :: lb).toArray R (recC l n L D .ready none ps.toArray assign body :: dfC D :: O) (fun _ R' O' => ∃ O2, Take (recC l n L D .ready none ps.toArray assign body) O' O2 ∧ WC P ⟨n.n, markOf D⟩ y (onlyRet Q) L R' O2)) :
 RangeOk P n g ps assign body y Q L R O := ⟨gf, lb, hg, hb, h⟩
theorem RangeOk.core {g : Operand} {ps : List Nat} {assign body y : Code} {id : Nat} {a : Act} {w : World} (hds : n.ds = []) (hr : RangeOk P n g ps assign body y Q L R O) (hf : Fr n L a) (hs : Sat R O w) :
 (Code.block id (.rangeFunc g ps.toArray assign body)).wpIn Fence.wide 0 P (Exit.then (y.wpIn Fence.wide 0 P (lift n Q)) (lift n Q)) a w := by
 obtain ⟨gf, lb, hg, hb, h⟩ := hr
 refine wpIn_block ?_
 refine wpIn_rangeFunc fun fn _ => ?_
 have hsD : Sat R (dfC w.heap.size :: O) (w.alloc (.deferred (some []))) := hs.alloc _ _ rfl (fun w' h _ => h)
 have hsz : (w.alloc (.deferred (some []))).heap.size = w.heap.size + 1 := by simp
 have hfr : Fr ⟨n.n, []⟩ L { tmps := a.tmps, defers := [] } := ⟨hf.size, rfl, fun t v ht => hf.get t v ht⟩
 have hsL : Sat R (recC (w.heap.size + 1) n L w.heap.size .ready none ps.toArray assign body :: dfC w.heap.size :: O) ((w.alloc (.deferred (some []))).alloc (.loop { state := .ready, pending := none, fn, tmps := a.tmps, params := ps.toArray, assign, body, defers := w.heap.size })) :=
  hsD.alloc _ _ (by rw [hsz]; rfl) (fun w' h _ => ⟨fn, a.tmps, by rw [hsz] at h; exact h, hfr⟩)
 have e1 : a.eval g = _ := hf.ev hg
 have hc := h (w.heap.size + 1) w.heap.size _ hsL
 obtain ⟨W1, hW1⟩ : ∃ W1, (w.alloc (.deferred (some []))).alloc (.loop { state := .ready, pending := none, fn, tmps := a.tmps, params := ps.toArray, assign, body, defers := w.heap.size }) = W1 := ⟨_, rfl⟩
 rw [hW1] at hc
 refine ⟨w.heap.size + 1, markOf w.heap.size, W1, { target := .fn (.func gf) lb.toArray, args := #[.func (.yield (w.heap.size + 1)) #[] #[]] }, W1, gf, (.func (.yield (w.heap.size + 1)) #[] #[] :: lb).toArray, W1,
  hW1 ▸ run_enterLoop_outer fn a.tmps ps.toArray assign body, ?_, fun _ _ => trivial, ?_, fun hx => Bool.noConfusion hx, (callsIn_wide (n := 0)).2 (hc.mono ?_)⟩
 · simp only [resolve, e1]
   simp [go_sem, Deferred.ofValue]
 · simp [invoke, go_sem, run_callFunc hb]
 · rintro e w2 ⟨v, R', O', rfl, ⟨O2, hT, hy⟩, hs2⟩
   have hs3 := hs2.perm hT.perm
   obtain ⟨f2, tmps2, hl2, hfr2⟩ := hs3.see List.mem_cons_self
   refine ⟨none, _, run_endLoop hl2 (by simp), ?_⟩
   have hs4 := (hs3.loopPut (st' := .exhausted) (pe' := none) (f := f2) hfr2).drop
   have hf2 : Fr ⟨n.n, markOf w.heap.size⟩ L { a with defers := markOf w.heap.size ++ a.defers } := ⟨hf.size, by show _ ++ a.defers = _; rw [hf.defers, hds]; rfl, fun t v ht => hf.get t v ht⟩
   have hy' := hy _ _ hf2 hs4
   show Code.wpIn Fence.wide 0 P y (lift n Q) _ _
   refine wpIn_wide.2 (wp_mono hy' fun e a' w' hq => ?_)
   cases e with
   | ret => obtain ⟨L', R', O', h1, h2, h3⟩ := hq; exact ⟨L', R', O', h1, h2, h3⟩
   | normal => obtain ⟨_, _, _, hk, _⟩ := hq; exact hk.elim
   | exit id => obtain ⟨_, _, _, hk, _⟩ := hq; exact hk.elim
   | goto t => obtain ⟨_, _, _, hk, _⟩ := hq; exact hk.elim
   | panic c => exact hq.elim
   | outgrown => exact hq.elim
def rangeQ (P : Program) (n : Sz) (g : Operand) (ps : List Nat) (assign body y : Code) (Q : Post) : Post
 | .normal, L, R, O => RangeOk P n g ps assign body y Q L R O
 | e, L, R, O => Q e L R O
theorem rangeQ.normal {g : Operand} {ps : List Nat} {assign body y : Code} (h : RangeOk P n g ps assign body y Q L R O) : rangeQ P n g ps assign body y Q .normal L R O := h
theorem WC.rangeSeq {g : Operand} {ps : List Nat} {assign body x y : Code} {id : Nat} (hds : n.ds = []) (h : WC P n x (rangeQ P n g ps assign body y Q) L R O) :
 WC P n (.seq (.seq x (.block id (.rangeFunc g ps.toArray assign body))) y) Q L R O := by
 intro a w hf hs
 refine wpIn_wide.1 (wpIn_seq (F := Fence.wide) (n := 0) (wpIn_seq (wpIn_wide.2 (wp_mono (h a w hf hs) fun e a' w' hq => ?_))))
 cases e with
 | normal => obtain ⟨L', R', O', hk, hf', hs'⟩ := hq; exact RangeOk.core hds hk hf' hs'
 | exit id => exact hq
 | goto l => exact hq
 | ret => exact hq
 | panic c => exact hq
 | outgrown => exact hq
end
end Go.SL
namespace Go.SL
open Go Go.RowKit Go.Sort
section
variable {R : List RO} {O O' : List Own} {e : TypeId} {xs ys : List (List UInt8)} {b cap : Nat}
theorem acc_holds {w : World} (h : (accC e 1 (SL.one vs) (.slice (some ⟨b, 0, none⟩) xs.length cap) xs).pred w) : Holds Go.Proofs.encStr w b 0 xs.toArray := by
 obtain ⟨hl, hv⟩ := h
 rcases hv with ⟨h0, _⟩ | ⟨g, c, cur, hv, _, hg, hn, hc, hs, ht⟩
 · cases h0
 · simp only [Value.slice.injEq, Option.some.injEq, Addr.mk.injEq, and_true, true_and] at hv
   obtain ⟨rfl, rfl⟩ := hv
   intro j hj
   have hj' : j < xs.length := by simpa using hj
   rw [flat_one, Nat.mul_one] at ht
   have h1 : (cur.toList.take xs.length)[j]? = some (vs xs[j]!) := by rw [ht, List.getElem?_map, get!_of_lt hj']; rfl
   rw [List.getElem?_take_of_lt hj', Array.getElem?_toList] at h1
   refine ⟨?_, ?_⟩
   · simp only [World.cell?, hg, Nat.zero_add, h1]
     congr 1
     rw [show (xs.toArray)[j]! = xs[j]! from by simp]
     rfl
   · simp [World.frozen?, hg]
theorem acc_put {w : World} {k : Nat} {os : Array Obj} (hl : ys.length = xs.length) (h : Sat R (accC e 1 (SL.one vs) (.slice (some ⟨b, 0, none⟩) xs.length cap) xs :: O) w) :
 Sat R (accC e 1 (SL.one vs) (.slice (some ⟨b, 0, none⟩) xs.length cap) ys :: O) (grow (putRow Go.Proofs.encStr (Go.Sort.ahead w k) b 0 ys.toArray) os) := by
 have hp := h.see List.mem_cons_self
 have hlt := ownBlock_lt hp b (by simp [Value.ownBlock])
 obtain ⟨hll, hv⟩ := hp
 rcases hv with ⟨h0, _⟩ | ⟨g, c, cur, hv, _, hg, hn, hc, hs, ht⟩
 · cases h0
 simp only [Value.slice.injEq, Option.some.injEq, Addr.mk.injEq, and_true, true_and] at hv
 obtain ⟨rfl, rfl⟩ := hv
 have hsz : (putRow Go.Proofs.encStr (Go.Sort.ahead w k) b 0 ys.toArray).heap.size = w.heap.size := by rw [size_putRow]; rfl
 have hheap : ∀ j, j < w.heap.size → (grow (putRow Go.Proofs.encStr (Go.Sort.ahead w k) b 0 ys.toArray) os).heap[j]? = if b = j then (w.heap[j]?).map (onCells (putCells Go.Proofs.encStr 0 ys.toArray)) else w.heap[j]? := fun j hj => by
  show ((putRow Go.Proofs.encStr (Go.Sort.ahead w k) b 0 ys.toArray).heap ++ os)[j]? = _
  rw [Array.getElem?_append_left (by rw [hsz]; exact hj)]
  show ((w.heap.modify b (onCells (putCells Go.Proofs.encStr 0 ys.toArray))))[j]? = _
  rw [Array.getElem?_modify]
 refine h.update _ ⟨rfl, rfl, rfl, ?_, fun j hj hn => ?_⟩ (fun j hj => .inl hj) (fun j hj => ?_) (by simp [accC, Value.ownBlock]) (fun w2 ha _ => ?_)
 · show w.heap.size ≤ ((putRow Go.Proofs.encStr (Go.Sort.ahead w k) b 0 ys.toArray).heap ++ os).size
   rw [Array.size_append, hsz]; omega
 · rw [hheap j hj, if_neg (fun e => hn (by simp [accC, Value.ownBlock, e]))]
 · have e : j = b := by simpa [accC, Value.ownBlock] using hj
   subst e
   show j < ((putRow Go.Proofs.encStr (Go.Sort.ahead w k) j 0 ys.toArray).heap ++ os).size
   rw [Array.size_append, hsz]; omega
 · have h2 := ha.2.2.2.2 b (by
    show b < ((putRow Go.Proofs.encStr (Go.Sort.ahead w k) b 0 ys.toArray).heap ++ os).size
    rw [Array.size_append, hsz]; omega) (fun hn => hn (by simp [accC, Value.ownBlock]))
   rw [hheap b hlt, if_pos rfl, hg] at h2
   refine ⟨by rw [flat_one, List.length_map, Nat.mul_one], .inr ⟨b, cap, putCells Go.Proofs.encStr 0 ys.toArray cur, by rw [hl], Nat.zero_le _, h2, by rw [hl]; exact hn, hc, by simp [putCells, hs], ?_⟩⟩
   rw [flat_one, Nat.mul_one]
   apply List.ext_getElem?
   intro j
   have hcs : cur.size = cap := by omega
   by_cases hj : j < ys.length
   · rw [List.getElem?_take_of_lt hj, Array.getElem?_toList, List.getElem?_map, get!_of_lt hj]
     simp only [putCells, Array.getElem?_mapIdx, Option.map_some]
     rw [Array.getElem?_eq_getElem Z.W]
     simp only [Option.map_some, Nat.zero_le, true_and, Nat.sub_zero]
     rw [if_pos (by simpa using hj)]
     congr 1
     rw [show (ys.toArray)[j]! = ys[j]! from by simp]
   · rw [List.getElem?_eq_none (by rw [List.length_take]; omega), List.getElem?_eq_none (by rw [List.length_map]; omega)]
theorem Fun.sorts {P : Program} {f : FuncId} {v : Value} {POST : Value → List RO → List Own → Prop}
 (hc : ∀ (blk off cap : Nat) (ss : List (List UInt8)) (w : World), Holds Go.Proofs.encStr w blk off ss.toArray → blk < w.heap.size → ss.length < 4611686018427387904 →
   Calls P f #[.slice (some ⟨blk, off, none⟩) ss.length cap] w fun e w' => e = .returned (.tuple #[]) ∧ ∃ n os, w' = grow (putRow Go.Proofs.encStr (Go.Sort.ahead w n) blk off (ss.mergeSort fun x y => decide (x ≤ y)).toArray) os)
 (hn : ∀ (p : Option Addr) (cap : Nat) (w : World), Calls P f #[.slice p 0 cap] w fun e w' => e = .returned (.tuple #[]) ∧ w' = w)
 (hl : xs.length < 4611686018427387904) (hk : POST (.tuple #[]) R (accC e 1 (SL.one vs) v (xs.mergeSort fun x y => decide (x ≤ y)) :: O)) : Fun P f #[v] R (accC e 1 (SL.one vs) v xs :: O) POST := by
 intro w hs
 have hp := hs.see List.mem_cons_self
 obtain ⟨_, hv⟩ := hp
 rcases hv with ⟨rfl, h0⟩ | ⟨g, c, cur, rfl, _⟩
 · refine (hn none 0 w).mono fun e' w' ⟨he, hw⟩ => ⟨_, R, _, he, hk, ?_⟩
   obtain rfl := List.length_eq_zero_iff.1 h0
   rw [hw]; simpa using hs
 · have hp := hs.see List.mem_cons_self
   refine (hc g 0 c xs w (acc_holds hp) (ownBlock_lt hp g (by simp [Value.ownBlock])) hl).mono fun e' w' ⟨he, k, os, hw⟩ => ⟨_, R, _, he, hk, ?_⟩
   rw [hw]
   exact acc_put (List.length_mergeSort _) hs
theorem Fun.compacts {P : Program} {f : FuncId} {v : Value} {POST : Value → List RO → List Own → Prop}
 (hc : ∀ (blk off cap : Nat) (zs : List (List UInt8)) (w : World), Holds Go.Proofs.encStr w blk off zs.toArray → zs.length ≤ 9223372036854775807 → zs.length ≤ cap →
   Calls P f #[.slice (some ⟨blk, off, none⟩) zs.length cap] w fun e w' => e = .returned (.slice (some ⟨blk, off, none⟩) (Go.Lib.compact zs).length cap) ∧ ∃ q, w' = putRow Go.Proofs.encStr (Go.Sort.ahead w q) blk off (Go.Lib.compact zs ++ List.replicate (zs.length - (Go.Lib.compact zs).length) []).toArray)
 (hn : ∀ (a : Option Addr) (cap : Nat) (w : World), Calls P f #[.slice a 0 cap] w fun e w' => e = .returned (.slice a 0 cap) ∧ w' = w)
 (hcl : (Go.Lib.compact xs).length ≤ xs.length) (hl : xs.length ≤ 9223372036854775807) (hk : ∀ v', POST v' R (accC e 1 (SL.one vs) v' (Go.Lib.compact xs) :: O)) : Fun P f #[v] R (accC e 1 (SL.one vs) v xs :: O) POST := by
 intro w hs
 have hp := hs.see List.mem_cons_self
 have hp2 := hp
 obtain ⟨_, hv⟩ := hp2
 rcases hv with ⟨rfl, h0⟩ | ⟨g, c, cur, rfl, _, _, hnc, _⟩
 · refine (hn none 0 w).mono fun e' w' ⟨he, hw⟩ => ⟨_, R, _, he, hk _, ?_⟩
   obtain rfl := List.length_eq_zero_iff.1 h0
   rw [hw]; exact hs
 · refine (hc g 0 c xs w (acc_holds hp) hl hnc).mono fun e' w' ⟨he, q, hw⟩ => ⟨_, R, _, he, hk _, ?_⟩
   have h2 : Sat R (accC e 1 (SL.one vs) (.slice (some ⟨g, 0, none⟩) xs.length c) (Go.Lib.compact xs ++ List.replicate (xs.length - (Go.Lib.compact xs).length) []) :: O) w' := by
    have := acc_put (k := q) (os := #[]) (ys := Go.Lib.compact xs ++ List.replicate (xs.length - (Go.Lib.compact xs).length) []) (by rw [List.length_append, List.length_replicate]; omega) hs
    rw [grow_empty] at this
    rw [hw]
    exact this
   have el : xs.length = (Go.Lib.compact xs ++ List.replicate (xs.length - (Go.Lib.compact xs).length) []).length := by rw [List.length_append, List.length_replicate]; omega
   generalize hz : Go.Lib.compact xs ++ List.replicate (xs.length - (Go.Lib.compact xs).length) [] = zs at h2 el
   have h3 := Sat.cutAcc (e := e) (enc := SL.one vs) (size := 1) (hi := (Go.Lib.compact xs).length) (Take.head _) (fun _ => rfl) (by rw [← el]; exact hcl) (by rw [el] at h2; exact h2)
   rw [subSl0, ← hz, List.take_append_of_le_length (Nat.le_refl _), List.take_length] at h3
   exact h3
end
end Go.SL
namespace Go.Proofs
open Go.Shelf
def Tryz.lays219_ren : Go.Shelf.Ren := ⟨fun | 219 => 274 | 217 => 287 | 225 => 323 | 224 => 324 | 267 => 325 | 266 => 331 | 314 => 353 | n => n, fun | 9 => 9 | 3 => 3 | 4 => 4 | 5 => 5 | 46 => 139 | 146 => 276 | 51 => 272 | n => n, fun | 1 => 1 | n => n⟩
def Tryz.lays143_ren : Go.Shelf.Ren := ⟨fun | 143 => 209 | 219 => 274 | 217 => 287 | 225 => 323 | 224 => 324 | 267 => 325 | 266 => 331 | 314 => 353 | n => n, fun | 9 => 9 | 3 => 3 | 4 => 4 | 5 => 5 | 46 => 139 | 146 => 276 | 51 => 272 | n => n, fun | 1 => 1 | n => n⟩
theorem Tryz.lays143 : Go.Proofs.Lays.n143 Tryz.prog Tryz.lays143_ren := {
 mixed := by kernel_rfl
 f143 := Tryz.func209.trans (congrArg some (by kernel_rfl))
 f217 := Tryz.func287.trans (congrArg some (by kernel_rfl))
 f219 := Tryz.func274.trans (congrArg some (by kernel_rfl))
 f224 := Tryz.func324.trans (congrArg some (by kernel_rfl))
 f225 := Tryz.func323.trans (congrArg some (by kernel_rfl))
 f266 := Tryz.func331.trans (congrArg some (by kernel_rfl))
 f267 := Tryz.func325.trans (congrArg some (by kernel_rfl))
 f314 := Tryz.func353.trans (congrArg some (by kernel_rfl))
 t3 := Tryz.underlying3
 a3 := Tryz.isAgg3
 z3 := Tryz.sizeOf3
 v3 := Tryz.zeroValue3
 t4 := Tryz.underlying4
 a4 := Tryz.isAgg4
 z4 := Tryz.sizeOf4
 v4 := Tryz.zeroValue4
 t5 := Tryz.underlying5
 a5 := Tryz.isAgg5
 z5 := Tryz.sizeOf5
 v5 := Tryz.zeroValue5
 t9 := Tryz.underlying9
 a9 := Tryz.isAgg9
 z9 := Tryz.sizeOf9
 v9 := Tryz.zeroValue9
 t46 := Tryz.underlying139
 a46 := Tryz.isAgg139
 z46 := Tryz.sizeOf139
 v46 := Tryz.zeroValue139
 t51 := Tryz.underlying272
 a51 := Tryz.isAgg272
 z51 := Tryz.sizeOf272
 v51 := Tryz.zeroValue272
 t146 := Tryz.underlying276
 a146 := Tryz.isAgg276
 z146 := Tryz.sizeOf276
 v146 := Tryz.zeroValue276
 g1 := by kernel_rfl }
open Go.RowKit Go.Lib in
theorem Tryz.strings_Index (s sub : ByteArray) (m : Int) (w : World) (hs : s.size < 4294967281) (hm : w.cell? ⟨1, 0, none⟩ = some (.int .i64 m)) :
 Calls Tryz.prog 209 #[.string s, .string sub] w fun e w' => e = .returned (.int .i64 (Lib.index s.data.toList sub.data.toList)) ∧ w' = w := Any.strings_Index Tryz.lays143 s sub m w hs hm
def Tryz.lays144_ren : Go.Shelf.Ren := ⟨fun | 144 => 242 | 143 => 209 | 219 => 274 | 217 => 287 | 225 => 323 | 224 => 324 | 267 => 325 | 266 => 331 | 314 => 353 | n => n, fun | 9 => 9 | 4 => 4 | 3 => 3 | 5 => 5 | 46 => 139 | 146 => 276 | 51 => 272 | n => n, fun | 1 => 1 | n => n⟩
theorem Tryz.lays144 : Go.Proofs.Lays.n144 Tryz.prog Tryz.lays144_ren := {
 mixed := by kernel_rfl
 f143 := Tryz.func209.trans (congrArg some (by kernel_rfl))
 f144 := Tryz.func242.trans (congrArg some (by kernel_rfl))
 f217 := Tryz.func287.trans (congrArg some (by kernel_rfl))
 f219 := Tryz.func274.trans (congrArg some (by kernel_rfl))
 f224 := Tryz.func324.trans (congrArg some (by kernel_rfl))
 f225 := Tryz.func323.trans (congrArg some (by kernel_rfl))
 f266 := Tryz.func331.trans (congrArg some (by kernel_rfl))
 f267 := Tryz.func325.trans (congrArg some (by kernel_rfl))
 f314 := Tryz.func353.trans (congrArg some (by kernel_rfl))
 t3 := Tryz.underlying3
 a3 := Tryz.isAgg3
 z3 := Tryz.sizeOf3
 v3 := Tryz.zeroValue3
 t4 := Tryz.underlying4
 a4 := Tryz.isAgg4
 z4 := Tryz.sizeOf4
 v4 := Tryz.zeroValue4
 t5 := Tryz.underlying5
 a5 := Tryz.isAgg5
 z5 := Tryz.sizeOf5
 v5 := Tryz.zeroValue5
 t9 := Tryz.underlying9
 a9 := Tryz.isAgg9
 z9 := Tryz.sizeOf9
 v9 := Tryz.zeroValue9
 t46 := Tryz.underlying139
 a46 := Tryz.isAgg139
 z46 := Tryz.sizeOf139
 v46 := Tryz.zeroValue139
 t51 := Tryz.underlying272
 a51 := Tryz.isAgg272
 z51 := Tryz.sizeOf272
 v51 := Tryz.zeroValue272
 t146 := Tryz.underlying276
 a146 := Tryz.isAgg276
 z146 := Tryz.sizeOf276
 v146 := Tryz.zeroValue276
 g1 := by kernel_rfl }
open Go.RowKit Go.Lib in
theorem Tryz.strings_Contains (s sub : ByteArray) (m : Int) (w : World) (hs : s.size < 4294967281) (hm : w.cell? ⟨1, 0, none⟩ = some (.int .i64 m)) :
 Calls Tryz.prog 242 #[.string s, .string sub] w fun e w' => e = .returned (.bool (Lib.contains s.data.toList sub.data.toList)) ∧ w' = w := Any.strings_Contains Tryz.lays144 s sub m w hs hm
def Tryz.lays190_ren : Go.Shelf.Ren := ⟨fun | 190 => 54 | 125 => 90 | 258 => 89 | 128 => 157 | 129 => 158 | 302 => 148 | 303 => 149 | 304 => 150 | 305 => 151 | 306 => 152 | 307 => 153 | 308 => 154 | 309 => 155 | 310 => 156 | 333 => 223 | 329 => 224 | 330 => 225 | 334 => 226 | 335 => 227 | 336 => 228 | 344 => 280 | n => n, fun | 31 => 24 | 9 => 9 | 3 => 3 | 46 => 139 | 0 => 0 | 51 => 272 | 53 => 274 | 4 => 4 | 183 => 266 | 182 => 265 | 131 => 218 | 5 => 5 | 218 => 339 | 222 => 343 | 228 => 418 | 229 => 419 | n => n, fun | n => n⟩
theorem Tryz.lays190 : Go.Proofs.Lays.n190 Tryz.prog Tryz.lays190_ren := {
 mixed := by kernel_rfl
 f125 := Tryz.func90.trans (congrArg some (by kernel_rfl))
 f128 := Tryz.func157.trans (congrArg some (by kernel_rfl))
 f129 := Tryz.func158.trans (congrArg some (by kernel_rfl))
 f190 := Tryz.func54.trans (congrArg some (by kernel_rfl))
 f258 := Tryz.func89.trans (congrArg some (by kernel_rfl))
 f302 := Tryz.func148.trans (congrArg some (by kernel_rfl))
 f303 := Tryz.func149.trans (congrArg some (by kernel_rfl))
 f304 := Tryz.func150.trans (congrArg some (by kernel_rfl))
 f305 := Tryz.func151.trans (congrArg some (by kernel_rfl))
 f306 := Tryz.func152.trans (congrArg some (by kernel_rfl))
 f307 := Tryz.func153.trans (congrArg some (by kernel_rfl))
 f308 := Tryz.func154.trans (congrArg some (by kernel_rfl))
 f309 := Tryz.func155.trans (congrArg some (by kernel_rfl))
 f310 := Tryz.func156.trans (congrArg some (by kernel_rfl))
 f329 := Tryz.func224.trans (congrArg some (by kernel_rfl))
 f330 := Tryz.func225.trans (congrArg some (by kernel_rfl))
 f333 := Tryz.func223.trans (congrArg some (by kernel_rfl))
 f334 := Tryz.func226.trans (congrArg some (by kernel_rfl))
 f335 := Tryz.func227.trans (congrArg some (by kernel_rfl))
 f336 := Tryz.func228.trans (congrArg some (by kernel_rfl))
 f344 := Tryz.func280.trans (congrArg some (by kernel_rfl))
 t0 := Tryz.underlying0
 a0 := Tryz.isAgg0
 z0 := Tryz.sizeOf0
 v0 := Tryz.zeroValue0
 t3 := Tryz.underlying3
 a3 := Tryz.isAgg3
 z3 := Tryz.sizeOf3
 v3 := Tryz.zeroValue3
 t4 := Tryz.underlying4
 a4 := Tryz.isAgg4
 z4 := Tryz.sizeOf4
 v4 := Tryz.zeroValue4
 t5 := Tryz.underlying5
 a5 := Tryz.isAgg5
 z5 := Tryz.sizeOf5
 v5 := Tryz.zeroValue5
 t9 := Tryz.underlying9
 a9 := Tryz.isAgg9
 z9 := Tryz.sizeOf9
 v9 := Tryz.zeroValue9
 t31 := Tryz.underlying24
 a31 := Tryz.isAgg24
 z31 := Tryz.sizeOf24
 v31 := Tryz.zeroValue24
 t46 := Tryz.underlying139
 a46 := Tryz.isAgg139
 z46 := Tryz.sizeOf139
 v46 := Tryz.zeroValue139
 t51 := Tryz.underlying272
 a51 := Tryz.isAgg272
 z51 := Tryz.sizeOf272
 v51 := Tryz.zeroValue272
 t53 := Tryz.underlying274
 a53 := Tryz.isAgg274
 z53 := Tryz.sizeOf274
 v53 := Tryz.zeroValue274
 t131 := Tryz.underlying218
 a131 := Tryz.isAgg218
 z131 := Tryz.sizeOf218
 v131 := Tryz.zeroValue218
 t182 := Tryz.underlying265
 a182 := Tryz.isAgg265
 z182 := Tryz.sizeOf265
 v182 := Tryz.zeroValue265
 t183 := Tryz.underlying266
 a183 := Tryz.isAgg266
 z183 := Tryz.sizeOf266
 v183 := Tryz.zeroValue266
 t218 := Tryz.underlying339
 a218 := Tryz.isAgg339
 z218 := Tryz.sizeOf339
 v218 := Tryz.zeroValue339
 t222 := Tryz.underlying343
 a222 := Tryz.isAgg343
 z222 := Tryz.sizeOf343
 v222 := Tryz.zeroValue343
 t228 := Tryz.underlying418
 a228 := Tryz.isAgg418
 z228 := Tryz.sizeOf418
 v228 := Tryz.zeroValue418
 t229 := Tryz.underlying419
 a229 := Tryz.isAgg419
 z229 := Tryz.sizeOf419
 v229 := Tryz.zeroValue419 }
open Go.Sort Go.RowKit in
theorem Tryz.slices_Sort_string (blk off cap : Nat) (ss : List (List UInt8)) (w : World) (hH : Holds encStr w blk off ss.toArray) (hblk : blk < w.heap.size) (hsz : ss.length < 4611686018427387904) :
 Calls Tryz.prog 54 #[.slice (some ⟨blk, off, none⟩) ss.length cap] w fun e w' =>
  e = .returned (.tuple #[]) ∧ ∃ n os, w' = grow (putRow encStr (Sort.ahead w n) blk off (ss.mergeSort fun x y => decide (x ≤ y)).toArray) os := Any.slices_Sort_string Tryz.lays190 blk off cap ss w hH hblk hsz
def Tryz.lays105_ren : Go.Shelf.Ren := ⟨fun | 105 => 94 | 212 => 93 | 99 => 116 | 165 => 161 | 166 => 109 | 170 => 162 | 169 => 110 | 263 => 159 | 264 => 160 | 206 => 183 | 240 => 175 | 241 => 229 | 276 => 237 | 277 => 281 | n => n, fun | 9 => 9 | 3 => 3 | 4 => 4 | 20 => 20 | 0 => 0 | 46 => 139 | 109 => 178 | 5 => 5 | 72 => 207 | 76 => 211 | 51 => 272 | 146 => 276 | 53 => 274 | 148 => 278 | 70 => 205 | 37 => 38 | 75 => 210 | 127 => 293 | 164 => 353 | 80 => 122 | n => n, fun | n => n⟩
theorem Tryz.lays105 : Go.Proofs.Lays.n105 Tryz.prog Tryz.lays105_ren := {
 mixed := by kernel_rfl
 f99 := Tryz.func116.trans (congrArg some (by kernel_rfl))
 f105 := Tryz.func94.trans (congrArg some (by kernel_rfl))
 f165 := Tryz.func161.trans (congrArg some (by kernel_rfl))
 f166 := Tryz.func109.trans (congrArg some (by kernel_rfl))
 f169 := Tryz.func110.trans (congrArg some (by kernel_rfl))
 f170 := Tryz.func162.trans (congrArg some (by kernel_rfl))
 f206 := Tryz.func183.trans (congrArg some (by kernel_rfl))
 f212 := Tryz.func93.trans (congrArg some (by kernel_rfl))
 f240 := Tryz.func175.trans (congrArg some (by kernel_rfl))
 f241 := Tryz.func229.trans (congrArg some (by kernel_rfl))
 f263 := Tryz.func159.trans (congrArg some (by kernel_rfl))
 f264 := Tryz.func160.trans (congrArg some (by kernel_rfl))
 f276 := Tryz.func237.trans (congrArg some (by kernel_rfl))
 f277 := Tryz.func281.trans (congrArg some (by kernel_rfl))
 t0 := Tryz.underlying0
 a0 := Tryz.isAgg0
 z0 := Tryz.sizeOf0
 v0 := Tryz.zeroValue0
 t3 := Tryz.underlying3
 a3 := Tryz.isAgg3
 z3 := Tryz.sizeOf3
 v3 := Tryz.zeroValue3
 t4 := Tryz.underlying4
 a4 := Tryz.isAgg4
 z4 := Tryz.sizeOf4
 v4 := Tryz.zeroValue4
 t5 := Tryz.underlying5
 a5 := Tryz.isAgg5
 z5 := Tryz.sizeOf5
 v5 := Tryz.zeroValue5
 t9 := Tryz.underlying9
 a9 := Tryz.isAgg9
 z9 := Tryz.sizeOf9
 v9 := Tryz.zeroValue9
 t20 := Tryz.underlying20
 a20 := Tryz.isAgg20
 z20 := Tryz.sizeOf20
 v20 := Tryz.zeroValue20
 t37 := Tryz.underlying38
 a37 := Tryz.isAgg38
 z37 := Tryz.sizeOf38
 v37 := Tryz.zeroValue38
 t46 := Tryz.underlying139
 a46 := Tryz.isAgg139
 z46 := Tryz.sizeOf139
 v46 := Tryz.zeroValue139
 t51 := Tryz.underlying272
 a51 := Tryz.isAgg272
 z51 := Tryz.sizeOf272
 v51 := Tryz.zeroValue272
 t53 := Tryz.underlying274
 a53 := Tryz.isAgg274
 z53 := Tryz.sizeOf274
 v53 := Tryz.zeroValue274
 t70 := Tryz.underlying205
 a70 := Tryz.isAgg205
 z70 := Tryz.sizeOf205
 v70 := Tryz.zeroValue205
 t72 := Tryz.underlying207
 a72 := Tryz.isAgg207
 z72 := Tryz.sizeOf207
 v72 := Tryz.zeroValue207
 t75 := Tryz.underlying210
 a75 := Tryz.isAgg210
 z75 := Tryz.sizeOf210
 v75 := Tryz.zeroValue210
 t76 := Tryz.underlying211
 a76 := Tryz.isAgg211
 z76 := Tryz.sizeOf211
 v76 := Tryz.zeroValue211
 t109 := Tryz.underlying178
 a109 := Tryz.isAgg178
 z109 := Tryz.sizeOf178
 v109 := Tryz.zeroValue178
 t127 := Tryz.underlying293
 a127 := Tryz.isAgg293
 z127 := Tryz.sizeOf293
 v127 := Tryz.zeroValue293
 t146 := Tryz.underlying276
 a146 := Tryz.isAgg276
 z146 := Tryz.sizeOf276
 v146 := Tryz.zeroValue276
 t148 := Tryz.underlying278
 a148 := Tryz.isAgg278
 z148 := Tryz.sizeOf278
 v148 := Tryz.zeroValue278
 t164 := Tryz.underlying353
 a164 := Tryz.isAgg353
 z164 := Tryz.sizeOf353
 v164 := Tryz.zeroValue353 }
theorem Tryz.Builder_Extra_105 : Builder.Extra Tryz.prog Tryz.lays105_ren := {
 sizeBuilder := by kernel_rfl
 liesBuilder := by kernel_rfl
 t5 := Tryz.underlying5
 a5 := Tryz.isAgg5
 z5 := Tryz.sizeOf5
 v5 := Tryz.zeroValue5
 infoByte := by kernel_rfl
 cellsByte := by kernel_rfl
 sizeByte := by kernel_rfl
 neB5 := by decide }
open Go.RowKit Go.Lib in
theorem Tryz.strings_Repeat (s : ByteArray) (c : Nat) (w : World) (hc : c ≤ 9223372036854775807) (hlen : s.size * c ≤ 140737488355328) :
 Calls Tryz.prog 94 #[.string s, .int .i64 c] w fun e w' => e = .returned (.string ⟨(Lib.repeatL s.data.toList c).toArray⟩) ∧ Below w.heap.size w w' := Any.strings_Repeat Tryz.lays105 Tryz.Builder_Extra_105 s c w hc hlen
def Tryz.lays194_ren : Go.Shelf.Ren := ⟨fun | 194 => 33 | n => n, fun | 31 => 24 | 9 => 9 | 3 => 3 | 4 => 4 | 0 => 0 | n => n, fun | n => n⟩
theorem Tryz.lays194 : Go.Proofs.Lays.n194 Tryz.prog Tryz.lays194_ren := {
 mixed := by kernel_rfl
 f194 := Tryz.func33.trans (congrArg some (by kernel_rfl))
 t0 := Tryz.underlying0
 a0 := Tryz.isAgg0
 z0 := Tryz.sizeOf0
 v0 := Tryz.zeroValue0
 t3 := Tryz.underlying3
 a3 := Tryz.isAgg3
 z3 := Tryz.sizeOf3
 v3 := Tryz.zeroValue3
 t4 := Tryz.underlying4
 a4 := Tryz.isAgg4
 z4 := Tryz.sizeOf4
 v4 := Tryz.zeroValue4
 t9 := Tryz.underlying9
 a9 := Tryz.isAgg9
 z9 := Tryz.sizeOf9
 v9 := Tryz.zeroValue9
 t31 := Tryz.underlying24
 a31 := Tryz.isAgg24
 z31 := Tryz.sizeOf24
 v31 := Tryz.zeroValue24 }
open Go.RowKit Go.Lib Go.Sort in
theorem Tryz.slices_Compact_string (blk off cap : Nat) (zs : List (List UInt8)) (w : World) (hH : Holds encStr w blk off zs.toArray) (hsz : zs.length ≤ 9223372036854775807) (hcap : zs.length ≤ cap) :
 Calls Tryz.prog 33 #[.slice (some ⟨blk, off, none⟩) zs.length cap] w fun e w' => e = .returned (.slice (some ⟨blk, off, none⟩) (Lib.compact zs).length cap) ∧ ∃ q, w' = putRow encStr (Sort.ahead w q) blk off (Lib.compact zs ++ List.replicate (zs.length - (Lib.compact zs).length) []).toArray := Any.slices_Compact_string Tryz.lays194 blk off cap zs w hH hsz hcap
open Go.RowKit Go.Lib Go.Sort in
theorem Tryz.slices_Compact_string_empty (a : Option Addr) (cap : Nat) (w : World) :
 Calls Tryz.prog 33 #[.slice a 0 cap] w fun e w' => e = .returned (.slice a 0 cap) ∧ w' = w := Any.slices_Compact_string_empty Tryz.lays194 a cap w
open Go.RowKit Go.Sort in
theorem Tryz.slices_Sort_string_none (p : Option Addr) (cap : Nat) (w : World) :
 Calls Tryz.prog 54 #[.slice p 0 cap] w fun e w' => e = .returned (.tuple #[]) ∧ w' = w := Any.slices_Sort_string_none Tryz.lays190 p cap w
end Go.Proofs
namespace Go.SL
open Go
theorem WR.loop3 {P : Program} {ro : Option Nat} {n : Sz} {Q : Post} {L : Env} {R : List RO} {O : List Own} {c : Code} {α β γ : Type} (m : Nat) (ch : α → β → γ → Env) (OF : α → β → γ → List Own) (I : α → β → γ → Prop) (μ : α → β → γ → Nat) (x0 : α) (y0 : β) (z0 : γ) {pre Lc : Env} (_hs : Split m L pre Lc) (h0 : I x0 y0 z0) (hL : Sub (ch x0 y0 z0 ++ Lc) L) (hS : ∀ w, Sat R O w → Sat R (OF x0 y0 z0) w)
 (round : ∀ x y z, I x y z → WR ro P n c (loopQ3 ch Lc (fun _ _ _ => R) OF I μ (μ x y z) Q) (ch x y z ++ Lc) R (OF x y z)) : WR ro P n (.loop c) Q L R O :=
 WR.loop (α := α × β × γ) (fun q => ch q.1 q.2.1 q.2.2 ++ Lc) (fun _ => R) (fun q => OF q.1 q.2.1 q.2.2) (fun q => I q.1 q.2.1 q.2.2) (fun q => μ q.1 q.2.1 q.2.2) (x0, y0, z0) h0 hL hS (fun q hq => round q.1 q.2.1 q.2.2 hq)
end Go.SL
namespace Go.Proofs.YtnjfgcpmcjmddaaGreatDoor.Gr
open Go Go.SL
abbrev T := List UInt8
abbrev accT (v : Value) (xs : List T) : Own := accC 9 1 (SL.one vs) v xs
abbrev nilS : Value := .slice none 0 0
theorem get!_mem {β : Type} [Inhabited β] {l : List β} {i : Nat} (hi : i < l.length) : l[i]! ∈ l := by rw [getElem!_pos l i hi]; exact List.getElem_mem _
theorem take_snoc' {α : Type} [Inhabited α] {l : List α} {i : Nat} (h : i < l.length) : l.take (i + 1) = l.take i ++ [l[i]!] := by
 rw [List.take_add_one, List.getElem?_eq_getElem h, getElem!_pos l i h]; rfl
def ItOk (gf : Nat) (lb : List Value) (R : List RO) (C : List Own) (S : List T → Prop) (N : Nat) : Prop :=
 ∀ (γ : Type) (l : Nat) (c1 : Own) (I : List T → γ → List Own → List Own) (g0 : γ) (X : List Own) (POST : Value → List RO → List Own → Prop),
  (∀ c ∈ C, c ∈ X) → (∀ xs g c X, (I xs g (c :: X)).Perm (c :: I xs g X)) →
  (∀ xs g X x, xs.length < N → Yld Tryz.prog l [vs x] R (c1 :: I xs g X) (fun b R' O' => b = true ∧ ∃ g', ∀ w, Sat R' O' w → Sat R (c1 :: I (xs ++ [x]) g' X) w)) →
  (∀ xs g, S xs → POST (.tuple #[]) R (c1 :: I xs g X)) → Fun Tryz.prog gf (.func (.yield l) #[] #[] :: lb).toArray R (c1 :: I [] g0 X) POST
theorem it_mem {γ : Type} {I : List T → γ → List Own → List Own} (hP : ∀ xs g c X, (I xs g (c :: X)).Perm (c :: I xs g X)) {xs : List T} {g : γ} {c : Own} : ∀ {X : List Own}, c ∈ X → c ∈ I xs g X
 | [], h => by cases h
 | d :: X, h => by
   refine (hP xs g d X).mem_iff.2 ?_
   rcases List.mem_cons.1 h with rfl | h
   · exact List.mem_cons_self
   · exact List.mem_cons_of_mem _ (it_mem hP h)
section
variable {R : List RO} {O O' : List Own} {POST : Value → List RO → List Own → Prop}
set_option maxRecDepth 20000 in
theorem values_spec {v : Value} (hv : OneV v) (hk : ∀ b, POST (.func (.func 56) #[] #[.pointer (some ⟨b, 0, none⟩)]) R (rowC b 24 [v] :: O)) : Fun Tryz.prog 34 #[v] R O POST := by
 refine Fun.enter (l := [_]) Tryz.func34 rfl Tryz.ntmps34 rfl (L0 := [(0, _)]) rfl ?_
 refine Z.s1 ?_
 refine WL.op rfl ?_
 refine OpW.box1 rfl rfl (by assumption) rfl rfl ?_; intro b1
 refine Z.a1 rfl <| Z.q1 <| Z.r1 rfl (Rd.func rfl Z.E Z.E ⟨_, rfl⟩) ?_
 refine Z.a1 rfl <| Z.n1 ?_
 refine WC.ret (Ret.one Tryz.results34 rfl ?_)
 exact hk _
set_option maxRecDepth 20000 in
theorem values_it {v : Value} {xs : List T} {b : Nat} (hx : SlE (SL.one vs) v xs ∈ R) (hl : xs.length ≤ 9000000000000000000) : ItOk 56 [.pointer (some ⟨b, 0, none⟩)] R [rowC b 24 [v]] (fun ys => ys = xs) xs.length := by
 intro γ l c1 I g0 X POST hC hP hY hk
 have hb : ∀ {ys g}, rowC b 24 [v] ∈ c1 :: I ys g X := List.mem_cons_of_mem _ (it_mem hP (hC _ List.mem_cons_self))
 refine Fun.enterR (l := [_, _]) Tryz.func56 rfl Tryz.ntmps56 rfl (L0 := [(0, _), (1, _)]) rfl ?_
 refine WR.seq ?_
 refine WR.region ?_
 refine Z.r1 rfl (Rd.row1 (off := 0) (u := v) rfl C24 rfl hb rfl) ?_
 refine Z.r1 rfl (Rd.lenE (enc := SL.one vs) (xs := xs) rfl rfl Tryz.underlying24 hx) ?_
 refine Z.m1 rfl ?_
 refine WL.nil ?_
 refine thenR.normal ?_
 refine WR.block ?_
 refine WR.pick [7, 0, 5, 6] Z.P ?_
 refine WR.loop2 1 (fun (i : Nat) (g : γ) => [(7, vi i)]) (fun (i : Nat) (g : γ) => c1 :: I (xs.take i) g X) (fun (i : Nat) (g : γ) => i ≤ xs.length) (fun (i : Nat) (g : γ) => xs.length - i) (0) (g0) Z.L ?hinv1 (by repeat (first | exact Sub.nil | refine Sub.cons rfl (by rfl) ?_)) (fun _ h => h) ?_
 case hinv1 =>
  exact Nat.zero_le _
 intro i g
 rintro i1
 refine WR.seq ?_
 refine WR.region ?_
 refine Z.r1 rfl (Rd.lss rfl rfl rfl) ?_
 refine WL.nil ?_
 refine thenR.normal ?_
 refine WR.seq ?_
 refine WR.ite rfl (fun hc1 => ?_) (fun hc1 => ?_)
 ·
  refine WR.skip ?_
  refine thenR.normal ?_
  refine WR.seq ?_
  refine WR.block ?_
  refine WR.seq ?_
  refine WR.region ?_
  refine Z.r1 rfl (Rd.idx1 (enc := SL.one vs) (xs := xs) (k := i) rfl S24 rfl rfl rfl hx Z.W) ?_
  refine Z.r1 rfl (Rd.get (g := vs) (xs := xs) (k := i) (a := xs[i]!) rfl C9 rfl hx (get!_of_lt Z.W)) ?_
  refine Z.a1 rfl ?_
  refine WL.nil ?_
  refine thenR.normal ?_
  refine WR.seq ?_
  refine WR.regionY ?_
  refine WY.rd rfl rfl rfl (Rd.move rfl rfl) ?_
  refine WY.rd rfl rfl rfl (Rd.move rfl rfl) ?_
  refine WY.yield rfl rfl rfl Z.E rfl rfl ?_
  refine (hY (xs.take i) g X xs[i]! (by rw [List.length_take]; omega)).mono ?_; rintro b' R' O' ⟨rfl, g', hS⟩; refine WY.heap hS ?_
  refine WY.rd rfl rfl rfl ((by exact Rd.not rfl rfl)) ?_
  refine WY.nil ?_
  refine thenR.normal ?_
  refine WR.cond rfl (fun hc2 => ?_) (fun hc2 => ?_)
  ·
   cases hc2
  ·
   refine WR.skip ?_
   refine blockQ.normal ?_
   refine thenR.normal ?_
   refine WR.region ?_
   refine Z.r1 rfl (Rd.add rfl rfl rfl Z.W) ?_
   refine Z.m1 rfl ?_
   refine WL.nil ?_
   exact loopQ2.mk (i + 1) g' Z.W Z.W (by repeat (first | exact Sub.nil | refine Sub.cons rfl (by rfl) ?_)) (fun w h => by rw [take_snoc' Z.W]; exact h)
 ·
  refine WR.exit ?_
  refine thenR.exit ?_
  refine loopQ2.exit ?_
  refine blockQ.exit ?_
  refine Ret.normal (Ret.zero Tryz.results56 ?_)
  exact hk _ g (by rw [show i = xs.length by omega, List.take_length])
abbrev Nv := T × (Option Addr × Nat × Nat) × Int
abbrev slv (d : Option Addr × Nat × Nat) : Value := .slice d.1 d.2.1 d.2.2
def encN (x : Nv) : List Value := [vs x.1, slv x.2.1, vi x.2.2]
def ndV (x : Nv) : Value := .agg (encN x).toArray
structure Came {β : Type} (m : GoMap T β) (xs : List T) (seen : List Nat) : Prop where
 ex : ∃ ys : List (T × β × Nat), ys.Nodup ∧ (∀ y ∈ ys, y ∈ m.l) ∧ seen = ys.map (·.2.2) ∧ xs = ys.map (·.1)
theorem mapl_nodup {β : Type} (m : GoMap T β) : m.l.Nodup := List.Pairwise.of_map (S := fun a b => a ≠ b) (fun x : T × β × Nat => x.1) (fun a b h e => h (by rw [e])) m.keys
theorem Came.start {β : Type} (m : GoMap T β) : Came m [] [] := ⟨[], List.nodup_nil, fun _ h => absurd h List.not_mem_nil, rfl, rfl⟩
theorem Came.step {β : Type} {m : GoMap T β} {xs : List T} {seen : List Nat} {x : T × β × Nat} (h : Came m xs seen) (h1 : x ∈ m.l) (h2 : x.2.2 ∉ seen) : Came m (xs ++ [x.1]) (seen ++ [x.2.2]) := by
 obtain ⟨ys, g1, g2, rfl, rfl⟩ := h.ex
 refine ⟨ys ++ [x], ?_, fun y hy => ?_, by simp, by simp⟩
 · rw [List.nodup_append]
   refine ⟨g1, by simp, fun a ha b hb => ?_⟩
   rw [List.mem_singleton.1 hb]
   rintro rfl
   exact h2 (List.mem_map_of_mem ha)
 · rcases List.mem_append.1 hy with h | h
   · exact g2 y h
   · rw [List.mem_singleton.1 h]; exact h1
theorem Came.len {β : Type} {m : GoMap T β} {xs : List T} {seen : List Nat} (h : Came m xs seen) : xs.length ≤ m.l.length ∧ seen.length = xs.length := by
 obtain ⟨ys, g1, g2, rfl, rfl⟩ := h.ex
 rw [List.length_map, List.length_map]
 haveI : DecidableEq (T × β × Nat) := fun a b => Classical.propDecidable (a = b)
 exact ⟨nodup_len g1 g2, rfl⟩
theorem Came.lt {β : Type} {m : GoMap T β} {xs : List T} {seen : List Nat} {x : T × β × Nat} (h : Came m xs seen) (h1 : x ∈ m.l) (h2 : x.2.2 ∉ seen) : xs.length < m.l.length := by
 have := (h.step h1 h2).len.1
 rw [List.length_append] at this
 simp at this; omega
theorem Came.all {β : Type} {m : GoMap T β} {xs : List T} {seen : List Nat} (h : Came m xs seen) (ha : ∀ x ∈ m.l, x.2.2 ∈ seen) : xs.Perm m.ks := by
 obtain ⟨ys, g1, g2, rfl, rfl⟩ := h.ex
 have hb : (m.l.map (·.2.2)).Nodup := m.born
 have : ys.Perm m.l := by
  rw [List.perm_ext_iff_of_nodup g1 (mapl_nodup m)]
  refine fun a => ⟨g2 a, fun hm => ?_⟩
  obtain ⟨y, hy, e⟩ := List.mem_map.1 (ha a hm)
  have := GoMap.nodup_inj (f := fun x : T × β × Nat => x.2.2) hb (g2 y hy) hm e
  exact this ▸ hy
 exact this.map _
set_option maxRecDepth 20000 in
theorem keysN_spec {b : Nat} (hk : ∀ cb, POST (.func (.func 60) #[] #[.pointer (some ⟨cb, 0, none⟩)]) R (rowC cb 80 [.map (some b)] :: O)) : Fun Tryz.prog 40 #[.map (some b)] R O POST := by
 refine Fun.enter (l := [_]) Tryz.func40 rfl Tryz.ntmps40 rfl (L0 := [(0, _)]) rfl ?_
 refine Z.s1 ?_
 refine WL.op rfl ?_
 refine OpW.box1 rfl rfl (by exact ⟨rfl, rfl⟩) rfl rfl ?_; intro b1
 refine Z.a1 rfl <| Z.q1 <| Z.r1 rfl (Rd.func rfl Z.E Z.E ⟨_, rfl⟩) ?_
 refine Z.a1 rfl <| Z.n1 ?_
 refine WC.ret (Ret.one Tryz.results40 rfl ?_)
 exact hk _
set_option maxRecDepth 20000 in
theorem keysN_it {m : GoMap T Nv} {b cb : Nat} (hm : mapP vs ndV b m ∈ R) : ItOk 60 [.pointer (some ⟨cb, 0, none⟩)] R [rowC cb 80 [.map (some b)]] (fun ys => ys.Perm m.ks) m.l.length := by
 intro γ l c1 I g0 X POST hC hP hY hk
 have hb : ∀ {ys g c}, rowC cb 80 [.map (some b)] ∈ c :: c1 :: I ys g X := List.mem_cons_of_mem _ (List.mem_cons_of_mem _ (it_mem hP (hC _ List.mem_cons_self)))
 have hb0 : ∀ {ys g}, rowC cb 80 [.map (some b)] ∈ c1 :: I ys g X := List.mem_cons_of_mem _ (it_mem hP (hC _ List.mem_cons_self))
 refine Fun.enterR (l := [_, _]) Tryz.func60 rfl Tryz.ntmps60 rfl (L0 := [(0, _), (1, _)]) rfl ?_
 refine WR.seq ?_
 refine WR.regionY ?_
 refine WY.rd rfl rfl rfl (Rd.row1 (off := 0) (u := .map (some b)) rfl C80 rfl hb0 rfl) ?_
 refine WY.op rfl ?_
 refine OpW.rangeM (kenc := vs) (venc := ndV) (m := m) M80 rfl rfl hm rfl rfl ?_; intro it
 refine WY.nil ?_
 refine thenR.normal ?_
 refine WR.block ?_
 refine WR.pick [0, 5] Z.P ?_
 refine WR.loop3 0 (fun (xs : List T) (seen : List Nat) (g : γ) => []) (fun (xs : List T) (seen : List Nat) (g : γ) => iterC it b m.clock seen :: c1 :: I xs g X) (fun (xs : List T) (seen : List Nat) (g : γ) => Came m xs seen) (fun (xs : List T) (seen : List Nat) (g : γ) => m.l.length - xs.length) ([]) ([]) (g0) Z.L ?hinv1 (by repeat (first | exact Sub.nil | refine Sub.cons rfl (by rfl) ?_)) (fun _ h => h) ?_
 case hinv1 =>
  exact Came.start m
 intro xs seen g
 rintro i1
 refine WR.seq ?_
 refine WR.region ?_
 refine WL.op rfl ?_
 refine OpW.nextM (kenc := vs) (venc := ndV) (m := m) (seen := seen) rfl rfl hm Z.T rfl rfl ?_; intro r hr
 refine Z.r1 rfl (Rd.stepOn rfl rfl) ?_
 refine WL.nil ?_
 refine thenR.normal ?_
 refine WR.seq ?_
 refine WR.ite rfl (fun hc1 => ?_) (fun hc1 => ?_)
 ·
  obtain ⟨x, rfl⟩ := Option.isSome_iff_exists.1 hc1
  refine WR.skip ?_
  refine thenR.normal ?_
  refine WR.block ?_
  refine WR.seq ?_
  refine WR.region ?_
  refine WL.op rfl ?_
  refine OpW.rd rfl rfl (Rd.entryM (kenc := vs) (venc := ndV) (m := m) (q := x) (seen := seen) rfl rfl hm Z.M hr.1 rfl) ?_
  refine Z.x1 rfl <| Z.a1 rfl ?_
  refine WL.nil ?_
  refine thenR.normal ?_
  refine WR.seq ?_
  refine WR.regionY ?_
  refine WY.rd rfl rfl rfl (Rd.move rfl rfl) ?_
  refine WY.rd rfl rfl rfl (Rd.move rfl rfl) ?_
  refine WY.yield rfl rfl rfl Z.E rfl rfl ?_
  refine Yld.heap (R' := R) (O' := c1 :: I xs g (iterC it b m.clock (seen ++ [x.2.2]) :: X)) (fun w h => h.perm ?_) ?_
  · exact (List.Perm.swap _ _ _).trans (List.Perm.cons _ (hP _ _ _ _).symm)
  refine (hY xs g (iterC it b m.clock (seen ++ [x.2.2]) :: X) x.1 (i1.lt hr.1 hr.2)).mono ?_
  rintro b' R' O' ⟨rfl, g', hS⟩
  refine WY.heap (R' := R) (O' := iterC it b m.clock (seen ++ [x.2.2]) :: c1 :: I (xs ++ [x.1]) g' X) (fun w h => (hS w h).perm ?_) ?_
  · exact (List.Perm.cons _ (hP _ _ _ _)).trans (List.Perm.swap _ _ _)
  refine WY.rd rfl rfl rfl ((by exact Rd.not rfl rfl)) ?_
  refine WY.nil ?_
  refine thenR.normal ?_
  refine WR.cond rfl (fun hc2 => ?_) (fun hc2 => ?_)
  ·
   cases hc2
  ·
   refine WR.skip ?_
   refine blockQ.normal ?_
   exact loopQ3.mk (xs ++ [x.1]) (seen ++ [x.2.2]) g' (i1.step hr.1 hr.2) (by have := i1.lt hr.1 hr.2; rw [List.length_append]; simp; omega) (by repeat (first | exact Sub.nil | refine Sub.cons rfl (by rfl) ?_)) Z.F
 ·
  obtain rfl : r = none := by
   cases r with
   | some x => exact absurd rfl hc1
   | none => rfl
  refine WR.heap (R' := R) (O' := c1 :: I xs g X) Z.F ?_
  refine WR.exit ?_
  refine thenR.exit ?_
  refine loopQ3.exit ?_
  refine blockQ.exit ?_
  refine Ret.normal (Ret.zero Tryz.results60 ?_)
  exact hk xs g (i1.all hr)
set_option maxRecDepth 20000 in
theorem append_it {gf : Nat} {lb : List Value} {C : List Own} {S : List T → Prop} {N : Nat} (it : ItOk gf lb R C S N) (hb : hasBody Tryz.prog gf = true) (hN : N ≤ 1000000) (hC : ∀ c ∈ C, c ∈ O) (hk : ∀ v xs, S xs → POST v R (accT v xs :: O)) :
 Fun Tryz.prog 59 #[nilS, .func (.func gf) #[] lb.toArray] R O POST := by
 refine Fun.enter (l := [_, _]) Tryz.func59 rfl Tryz.ntmps59 rfl (L0 := [(0, _), (1, _)]) rfl ?_
 refine Z.s1 ?_
 refine WL.op rfl ?_
 refine OpW.box1 rfl rfl (by exact ⟨rfl, rfl⟩) rfl rfl ?_; intro b2
 refine WL.heap (fun w h => Sat.accNil (e := 9) (size := 1) (enc := SL.one vs) h) ?_
 refine Z.a1 rfl <| Z.n1 ?_
 refine WC.rangeSeq rfl ?_
 refine WC.region ?_
 refine Z.m1 rfl ?_
 refine WL.nil ?_
 refine rangeQ.normal ?_
 refine RangeOk.mk rfl (hb) ?_
 intro l0 D0
 refine Fun.heap (R' := R) (O' := recC l0 _ _ D0 .ready none _ _ _ :: rowC b2 24 [nilS] :: accT nilS [] :: dfC D0 :: O) Z.F ?_
 refine it Value l0 _ (fun xs v X => rowC b2 24 [v] :: accT v xs :: X) nilS (dfC D0 :: O) _ (fun c hc => List.mem_cons_of_mem _ (hC c hc)) (fun xs v c X => (List.Perm.cons _ (List.Perm.swap _ _ _)).trans (List.Perm.swap _ _ _)) ?round ?after
 case round =>
  intro xs v X x hlen
  refine Yld.round Z.T rfl rfl rfl ?_
  refine WR.region ?_
  refine Z.a1 rfl ?_
  refine WL.nil ?_
  refine assignQ.mk Z.T ?_
  refine WR.block ?_
  refine WR.region ?_
  refine Z.r1 rfl (Rd.row1 (b := b2) (off := 0) (u := v) rfl C24 rfl Z.M rfl) ?_
  refine Z.m1 rfl ?_
  refine WL.op rfl ?_
  refine OpW.buildSl (ps := [(0, _)]) rfl S24 Z.E rfl rfl Z.C Z.K rfl rfl rfl ?_; intro b10
  refine WL.op rfl ?_
  refine OpW.appendRow (enc := SL.one vs) rfl S24 rfl rfl Z.T Z.T [x] rfl (by rfl) rfl (by intro x; rfl) (by intro x; rfl) (by exact ⟨by simp only [maxLen, List.length_append, List.length_nil, List.length_cons, List.length_drop, List.length_take, List.length_map]; omega, by omega⟩) rfl rfl ?_; intro v11 hv11
  refine WL.op rfl ?_
  refine OpW.store1 rfl Z24 rfl rfl (by assumption) Z.T (by (simp; done)) rfl ?_
  refine WL.nil ?_
  refine blockQ.normal ?_
  refine roundQ.on Z.T ?_
  exact ⟨rfl, v11, Z.F⟩
 case after =>
  intro xs v hS
  refine ⟨_, Z.T, ?_⟩
  refine Z.s1 <| Z.r1 rfl (Rd.row1 (b := b2) (off := 0) (u := v) rfl C24 rfl Z.M rfl) ?_
  refine Z.a1 rfl <| Z.n1 ?_
  refine WC.heap (R' := R) (O' := dfC D0 :: accT v xs :: O) Z.F ?_
  refine WC.retO (FinO.mark Z.T) (onlyRet.mk (Ret.one Tryz.results59 rfl ?_))
  exact hk v xs hS
set_option maxRecDepth 20000 in
theorem collect_it {gf : Nat} {lb : List Value} {C : List Own} {S : List T → Prop} {N : Nat} (it : ItOk gf lb R C S N) (hb : hasBody Tryz.prog gf = true) (hN : N ≤ 1000000) (hC : ∀ c ∈ C, c ∈ O) (hk : ∀ v xs, S xs → POST v R (accT v xs :: O)) :
 Fun Tryz.prog 39 #[.func (.func gf) #[] lb.toArray] R O POST := by
 refine Fun.enter (l := [_]) Tryz.func39 rfl Tryz.ntmps39 rfl (L0 := [(0, _)]) rfl ?_
 refine Z.s1 <| Z.a1 rfl <| Z.q1 <| Z.m1 rfl ?_
 refine WL.op rfl ?_
 refine OpW.call rfl rfl Z.E Z.K rfl rfl rfl ?_
 refine append_it it hb hN hC ?_; intro v4 xs hS
 refine Z.a1 rfl <| Z.n1 ?_
 refine WC.ret (Ret.one Tryz.results39 rfl ?_)
 exact hk _ _ hS
def srt (xs : List T) : List T := xs.mergeSort fun x y => decide (x ≤ y)
theorem sort_spec {v : Value} {xs : List T} (hl : xs.length ≤ 1000000) (hk : POST (.tuple #[]) R (accT v (srt xs) :: O)) : Fun Tryz.prog 54 #[v] R (accT v xs :: O) POST :=
 Fun.sorts (fun blk off cap ss w h1 h2 h3 => Tryz.slices_Sort_string blk off cap ss w h1 h2 h3) (fun p cap w => Tryz.slices_Sort_string_none p cap w) Z.W hk
set_option maxRecDepth 20000 in
theorem sorted_it {gf : Nat} {lb : List Value} {C : List Own} {S : List T → Prop} {N : Nat} (it : ItOk gf lb R C S N) (hb : hasBody Tryz.prog gf = true) (hN : N ≤ 1000000) (hSN : ∀ xs, S xs → xs.length ≤ 1000000) (hC : ∀ c ∈ C, c ∈ O) (hk : ∀ v xs, S xs → POST v R (accT v (srt xs) :: O)) :
 Fun Tryz.prog 31 #[.func (.func gf) #[] lb.toArray] R O POST := by
 refine Fun.enter (l := [_]) Tryz.func31 rfl Tryz.ntmps31 rfl (L0 := [(0, _)]) rfl ?_
 refine Z.s1 <| Z.a1 rfl <| Z.q1 <| Z.m1 rfl ?_
 refine WL.op rfl ?_
 refine OpW.call rfl rfl Z.E Z.K rfl rfl rfl ?_
 refine collect_it it hb hN hC ?_; intro v5 xs hS
 refine Z.a1 rfl <| Z.q1 <| Z.m1 rfl ?_
 refine WL.op rfl ?_
 refine OpW.call rfl rfl Z.E Z.K rfl rfl rfl ?_
 refine sort_spec (xs := xs) (hSN _ hS) ?_
 refine Z.q1 <| Z.m1 rfl <| Z.a1 rfl <| Z.n1 ?_
 refine WC.ret (Ret.one Tryz.results31 rfl ?_)
 exact hk _ _ hS
theorem srt_perm (xs : List T) : (srt xs).Perm xs := List.mergeSort_perm _ _
end
end Go.Proofs.YtnjfgcpmcjmddaaGreatDoor.Gr
namespace Go.Proofs.YtnjfgcpmcjmddaaGreatDoor.Gr
open Go Go.SL
structure PG where
 ks : List T
 pars : T → List T
 time : T → Int
inductive Path (G : PG) : T → T → Prop
 | refl (x : T) : Path G x x
 | step {x p y : T} (hx : x ∈ G.ks) (hp : p ∈ G.pars x) (h : Path G p y) : Path G x y
def Closed (G : PG) : Prop := ∀ x ∈ G.ks, ∀ p ∈ G.pars x, p ∈ G.ks
def Come (G : PG) (fs : List T) (y : T) : Prop := ∃ f ∈ fs, f ∈ G.ks ∧ Path G f y
theorem Path.trans {G : PG} {x y z : T} (h : Path G x y) (k : Path G y z) : Path G x z := by
 induction h with
 | refl => exact k
 | step hx hp _ ih => exact .step hx hp (ih k)
theorem Path.last {G : PG} {x y : T} (h : Path G x y) : x = y ∨ ∃ c, Path G x c ∧ c ∈ G.ks ∧ y ∈ G.pars c := by
 induction h with
 | refl => exact .inl rfl
 | step hx hp k ih =>
   rcases ih with rfl | ⟨c, h1, h2, h3⟩
   · exact .inr ⟨_, .refl _, hx, hp⟩
   · exact .inr ⟨c, .step hx hp h1, h2, h3⟩
theorem Path.mem {G : PG} (hc : Closed G) {x y : T} (h : Path G x y) : x ∈ G.ks → y ∈ G.ks := by
 induction h with
 | refl => exact id
 | step hx hp _ ih => exact fun _ => ih (hc _ hx _ hp)
theorem Come.mem {G : PG} (hc : Closed G) {fs : List T} {y : T} (h : Come G fs y) : y ∈ G.ks := by
 obtain ⟨f, _, h1, h2⟩ := h
 exact h2.mem hc h1
theorem Come.path {G : PG} {fs : List T} {x y : T} (h : Come G fs x) (k : Path G x y) : Come G fs y := by
 obtain ⟨f, h0, h1, h2⟩ := h
 exact ⟨f, h0, h1, h2.trans k⟩
theorem Come.all {G : PG} {fs : List T} {M : T → Prop} (h0 : ∀ f ∈ fs, f ∈ G.ks → M f) (h1 : ∀ x, x ∈ G.ks → M x → ∀ p ∈ G.pars x, M p) {y : T} (h : Come G fs y) : M y := by
 obtain ⟨f, hf, hk, hp⟩ := h
 have key : ∀ {x y : T}, Path G x y → M x → M y := fun h => by
  induction h with
  | refl => exact id
  | step hx hp _ ih => exact fun hm => ih (h1 _ hx hm _ hp)
 exact key hp (h0 f hf hk)
def Cyc (G : PG) (z : T) : Prop := z ∈ G.ks ∧ ∃ p ∈ G.pars z, Path G p z
def Free (G : PG) (A : T → Prop) (done : List T) (x : T) : Prop := A x ∧ x ∉ done ∧ ∀ c, A c → c ∉ done → x ∉ G.pars c
def Ahead (G : PG) (x y : T) : Prop := G.time y < G.time x ∨ (G.time x = G.time y ∧ x < y)
def First (G : PG) (A : T → Prop) (done : List T) (x : T) : Prop := Free G A done x ∧ ∀ y, Free G A done y → y = x ∨ Ahead G x y
inductive Kahn (G : PG) (A : T → Prop) : List T → List T → Prop
 | stop {done : List T} (h : ∀ x, ¬ Free G A done x) : Kahn G A done done
 | step {done out : List T} {x : T} (h : First G A done x) (k : Kahn G A (done ++ [x]) out) : Kahn G A done out
theorem Kahn.inv {G : PG} {A : T → Prop} {J : List T → Prop} (hs : ∀ done x, J done → Free G A done x → J (done ++ [x])) {done out : List T} (h : Kahn G A done out) : J done → J out ∧ ∀ x, ¬ Free G A out x := by
 induction h with
 | stop hn => exact fun h => ⟨h, hn⟩
 | step g k ih => exact fun h => ih (hs _ _ h g.1)
theorem Kahn.nodup {G : PG} {A : T → Prop} {out : List T} (h : Kahn G A [] out) : out.Nodup ∧ ∀ x ∈ out, A x := by
 refine (h.inv (J := fun d => d.Nodup ∧ ∀ x ∈ d, A x) (fun d x hd hf => ⟨?_, fun y hy => ?_⟩) ⟨List.nodup_nil, fun x hx => by cases hx⟩).1
 · rw [List.nodup_append]
   refine ⟨hd.1, by simp, fun a ha b hb => ?_⟩
   rw [List.mem_singleton.1 hb]
   rintro rfl
   exact hf.2.1 ha
 · rcases List.mem_append.1 hy with g | g
   · exact hd.2 y g
   · rw [List.mem_singleton.1 g]; exact hf.1
theorem nodup_len' {l l' : List T} (h : l.Nodup) (hs : ∀ x ∈ l, x ∈ l') : l.length ≤ l'.length := nodup_len h hs
theorem kahn_all {G : PG} {A : T → Prop} (hA : ∀ x, A x → x ∈ G.ks) (hn : ∀ z, ¬ Cyc G z) {done : List T} (hs : ∀ x, ¬ Free G A done x) : ∀ x, A x → x ∈ done := by
 intro x hx
 refine Decidable.byContradiction fun hd => ?_
 have key : ∀ n, ∃ h t, (h :: t).length = n + 1 ∧ (h :: t).Nodup ∧ (∀ y ∈ h :: t, A y ∧ y ∉ done ∧ Path G h y) := by
  intro n
  induction n with
  | zero => exact ⟨x, [], rfl, by simp, fun y hy => by rw [List.mem_singleton.1 hy]; exact ⟨hx, hd, .refl _⟩⟩
  | succ n ih =>
    obtain ⟨h, t, h1, h2, h3⟩ := ih
    have hh := h3 h List.mem_cons_self
    obtain ⟨c, c1, c2, c3⟩ : ∃ c, A c ∧ c ∉ done ∧ h ∈ G.pars c := Classical.byContradiction fun g => hs h ⟨hh.1, hh.2.1, fun c c1 c2 c3 => g ⟨c, c1, c2, c3⟩⟩
    have hck := hA c c1
    refine ⟨c, h :: t, by rw [List.length_cons, h1], List.nodup_cons.2 ⟨fun hm => ?_, h2⟩, fun y hy => ?_⟩
    · exact hn c ⟨hck, h, c3, (h3 c hm).2.2⟩
    · rcases List.mem_cons.1 hy with rfl | hy
      · exact ⟨c1, c2, .refl _⟩
      · exact ⟨(h3 y hy).1, (h3 y hy).2.1, .step hck c3 (h3 y hy).2.2⟩
 obtain ⟨h, t, h1, h2, h3⟩ := key G.ks.length
 have := nodup_len' h2 (fun y hy => hA y (h3 y hy).1)
 omega
theorem kahn_cyc {G : PG} {A : T → Prop} (hA : ∀ x y, A x → Path G x y → A y) {out : List T} (h : Kahn G A [] out) {z : T} (hz : Cyc G z) : z ∉ out := by
 have hcyc : ∀ z, Cyc G z → ∃ c, Cyc G c ∧ z ∈ G.pars c ∧ Path G z c := fun z ⟨h1, p, hp, hpz⟩ => by
  rcases hpz.last with rfl | ⟨c, g1, g2, g3⟩
  · exact ⟨p, ⟨h1, p, hp, .refl _⟩, hp, .refl _⟩
  · exact ⟨c, ⟨g2, z, g3, .step h1 hp g1⟩, g3, .step h1 hp g1⟩
 refine (h.inv (J := fun d => ∀ z, Cyc G z → z ∉ d) (fun d x hd hf z hz hm => ?_) (fun z _ h => by cases h)).1 z hz
 rcases List.mem_append.1 hm with g | g
 · exact hd z hz g
 · rw [List.mem_singleton.1 g] at hz
   obtain ⟨c, c1, c2, c3⟩ := hcyc x hz
   exact hf.2.2 c (hA x c hf.1 c3) (hd c c1) c2
def restSum (G : PG) (out : T → Bool) : Nat := ((G.ks.filter fun x => !out x).map fun x => (G.pars x).length).sum
theorem sum_le {f : T → Nat} : ∀ {l : List T} {p q : T → Bool}, (∀ x, p x = true → q x = true) → ((l.filter p).map f).sum ≤ ((l.filter q).map f).sum
 | [], _, _, _ => Nat.le_refl _
 | a :: l, p, q, h => by
   have ih := sum_le (l := l) h (f := f)
   rw [List.filter_cons, List.filter_cons]
   by_cases hp : p a = true
   · rw [if_pos hp, if_pos (h a hp)]; simp only [List.map_cons, List.sum_cons]; omega
   · rw [if_neg hp]
     split
     · simp only [List.map_cons, List.sum_cons]; omega
     · exact ih
theorem sum_drop {f : T → Nat} : ∀ {l : List T} {p q : T → Bool} {z : T}, z ∈ l → (∀ x, p x = true → q x = true) → p z = false → q z = true → ((l.filter p).map f).sum + f z ≤ ((l.filter q).map f).sum
 | a :: l, p, q, z, hz, h, hp, hq => by
   rw [List.filter_cons, List.filter_cons]
   rcases List.mem_cons.1 hz with rfl | hz
   · rw [if_neg (by simp [hp]), if_pos hq]
     have := sum_le (l := l) h (f := f)
     simp only [List.map_cons, List.sum_cons]; omega
   · have ih := sum_drop (l := l) hz h hp hq (f := f)
     by_cases hpa : p a = true
     · rw [if_pos hpa, if_pos (h a hpa)]; simp only [List.map_cons, List.sum_cons]; omega
     · rw [if_neg hpa]
       split
       · simp only [List.map_cons, List.sum_cons]; omega
       · exact ih
end Go.Proofs.YtnjfgcpmcjmddaaGreatDoor.Gr
namespace Go.SL
open Go
section
variable {P : Program} {n : Sz} {o : Oper} {L : Env} {R : List RO} {O O' : List Own} {K : Env → List RO → List Own → Prop} {t t' e te : TypeId} {x y u : Operand} {v z : Value}
theorem Rd.pneqN {ad : Option Addr} (ho : o.op = .binOp .neq t x y t') (hT : P.underlying t = some (.pointer te)) (hx : ev L x = some (.pointer ad)) (hy : ev L y = some (.pointer none)) : Rd P o L R O (.bool ad.isSome) :=
 run_pbin ho hx hy fun w _ _ => by
  have h : ∀ d : Nat, (Op.equalIn (d + 1) t (.pointer ad) (.pointer none)).run P w = .ok ad.isNone w := fun d => by
   cases ad <;> simp [Op.equalIn, run_underlying hT]
  simp only [binOp]
  simp [Op.equal, Op.maxDepth, h 9999]
theorem Rd.peqN {ad : Option Addr} (ho : o.op = .binOp .eql t x y t') (hT : P.underlying t = some (.pointer te)) (hx : ev L x = some (.pointer ad)) (hy : ev L y = some (.pointer none)) : Rd P o L R O (.bool ad.isNone) :=
 run_pbin ho hx hy fun w _ _ => by
  have h : ∀ d : Nat, (Op.equalIn (d + 1) t (.pointer ad) (.pointer none)).run P w = .ok ad.isNone w := fun d => by
   cases ad <;> simp [Op.equalIn, run_underlying hT]
  simp only [binOp]
  simp [Op.equal, Op.maxDepth, h 9999]
theorem Rd.eqNil' {a : Option Addr} {m c : Nat} (ho : o.op = .binOp .eql t x y t') (hT : P.underlying t = some (.slice e)) (hx : ev L x = some (.slice a m c)) (hy : ev L y = some (.slice none 0 0)) : Rd P o L R O (.bool a.isNone) := fun ρ w hρ _ _ => by
 have e0 : (eqGuard .eql t x y (.slice a m c) (.slice none 0 0)).run P w = .ok () w := by
  unfold eqGuard
  split <;> rfl
 simp only [execOp, ho, hρ _ _ hx, hρ _ _ hy, Sem.run_bind, e0, Result.andThen_ok, Lib.run_eql_slice_nil w t e a m c 0 0 hT, Sem.run_pure]
end
section acc
variable {P : Program} {n : Sz} {o : Oper} {L : Env} {R : List RO} {O O' : List Own} {K : Env → List RO → List Own → Prop} {t t' e : TypeId} {x y : Operand} {v z : Value} {α : Type} {enc : α → List Value} {xs : List α} {size bytes : Nat}
theorem flat_take (hs : ∀ x, (enc x).length = size) : ∀ (xs : List α) (k : Nat), (xs.flatMap enc).take (k * size) = (xs.take k).flatMap enc
 | [], k => by simp
 | a :: xs, 0 => by simp
 | a :: xs, k + 1 => by
   rw [List.flatMap_cons, List.take_succ_cons, List.flatMap_cons, List.take_append, hs, List.take_of_length_le (by rw [hs, Nat.add_mul, Nat.one_mul]; omega)]
   rw [show (k + 1) * size - size = k * size from by rw [Nat.add_mul, Nat.one_mul]; omega, flat_take hs xs k]
theorem flat_drop (hs : ∀ x, (enc x).length = size) (xs : List α) (k : Nat) (hk : k ≤ xs.length) : (xs.flatMap enc).drop (k * size) = (xs.drop k).flatMap enc := by
 have h1 : xs.flatMap enc = (xs.take k).flatMap enc ++ (xs.drop k).flatMap enc := by rw [← List.flatMap_append, List.take_append_drop]
 rw [h1, List.drop_append, flat_len hs, List.length_take, Nat.min_eq_left hk, List.drop_eq_nil_of_le (by rw [flat_len hs, List.length_take, Nat.min_eq_left hk]; exact Nat.le_refl _)]
 simp
theorem acc_write {b cap k : Nat} {cur : Array Value} {ys : List α} {w : World} (hsz : ∀ x, (enc x).length = size) (hs : Sat R (accC e size enc (.slice (some ⟨b, 0, none⟩) xs.length cap) xs :: O) w) (hh : w.heap[b]? = some (.cells cur e (0, 0))) (hfit : k + ys.length ≤ xs.length) :
 Sat R (accC e size enc (.slice (some ⟨b, 0, none⟩) xs.length cap) (xs.take k ++ ys ++ xs.drop (k + ys.length)) :: O) (w.setRow b (cur.toList.take (k * size) ++ ys.flatMap enc ++ cur.toList.drop (k * size + (ys.flatMap enc).length)).toArray) := by
 have hp : (accC e size enc (.slice (some ⟨b, 0, none⟩) xs.length cap) xs).pred w := hs.see List.mem_cons_self
 have hlt' := ownBlock_lt hp
 obtain ⟨hl, hv⟩ := hp
 rcases hv with ⟨hc, _⟩ | ⟨b', cap', cur', hc, hb, hh', hnc, hcm, hcs, ht⟩
 · cases hc
 · simp only [Value.slice.injEq, Option.some.injEq, Addr.mk.injEq, and_true, true_and] at hc
   obtain ⟨rfl, rfl⟩ := hc
   rw [hh] at hh'
   simp only [Option.some.injEq, Obj.cells.injEq, and_true] at hh'
   subst hh'
   have hbl : b < w.heap.size := hlt' b (by simp [Value.ownBlock])
   have hyl := flat_len hsz ys
   have hlen : (xs.take k ++ ys ++ xs.drop (k + ys.length)).length = xs.length := by simp; omega
   have hk : k * size + ys.length * size ≤ xs.length * size := by rw [← Nat.add_mul]; exact Nat.mul_le_mul_right _ hfit
   refine hs.update _ ⟨rfl, rfl, rfl, by simp, fun j hj hne => setRow_other w b j _ (fun e' => hne (by simp [accC, Value.ownBlock, e']))⟩ (by intro j hj; left; simpa [accC, Value.ownBlock] using hj) (by intro j hj; simp [accC, Value.ownBlock] at hj; subst hj; simpa using hbl) (by simp [accC, Value.ownBlock]) (fun w'' ha _ => ?_)
   refine ⟨by rw [flat_len hsz, hlen], .inr ⟨b, cap, (cur.toList.take (k * size) ++ ys.flatMap enc ++ cur.toList.drop (k * size + (ys.flatMap enc).length)).toArray, by rw [hlen], hb, ?_, by rw [hlen]; exact hnc, hcm, ?_, ?_⟩⟩
   · rw [ha.2.2.2.2 b (by simpa using hbl) (by simp [accC, Value.ownBlock])]
     exact setRow_heap w b cur _ e _ hh
   · have h5 : cur.toList.length = cap * size := by rw [Array.length_toList]; exact hcs
     have h6 : xs.length * size ≤ cap * size := Nat.mul_le_mul_right _ hnc
     simp only [List.size_toArray, List.length_append, List.length_take, List.length_drop, h5, hyl]
     omega
   · have h5 : cur.toList.length = cap * size := by rw [Array.length_toList]; exact hcs
     have h6 : xs.length * size ≤ cap * size := Nat.mul_le_mul_right _ hnc
     rw [hlen, List.toList_toArray, List.flatMap_append, List.flatMap_append]
     have e1 : cur.toList.take (k * size) = (xs.take k).flatMap enc := by
      rw [← flat_take hsz xs k, ← ht, List.take_take, Nat.min_eq_left Z.W]
     have e2 : (cur.toList.drop (k * size + (ys.flatMap enc).length)).take (xs.length * size - (k * size + (ys.flatMap enc).length)) = (xs.drop (k + ys.length)).flatMap enc := by
      rw [← flat_drop hsz xs _ hfit, ← ht, List.drop_take, hyl, Nat.add_mul]
     rw [List.take_append, List.take_of_length_le (by rw [List.length_append, List.length_take, hyl]; omega), e1, List.length_append, hyl]
     congr 1
     rw [show ((xs.take k).flatMap enc).length = k * size from by rw [flat_len hsz, List.length_take, Nat.min_eq_left Z.W]]
     rw [hyl] at e2
     exact e2
theorem OpW.storeAccS {k : Nat} {a : α} {va : Array Value} (ho : o.op = .store t x y) (hG : Agg P t size) (hx : ev L x = some (.pointer (some (elemAddr v (k * size))))) (hy : ev L y = some (.agg va)) (hva : va.toList = enc a) (hsz : ∀ x, (enc x).length = size) (h1 : ((enc a).all Value.oneCell') = true)
 (hT : Take (accC e size enc v xs) O O') (hlt : k < xs.length) (hd : o.dst = none) (kk : K L R (accC e size enc v (xs.set k a) :: O')) : OpW P n o L R O K := by
 intro ac w hf hs Q
 have hs' := hs.perm hT.perm
 have hp : (accC e size enc v xs).pred w := hs'.see List.mem_cons_self
 obtain ⟨hl, hv⟩ := hp
 rcases hv with ⟨rfl, h0⟩ | ⟨b, cap, cur, rfl, hb, hh, hnc, hcm, hcs, ht⟩
 · omega
 simp only [elemAddr, Nat.zero_add] at hx
 have hk : k * size + size ≤ cap * size := by
  have h1 : (k + 1) * size ≤ cap * size := Nat.mul_le_mul_right _ Z.W
  rw [Nat.add_mul, Nat.one_mul] at h1; exact h1
 have hvl : va.toList.length = size := by rw [hva, hsz]
 have hst := run_storeCells_at P b (k * size) e va.toList 0 cur w hh (by rw [hvl, hcs]; omega) (fun u hu => List.all_eq_true.1 h1 u (hva ▸ hu))
 simp only [Nat.add_zero] at hst
 have hvs : va.size = size := by simpa using hvl
 have hsz2 : ∀ w, (sizeOf t).run P w = .ok va.size w := fun w => by rw [hvs]; exact hG.2 w
 have hr : (execOp ac.eval o).run P w = .ok .skip (w.setRow b (cur.toList.take (k * size) ++ va.toList ++ cur.toList.drop (k * size + va.toList.length)).toArray) := by
  simp only [execOp, ho, hf.ev hx, hf.ev hy, Instr.storeAt, Instr.sureAddr, storeVar, Value.cells, hsz2, Sem.run_bind, Result.andThen_ok, Sem.run_pure, Sem.run_ite, ne_eq, not_true_eq_false, if_false, hst]
 unfold Oper.wp
 rw [hr, Oper.upon_skip, hd]
 have hw := acc_write (k := k) (ys := [a]) hsz hs' hh (by show k + 1 ≤ _; omega)
 have e1 : xs.take k ++ [a] ++ xs.drop (k + [a].length) = xs.set k a := by
  rw [List.set_eq_take_append_cons_drop, if_pos hlt]; simp
 have e2 : [a].flatMap enc = va.toList := by simp [hva]
 rw [e1, e2] at hw
 exact ⟨_, _, _, kk, hf.none _, hw⟩
theorem rep_at (l : List Value) : ∀ m i, i < m * l.length → (List.replicate m l).flatten[i]? = some l[i % l.length]!
 | 0, i, h => by simp at h
 | m + 1, i, h => by
   rw [List.replicate_succ, List.flatten_cons]
   by_cases hi : i < l.length
   · rw [List.getElem?_append_left hi, Nat.mod_eq_of_lt hi, get!_of_lt hi]
   · rw [List.getElem?_append_right Z.W, rep_at l m (i - l.length) (by rw [Nat.add_mul, Nat.one_mul] at h; omega), ← Nat.mod_eq_sub_mod Z.W]
theorem zeroCells_flat (l : Array Value) (m : Nat) : (Builtin.zeroCells l m).toList = (List.replicate m l.toList).flatten := by
 apply List.ext_getElem?
 intro i
 have hlen : ((List.replicate m l.toList).flatten).length = m * l.size := by simp
 by_cases h : i < m * l.size
 · rw [rep_at l.toList m i (by simpa using h)]
   simp only [Builtin.zeroCells, Array.toList_map, Array.toList_range, List.getElem?_map, List.getElem?_range h, Option.map_some, Array.length_toList]
   congr 1
   have h0 : i % l.size < l.size := Nat.mod_lt _ (Nat.pos_of_ne_zero fun h1 => by rw [h1] at h; simp at h)
   rw [getElem!_pos l _ h0, getElem!_pos l.toList _ (by simpa using h0), Array.getElem_toList]
 · rw [List.getElem?_eq_none (by simp [Builtin.zeroCells]; omega), List.getElem?_eq_none Z.W]
end acc
end Go.SL
namespace Go.SL
open Go Go.RowKit
section
variable {P : Program} {n : Sz} {o : Oper} {L : Env} {R : List RO} {O O' : List Own} {K : Env → List RO → List Own → Prop} {t t' e te : TypeId} {x y u : Operand} {v z : Value}
def Meth (P : Program) (R : List RO) (O : List Own) (ty : TypeId) (rv : Value) (name : String) (f : FuncId) (recv : Value) : Prop :=
 ∀ w, (∀ p ∈ R, p w) → (∀ c ∈ O, c.pred w) → (method (P.types.size + Made.depth) ty rv name).run P w = .ok (f, recv) w
theorem OpW.invoke {f : FuncId} {ty : TypeId} {rv recv : Value} {name : String} {xs : List Operand} {azs : List Value} {ts : Array TypeId} {d : Nat} (ho : o.op = .call { callee := .invoke x name, args := xs.toArray, argTypes := ts })
 (hx : ev L x = some (.iface ty rv)) (has : Evs L xs azs) (hm : Meth P R O ty rv name f recv) (hb : hasBody P f = true) (hd : o.dst = some d) (hn : Nat.blt d n.n = true)
 (h : Fun P f (recv :: azs).toArray R O (fun v R' O' => K ((d, v) :: L) R' O')) : OpW P n o L R O K := by
 intro a w hf hs Q
 have e1 : a.eval x = _ := hf.ev hx
 have e2 := has.eval (ρ := a.eval) (fun x u hx => hf.ev hx)
 have e3 := hm w (fun p hp => hs.read hp) (fun c hc => hs.see hc)
 unfold Oper.wp
 have hr : (execOp a.eval o).run P w = .ok (.enter f (recv :: azs).toArray) w := by
  have e4 : (#[Value.iface ty rv] ++ azs.toArray).extract 1 (#[Value.iface ty rv] ++ azs.toArray).size = azs.toArray := by
   apply Array.ext'; simp
  have e5 : (#[Value.iface ty rv] ++ azs.toArray)[0]? = some (Value.iface ty rv) := by simp
  have e6 : #[recv] ++ azs.toArray = (recv :: azs).toArray := by simp
  have ep : ∀ w, (program : Sem Program).run P w = .ok P w := fun w => by simp
  simp only [execOp, ho, resolve, e1, List.map_toArray, e2, Sem.run_bind, Sem.run_pure, Result.andThen_ok, Go.invoke, e5, callMethod, e4, ep, e3, e6, run_callFunc hb]
 rw [hr, Oper.upon_enter]
 exact (h w hs).mono fun e w' ⟨v, R', O', he, hk, hs'⟩ => by
  subst he
  rw [hd]
  exact ⟨_, _, _, hk, hf.put hn v, hs'⟩
end
section
variable {P : Program} {o : Oper} {L : Env} {R : List RO} {O : List Own} {t t' e te : TypeId} {x y : Operand} {v z : Value}
theorem Meth.ptr {ty : TypeId} {ad : Addr} {name : String} {f : FuncId} {d : TypeId} (hm' : ((P.info? ty).bind (fun i => i.methods.find? (·.name == name))).map (fun m => (m.path, m.func)) = some (#[], some (f, true))) (hU : P.underlying ty = some (.pointer d)) :
 Meth P R O ty (.pointer (some ad)) name f (.pointer (some ad)) := fun w _ _ => by
 obtain ⟨m, hm, hpf⟩ := Option.map_eq_some_iff.1 hm'
 simp only [Prod.mk.injEq] at hpf
 obtain ⟨hp, hf⟩ := hpf
 obtain ⟨i, hi, hfi⟩ := Option.bind_eq_some_iff.1 hm
 rw [show P.types.size + Made.depth = (P.types.size + (Made.depth - 1)) + 1 from rfl, method]
 simp [typeInfo, hi, hfi, hp, hf, follow, receiverAt, run_underlying hU, Place.get]
theorem run_wrapnil {P : Program} {ts : Array TypeId} {ty : TypeId} {ad : Addr} {s m : ByteArray} (w : World) : (Builtin.ssaWrapNilChk_ ts ty #[.pointer (some ad), .string s, .string m]).run P w = .ok (.pointer (some ad)) w := rfl
theorem Meth.val {ty : TypeId} {ad : Addr} {name : String} {f : FuncId} {d : TypeId} (hm' : ((P.info? ty).bind (fun i => i.methods.find? (·.name == name))).map (fun m => (m.path, m.func)) = some (#[], some (f, false))) (hU : P.underlying ty = some (.pointer d))
 (hv : ∀ w, (∀ p ∈ R, p w) → (∀ c ∈ O, c.pred w) → (loadVar d ad).run P w = .ok v w) : Meth P R O ty (.pointer (some ad)) name f v := fun w hR hO => by
 obtain ⟨m, hm, hpf⟩ := Option.map_eq_some_iff.1 hm'
 simp only [Prod.mk.injEq] at hpf
 obtain ⟨hp, hf⟩ := hpf
 obtain ⟨i, hi, hfi⟩ := Option.bind_eq_some_iff.1 hm
 rw [show P.types.size + Made.depth = (P.types.size + (Made.depth - 1)) + 1 from rfl, method]
 simp [typeInfo, hi, hfi, hp, hf, follow, receiverAt, run_underlying hU, Place.get, strVal, run_wrapnil, asAddr, hv w hR hO]
theorem Meth.row {ty : TypeId} {name : String} {f : FuncId} {d : TypeId} {b off : Nat} {cs : List Value} (hm' : ((P.info? ty).bind (fun i => i.methods.find? (·.name == name))).map (fun m => (m.path, m.func)) = some (#[], some (f, false))) (hU : P.underlying ty = some (.pointer d))
 (hc : Cell1 P d) (hO : rowC b e cs ∈ O) (hk : cs[off]? = some v) : Meth P R O ty (.pointer (some ⟨b, off, none⟩)) name f v :=
 Meth.val hm' hU (fun w _ h => by
  have := run_load1 (P := P) hc (row_cell (h _ hO) hk)
  simpa [Instr.loadAt, Instr.sureAddr] using this)
theorem Rd.iface {d : TypeDesc} (ho : o.op = .makeInterface t x) (hU : P.underlying t = some d) (hd : (match d with | .interface _ => true | _ => false) = false) (hx : ev L x = some v) : Rd P o L R O (.iface t v) := fun ρ w hρ _ _ => by
 simp only [execOp, ho, hρ _ _ hx, Instr.makeInterface, Sem.run_bind, run_underlying hU, Result.andThen_ok]
 cases d <;> simp_all
theorem Rd.assertT {d : TypeDesc} (ho : o.op = .typeAssert x t' t false) (hU : P.underlying t = some d) (hd : (match d with | .interface _ => true | _ => false) = false) (hx : ev L x = some (.iface t v)) : Rd P o L R O v := fun ρ w hρ _ _ => by
 simp only [execOp, ho, hρ _ _ hx, Instr.typeAssert, Sem.run_bind, run_underlying hU, Result.andThen_ok]
 cases d <;> simp_all
end
end Go.SL
namespace Go.Proofs.YtnjfgcpmcjmddaaGreatDoor
open Go
structure Ord {α : Type} (lt : α → α → Prop) : Prop where
 irrefl : ∀ a, ¬ lt a a
 asymm : ∀ a b, lt a b → ¬ lt b a
 le_trans : ∀ a b c, ¬ lt b a → ¬ lt c b → ¬ lt c a
 lt_le : ∀ a b c, lt a b → ¬ lt c b → ¬ lt c a
section
variable {α : Type} [Inhabited α] {lt : α → α → Prop}
def swapL (l : List α) (i j : Nat) : List α := (l.set i l[j]!).set j l[i]!
theorem swapL_len (l : List α) (i j : Nat) : (swapL l i j).length = l.length := by simp [swapL]
theorem set_get! {l : List α} {i : Nat} {a : α} {k : Nat} (hi : i < l.length) : (l.set i a)[k]! = if k = i then a else l[k]! := by
 by_cases hk : k < l.length
 · rw [getElem!_pos (l.set i a) k (by simpa using hk), getElem!_pos l k hk, List.getElem_set]
   by_cases e : i = k
   · rw [if_pos e, if_pos e.symm]
   · rw [if_neg e, if_neg (fun h => e h.symm)]
 · rw [if_neg (by omega), getElem!_neg (l.set i a) k (by simpa using hk), getElem!_neg l k hk]
theorem swapL_get {l : List α} {i j : Nat} (hi : i < l.length) (hj : j < l.length) (k : Nat) : (swapL l i j)[k]! = if k = j then l[i]! else if k = i then l[j]! else l[k]! := by
 unfold swapL
 rw [set_get! (by simpa using hj)]
 by_cases e : k = j
 · rw [if_pos e, if_pos e]
 · rw [if_neg e, if_neg e, set_get! hi]
theorem swapL_perm {l : List α} {i j : Nat} (hi : i < l.length) (hj : j < l.length) : (swapL l i j).Perm l := by
 unfold swapL
 rw [getElem!_pos l i hi, getElem!_pos l j hj]
 exact List.set_set_perm hi hj
theorem swapL_take {l : List α} {i j n : Nat} (hi : i < n) (hj : j < n) (hn : n ≤ l.length) : (swapL l i j).drop n = l.drop n := by
 unfold swapL
 rw [List.drop_set_of_lt hj, List.drop_set_of_lt hi]
def Hp (lt : α → α → Prop) (l : List α) : Prop := ∀ k, 0 < k → k < l.length → ¬ lt l[k]! l[(k - 1) / 2]!
def Up (lt : α → α → Prop) (l : List α) (j : Nat) : Prop := j < l.length ∧ (∀ k, 0 < k → k < l.length → k ≠ j → ¬ lt l[k]! l[(k - 1) / 2]!) ∧ (∀ c, 0 < c → c < l.length → (c - 1) / 2 = j → 0 < j → ¬ lt l[c]! l[(j - 1) / 2]!)
theorem Up.push {l : List α} (h : Hp lt l) (x : α) : Up lt (l ++ [x]) l.length := by
 refine ⟨by simp, fun k h0 hk hne => ?_, fun c h0 hc he => ?_⟩
 · rw [List.length_append, List.length_singleton] at hk
   have h1 := h k h0 (by omega)
   rw [getElem!_pos l k (by omega), getElem!_pos l ((k - 1) / 2) (by omega)] at h1
   rw [getElem!_pos (l ++ [x]) k (by simp; omega), getElem!_pos (l ++ [x]) ((k - 1) / 2) (by simp; omega), List.getElem_append_left (by omega), List.getElem_append_left (by omega)]
   exact h1
 · rw [List.length_append, List.length_singleton] at hc; omega
theorem Up.done {l : List α} {j : Nat} (h : Up lt l j) (hd : j = 0 ∨ ¬ lt l[j]! l[(j - 1) / 2]!) : Hp lt l := fun k h0 hk => by
 by_cases e : k = j
 · subst e; rcases hd with hd | hd
   · omega
   · exact hd
 · exact h.2.1 k h0 hk e
theorem Up.step (ho : Ord lt) {l : List α} {j : Nat} (h : Up lt l j) (h0 : 0 < j) (hl : lt l[j]! l[(j - 1) / 2]!) : Up lt (swapL l ((j - 1) / 2) j) ((j - 1) / 2) := by
 obtain ⟨hj, h1, h2⟩ := h
 have hi : (j - 1) / 2 < l.length := by omega
 refine ⟨by rw [swapL_len]; exact hi, fun k k0 hk hne => ?_, fun c c0 hc he g0 => ?_⟩
 · rw [swapL_len] at hk
   rw [swapL_get hi hj, swapL_get hi hj]
   by_cases e : k = j
   · subst e
     rw [if_pos rfl, if_neg (by omega), if_pos rfl]
     exact ho.asymm _ _ hl
   · rw [if_neg e, if_neg hne]
     by_cases e2 : (k - 1) / 2 = j
     · rw [if_pos e2]; exact h2 k k0 hk e2 h0
     · rw [if_neg e2]
       by_cases e3 : (k - 1) / 2 = (j - 1) / 2
       · rw [if_pos e3]
         have := h1 k k0 hk e
         rw [e3] at this
         exact ho.lt_le _ _ _ hl this
       · rw [if_neg e3]; exact h1 k k0 hk e
 · rw [swapL_len] at hc
   rw [swapL_get hi hj, swapL_get hi hj]
   have hg := h1 ((j - 1) / 2) g0 hi (by omega)
   rw [if_neg (c := ((j - 1) / 2 - 1) / 2 = j) (by omega), if_neg (c := ((j - 1) / 2 - 1) / 2 = (j - 1) / 2) (by omega)]
   by_cases e : c = j
   · rw [if_pos e]; exact hg
   · rw [if_neg e, if_neg (by omega)]
     have := h1 c c0 hc e
     rw [he] at this
     exact ho.le_trans _ _ _ hg this
def Dn (lt : α → α → Prop) (l : List α) (i n : Nat) : Prop := n ≤ l.length ∧ (∀ k, 0 < k → k < n → (k - 1) / 2 ≠ i → ¬ lt l[k]! l[(k - 1) / 2]!) ∧ (∀ c, 0 < c → c < n → (c - 1) / 2 = i → 0 < i → ¬ lt l[c]! l[(i - 1) / 2]!)
theorem Dn.done {l : List α} {i n : Nat} (h : Dn lt l i n) (hd : ∀ c, 0 < c → c < n → (c - 1) / 2 = i → ¬ lt l[c]! l[i]!) : Hp lt (l.take n) := fun k h0 hk => by
 have hn := h.1
 rw [List.length_take] at hk
 rw [getElem!_pos (l.take n) k (by rw [List.length_take]; omega), getElem!_pos (l.take n) ((k - 1) / 2) (by rw [List.length_take]; omega), List.getElem_take, List.getElem_take]
 rw [← getElem!_pos l k (by omega), ← getElem!_pos l ((k - 1) / 2) (by omega)]
 by_cases e : (k - 1) / 2 = i
 · rw [e]; exact hd k h0 (by omega) e
 · exact h.2.1 k h0 (by omega) e
theorem Dn.step (ho : Ord lt) {l : List α} {i j n : Nat} (h : Dn lt l i n) (hj : j < n) (hji : (j - 1) / 2 = i) (j0 : 0 < j) (hmin : ∀ c, 0 < c → c < n → (c - 1) / 2 = i → ¬ lt l[c]! l[j]!) (hl : lt l[j]! l[i]!) : Dn lt (swapL l i j) j n := by
 obtain ⟨hn, h1, h2⟩ := h
 have hi : i < l.length := by omega
 have hj' : j < l.length := by omega
 refine ⟨by rw [swapL_len]; exact hn, fun k k0 hk hne => ?_, fun c c0 hc he _ => ?_⟩
 · rw [swapL_get hi hj', swapL_get hi hj']
   by_cases e : k = j
   · subst e
     rw [if_pos rfl, if_neg hne, if_pos hji]
     exact ho.asymm _ _ hl
   · rw [if_neg e, if_neg hne]
     by_cases e2 : k = i
     · subst e2
       rw [if_pos rfl, if_neg (by omega)]
       exact h2 j j0 hj hji k0
     · rw [if_neg e2]
       by_cases e3 : (k - 1) / 2 = i
       · rw [if_pos e3]; exact hmin k k0 hk e3
       · rw [if_neg e3]; exact h1 k k0 hk e3
 · rw [swapL_get hi hj', swapL_get hi hj', if_neg (by omega), if_neg (by omega), if_neg (by omega), if_pos hji]
   have := h1 c c0 hc (by omega)
   rwa [he] at this
theorem Hp.first (ho : Ord lt) {l : List α} (h : Hp lt l) : ∀ k, k < l.length → ¬ lt l[k]! l[0]! := by
 intro k
 induction k using Nat.strongRecOn with
 | _ k ih =>
   intro hk
   by_cases e : k = 0
   · subst e; exact ho.irrefl _
   · exact ho.le_trans _ _ _ (ih ((k - 1) / 2) (by omega) (by omega)) (h k (by omega) hk)
theorem Hp.least (ho : Ord lt) {l : List α} (h : Hp lt l) {x : α} (hx : x ∈ l) : ¬ lt x l[0]! := by
 obtain ⟨k, hk, rfl⟩ := List.getElem_of_mem hx
 rw [← getElem!_pos l k hk]
 exact h.first ho k hk
theorem Dn.start {l : List α} {m : Nat} (h : Hp lt l) (hm : l.length = m + 1) : Dn lt (swapL l 0 m) 0 m := by
 refine ⟨by rw [swapL_len]; omega, fun k k0 hk hne => ?_, fun c _ _ _ h0 => absurd h0 (Nat.lt_irrefl 0)⟩
 rw [swapL_get (by omega) (by omega), swapL_get (by omega) (by omega), if_neg (by omega), if_neg (by omega), if_neg (by omega), if_neg hne]
 exact h k k0 (by omega)
theorem hp_nil : Hp lt ([] : List α) := fun k _ hk => absurd hk (Nat.not_lt_zero _)
end
end Go.Proofs.YtnjfgcpmcjmddaaGreatDoor
namespace Go.SL
open Go Go.RowKit
section
variable {P : Program} {ops : Array Oper} {Q : Exit → Act → World → Prop} {md : Region.Mode} {S : Array Bool → World → Prop}
def wpAnyL (P : Program) (md : Region.Mode) (ops : Array Oper) (Q : Exit → Act → World → Prop) (S : Array Bool → World → Prop) : Nat → Array Bool → Act → World → Prop
 | 0, listed, a, w => Region.ready md ops listed = [] ∧ Q .normal a w
 | fuel + 1, listed, a, w =>
   (Region.ready md ops listed = [] → Q .normal a w) ∧
   ∀ i ∈ Region.ready md ops listed, wpOp P ops Q i (fun a' w' => S (listed.setIfInBounds i true) w' ∧ wpAnyL P md ops Q S fuel (listed.setIfInBounds i true) a' w') a w
theorem wpAny_of_L : ∀ (fuel : Nat) (listed : Array Bool) (a : Act) (w : World), wpAnyL P md ops Q S fuel listed a w → wpAny P md ops Q fuel listed a w
 | 0, _, _, _, h => h
 | fuel + 1, _, _, _, h => ⟨h.1, fun i hi => wpOp_mono (fun a' w' h' => wpAny_of_L fuel _ a' w' h'.2) (h.2 i hi)⟩
def Waits (md : Region.Mode) (ops : Array Oper) (i j : Nat) : Prop := ∃ oj, ops[j]? = some oj ∧ ∃ e ∈ oj.after, Region.binds md e = true ∧ e.on = i
def Early (md : Region.Mode) (ops : Array Oper) (i : Nat) (l : Array Bool) : Prop := ∀ j, Waits md ops i j → l.getD j true = false
theorem wpAnyL_first {i : Nat} {oi : Oper} {v : Value} (hi : ops[i]? = some oi) (hsel : ∀ (j : Nat) (o : Oper) cs b, ops[j]? = some o → o.op ≠ .select cs b)
 (hQ : ∀ c a w, Q (.panic c) (a.put oi.dst v) w → Q (.panic c) a w)
 (hmono : ∀ l w, S l w → S (l.setIfInBounds i true) w) (hback : ∀ l w, S (l.setIfInBounds i true) w → S l w) :
 ∀ (fuel : Nat) (listed : Array Bool) (a : Act) (w : World),
  (∀ j oj, ops[j]? = some oj → j ≠ i → listed.getD j true = false → (∀ e ∈ oj.after, Region.binds md e = true → e.on ≠ i) → oi.apart ops oj = true) →
  i ∈ Region.ready md ops listed → Early md ops i listed → YieldsIf P ops (fun w => ∃ l, Early md ops i l ∧ S l w) oi v a → S listed w →
  wpAnyL P md ops Q S fuel (listed.setIfInBounds i true) (a.put oi.dst v) w → wpAnyL P md ops Q S (fuel + 1) listed a w := by
 intro fuel
 induction fuel with
 | zero =>
   intro listed a w _ hr hE hy hS H
   refine ⟨fun h => (by rw [h] at hr; cases hr), fun j hj => ?_⟩
   by_cases hji : j = i
   · subst hji; exact hy.wpOp hi ⟨listed, hE, hS⟩ ⟨hmono _ _ hS, H⟩
   · have := ready_mono hj hji
     rw [H.1] at this
     cases this
 | succ fuel ih =>
   intro listed a w hfree hr hE hy hS H
   refine ⟨fun h => (by rw [h] at hr; cases hr), fun j hj => ?_⟩
   by_cases hji : j = i
   · subst hji; exact hy.wpOp hi ⟨listed, hE, hS⟩ ⟨hmono _ _ hS, H⟩
   · have h1 := H.2 j (ready_mono hj hji)
     obtain ⟨hjun, oj, hoj, hall⟩ := mem_ready.1 hj
     have hnot : ∀ e ∈ oj.after, Region.binds md e = true → e.on ≠ i := fun e he hb heq => by
      have h1 := hall e he hb
      have h0 := (mem_ready.1 hr).1
      rw [heq] at h1
      rcases Nat.lt_or_ge i listed.size with h' | h'
      · simp [h'] at h0 h1; rw [h0] at h1; cases h1
      · simp [Array.getElem?_eq_none h'] at h1
     have h2 := wpOp_putIf hoj (hfree j oj hoj hji hjun hnot) (fun cs b => hsel i oi cs b hi) (fun cs b => hsel j oj cs b hoj) hQ hy h1
     have hfree' : ∀ k ok, ops[k]? = some ok → k ≠ i → (listed.setIfInBounds j true).getD k true = false →
      (∀ e ∈ ok.after, Region.binds md e = true → e.on ≠ i) → oi.apart ops ok = true := fun k ok hk hki hun hno => by
      refine hfree k ok hk hki ?_ hno
      by_cases hjk : j = k
      · subst hjk; exact hjun
      · rw [getD_set_ne true hjk] at hun; exact hun
     have hE' : Early md ops i (listed.setIfInBounds j true) := fun k hk => by
      have hjk : j ≠ k := by
       rintro rfl
       obtain ⟨ok, hok, e, he, hb, heq⟩ := hk
       rw [hoj] at hok
       cases hok
       exact hnot e he hb heq
      rw [getD_set_ne true hjk]; exact hE k hk
     refine wpOp_mono (fun a' w' h3 => ?_) h2
     have hS' : S (listed.setIfInBounds j true) w' := hback _ _ (by rw [Array.setIfInBounds_comm _ _ hji]; exact h3.2.1)
     refine ⟨hS', ih (listed.setIfInBounds j true) a' w' hfree' (ready_mono hr (Ne.symm hji)) hE' h3.1 hS' ?_⟩
     rw [Array.setIfInBounds_comm _ _ hji]
     exact h3.2.2
end
section draw
variable {P : Program} {n : Sz} {ops : Array Oper} {Q : Post} {S : List RO} {T : List Own} {U : List (Nat × Own)} {fuel : Nat} {listed : Array Bool} {L : Env} {R : List RO} {O : List Own} {o : Oper}
def FactsL (S : List RO) (T : List Own) (U : List (Nat × Own)) (l : Array Bool) (w : World) : Prop := (∀ p ∈ S, p w) ∧ (∀ c ∈ T, c.pred w) ∧ ∀ u ∈ U, l.getD u.1 true = false → u.2.pred w
def WE (P : Program) (n : Sz) (ops : Array Oper) (Q : Post) (S : List RO) (T : List Own) (U : List (Nat × Own)) (fuel : Nat) (listed : Array Bool) (L : Env) (R : List RO) (O : List Own) : Prop :=
 ∀ a w, Fr n L a → Sat R O w → wpAnyL P .any ops (lift n Q) (FactsL S T U) fuel listed a w
def HeldL (S : List RO) (T : List Own) (U : List (Nat × Own)) (l : Array Bool) (R : List RO) (O : List Own) : Prop := ∀ w, Sat R O w → FactsL S T U l w
def live (U : List (Nat × Own)) (l : Array Bool) : List Own := (U.filter fun u => l.getD u.1 true == false).map (·.2)
inductive Mems (O : List Own) : List Own → Prop
 | nil : Mems O []
 | cons {c : Own} {V : List Own} (h : c ∈ O) (k : Mems O V) : Mems O (c :: V)
theorem Mems.mem {V : List Own} (h : Mems O V) : ∀ c ∈ V, c ∈ O := by
 induction h with
 | nil => exact fun c hc => absurd hc List.not_mem_nil
 | cons h _ ih =>
   intro c hc
   rcases List.mem_cons.1 hc with rfl | hc
   · exact h
   · exact ih c hc
theorem HeldL.mk2 {l : Array Bool} (V : List Own) (hV : live U l = V) (hS : SubL S R) (hT : OwnL O T) (hU : Mems O V) : HeldL S T U l R O := fun _ h =>
 ⟨fun p hp => h.read (hS.mem p hp), fun c hc => h.see (hT.mem.1 c hc), fun u hu hl => h.see (hU.mem u.2 (by rw [← hV]; exact List.mem_map.2 ⟨u, List.mem_filter.2 ⟨hu, by rw [hl]; rfl⟩, rfl⟩))⟩
def behindOk (ops : Array Oper) (U : List (Nat × Own)) (i : Nat) : Bool := U.all fun u => u.1 != i && (match ops[u.1]? with
 | some o => o.after.any fun e => Region.binds .any e && e.on == i
 | none => false)
theorem take_auxL {V : List (Nat × Own)} {i : Nat} {v : Value} {dst : Option Nat} {L' : Env} (hi : ops[i]? = some o) (hok : takeOk ops listed i = true) (hne : (U.all fun u => u.1 != i) = true) (hVU : V.Sublist U) (hb : behindOk ops V i = true) (hS : HeldL S T U listed R O) (hE : Early .any ops i listed) (hd : o.dst = dst) (hL : ∀ a, Fr n L a → Fr n L' (a.put dst v))
 (hy : ∀ a, Fr n L a → YieldsIf P ops (fun w => (∀ p ∈ S, p w) ∧ ∀ c ∈ V.map (·.2) ++ T, c.pred w) o v a) (k : WE P n ops Q S T U fuel (listed.setIfInBounds i true) L' R O) : WE P n ops Q S T U (fuel + 1) listed L R O := by
 intro a w hf hs
 simp only [takeOk, Bool.and_eq_true] at hok
 have hne2 : ∀ u ∈ U, u.1 ≠ i := fun u hu => by simpa using List.all_eq_true.1 hne u hu
 have hbw : ∀ u ∈ V, u.1 ≠ i ∧ Waits .any ops i u.1 := fun u hu => by
  have h := List.all_eq_true.1 hb u hu
  rw [Bool.and_eq_true] at h
  refine ⟨by simpa using h.1, ?_⟩
  have h2 := h.2
  cases ho : ops[u.1]? with
  | none => rw [ho] at h2; cases h2
  | some oj =>
    rw [ho] at h2
    obtain ⟨e, he, hee⟩ := Array.any_eq_true'.1 h2
    rw [Bool.and_eq_true] at hee
    exact ⟨oj, ho, e, he, hee.1, by simpa using hee.2⟩
 refine wpAnyL_first (v := v) hi (Region.noSelect_spec hok.1.1) (fun c a w h => h) ?_ ?_ fuel listed a w (Region.free_spec hi hok.1.2) (by simpa using hok.2) hE ?_ (hS w hs) ?_
 · rintro l w ⟨h1, h2, h3⟩
   exact ⟨h1, h2, fun u hu hl => h3 u hu (by rw [getD_set_ne true (Ne.symm (hne2 u hu))] at hl; exact hl)⟩
 · rintro l w ⟨h1, h2, h3⟩
   exact ⟨h1, h2, fun u hu hl => h3 u hu (by rw [getD_set_ne true (Ne.symm (hne2 u hu))]; exact hl)⟩
 · rcases hy a hf with ⟨h1, h2⟩ | h
   · refine .inl ⟨h1, fun w hw => h2 w ?_⟩
     obtain ⟨l, hEl, g1, g2, g3⟩ := hw
     refine ⟨g1, fun c hc => ?_⟩
     rcases List.mem_append.1 hc with hc | hc
     · obtain ⟨u, hu, rfl⟩ := List.mem_map.1 hc
       exact g3 u (hVU.subset hu) (hEl u.1 (hbw u hu).2)
     · exact g2 c hc
   · exact .inr h
 · rw [hd]
   exact k _ _ (hL a hf) hs
def earlyOk (ops : Array Oper) (listed : Array Bool) (i : Nat) : Bool := (List.range ops.size).all fun j => match ops[j]? with
 | some o => !(o.after.any fun e => Region.binds .any e && e.on == i) || (listed.getD j true == false)
 | none => true
theorem early_of {i : Nat} (h : earlyOk ops listed i = true) : Early .any ops i listed := by
 rintro j ⟨oj, hoj, e, he, hb, heq⟩
 have hj : j < ops.size := (Array.getElem?_eq_some_iff.1 hoj).1
 have h1 := List.all_eq_true.1 h j (List.mem_range.2 hj)
 rw [hoj] at h1
 simp only [Bool.or_eq_true, Bool.not_eq_true'] at h1
 rcases h1 with h1 | h1
 · have : (oj.after.any fun e => Region.binds .any e && e.on == i) = true := Array.any_eq_true'.2 ⟨e, he, by rw [hb, heq]; simp⟩
   rw [this] at h1; cases h1
 · simpa using h1
def readOk (ops : Array Oper) (listed : Array Bool) (U V : List (Nat × Own)) (i : Nat) : Bool := takeOk ops listed i && (behindOk ops V i && (earlyOk ops listed i && U.all fun u => u.1 != i))
theorem readOk_parts {V : List (Nat × Own)} {i : Nat} (h : readOk ops listed U V i = true) : takeOk ops listed i = true ∧ behindOk ops V i = true ∧ earlyOk ops listed i = true ∧ (U.all fun u => u.1 != i) = true := by
 unfold readOk at h
 rw [Bool.and_eq_true, Bool.and_eq_true, Bool.and_eq_true] at h
 exact ⟨h.1, h.2.1, h.2.2.1, h.2.2.2⟩
theorem WE.take (i : Nat) (V : List (Nat × Own)) {d : Nat} {v : Value} (hi : ops[i]? = some o) (hok : readOk ops listed U V i = true) (hVU : V.Sublist U) (hS : HeldL S T U listed R O) (hg : o.guard = none) (hd : o.dst = some d) (hn : Nat.blt d n.n = true) (h : Rd P o L S (V.map (·.2) ++ T) v)
 (k : WE P n ops Q S T U fuel (listed.setIfInBounds i true) ((d, v) :: L) R O) : WE P n ops Q S T U (fuel + 1) listed L R O :=
 take_auxL hi (readOk_parts hok).1 (readOk_parts hok).2.2.2 hVU (readOk_parts hok).2.1 hS (early_of (readOk_parts hok).2.2.1) hd (fun _ hf => hf.put hn v) (fun a hf => .inl ⟨by simp [Region.wanted, hg], fun w hw => h a.eval w (fun x u hx => hf.ev hx) hw.1 hw.2⟩) k
theorem WE.one (i : Nat) (hi : ops[i]? = some o) (hr : Region.ready .any ops listed = [i]) (hg : o.guard = none)
 (h : OpW P n o L R O (fun L' R' O' => HeldL S T U (listed.setIfInBounds i true) R' O' ∧ WE P n ops Q S T U fuel (listed.setIfInBounds i true) L' R' O')) : WE P n ops Q S T U (fuel + 1) listed L R O := by
 intro a w hf hs
 refine ⟨fun h0 => (by rw [hr] at h0; cases h0), fun j hj => ?_⟩
 rw [hr] at hj
 simp only [List.mem_singleton] at hj
 subst hj
 unfold wpOp
 rw [hi]
 simp only [Region.wanted, hg, if_true]
 exact .inl (Oper.wp_mono (fun a' w' ⟨L', R', O', hk, hf', hs'⟩ => ⟨hk.1 w' hs', hk.2 a' w' hf' hs'⟩) (h a w hf hs _))
theorem WE.heap {R' : List RO} {O' : List Own} (hs : ∀ w, Sat R O w → Sat R' O' w) (c : WE P n ops Q S T U fuel listed L R' O') : WE P n ops Q S T U fuel listed L R O := fun a w hf h => c a w hf (hs w h)
theorem WE.done (hr : (Region.ready .any ops listed).isEmpty = true) (h : Q .normal L R O) : WE P n ops Q S T U fuel listed L R O := fun a w hf hs => by
 have hr' := List.isEmpty_iff.1 hr
 have hq := lift_normal h hf hs
 cases fuel with
 | zero => exact ⟨hr', hq⟩
 | succ m => exact ⟨fun _ => hq, fun i hi => by rw [hr'] at hi; cases hi⟩
theorem WC.drawnU {id : Nat} {l : List Oper} (T : List Own) (U : List (Nat × Own)) (m : Nat) (hlen : l.length = m) (hm : P.follows .mixedOrders = true) (h : WE P n l.toArray Q R T U m (Array.replicate m false) L R O) : WC P n (.region id l.toArray true) Q L R O := by
 subst hlen
 intro a w hf hs
 exact wp_region_any hm (wpAny_of_L _ _ _ _ (h a _ hf (hs.drew _)))
end draw
end Go.SL
namespace Go.SL
open Go Go.RowKit
theorem Rd.half {P : Program} {L : Env} {R : List RO} {O : List Own} {o : Oper} {x y : Operand} {t t' : TypeId} {p : Int} {j : Nat} (ho : o.op = .binOp .quo t x y t') (hx : ev L x = some (.int .i64 p)) (hy : ev L y = some (.int .i64 2)) (hp : p = (j : Int) - 1) (hj : j ≤ 9223372036854775807) : Rd P o L R O (.int .i64 (((j - 1) / 2 : Nat) : Int)) := by
 cases j with
 | zero =>
   subst hp
   exact run_bin ho hx hy fun w => by simp [binOp, Op.intDiv]; rfl
 | succ j => exact Rd.quoI (a := j) (b := 2) ho hx hy (by rw [hp]; omega) rfl Z.W Z.W
end Go.SL
namespace Go.SL
open Go Go.RowKit
theorem Rd.sgtr {P : Program} {o : Oper} {L : Env} {R : List RO} {O : List Own} {t t' : TypeId} {x y : Operand} {s r : List UInt8} (ho : o.op = .binOp .gtr t x y t') (hx : ev L x = some (vs s)) (hy : ev L y = some (vs r)) : Rd P o L R O (.bool (decide (r < s))) :=
 run_sbin ho hx hy fun w => by
  have e : (!Op.bytesLess s r && !(s == r)) = decide (r < s) := by
   rw [bless_eq]
   by_cases h1 : s < r
   · have h2 : ¬ r < s := fun h => List.lt_irrefl _ (List.lt_trans h1 h)
     simp [h1, h2]
   · by_cases h3 : s = r
     · subst h3; simp [List.lt_irrefl]
     · have h2 : r < s := Classical.byContradiction fun h => h3 (List.le_antisymm (List.not_lt.1 h) (List.not_lt.1 h1))
       simp [h1, h3, h2]
  rw [← e]; simp [binOp, Op.stringOp]
theorem Rd.sltD {P : Program} {o : Oper} {L : Env} {R : List RO} {O : List Own} {t t' : TypeId} {x y : Operand} {s r : List UInt8} (ho : o.op = .binOp .lss t x y t') (hx : ev L x = some (vs s)) (hy : ev L y = some (vs r)) : Rd P o L R O (.bool (decide (s < r))) :=
 run_sbin ho hx hy fun w => by rw [← bless_eq]; simp [binOp, Op.stringOp]
end Go.SL
namespace Go.Proofs.YtnjfgcpmcjmddaaGreatDoor.Gr
open Go Go.SL
def ndLt (x y : Nv) : Prop := y.2.2 < x.2.2 ∨ x.2.2 = y.2.2 ∧ x.1 < y.1
instance (x y : Nv) : Decidable (ndLt x y) := by unfold ndLt; infer_instance
theorem tlt_tri (a b : T) : a < b ∨ a = b ∨ b < a := by
 rcases Classical.em (a < b) with h | h
 · exact .inl h
 · rcases Classical.em (b < a) with g | g
   · exact .inr (.inr g)
   · exact .inr (.inl (List.le_antisymm (List.not_lt.1 g) (List.not_lt.1 h)))
theorem ndOrd : Ord ndLt := by
 refine ⟨fun a => ?_, fun a b => ?_, fun a b c => ?_, fun a b c => ?_⟩
 · rintro (h | ⟨_, h⟩)
   · omega
   · exact List.lt_irrefl _ h
 · rintro (h | ⟨h1, h2⟩) (g | ⟨g1, g2⟩)
   · omega
   · omega
   · omega
   · exact List.lt_irrefl _ (List.lt_trans h2 g2)
 · intro h g hh
   unfold ndLt at *
   rcases tlt_tri a.1 b.1 with e | e | e <;> rcases tlt_tri b.1 c.1 with f | f | f <;> rcases hh with hh | ⟨k1, k2⟩
   all_goals first
    | (exfalso; refine h (.inr ⟨?_, e⟩); refine Int.le_antisymm ?_ ?_ <;> refine Int.not_lt.1 fun q => ?_ <;> omega)
    | skip
   all_goals (
    have h1 : ¬ a.2.2 < b.2.2 := fun q => h (.inl q)
    have g1 : ¬ b.2.2 < c.2.2 := fun q => g (.inl q)
    first
     | omega
     | (have e1 : a.2.2 = b.2.2 := by omega
        have e2 : b.2.2 = c.2.2 := by omega
        have h2 : ¬ b.1 < a.1 := fun q => h (.inr ⟨e1.symm, q⟩)
        have g2 : ¬ c.1 < b.1 := fun q => g (.inr ⟨e2.symm, q⟩)
        exact absurd k2 (List.not_lt.2 (List.le_trans (List.not_lt.1 h2) (List.not_lt.1 g2)))))
 · intro h g hh
   unfold ndLt at *
   have g1 : ¬ b.2.2 < c.2.2 := fun q => g (.inl q)
   rcases h with h | ⟨h1, h2⟩ <;> rcases hh with hh | ⟨k1, k2⟩
   · omega
   · omega
   · omega
   · have e2 : b.2.2 = c.2.2 := by omega
     have g2 : ¬ c.1 < b.1 := fun q => g (.inr ⟨e2.symm, q⟩)
     exact g2 (List.lt_trans k2 h2)
def cmpI (a b : Int) : Int := if a < b then -1 else if b < a then 1 else 0
def cmpT (a b : T) : Int := if a < b then -1 else if b < a then 1 else 0
def orI (a b : Int) : Int := if a ≠ 0 then a else b
theorem nd_or (x y : Nv) : orI (cmpI y.2.2 x.2.2) (cmpT x.1 y.1) < 0 ↔ ndLt x y := by
 unfold orI cmpI cmpT ndLt
 by_cases h1 : y.2.2 < x.2.2
 · simp [h1]
 · by_cases h2 : x.2.2 < y.2.2
   · simp [h1, h2]; omega
   · have e : x.2.2 = y.2.2 := by omega
     by_cases h3 : x.1 < y.1
     · simp [e, h3]
     · by_cases h4 : y.1 < x.1
       · simp [e, h3, h4]
       · simp [e, h3, h4]
abbrev accS (v : Value) (xs : List Nv) : Own := accC 62 3 encN v xs
abbrev rowW (br : Nat) (sv : Value) : Own := rowC br 113 [sv]
section
variable {R : List RO} {O O' : List Own} {POST : Value → List RO → List Own → Prop}
set_option maxRecDepth 20000 in
theorem nanI_spec {a : Int} (hk : POST (.bool false) R O) : Fun Tryz.prog 199 #[vi a] R O POST := by
 refine Fun.enter (l := [_]) Tryz.func199 rfl Tryz.ntmps199 rfl (L0 := [(0, _)]) rfl ?_
 refine Z.s1 <| Z.a1 rfl <| Z.q1 <| Z.m1 rfl <| Z.m1 rfl <| Z.r1 rfl (Rd.neq rfl rfl rfl) <| Z.a1 rfl <| Z.n1 ?_
 refine WC.ret (Ret.one Tryz.results199 rfl ?_)
 rw [show decide (a ≠ a) = false from decide_eq_false (fun h => h rfl)]; exact hk
set_option maxRecDepth 20000 in
theorem nanT_spec {a : T} (hk : POST (.bool false) R O) : Fun Tryz.prog 228 #[vs a] R O POST := by
 refine Fun.enter (l := [_]) Tryz.func228 rfl Tryz.ntmps228 rfl (L0 := [(0, _)]) rfl ?_
 refine Z.s1 <| Z.a1 rfl <| Z.q1 <| Z.m1 rfl <| Z.m1 rfl <| Z.r1 rfl (Rd.sneq rfl rfl rfl) <| Z.a1 rfl <| Z.n1 ?_
 refine WC.ret (Ret.one Tryz.results228 rfl ?_)
 rw [show decide (a ≠ a) = false from decide_eq_false (fun h => h rfl)]; exact hk
set_option maxRecDepth 20000 in
theorem cmpI_spec {a b : Int} (hk : POST (vi (cmpI a b)) R O) : Fun Tryz.prog 129 #[vi a, vi b] R O POST := by
 refine Fun.enter (l := [_, _]) Tryz.func129 rfl Tryz.ntmps129 rfl (L0 := [(0, _), (1, _)]) rfl ?_
 refine Z.s1 <| Z.a1 rfl <| Z.q1 <| Z.m1 rfl ?_
 refine WL.op rfl ?_
 refine OpW.call rfl rfl Z.E Z.K rfl rfl rfl ?_
 refine nanI_spec ?_
 refine Z.a1 rfl <| Z.q1 <| Z.m1 rfl ?_
 refine WL.op rfl ?_
 refine OpW.call rfl rfl Z.E Z.K rfl rfl rfl ?_
 refine nanI_spec ?_
 refine Z.a1 rfl <| Z.n1 <| Z.s2 <| Z.m1 rfl <| Z.n1 ?_
 refine WC.cond rfl (fun hc1 => ?_) (fun hc1 => ?_)
 ·
  cases hc1
 ·
  refine WC.skip ?_
  refine thenQ.normal ?_
  refine Z.s2 <| Z.m1 rfl <| Z.n1 ?_
  refine WC.cond rfl (fun hc3 => ?_) (fun hc3 => ?_)
  ·
   cases hc3
  ·
   refine WC.skip ?_
   refine thenQ.normal ?_
   refine Z.s2 <| Z.m1 rfl <| Z.m1 rfl <| Z.r1 rfl (Rd.lss rfl rfl rfl) <| Z.n1 ?_
   refine WC.ite rfl (fun hc4 => ?_) (fun hc4 => ?_)
   ·
    refine Z.s1 <| Z.a1 rfl <| Z.n1 ?_
    refine WC.ret (Ret.one Tryz.results129 rfl ?_)
    unfold cmpI at hk
    first
     | (rw [if_pos hc4] at hk; exact hk)
     | (rw [if_neg hc4, if_pos hc5] at hk; exact hk)
     | (rw [if_neg hc4, if_neg hc5] at hk; exact hk)
   ·
    refine WC.skip ?_
    refine thenQ.normal ?_
    refine Z.s2 <| Z.m1 rfl <| Z.m1 rfl <| Z.r1 rfl (Rd.gtr rfl rfl rfl) <| Z.n1 ?_
    refine WC.ite rfl (fun hc5 => ?_) (fun hc5 => ?_)
    ·
     refine Z.s1 <| Z.a1 rfl <| Z.n1 ?_
     refine WC.ret (Ret.one Tryz.results129 rfl ?_)
     unfold cmpI at hk
     first
      | (rw [if_pos hc4] at hk; exact hk)
      | (rw [if_neg hc4, if_pos hc5] at hk; exact hk)
      | (rw [if_neg hc4, if_neg hc5] at hk; exact hk)
    ·
     refine WC.skip ?_
     refine thenQ.normal ?_
     refine Z.s1 <| Z.a1 rfl <| Z.n1 ?_
     refine WC.ret (Ret.one Tryz.results129 rfl ?_)
     unfold cmpI at hk
     first
      | (rw [if_pos hc4] at hk; exact hk)
      | (rw [if_neg hc4, if_pos hc5] at hk; exact hk)
      | (rw [if_neg hc4, if_neg hc5] at hk; exact hk)
set_option maxRecDepth 20000 in
theorem cmpT_spec {a b : T} (hk : POST (vi (cmpT a b)) R O) : Fun Tryz.prog 442 #[vs a, vs b] R O POST := by
 refine Fun.enter (l := [_, _]) Tryz.func442 rfl Tryz.ntmps442 rfl (L0 := [(0, _), (1, _)]) rfl ?_
 refine Z.s1 <| Z.a1 rfl <| Z.q1 <| Z.m1 rfl ?_
 refine WL.op rfl ?_
 refine OpW.call rfl rfl Z.E Z.K rfl rfl rfl ?_
 refine nanT_spec ?_
 refine Z.a1 rfl <| Z.q1 <| Z.m1 rfl ?_
 refine WL.op rfl ?_
 refine OpW.call rfl rfl Z.E Z.K rfl rfl rfl ?_
 refine nanT_spec ?_
 refine Z.a1 rfl <| Z.n1 <| Z.s2 <| Z.m1 rfl <| Z.n1 ?_
 refine WC.cond rfl (fun hc1 => ?_) (fun hc1 => ?_)
 ·
  cases hc1
 ·
  refine WC.skip ?_
  refine thenQ.normal ?_
  refine Z.s2 <| Z.m1 rfl <| Z.n1 ?_
  refine WC.cond rfl (fun hc3 => ?_) (fun hc3 => ?_)
  ·
   cases hc3
  ·
   refine WC.skip ?_
   refine thenQ.normal ?_
   refine Z.s2 <| Z.m1 rfl <| Z.m1 rfl <| Z.r1 rfl (Rd.sltD rfl rfl rfl) <| Z.n1 ?_
   refine WC.ite rfl (fun hc4 => ?_) (fun hc4 => ?_)
   ·
    refine Z.s1 <| Z.a1 rfl <| Z.n1 ?_
    refine WC.ret (Ret.one Tryz.results442 rfl ?_)
    unfold cmpT at hk
    first
     | (rw [if_pos hc4] at hk; exact hk)
     | (rw [if_neg hc4, if_pos hc5] at hk; exact hk)
     | (rw [if_neg hc4, if_neg hc5] at hk; exact hk)
   ·
    refine WC.skip ?_
    refine thenQ.normal ?_
    refine Z.s2 <| Z.m1 rfl <| Z.m1 rfl <| Z.r1 rfl (Rd.sgtr rfl rfl rfl) <| Z.n1 ?_
    refine WC.ite rfl (fun hc5 => ?_) (fun hc5 => ?_)
    ·
     refine Z.s1 <| Z.a1 rfl <| Z.n1 ?_
     refine WC.ret (Ret.one Tryz.results442 rfl ?_)
     unfold cmpT at hk
     first
      | (rw [if_pos hc4] at hk; exact hk)
      | (rw [if_neg hc4, if_pos hc5] at hk; exact hk)
      | (rw [if_neg hc4, if_neg hc5] at hk; exact hk)
    ·
     refine WC.skip ?_
     refine thenQ.normal ?_
     refine Z.s1 <| Z.a1 rfl <| Z.n1 ?_
     refine WC.ret (Ret.one Tryz.results442 rfl ?_)
     unfold cmpT at hk
     first
      | (rw [if_pos hc4] at hk; exact hk)
      | (rw [if_neg hc4, if_pos hc5] at hk; exact hk)
      | (rw [if_neg hc4, if_neg hc5] at hk; exact hk)
set_option maxRecDepth 20000 in
theorem or_spec {a b : Int} {g : Nat} (hk : POST (vi (orI a b)) R (rowC g 3 [vi a, vi b] :: O)) : Fun Tryz.prog 441 #[.slice (some ⟨g, 0, none⟩) 2 2] R (rowC g 3 [vi a, vi b] :: O) POST := by
 refine Fun.enter (l := [_]) Tryz.func441 rfl Tryz.ntmps441 rfl (L0 := [(0, _)]) rfl ?_
 refine Z.s1 <| Z.a1 rfl <| Z.q1 <| Z.a1 rfl <| Z.n1 <| Z.s2 <| Z.m1 rfl <| Z.r1 rfl (by exact Rd.len rfl rfl Tryz.underlying22) ?_
 refine Z.m1 rfl <| Z.n1 ?_
 refine WC.block ?_
 refine WC.pick [8, 3, 6, 7] Z.P ?_
 refine WC.loop1o 1 (fun (i : Nat) => [(8, vi i)]) (fun (i : Nat) => i ≤ 2 ∧ (0 < i → a = 0) ∧ (1 < i → b = 0)) (fun (i : Nat) => 2 - i) (0) Z.L ?hinv1 (by repeat (first | exact Sub.nil | refine Sub.cons rfl (by rfl) ?_)) (fun _ h => h) ?_
 case hinv1 =>
  exact ⟨by omega, by omega, by omega⟩
 intro i
 rintro ⟨i1, i2, i3⟩
 refine Z.s1 <| Z.r1 rfl (Rd.lss rfl rfl rfl) <| Z.n1 ?_
 refine WC.seq ?_
 refine WC.ite rfl (fun hc1 => ?_) (fun hc1 => ?_)
 ·
  refine WC.skip ?_
  refine thenQ.normal ?_
  refine WC.seq ?_
  refine WC.block ?_
  refine Z.s1 <| Z.r1 rfl (Rd.idxR1 (k := i) rfl S22 rfl rfl rfl Z.W) ?_
  refine Z.r1 rfl (Rd.row1 (off := i) (u := vi (if i = 0 then a else b)) rfl C3 rfl Z.M (by rcases (show i = 0 ∨ i = 1 by omega) with rfl | rfl <;> rfl)) ?_
  refine Z.a1 rfl <| Z.q1 <| Z.m1 rfl <| Z.m1 rfl <| Z.r1 rfl (Rd.neq rfl rfl rfl) <| Z.n1 ?_
  refine WC.ite rfl (fun hc2 => ?_) (fun hc2 => ?_)
  ·
   refine Z.s1 <| Z.m1 rfl <| Z.a1 rfl <| Z.n1 ?_
   refine WC.ret (Ret.one Tryz.results441 rfl ?_)
   rcases (show i = 0 ∨ i = 1 by omega) with rfl | rfl
   · rw [if_pos rfl] at *
     rw [orI, if_pos hc2] at hk; exact hk
   · rw [if_neg Z.W] at *
     rw [orI, if_neg (by rw [i2 Z.W]; simp)] at hk; exact hk
  ·
   refine WC.skip ?_
   refine blockQ.normal ?_
   refine thenQ.normal ?_
   refine WC.region ?_
   refine Z.r1 rfl (Rd.add rfl rfl rfl Z.W) ?_
   refine Z.m1 rfl ?_
   refine WL.nil ?_
   exact loopQ1.mk (i + 1) ⟨by omega, fun _ => by
   rcases (show i = 0 ∨ i = 1 by omega) with rfl | rfl
   · simpa using hc2
   · exact i2 Z.W, fun _ => by
   obtain rfl : i = 1 := by omega
   simpa using hc2⟩ Z.W (by repeat (first | exact Sub.nil | refine Sub.cons rfl (by rfl) ?_)) Z.F
 ·
  refine WC.exit ?_
  refine thenQ.exit ?_
  refine loopQ1.exit ?_
  refine blockQ.exit ?_
  refine thenQ.normal ?_
  refine Z.s1 <| Z.m1 rfl <| Z.a1 rfl <| Z.n1 ?_
  refine WC.ret (Ret.one Tryz.results441 rfl ?_)
  have h2 : i = 2 := by omega
  have hz : orI a b = 0 := by rw [orI, if_neg (by rw [i2 Z.W]; simp), i3 Z.W]
  rw [hz] at hk
  exact hk
end
section
variable {R : List RO} {O O' : List Own} {POST : Value → List RO → List Own → Prop} {xs : List Nv} {sv : Value}
theorem Fun.knowO' {P : Program} {f : FuncId} {args : Array Value} {post : Value → List RO → List Own → Prop} {c : Own} {φ : Prop} (hp : c ∈ O) (hφ : ∀ w, c.pred w → φ) (h : φ → Fun P f args R O post) : Fun P f args R O post := fun w hs => h (hφ w (hs.see hp)) w hs
theorem acc_sub {α : Type} {e : TypeId} {size hi : Nat} {enc : α → List Value} {v : Value} {xs : List α} {w : World} (h : (accC e size enc v xs).pred w) : OneV (subSl v size 0 hi) := by
 rcases h.2 with ⟨rfl, _⟩ | ⟨b, c, cur, rfl, _⟩
 · exact ⟨rfl, rfl⟩
 · rw [subSl0]; exact ⟨rfl, rfl⟩
theorem acc_shape {α : Type} {e : TypeId} {size : Nat} {enc : α → List Value} {v : Value} {xs : List α} {w : World} (h : (accC e size enc v xs).pred w) (h0 : 0 < xs.length) : ∃ g cap, v = .slice (some ⟨g, 0, none⟩) xs.length cap := by
 rcases h.2 with ⟨_, h1⟩ | ⟨b, c, cur, rfl, _⟩
 · omega
 · exact ⟨b, c, rfl⟩
set_option maxRecDepth 20000 in
theorem len_spec (hO : accS sv xs ∈ O) (hk : POST (vi xs.length) R O) : Fun Tryz.prog 438 #[sv] R O POST := by
 refine Fun.enter (l := [_]) Tryz.func438 rfl Tryz.ntmps438 rfl (L0 := [(0, _)]) rfl ?_
 refine Z.s1 <| Z.a1 rfl <| Z.q1 <| Z.m1 rfl <| Z.r1 rfl (Rd.lenA (enc := encN) (xs := xs) rfl rfl Tryz.underlying113 hO) ?_
 refine Z.a1 rfl <| Z.n1 ?_
 refine WC.ret (Ret.one Tryz.results438 rfl ?_)
 exact hk
set_option maxRecDepth 20000 in
theorem less0_spec {i j : Nat} (hO : accS sv xs ∈ O) (hi : i < xs.length) (hj : j < xs.length) (hk : ∀ b, POST (.bool (decide (ndLt xs[i]! xs[j]!))) R (rowC b 3 [vi (cmpI xs[j]!.2.2 xs[i]!.2.2), vi (cmpT xs[i]!.1 xs[j]!.1)] :: O)) : Fun Tryz.prog 439 #[sv, vi i, vi j] R O POST := by
 refine Fun.enter (l := [_, _, _]) Tryz.func439 rfl Tryz.ntmps439 rfl (L0 := [(0, _), (1, _), (2, _)]) rfl ?_
 refine Z.s1 <| Z.a1 rfl <| Z.n1 ?_
 refine WC.seq ?_
 refine WC.drawn (O) 26 rfl mixed ?_
 refine WD.take 0 rfl Z.K Z.H rfl rfl rfl (Rd.move rfl rfl) ?_
 refine WD.take 1 rfl Z.K Z.H rfl rfl rfl (Rd.move rfl rfl) ?_
 refine WD.take 2 rfl Z.K Z.H rfl rfl rfl (Rd.idxA (enc := encN) (xs := xs) (k := j) rfl S113 rfl rfl rfl hO hj) ?_
 refine WD.take 3 rfl Z.K Z.H rfl rfl rfl (Rd.fieldA (enc := encN) (xs := xs) rfl F62_2 rfl hO Z.W) ?_
 refine WD.take 4 rfl Z.K Z.H rfl rfl rfl (Rd.getFA (enc := encN) (size := 3) (xs := xs) (k := j) (f := 2) (a := xs[j]!) (u := vi xs[j]!.2.2) rfl C3 rfl hO (fun x => rfl) Z.W (get!_of_lt hj) rfl) ?_
 refine WD.take 5 rfl Z.K Z.H rfl rfl rfl (Rd.move rfl rfl) ?_
 refine WD.take 6 rfl Z.K Z.H rfl rfl rfl (Rd.move rfl rfl) ?_
 refine WD.take 7 rfl Z.K Z.H rfl rfl rfl (Rd.idxA (enc := encN) (xs := xs) (k := i) rfl S113 rfl rfl rfl hO hi) ?_
 refine WD.take 8 rfl Z.K Z.H rfl rfl rfl (Rd.fieldA (enc := encN) (xs := xs) rfl F62_2 rfl hO Z.W) ?_
 refine WD.take 9 rfl Z.K Z.H rfl rfl rfl (Rd.getFA (enc := encN) (size := 3) (xs := xs) (k := i) (f := 2) (a := xs[i]!) (u := vi xs[i]!.2.2) rfl C3 rfl hO (fun x => rfl) Z.W (get!_of_lt hi) rfl) ?_
 refine WD.take 11 rfl Z.K Z.H rfl rfl rfl (Rd.move rfl rfl) ?_
 refine WD.take 12 rfl Z.K Z.H rfl rfl rfl (Rd.move rfl rfl) ?_
 refine WD.take 13 rfl Z.K Z.H rfl rfl rfl (Rd.idxA (enc := encN) (xs := xs) (k := i) rfl S113 rfl rfl rfl hO hi) ?_
 refine WD.take 14 rfl Z.K Z.H rfl rfl rfl (Rd.fieldA (enc := encN) (xs := xs) rfl F62_0 rfl hO Z.W) ?_
 refine WD.take 15 rfl Z.K Z.H rfl rfl rfl (Rd.getFA (enc := encN) (size := 3) (xs := xs) (k := i) (f := 0) (a := xs[i]!) (u := vs xs[i]!.1) rfl C9 rfl hO (fun x => rfl) Z.W (get!_of_lt hi) rfl) ?_
 refine WD.take 16 rfl Z.K Z.H rfl rfl rfl (Rd.move rfl rfl) ?_
 refine WD.take 17 rfl Z.K Z.H rfl rfl rfl (Rd.move rfl rfl) ?_
 refine WD.take 18 rfl Z.K Z.H rfl rfl rfl (Rd.idxA (enc := encN) (xs := xs) (k := j) rfl S113 rfl rfl rfl hO hj) ?_
 refine WD.take 19 rfl Z.K Z.H rfl rfl rfl (Rd.fieldA (enc := encN) (xs := xs) rfl F62_0 rfl hO Z.W) ?_
 refine WD.take 20 rfl Z.K Z.H rfl rfl rfl (Rd.getFA (enc := encN) (size := 3) (xs := xs) (k := j) (f := 0) (a := xs[j]!) (u := vs xs[j]!.1) rfl C9 rfl hO (fun x => rfl) Z.W (get!_of_lt hj) rfl) ?_
 refine WD.one 10 rfl Z.K rfl ?_
 refine OpW.call rfl rfl Z.E Z.K rfl rfl rfl ?_
 refine cmpI_spec ?_
 refine ⟨Z.H, ?_⟩
 refine WD.one 21 rfl Z.K rfl ?_
 refine OpW.call rfl rfl Z.E Z.K rfl rfl rfl ?_
 refine cmpT_spec ?_
 refine ⟨Z.H, ?_⟩
 refine WD.one 22 rfl Z.K rfl ?_
 refine OpW.buildSl (ps := [(0, _), (1, _)]) rfl S22 Z.E rfl rfl Z.C Z.K rfl rfl rfl ?_; intro b29
 refine ⟨Z.H, ?_⟩
 refine WD.one 23 rfl Z.K rfl ?_
 refine OpW.call rfl rfl Z.E Z.K rfl rfl rfl ?_
 refine or_spec ?_
 refine ⟨Z.H, ?_⟩
 refine WD.take 24 rfl Z.K Z.H rfl rfl rfl (Rd.lss rfl rfl rfl) ?_
 refine WD.say 31 (u := .bool (decide (ndLt xs[i]! xs[j]!))) rfl (by rw [decide_eq_decide.2 (nd_or xs[i]! xs[j]!)]) ?_
 refine WD.take 25 rfl Z.K Z.H rfl rfl rfl (Rd.assign rfl rfl) ?_
 refine WD.done Z.K ?_
 refine thenQ.normal ?_
 refine WC.ret (Ret.one Tryz.results439 rfl ?_)
 exact hk _
theorem less_spec {i j : Nat} (hO : accS sv xs ∈ O) (hi : i < xs.length) (hj : j < xs.length) (hk : POST (.bool (decide (ndLt xs[i]! xs[j]!))) R O) : Fun Tryz.prog 439 #[sv, vi i, vi j] R O POST := by
 refine Fun.thin (post' := fun v R' O' => v = .bool (decide (ndLt xs[i]! xs[j]!)) ∧ R' = R ∧ ∃ b, O' = rowC b 3 [vi (cmpI xs[j]!.2.2 xs[i]!.2.2), vi (cmpT xs[i]!.1 xs[j]!.1)] :: O) (less0_spec hO hi hj fun b => ⟨rfl, rfl, b, rfl⟩) ?_
 rintro v R' O' ⟨rfl, rfl, b, rfl⟩
 exact ⟨_, _, hk, fun w h => h.drop⟩
set_option maxRecDepth 20000 in
theorem swap0_spec {i j : Nat} (hi : i < xs.length) (hj : j < xs.length) (hk : POST (.tuple #[]) R (accS sv (swapL xs i j) :: O)) : Fun Tryz.prog 440 #[sv, vi i, vi j] R (accS sv xs :: O) POST := by
 refine Fun.knowO' (c := accS sv xs) List.mem_cons_self (fun w h => acc_shape h Z.W) fun hone => ?_
 obtain ⟨g, cap, rfl⟩ := hone
 refine Fun.enter (l := [_, _, _]) Tryz.func440 rfl Tryz.ntmps440 rfl (L0 := [(0, _), (1, _), (2, _)]) rfl ?_
 refine WC.drawnU (O) ([(13, accS (.slice (some ⟨g, 0, none⟩) xs.length cap) xs)]) 16 rfl mixed ?_
 refine WE.take 0 [] rfl Z.K (by repeat (first | exact List.Sublist.refl _ | exact List.nil_sublist _ | apply List.Sublist.cons_cons | apply List.Sublist.cons)) (HeldL.mk2 [accS (.slice (some ⟨g, 0, none⟩) xs.length cap) xs] Z.K Z.S Z.O (by repeat (first | exact Mems.nil | refine Mems.cons Z.M ?_))) rfl rfl rfl (Rd.move rfl rfl) ?_
 refine WE.take 1 [] rfl Z.K (by repeat (first | exact List.Sublist.refl _ | exact List.nil_sublist _ | apply List.Sublist.cons_cons | apply List.Sublist.cons)) (HeldL.mk2 [accS (.slice (some ⟨g, 0, none⟩) xs.length cap) xs] Z.K Z.S Z.O (by repeat (first | exact Mems.nil | refine Mems.cons Z.M ?_))) rfl rfl rfl (Rd.move rfl rfl) ?_
 refine WE.take 2 [] rfl Z.K (by repeat (first | exact List.Sublist.refl _ | exact List.nil_sublist _ | apply List.Sublist.cons_cons | apply List.Sublist.cons)) (HeldL.mk2 [accS (.slice (some ⟨g, 0, none⟩) xs.length cap) xs] Z.K Z.S Z.O (by repeat (first | exact Mems.nil | refine Mems.cons Z.M ?_))) rfl rfl rfl (Rd.move rfl rfl) ?_
 refine WE.take 3 [] rfl Z.K (by repeat (first | exact List.Sublist.refl _ | exact List.nil_sublist _ | apply List.Sublist.cons_cons | apply List.Sublist.cons)) (HeldL.mk2 [accS (.slice (some ⟨g, 0, none⟩) xs.length cap) xs] Z.K Z.S Z.O (by repeat (first | exact Mems.nil | refine Mems.cons Z.M ?_))) rfl rfl rfl (Rd.move rfl rfl) ?_
 refine WE.take 4 [] rfl Z.K (by repeat (first | exact List.Sublist.refl _ | exact List.nil_sublist _ | apply List.Sublist.cons_cons | apply List.Sublist.cons)) (HeldL.mk2 [accS (.slice (some ⟨g, 0, none⟩) xs.length cap) xs] Z.K Z.S Z.O (by repeat (first | exact Mems.nil | refine Mems.cons Z.M ?_))) rfl rfl rfl (Rd.move rfl rfl) ?_
 refine WE.take 5 [] rfl Z.K (by repeat (first | exact List.Sublist.refl _ | exact List.nil_sublist _ | apply List.Sublist.cons_cons | apply List.Sublist.cons)) (HeldL.mk2 [accS (.slice (some ⟨g, 0, none⟩) xs.length cap) xs] Z.K Z.S Z.O (by repeat (first | exact Mems.nil | refine Mems.cons Z.M ?_))) rfl rfl rfl (Rd.move rfl rfl) ?_
 refine WE.take 6 [] rfl Z.K (by repeat (first | exact List.Sublist.refl _ | exact List.nil_sublist _ | apply List.Sublist.cons_cons | apply List.Sublist.cons)) (HeldL.mk2 [accS (.slice (some ⟨g, 0, none⟩) xs.length cap) xs] Z.K Z.S Z.O (by repeat (first | exact Mems.nil | refine Mems.cons Z.M ?_))) rfl rfl rfl (Rd.idxR (k := j) rfl S113 rfl rfl rfl Z.W) ?_
 refine WE.take 7 [(13, accS (.slice (some ⟨g, 0, none⟩) xs.length cap) xs)] rfl Z.K (by repeat (first | exact List.Sublist.refl _ | exact List.nil_sublist _ | apply List.Sublist.cons_cons | apply List.Sublist.cons)) (HeldL.mk2 [accS (.slice (some ⟨g, 0, none⟩) xs.length cap) xs] Z.K Z.S Z.O (by repeat (first | exact Mems.nil | refine Mems.cons Z.M ?_))) rfl rfl rfl (Rd.getSA (enc := encN) (size := 3) (xs := xs) (k := j) (a := xs[j]!) (cs := encN xs[j]!) rfl G62 rfl Z.M (fun x => rfl) (get!_of_lt hj) (NF.refl _)) ?_
 refine WE.take 8 [] rfl Z.K (by repeat (first | exact List.Sublist.refl _ | exact List.nil_sublist _ | apply List.Sublist.cons_cons | apply List.Sublist.cons)) (HeldL.mk2 [accS (.slice (some ⟨g, 0, none⟩) xs.length cap) xs] Z.K Z.S Z.O (by repeat (first | exact Mems.nil | refine Mems.cons Z.M ?_))) rfl rfl rfl (Rd.move rfl rfl) ?_
 refine WE.take 9 [] rfl Z.K (by repeat (first | exact List.Sublist.refl _ | exact List.nil_sublist _ | apply List.Sublist.cons_cons | apply List.Sublist.cons)) (HeldL.mk2 [accS (.slice (some ⟨g, 0, none⟩) xs.length cap) xs] Z.K Z.S Z.O (by repeat (first | exact Mems.nil | refine Mems.cons Z.M ?_))) rfl rfl rfl (Rd.move rfl rfl) ?_
 refine WE.take 10 [] rfl Z.K (by repeat (first | exact List.Sublist.refl _ | exact List.nil_sublist _ | apply List.Sublist.cons_cons | apply List.Sublist.cons)) (HeldL.mk2 [accS (.slice (some ⟨g, 0, none⟩) xs.length cap) xs] Z.K Z.S Z.O (by repeat (first | exact Mems.nil | refine Mems.cons Z.M ?_))) rfl rfl rfl (Rd.idxR (k := i) rfl S113 rfl rfl rfl Z.W) ?_
 refine WE.take 11 [(13, accS (.slice (some ⟨g, 0, none⟩) xs.length cap) xs)] rfl Z.K (by repeat (first | exact List.Sublist.refl _ | exact List.nil_sublist _ | apply List.Sublist.cons_cons | apply List.Sublist.cons)) (HeldL.mk2 [accS (.slice (some ⟨g, 0, none⟩) xs.length cap) xs] Z.K Z.S Z.O (by repeat (first | exact Mems.nil | refine Mems.cons Z.M ?_))) rfl rfl rfl (Rd.getSA (enc := encN) (size := 3) (xs := xs) (k := i) (a := xs[i]!) (cs := encN xs[i]!) rfl G62 rfl Z.M (fun x => rfl) (get!_of_lt hi) (NF.refl _)) ?_
 refine WE.take 12 [] rfl Z.K (by repeat (first | exact List.Sublist.refl _ | exact List.nil_sublist _ | apply List.Sublist.cons_cons | apply List.Sublist.cons)) (HeldL.mk2 [accS (.slice (some ⟨g, 0, none⟩) xs.length cap) xs] Z.K Z.S Z.O (by repeat (first | exact Mems.nil | refine Mems.cons Z.M ?_))) rfl rfl rfl (Rd.idxR (k := i) rfl S113 rfl rfl rfl Z.W) ?_
 refine WE.one 13 rfl Z.K rfl ?_
 refine OpW.storeAccS (enc := encN) (k := i) (a := xs[j]!) rfl G62 rfl rfl rfl (fun x => rfl) rfl Z.T Z.W rfl ?_
 refine ⟨(HeldL.mk2 [] Z.K Z.S Z.O (by repeat (first | exact Mems.nil | refine Mems.cons Z.M ?_))), ?_⟩
 refine WE.take 14 [] rfl Z.K (by repeat (first | exact List.Sublist.refl _ | exact List.nil_sublist _ | apply List.Sublist.cons_cons | apply List.Sublist.cons)) (HeldL.mk2 [] Z.K Z.S Z.O (by repeat (first | exact Mems.nil | refine Mems.cons Z.M ?_))) rfl rfl rfl (Rd.idxR (k := j) rfl S113 rfl rfl rfl Z.W) ?_
 refine WE.one 15 rfl Z.K rfl ?_
 refine OpW.storeAccS (enc := encN) (k := j) (a := xs[i]!) rfl G62 rfl rfl rfl (fun x => rfl) rfl Z.T (by rw [List.length_set]; omega) rfl ?_
 refine ⟨(HeldL.mk2 [] Z.K Z.S Z.O (by repeat (first | exact Mems.nil | refine Mems.cons Z.M ?_))), ?_⟩
 refine WE.done Z.K ?_
 refine Ret.normal (Ret.zero Tryz.results440 ?_)
 exact hk
theorem swap_spec {i j : Nat} (hO : Take (accS sv xs) O O') (hi : i < xs.length) (hj : j < xs.length) (hk : POST (.tuple #[]) R (accS sv (swapL xs i j) :: O')) : Fun Tryz.prog 440 #[sv, vi i, vi j] R O POST :=
 Fun.heap (fun w h => h.perm hO.perm) (swap0_spec hi hj hk)
abbrev sptr (b : Nat) : Value := .pointer (some ⟨b, 0, none⟩)
abbrev ifv (b : Nat) : Value := .iface 115 (sptr b)
theorem mLen {br : Nat} (hO : rowW br sv ∈ O) : Meth Tryz.prog R O 115 (sptr br) "Len" 438 sv := Meth.row Z.K Tryz.underlying115 C113 hO rfl
theorem mLess {br : Nat} (hO : rowW br sv ∈ O) : Meth Tryz.prog R O 115 (sptr br) "Less" 439 sv := Meth.row Z.K Tryz.underlying115 C113 hO rfl
theorem mSwap {br : Nat} (hO : rowW br sv ∈ O) : Meth Tryz.prog R O 115 (sptr br) "Swap" 440 sv := Meth.row Z.K Tryz.underlying115 C113 hO rfl
theorem mPush {br : Nat} : Meth Tryz.prog R O 115 (sptr br) "Push" 444 (sptr br) := Meth.ptr Z.K Tryz.underlying115
theorem mPop {br : Nat} : Meth Tryz.prog R O 115 (sptr br) "Pop" 443 (sptr br) := Meth.ptr Z.K Tryz.underlying115
abbrev spv (s : Nv) : Value := .iface 62 (ndV s)
set_option maxRecDepth 20000 in
theorem push_spec {br : Nat} {x : Nv} (hlen : xs.length ≤ 1000000) (hk : ∀ sv', POST (.tuple #[]) R (rowW br sv' :: accS sv' (xs ++ [x]) :: O)) :
 Fun Tryz.prog 444 #[sptr br, spv x] R (rowW br sv :: accS sv xs :: O) POST := by
 refine Fun.enter (l := [_, _]) Tryz.func444 rfl Tryz.ntmps444 rfl (L0 := [(0, _), (1, _)]) rfl ?_
 refine WC.drawnU (O) ([(9, rowW br sv)]) 10 rfl mixed ?_
 refine WE.take 0 [] rfl Z.K (by repeat (first | exact List.Sublist.refl _ | exact List.nil_sublist _ | apply List.Sublist.cons_cons | apply List.Sublist.cons)) (HeldL.mk2 [rowW br sv] Z.K Z.S Z.O (by repeat (first | exact Mems.nil | refine Mems.cons Z.M ?_))) rfl rfl rfl (Rd.move rfl rfl) ?_
 refine WE.take 1 [] rfl Z.K (by repeat (first | exact List.Sublist.refl _ | exact List.nil_sublist _ | apply List.Sublist.cons_cons | apply List.Sublist.cons)) (HeldL.mk2 [rowW br sv] Z.K Z.S Z.O (by repeat (first | exact Mems.nil | refine Mems.cons Z.M ?_))) rfl rfl rfl (Rd.move rfl rfl) ?_
 refine WE.take 2 [] rfl Z.K (by repeat (first | exact List.Sublist.refl _ | exact List.nil_sublist _ | apply List.Sublist.cons_cons | apply List.Sublist.cons)) (HeldL.mk2 [rowW br sv] Z.K Z.S Z.O (by repeat (first | exact Mems.nil | refine Mems.cons Z.M ?_))) rfl rfl rfl (Rd.nilc rfl rfl) ?_
 refine WE.take 3 [(9, rowW br sv)] rfl Z.K (by repeat (first | exact List.Sublist.refl _ | exact List.nil_sublist _ | apply List.Sublist.cons_cons | apply List.Sublist.cons)) (HeldL.mk2 [rowW br sv] Z.K Z.S Z.O (by repeat (first | exact Mems.nil | refine Mems.cons Z.M ?_))) rfl rfl rfl (Rd.row1 (b := br) (off := 0) (u := sv) rfl C113 rfl Z.M rfl) ?_
 refine WE.take 4 [] rfl Z.K (by repeat (first | exact List.Sublist.refl _ | exact List.nil_sublist _ | apply List.Sublist.cons_cons | apply List.Sublist.cons)) (HeldL.mk2 [rowW br sv] Z.K Z.S Z.O (by repeat (first | exact Mems.nil | refine Mems.cons Z.M ?_))) rfl rfl rfl (Rd.move rfl rfl) ?_
 refine WE.take 5 [] rfl Z.K (by repeat (first | exact List.Sublist.refl _ | exact List.nil_sublist _ | apply List.Sublist.cons_cons | apply List.Sublist.cons)) (HeldL.mk2 [rowW br sv] Z.K Z.S Z.O (by repeat (first | exact Mems.nil | refine Mems.cons Z.M ?_))) rfl rfl rfl (Rd.assertT rfl Tryz.underlying62 rfl rfl) ?_
 refine WE.one 6 rfl Z.K rfl ?_
 refine OpW.buildSl (ps := [(0, _)]) rfl S113 Z.E rfl rfl Z.C Z.K rfl rfl rfl ?_; intro b10
 refine ⟨(HeldL.mk2 [rowW br sv] Z.K Z.S Z.O (by repeat (first | exact Mems.nil | refine Mems.cons Z.M ?_))), ?_⟩
 refine WE.one 7 rfl Z.K rfl ?_
 refine OpW.appendRow (enc := encN) rfl S113 rfl rfl Z.T Z.T [x] rfl (by rfl) rfl (by intro x; rfl) (by intro x; rfl) (by exact ⟨by simp only [maxLen, List.length_append, List.length_nil, List.length_cons, List.length_drop, List.length_take, List.length_map]; omega, by omega⟩) rfl rfl ?_; intro v11 hv11
 refine ⟨(HeldL.mk2 [rowW br sv] Z.K Z.S Z.O (by repeat (first | exact Mems.nil | refine Mems.cons Z.M ?_))), ?_⟩
 refine WE.take 8 [] rfl Z.K (by repeat (first | exact List.Sublist.refl _ | exact List.nil_sublist _ | apply List.Sublist.cons_cons | apply List.Sublist.cons)) (HeldL.mk2 [rowW br sv] Z.K Z.S Z.O (by repeat (first | exact Mems.nil | refine Mems.cons Z.M ?_))) rfl rfl rfl (Rd.nilc rfl rfl) ?_
 refine WE.one 9 rfl Z.K rfl ?_
 refine OpW.store1 rfl Z113 rfl rfl (by assumption) Z.T (by (simp; done)) rfl ?_
 refine ⟨(HeldL.mk2 [] Z.K Z.S Z.O (by repeat (first | exact Mems.nil | refine Mems.cons Z.M ?_))), ?_⟩
 refine WE.done Z.K ?_
 refine Ret.normal (Ret.zero Tryz.results444 ?_)
 exact hk _
set_option maxRecDepth 20000 in
theorem pop_spec {br : Nat} (hlen : xs.length ≤ 1000000) (h0 : 0 < xs.length) (hk : ∀ sv', POST (spv xs[xs.length - 1]!) R (rowW br sv' :: accS sv' (xs.take (xs.length - 1)) :: O)) :
 Fun Tryz.prog 443 #[sptr br] R (rowW br sv :: accS sv xs :: O) POST := by
 refine Fun.knowO' (c := accS sv xs) (List.mem_cons_of_mem _ List.mem_cons_self) (fun w h => acc_sub (hi := xs.length - 1) h) fun hone => ?_
 refine Fun.enter (l := [_]) Tryz.func443 rfl Tryz.ntmps443 rfl (L0 := [(0, _)]) rfl ?_
 refine Z.s1 <| Z.a1 rfl <| Z.n1 ?_
 refine WC.seq ?_
 refine WC.drawn (rowW br sv :: accS sv xs :: O) 12 rfl mixed ?_
 refine WD.take 0 rfl Z.K Z.H rfl rfl rfl (Rd.move rfl rfl) ?_
 refine WD.take 1 rfl Z.K Z.H rfl rfl rfl (Rd.nilc rfl rfl) ?_
 refine WD.take 2 rfl Z.K Z.H rfl rfl rfl (Rd.row1 (b := br) (off := 0) (u := sv) rfl C113 rfl Z.M rfl) ?_
 refine WD.take 3 rfl Z.K Z.H rfl rfl rfl (Rd.move rfl rfl) ?_
 refine WD.take 4 rfl Z.K Z.H rfl rfl rfl (Rd.nilc rfl rfl) ?_
 refine WD.take 5 rfl Z.K Z.H rfl rfl rfl (Rd.row1 (b := br) (off := 0) (u := sv) rfl C113 rfl Z.M rfl) ?_
 refine WD.take 6 rfl Z.K Z.H rfl rfl rfl (Rd.lenA (enc := encN) (xs := xs) rfl rfl Tryz.underlying113 Z.M) ?_
 refine WD.take 7 rfl Z.K Z.H rfl rfl rfl (Rd.sub rfl rfl rfl Z.W) ?_
 refine WD.take 8 rfl Z.K Z.H rfl rfl rfl ((by exact Rd.idxA (k := xs.length - 1) rfl S113 rfl rfl Z.W Z.M Z.W)) ?_
 refine WD.take 9 rfl Z.K Z.H rfl rfl rfl (Rd.getSA (enc := encN) (size := 3) (xs := xs) (k := xs.length - 1) (a := xs[xs.length - 1]!) (cs := encN xs[xs.length - 1]!) rfl G62 rfl Z.M (fun x => rfl) (get!_of_lt Z.W) (NF.refl _)) ?_
 refine WD.one 10 rfl Z.K rfl ?_
 refine OpW.alloc rfl I62 rfl Z.N rfl rfl ?_; intro b3
 refine ⟨Z.H, ?_⟩
 refine WD.one 11 rfl Z.K rfl ?_
 refine OpW.storeS rfl G62 rfl rfl Z.N Z.T rfl rfl Z.N rfl ?_
 refine ⟨Z.H, ?_⟩
 refine WD.done Z.K ?_
 refine thenQ.normal ?_
 refine WC.seq ?_
 refine WC.tail 11 mixed Z.K ?_
 refine Z.d1 rfl (Rd.move rfl rfl) <| Z.d1 rfl (Rd.move rfl rfl) <| Z.d1 rfl (Rd.nilc rfl rfl) <| Z.d1 rfl (Rd.row1 (b := br) (off := 0) (u := sv) rfl C113 rfl Z.M rfl) ?_
 refine Z.d1 rfl (Rd.move rfl rfl) <| Z.d1 rfl (Rd.nilc rfl rfl) <| Z.d1 rfl (Rd.row1 (b := br) (off := 0) (u := sv) rfl C113 rfl Z.M rfl) ?_
 refine Z.d1 rfl (Rd.lenA (enc := encN) (xs := xs) rfl rfl Tryz.underlying113 Z.M) ?_
 refine Z.d1 rfl (Rd.sub rfl rfl rfl Z.W) ?_
 refine Z.d1 rfl (Rd.cutA_h (enc := encN) (xs := xs) (hi := xs.length - 1) rfl S113 rfl rfl Z.W Z.M Z.W) ?_
 refine Z.d1 rfl (Rd.nilc rfl rfl) ?_
 refine WS.switch ?_
 refine WL.op rfl ?_
 refine OpW.store1 (b := br) (off := 0) rfl Z113 rfl rfl hone Z.T (by simp) rfl ?_
 refine Z.q1 <| Z.r1 rfl (by exact Rd.rowS rfl G62 rfl Z.M Z.N rfl) ?_
 refine Z.r1 rfl (Rd.iface rfl Tryz.underlying62 rfl rfl) ?_
 refine WL.heap (fun w h => Sat.cutAcc (e := 62) (enc := encN) (v := sv) (xs := xs) (hi := xs.length - 1) Z.T (fun x => rfl) Z.W h) ?_
 refine WL.heap (R' := R) (O' := rowW br (subSl sv 3 0 (xs.length - 1)) :: accS (subSl sv 3 0 (xs.length - 1)) (xs.take (xs.length - 1)) :: O) Z.F ?_
 refine Z.a1 rfl <| Z.n1 ?_
 refine WC.ret (Ret.one Tryz.results443 rfl ?_)
 exact hk _
end
section
variable {R : List RO} {O O' : List Own} {POST : Value → List RO → List Own → Prop} {xs : List Nv} {sv : Value} {br : Nat}
set_option maxRecDepth 20000 in
theorem up_spec {j : Nat} (hlen : xs.length ≤ 1000000) (hU : Up ndLt xs j) (hk : ∀ ys, ys.Perm xs → Hp ndLt ys → POST (.tuple #[]) R (rowW br sv :: accS sv ys :: O)) :
 Fun Tryz.prog 91 #[ifv br, vi j] R (rowW br sv :: accS sv xs :: O) POST := by
 have hjl := hU.1
 refine Fun.enter (l := [_, _]) Tryz.func91 rfl Tryz.ntmps91 rfl (L0 := [(0, _), (1, _)]) rfl ?_
 refine WC.block ?_
 refine WC.pick [1, 0] Z.P ?_
 refine WC.loop2 1 (fun (i : Nat) (ys : List Nv) => [(1, vi i)]) (fun (i : Nat) (ys : List Nv) => rowW br sv :: accS sv ys :: O) (fun (i : Nat) (ys : List Nv) => Up ndLt ys i ∧ ys.Perm xs ∧ i < ys.length ∧ ys.length = xs.length) (fun (i : Nat) (ys : List Nv) => i) (j) (xs) Z.L ?hinv1 (by repeat (first | exact Sub.nil | refine Sub.cons rfl (by rfl) ?_)) (fun _ h => h) ?_
 case hinv1 =>
  exact ⟨hU, List.Perm.refl _, hjl, rfl⟩
 intro i ys
 rintro ⟨i1, i2, i3, i4⟩
 refine WC.block ?_
 refine Z.s1 <| Z.m1 rfl <| Z.r1 rfl (Rd.sub rfl rfl rfl Z.W) ?_
 refine Z.r1 rfl (Rd.half (j := i) rfl rfl rfl Z.W Z.W) ?_
 refine Z.a1 rfl <| Z.n1 ?_
 refine WC.seq ?_
 refine WC.pick [0, 1, 4] Z.P ?_
 refine WC.val 17 (.bool (decide (¬ (0 < i ∧ ndLt ys[i]! ys[(i - 1) / 2]!)))) ?_ ?_
 ·
  refine WC.region ?_
  refine Z.m1 rfl <| Z.m1 rfl <| Z.r1 rfl (Rd.eql rfl rfl rfl) <| Z.m1 rfl ?_
  refine WL.case 11 rfl (fun hg11 => ?_) (fun hg11 => ?_)
  ·
   refine Z.o1 rfl <| Z.o1 rfl <| Z.o1 rfl <| Z.o1 rfl <| Z.o1 rfl <| Z.r1 rfl (Rd.pick_t rfl rfl rfl) ?_
   refine WL.nil ?_
   exact ⟨by repeat (first | exact Sub.nil | refine Sub.cons rfl (by first | rfl | (exact vb_t (fun h => by omega))) ?_), by exact (fun _ h => h.thin (SubL.mem Z.S))⟩
  ·
   refine Z.y1 rfl (Rd.move rfl rfl) <| Z.y1 rfl (Rd.move rfl rfl) <| Z.y1 rfl (Rd.move rfl rfl) ?_
   refine WL.op_yes rfl rfl rfl rfl ?_
   refine OpW.invoke rfl rfl Z.E (mLess Z.M) Z.K rfl rfl ?_; refine less_spec (xs := ys) (i := i) (j := (i - 1) / 2) Z.M Z.W Z.W ?_
   refine Z.y1 rfl (by exact Rd.notd rfl rfl) ?_
   refine Z.r1 rfl (Rd.pick_f rfl rfl rfl) ?_
   refine WL.nil ?_
   exact ⟨by repeat (first | exact Sub.nil | refine Sub.cons rfl (by first | rfl | (exact vb ⟨fun h g => h g.2, fun h g => h ⟨by omega, g⟩⟩)) ?_), by exact (fun _ h => h.thin (SubL.mem Z.S))⟩
 ·
  refine WC.ite rfl (fun hc1 => ?_) (fun hc1 => ?_)
  ·
   refine WC.exit ?_
   refine thenQ.exit ?_
   refine blockQ.pass rfl ?_
   refine loopQ2.exit ?_
   refine blockQ.exit ?_
   refine Ret.normal (Ret.zero Tryz.results91 ?_)
   exact hk ys i2 (i1.done (by rcases Nat.eq_zero_or_pos i with h | h; exact .inl h; exact .inr (fun g => hc1 ⟨h, g⟩)))
  ·
   obtain ⟨h0, hlt⟩ := Decidable.not_not.1 hc1
   refine WC.skip ?_
   refine thenQ.normal ?_
   refine Z.s1 <| Z.m1 rfl <| Z.m1 rfl <| Z.m1 rfl ?_
   refine WL.op rfl ?_
   refine OpW.invoke rfl rfl Z.E (mSwap Z.M) Z.K rfl rfl ?_; refine swap_spec (xs := ys) (i := (i - 1) / 2) (j := i) Z.T Z.W Z.W ?_
   refine Z.g1 <| Z.m1 rfl <| Z.a1 rfl ?_
   refine WL.nil ?_
   refine blockQ.normal ?_
   exact loopQ2.mk ((i - 1) / 2) (swapL ys ((i - 1) / 2) i) ⟨i1.step ndOrd h0 hlt, (swapL_perm Z.W Z.W).trans i2, by rw [swapL_len]; omega, by rw [swapL_len]; exact i4⟩ Z.W (by repeat (first | exact Sub.nil | refine Sub.cons rfl (by rfl) ?_)) Z.F
set_option maxRecDepth 20000 in
theorem down_spec {n : Nat} (hlen : xs.length ≤ 1000000) (hD : Dn ndLt xs 0 n) (hk : ∀ b ys, ys.Perm xs → ys.drop n = xs.drop n → Hp ndLt (ys.take n) → POST (.bool b) R (rowW br sv :: accS sv ys :: O)) :
 Fun Tryz.prog 92 #[ifv br, vi 0, vi n] R (rowW br sv :: accS sv xs :: O) POST := by
 have hn := hD.1
 refine Fun.enter (l := [_, _, _]) Tryz.func92 rfl Tryz.ntmps92 rfl (L0 := [(0, _), (1, _), (2, _)]) rfl ?_
 refine Z.s1 <| Z.a1 rfl <| Z.q1 <| Z.m1 rfl <| Z.a1 rfl <| Z.n1 ?_
 refine WC.seq ?_
 refine WC.block ?_
 refine WC.pick [7, 0, 1, 2] Z.P ?_
 refine WC.loop2 1 (fun (i : Nat) (ys : List Nv) => [(7, vi i)]) (fun (i : Nat) (ys : List Nv) => rowW br sv :: accS sv ys :: O) (fun (i : Nat) (ys : List Nv) => Dn ndLt ys i n ∧ ys.Perm xs ∧ ys.drop n = xs.drop n ∧ ys.length = xs.length ∧ i ≤ n) (fun (i : Nat) (ys : List Nv) => n - i) (0) (xs) Z.L ?hinv1 (by repeat (first | exact Sub.nil | refine Sub.cons rfl (by rfl) ?_)) (fun _ h => h) ?_
 case hinv1 =>
  exact ⟨hD, List.Perm.refl _, rfl, rfl, Nat.zero_le _⟩
 intro i ys
 rintro ⟨i1, i2, i3, i4, i5⟩
 refine WC.block ?_
 refine Z.s1 <| Z.m1 rfl <| Z.r1 rfl (Rd.mul rfl rfl rfl Z.W) ?_
 refine Z.r1 rfl (Rd.add rfl rfl rfl Z.W) ?_
 refine Z.a1 rfl <| Z.n1 <| Z.s2 <| Z.m1 rfl <| Z.m1 rfl <| Z.r1 rfl (Rd.geq rfl rfl rfl) <| Z.m1 rfl ?_
 refine WL.case 18 rfl (fun hg18 => ?_) (fun hg18 => ?_)
 ·
  have hdone : Hp ndLt (ys.take n) := i1.done (fun c c0 cn ce => by omega)
  refine Z.o1 rfl <| Z.o1 rfl <| Z.r1 rfl (Rd.pick_t rfl rfl rfl) <| Z.n1 ?_
  refine WC.yes rfl ?_
  refine WC.exit ?_
  refine thenQ.exit ?_
  refine blockQ.pass rfl ?_
  refine loopQ2.exit ?_
  refine blockQ.exit ?_
  refine thenQ.normal ?_
  refine Z.s1 <| Z.m1 rfl <| Z.m1 rfl <| Z.r1 rfl (Rd.gtr rfl rfl rfl) <| Z.a1 rfl <| Z.n1 ?_
  refine WC.ret (Ret.one Tryz.results92 rfl ?_)
  exact hk _ ys i2 i3 hdone
 ·
  refine Z.y1 rfl (Rd.move rfl rfl) <| Z.y1 rfl (Rd.lss rfl rfl rfl) <| Z.r1 rfl (Rd.pick_f rfl rfl rfl) <| Z.n1 ?_
  refine WC.ite rfl (fun hc1 => ?_) (fun hc1 => ?_)
  ·
   exfalso; omega
  ·
   refine WC.skip ?_
   refine thenQ.normal ?_
   refine Z.s1 <| Z.m1 rfl <| Z.a1 rfl <| Z.n1 <| Z.s2 <| Z.m1 rfl <| Z.r1 rfl (Rd.add rfl rfl rfl Z.W) ?_
   refine Z.a1 rfl <| Z.n1 ?_
   refine WC.pick [0, 1, 2, 7, 8, 9, 10] Z.P ?_
   refine WC.val 33 (.bool (decide (2 * i + 1 + 1 < n ∧ ndLt ys[2 * i + 1 + 1]! ys[2 * i + 1]!))) ?_ ?_
   ·
    refine WC.region ?_
    refine Z.m1 rfl <| Z.m1 rfl <| Z.r1 rfl (Rd.lss rfl rfl rfl) <| Z.m1 rfl ?_
    refine WL.case 28 rfl (fun hg28 => ?_) (fun hg28 => ?_)
    ·
     refine Z.y1 rfl (Rd.move rfl rfl) <| Z.y1 rfl (Rd.move rfl rfl) <| Z.y1 rfl (Rd.move rfl rfl) ?_
     refine WL.op_yes rfl rfl rfl rfl ?_
     refine OpW.invoke rfl rfl Z.E (mLess Z.M) Z.K rfl rfl ?_; refine less_spec (xs := ys) (i := 2 * i + 1 + 1) (j := 2 * i + 1) Z.M Z.W Z.W ?_
     refine Z.r1 rfl (Rd.pick_t rfl rfl rfl) ?_
     refine WL.nil ?_
     exact ⟨by repeat (first | exact Sub.nil | refine Sub.cons rfl (by first | rfl | (exact vb ⟨fun h => ⟨by omega, h⟩, fun h => h.2⟩)) ?_), by exact (fun _ h => h.thin (SubL.mem Z.S))⟩
    ·
     refine Z.o1 rfl <| Z.o1 rfl <| Z.o1 rfl <| Z.o1 rfl <| Z.r1 rfl (Rd.pick_f rfl rfl rfl) ?_
     refine WL.nil ?_
     exact ⟨by repeat (first | exact Sub.nil | refine Sub.cons rfl (by first | rfl | (exact vb_f (fun h => hg28 (by have := h.1; omega)))) ?_), by exact (fun _ h => h.thin (SubL.mem Z.S))⟩
   ·
    refine WC.ite rfl (fun hc2 => ?_) (fun hc2 => ?_)
    ·
     have hmin : ∀ c, 0 < c → c < n → (c - 1) / 2 = i → ¬ ndLt ys[c]! ys[2 * i + 1 + 1]! := fun c c0 cn ce => by
      rcases (show c = 2 * i + 1 ∨ c = 2 * i + 1 + 1 by omega) with rfl | rfl
      · exact ndOrd.asymm _ _ hc2.2
      · exact ndOrd.irrefl _
     have hJn := hc2.1
     refine WC.region ?_
     refine Z.m1 rfl <| Z.a1 rfl <| Z.n1 <| Z.s2 <| Z.m1 rfl <| Z.m1 rfl <| Z.m1 rfl ?_
     refine WL.op rfl ?_
     refine OpW.invoke rfl rfl Z.E (mLess Z.M) Z.K rfl rfl ?_; refine less_spec (xs := ys) (i := 2 * i + 1 + 1) (j := i) Z.M Z.W Z.W ?_
     refine Z.r1 rfl (by exact Rd.notd rfl rfl) ?_
     refine Z.n1 ?_
     refine WC.ite rfl (fun hc3 => ?_) (fun hc3 => ?_)
     ·
      have hdone : Hp ndLt (ys.take n) := i1.done (fun c c0 cn ce => ndOrd.le_trans _ _ _ hc3 (hmin c c0 cn ce))
      refine WC.exit ?_
      refine thenQ.exit ?_
      refine blockQ.pass rfl ?_
      refine loopQ2.exit ?_
      refine blockQ.exit ?_
      refine thenQ.normal ?_
      refine Z.s1 <| Z.m1 rfl <| Z.m1 rfl <| Z.r1 rfl (Rd.gtr rfl rfl rfl) <| Z.a1 rfl <| Z.n1 ?_
      refine WC.ret (Ret.one Tryz.results92 rfl ?_)
      exact hk _ ys i2 i3 hdone
     ·
      have hlt := Decidable.not_not.1 hc3
      refine WC.skip ?_
      refine thenQ.normal ?_
      refine Z.s1 <| Z.m1 rfl <| Z.m1 rfl <| Z.m1 rfl ?_
      refine WL.op rfl ?_
      refine OpW.invoke rfl rfl Z.E (mSwap Z.M) Z.K rfl rfl ?_; refine swap_spec (xs := ys) (i := i) (j := 2 * i + 1 + 1) Z.T Z.W Z.W ?_
      refine Z.g1 <| Z.m1 rfl <| Z.a1 rfl ?_
      refine WL.nil ?_
      refine blockQ.normal ?_
      exact loopQ2.mk (2 * i + 1 + 1) (swapL ys i (2 * i + 1 + 1)) ⟨i1.step ndOrd Z.W Z.W Z.W hmin hlt, (swapL_perm Z.W Z.W).trans i2, (swapL_take Z.W Z.W Z.W).trans i3, by rw [swapL_len]; exact i4, by omega⟩ Z.W (by repeat (first | exact Sub.nil | refine Sub.cons rfl (by rfl) ?_)) Z.F
    ·
     have hmin : ∀ c, 0 < c → c < n → (c - 1) / 2 = i → ¬ ndLt ys[c]! ys[2 * i + 1]! := fun c c0 cn ce => by
      rcases (show c = 2 * i + 1 ∨ c = 2 * i + 1 + 1 by omega) with rfl | rfl
      · exact ndOrd.irrefl _
      · exact fun g => hc2 ⟨cn, g⟩
     have hJn : 2 * i + 1 < n := by omega
     refine WC.skip ?_
     refine thenQ.normal ?_
     refine Z.s2 <| Z.m1 rfl <| Z.m1 rfl <| Z.m1 rfl ?_
     refine WL.op rfl ?_
     refine OpW.invoke rfl rfl Z.E (mLess Z.M) Z.K rfl rfl ?_; refine less_spec (xs := ys) (i := 2 * i + 1) (j := i) Z.M Z.W Z.W ?_
     refine Z.r1 rfl (by exact Rd.notd rfl rfl) ?_
     refine Z.n1 ?_
     refine WC.ite rfl (fun hc3 => ?_) (fun hc3 => ?_)
     ·
      have hdone : Hp ndLt (ys.take n) := i1.done (fun c c0 cn ce => ndOrd.le_trans _ _ _ hc3 (hmin c c0 cn ce))
      refine WC.exit ?_
      refine thenQ.exit ?_
      refine blockQ.pass rfl ?_
      refine loopQ2.exit ?_
      refine blockQ.exit ?_
      refine thenQ.normal ?_
      refine Z.s1 <| Z.m1 rfl <| Z.m1 rfl <| Z.r1 rfl (Rd.gtr rfl rfl rfl) <| Z.a1 rfl <| Z.n1 ?_
      refine WC.ret (Ret.one Tryz.results92 rfl ?_)
      exact hk _ ys i2 i3 hdone
     ·
      have hlt := Decidable.not_not.1 hc3
      refine WC.skip ?_
      refine thenQ.normal ?_
      refine Z.s1 <| Z.m1 rfl <| Z.m1 rfl <| Z.m1 rfl ?_
      refine WL.op rfl ?_
      refine OpW.invoke rfl rfl Z.E (mSwap Z.M) Z.K rfl rfl ?_; refine swap_spec (xs := ys) (i := i) (j := 2 * i + 1) Z.T Z.W Z.W ?_
      refine Z.g1 <| Z.m1 rfl <| Z.a1 rfl ?_
      refine WL.nil ?_
      refine blockQ.normal ?_
      exact loopQ2.mk (2 * i + 1) (swapL ys i (2 * i + 1)) ⟨i1.step ndOrd Z.W Z.W Z.W hmin hlt, (swapL_perm Z.W Z.W).trans i2, (swapL_take Z.W Z.W Z.W).trans i3, by rw [swapL_len]; exact i4, by omega⟩ Z.W (by repeat (first | exact Sub.nil | refine Sub.cons rfl (by rfl) ?_)) Z.F
set_option maxRecDepth 20000 in
theorem hpush_spec {x : Nv} (hlen : xs.length ≤ 900000) (hH : Hp ndLt xs) (hk : ∀ sv' ys, ys.Perm (xs ++ [x]) → Hp ndLt ys → POST (.tuple #[]) R (rowW br sv' :: accS sv' ys :: O)) :
 Fun Tryz.prog 57 #[ifv br, spv x] R (rowW br sv :: accS sv xs :: O) POST := by
 refine Fun.enter (l := [_, _]) Tryz.func57 rfl Tryz.ntmps57 rfl (L0 := [(0, _), (1, _)]) rfl ?_
 refine Z.s1 <| Z.m1 rfl <| Z.m1 rfl ?_
 refine WL.op rfl ?_
 refine OpW.invoke rfl rfl Z.E mPush Z.K rfl rfl ?_; refine push_spec (xs := xs) (x := x) Z.W ?_; intro sv'
 refine Z.g1 <| Z.m1 rfl <| Z.m1 rfl ?_
 refine WL.op rfl ?_
 refine OpW.invoke rfl rfl Z.E (mLen Z.M) Z.K rfl rfl ?_; refine len_spec (xs := xs ++ [x]) Z.M ?_
 refine Z.r1 rfl (Rd.sub rfl rfl rfl (by rw [List.length_append, List.length_singleton]; omega)) ?_
 refine WL.say 10 (u := vi xs.length) rfl (by rw [List.length_append, List.length_singleton]; congr 1; omega) ?_
 refine WL.op rfl ?_
 refine OpW.call rfl rfl Z.E Z.K rfl rfl rfl ?_
 refine up_spec (xs := xs ++ [x]) (j := xs.length) (by rw [List.length_append, List.length_singleton]; omega) (Up.push hH x) ?_; intro ys hp hh
 refine WL.nil ?_
 refine Ret.normal (Ret.zero Tryz.results57 ?_)
 exact hk _ ys hp hh
theorem last_of {zs l : List Nv} {n : Nat} (h : zs.drop n = l.drop n) (hn : n < l.length) (hz : zs.length = l.length) : zs[n]! = l[n]! := by
 have h1 := congrArg (fun q : List Nv => q[0]?) h
 simp only [List.getElem?_drop, Nat.add_zero] at h1
 rw [getElem!_pos zs n Z.W, getElem!_pos l n hn]
 rw [List.getElem?_eq_getElem Z.W, List.getElem?_eq_getElem hn] at h1
 exact Option.some.inj h1
set_option maxRecDepth 20000 in
theorem hpop_spec (hlen : xs.length ≤ 900000) (h0 : 0 < xs.length) (hH : Hp ndLt xs) (hk : ∀ sv' ys, (xs[0]! :: ys).Perm xs → Hp ndLt ys → POST (spv xs[0]!) R (rowW br sv' :: accS sv' ys :: O)) :
 Fun Tryz.prog 58 #[ifv br] R (rowW br sv :: accS sv xs :: O) POST := by
 obtain ⟨m, hm⟩ : ∃ m, xs.length = m + 1 := ⟨xs.length - 1, by omega⟩
 have hD := Dn.start (m := m) hH hm
 refine Fun.enter (l := [_]) Tryz.func58 rfl Tryz.ntmps58 rfl (L0 := [(0, _)]) rfl ?_
 refine Z.s1 <| Z.a1 rfl <| Z.q1 <| Z.m1 rfl ?_
 refine WL.op rfl ?_
 refine OpW.invoke rfl rfl Z.E (mLen Z.M) Z.K rfl rfl ?_; refine len_spec (xs := xs) Z.M ?_
 refine Z.r1 rfl (Rd.sub rfl rfl rfl Z.W) ?_
 refine WL.say 6 (u := vi m) rfl (by rw [hm]; congr 1; omega) ?_
 refine Z.a1 rfl <| Z.q1 <| Z.m1 rfl <| Z.m1 rfl ?_
 refine WL.op rfl ?_
 refine OpW.invoke rfl rfl Z.E (mSwap Z.M) Z.K rfl rfl ?_; refine swap_spec (xs := xs) (i := 0) (j := m) Z.T Z.W Z.W ?_
 refine WL.heap (R' := R) (O' := rowW br sv :: accS sv (swapL xs 0 m) :: O) Z.F ?_
 refine Z.q1 <| Z.m1 rfl <| Z.m1 rfl ?_
 refine WL.op rfl ?_
 refine OpW.call rfl rfl Z.E Z.K rfl rfl rfl ?_
 refine down_spec (xs := swapL xs 0 m) (n := m) (by rw [swapL_len]; omega) hD ?_; intro b zs hp hd hh
 have hzl : zs.length = m + 1 := by rw [hp.length_eq, swapL_len, hm]
 have hlast : zs[zs.length - 1]! = xs[0]! := by
  rw [hzl, show m + 1 - 1 = m from rfl, last_of hd (by rw [swapL_len]; omega) (by rw [swapL_len]; omega), swapL_get Z.W Z.W, if_pos rfl]
 have hzz : (xs[0]! :: zs.take m).Perm xs := by
  have e : zs = zs.take m ++ [xs[0]!] := by
   rw [← hlast, hzl, show m + 1 - 1 = m from rfl, ← take_snoc' Z.W, List.take_of_length_le Z.W]
  have h1 : (xs[0]! :: zs.take m).Perm zs := by
   conv => rhs; rw [e]
   exact (List.perm_append_singleton _ _).symm
  exact h1.trans (hp.trans (swapL_perm Z.W Z.W))
 refine Z.q1 <| Z.m1 rfl ?_
 refine WL.op rfl ?_
 refine OpW.invoke rfl rfl Z.E mPop Z.K rfl rfl ?_; refine pop_spec (xs := zs) Z.W Z.W ?_; intro sv'
 refine Z.a1 rfl <| Z.n1 ?_
 refine WC.ret (Ret.one Tryz.results58 rfl ?_)
 rw [hlast] at *
 rw [hzl] at *
 exact hk _ _ hzz hh
end
end Go.Proofs.YtnjfgcpmcjmddaaGreatDoor.Gr
namespace Go.Proofs.YtnjfgcpmcjmddaaGreatDoor.Gr
open Go Go.SL
structure MapG (m : GoMap T Nv) (G : PG) : Prop where
 keys : ∀ id, id ∈ G.ks ↔ ∃ q, m.get id = some q
 nd : ∀ id q, m.get id = some q → q.1 = id ∧ q.2.2 = G.time id
 len : m.l.length = G.ks.length
def parP (m : GoMap T Nv) (G : PG) : RO := fun w => ∀ id q, m.get id = some q → SlE (SL.one vs) (slv q.2.1) (G.pars id) w
inductive GV (gv : Value) (G : PG) (R : List RO) : Prop
 | nil (h : gv = .pointer none) (hk : G.ks = [])
 | some (b bm : Nat) (m : GoMap T Nv) (h : gv = .pointer (some ⟨b, 0, none⟩)) (hb : garr b [.map (some bm)] ∈ R) (hm : mapP vs ndV bm m ∈ R) (hp : parP m G ∈ R) (hG : MapG m G)
theorem GV.mono {gv : Value} {G : PG} {R R' : List RO} (h : GV gv G R) (hs : ∀ p ∈ R, p ∈ R') : GV gv G R' := by
 rcases h with ⟨h1, h2⟩ | ⟨b, bm, m, h1, h2, h3, h4, h5⟩
 · exact .nil h1 h2
 · exact .some b bm m h1 (hs _ h2) (hs _ h3) (hs _ h4) h5
theorem GV.one {gv : Value} {G : PG} {R : List RO} (h : GV gv G R) : OneV gv := by
 rcases h with ⟨rfl, _⟩ | ⟨b, bm, m, rfl, _⟩ <;> exact ⟨rfl, rfl⟩
def nd0 : Nv := ([], (none, 0, 0), 0)
def lk (m : GoMap T Nv) (id : T) : Nv := (m.get id).getD nd0
theorem lk_v {m : GoMap T Nv} {id : T} : ((m.get id).map ndV).getD (ndV nd0) = .agg #[vs (lk m id).1, slv (lk m id).2.1, vi (lk m id).2.2] := by
 unfold lk
 cases m.get id <;> rfl
theorem MapG.isSome {m : GoMap T Nv} {G : PG} (h : MapG m G) (id : T) : (m.get id).isSome = decide (id ∈ G.ks) := by
 by_cases g : id ∈ G.ks
 · obtain ⟨q, e⟩ := (h.keys id).1 g
   simp [g, e]
 · cases e : m.get id with
   | none => simp [g]
   | some q => exact absurd ((h.keys id).2 ⟨q, e⟩) g
section
variable {R : List RO} {O O' : List Own} {POST : Value → List RO → List Own → Prop} {gv : Value} {G : PG}
set_option maxRecDepth 20000 in
theorem hasN_spec {id : T} (hk : POST (.bool false) R O) : Fun Tryz.prog 37 #[.pointer none, vs id] R O POST := by
 refine Fun.enter (l := [_, _]) Tryz.func37 rfl Tryz.ntmps37 rfl (L0 := [(0, _), (1, _)]) rfl ?_
 refine Z.s1 <| Z.a1 rfl <| Z.n1 <| Z.s2 <| Z.m1 rfl <| Z.r1 rfl (Rd.peqN rfl Tryz.underlying58 rfl rfl) <| Z.n1 ?_
 refine WC.cond rfl (fun hc1 => ?_) (fun hc1 => ?_)
 ·
  refine Z.s1 <| Z.a1 rfl <| Z.n1 ?_
  refine WC.ret (Ret.one Tryz.results37 rfl ?_)
  exact hk
 ·
  cases hc1
set_option maxRecDepth 20000 in
theorem has0_spec {id : T} {b bm : Nat} {m : GoMap T Nv} (hb : garr b [.map (some bm)] ∈ R) (hm : mapP vs ndV bm m ∈ R) (hG : MapG m G) (hk : ∀ b cs, POST (.bool (decide (id ∈ G.ks))) R (rowC b 62 cs :: O)) : Fun Tryz.prog 37 #[.pointer (some ⟨b, 0, none⟩), vs id] R O POST := by
 refine Fun.enter (l := [_, _]) Tryz.func37 rfl Tryz.ntmps37 rfl (L0 := [(0, _), (1, _)]) rfl ?_
 refine Z.s1 <| Z.a1 rfl <| Z.n1 <| Z.s2 <| Z.m1 rfl <| Z.r1 rfl (Rd.peqN rfl Tryz.underlying58 rfl rfl) <| Z.n1 ?_
 refine WC.cond rfl (fun hc1 => ?_) (fun hc1 => ?_)
 ·
  cases hc1
 ·
  refine WC.skip ?_
  refine thenQ.normal ?_
  refine Z.s1 <| Z.m1 rfl <| Z.r1 rfl (Rd.nilc rfl rfl) <| Z.r1 rfl (by exact Rd.field rfl F82_0 rfl rfl) ?_
  refine Z.r1 rfl (Rd.getGl rfl C80 rfl hb rfl) <| Z.m1 rfl <| Z.r1 rfl (Rd.lookup2R (k := id) M80 K9 rfl rfl rfl hm rfl) ?_
  refine WL.say 15 (u := .tuple #[.agg #[vs (lk m id).1, slv (lk m id).2.1, vi (lk m id).2.2], .bool (decide (id ∈ G.ks))]) rfl (by rw [← hG.isSome, ← lk_v]; rfl) ?_
  refine Z.m1 rfl <| Z.x1 rfl <| Z.x1 rfl ?_
  refine WL.op rfl ?_
  refine OpW.alloc rfl I62 rfl Z.N rfl rfl ?_; intro b5
  refine WL.op rfl ?_
  refine OpW.storeS rfl G62 rfl rfl Z.N Z.T rfl rfl Z.N rfl ?_
  refine Z.a1 rfl <| Z.q1 <| Z.m1 rfl <| Z.a1 rfl <| Z.n1 ?_
  refine WC.ret (Ret.one Tryz.results37 rfl ?_)
  exact hk _ _
theorem has_spec {id : T} (hG : GV gv G R) (hk : POST (.bool (decide (id ∈ G.ks))) R O) : Fun Tryz.prog 37 #[gv, vs id] R O POST := by
 rcases hG with ⟨rfl, h0⟩ | ⟨b, bm, m, rfl, hb, hm, hp, hG⟩
 · rw [h0, show decide (id ∈ ([] : List T)) = false from by simp] at hk
   exact hasN_spec hk
 · refine Fun.thin (post' := fun v R' O' => v = .bool (decide (id ∈ G.ks)) ∧ R' = R ∧ ∃ b cs, O' = rowC b 62 cs :: O) (has0_spec hb hm hG fun b cs => ⟨rfl, rfl, b, cs, rfl⟩) ?_
   rintro v R' O' ⟨rfl, rfl, b', cs, rfl⟩
   exact ⟨_, _, hk, fun w h => h.drop⟩
set_option maxRecDepth 20000 in
theorem lacks_spec {id : T} {b : Nat} (hG : GV gv G R) (hb : rowC b 58 [gv] ∈ O) (hk : POST (.bool (decide (id ∉ G.ks))) R O) : Fun Tryz.prog 88 #[vs id, .pointer (some ⟨b, 0, none⟩)] R O POST := by
 refine Fun.enter (l := [_, _]) Tryz.func88 rfl Tryz.ntmps88 rfl (L0 := [(0, _), (1, _)]) rfl ?_
 refine Z.s1 <| Z.a1 rfl <| Z.q1 <| Z.r1 rfl (Rd.row1 (off := 0) (u := gv) rfl C58 rfl hb rfl) ?_
 refine Z.m1 rfl ?_
 refine WL.op rfl ?_
 refine OpW.call rfl rfl Z.E Z.K rfl rfl rfl ?_
 refine has_spec hG ?_
 refine Z.r1 rfl (by exact Rd.notd rfl rfl) ?_
 refine Z.a1 rfl <| Z.n1 ?_
 refine WC.ret (Ret.one Tryz.results88 rfl ?_)
 exact hk
set_option maxRecDepth 20000 in
theorem lacks2_spec {id : T} {b : Nat} (hG : GV gv G R) (hb : rowC b 58 [gv] ∈ O) (hk : POST (.bool (decide (id ∉ G.ks))) R O) : Fun Tryz.prog 36 #[vs id, .pointer (some ⟨b, 0, none⟩)] R O POST := by
 refine Fun.enter (l := [_, _]) Tryz.func36 rfl Tryz.ntmps36 rfl (L0 := [(0, _), (1, _)]) rfl ?_
 refine Z.s1 <| Z.a1 rfl <| Z.q1 <| Z.r1 rfl (Rd.row1 (off := 0) (u := gv) rfl C58 rfl hb rfl) ?_
 refine Z.m1 rfl ?_
 refine WL.op rfl ?_
 refine OpW.call rfl rfl Z.E Z.K rfl rfl rfl ?_
 refine has_spec hG ?_
 refine Z.r1 rfl (by exact Rd.notd rfl rfl) ?_
 refine Z.a1 rfl <| Z.n1 ?_
 refine WC.ret (Ret.one Tryz.results36 rfl ?_)
 exact hk
def FirstNot (G : PG) (xs : List T) (k : Int) : Prop := (k = -1 ∧ ∀ j, j < xs.length → xs[j]! ∈ G.ks) ∨ ∃ i : Nat, k = i ∧ i < xs.length ∧ (∀ j, j < i → xs[j]! ∈ G.ks) ∧ xs[i]! ∉ G.ks
set_option maxRecDepth 20000 in
theorem find_spec {xs : List T} {v : Value} {b : Nat} (hG : GV gv G R) (hb : rowC b 58 [gv] ∈ O) (hx : accT v xs ∈ O) (hl : xs.length ≤ 4294967296)
 (hk : ∀ k, FirstNot G xs k → POST (.int .i64 k) R O) :
 Fun Tryz.prog 53 #[v, .func (.func 88) #[] #[.pointer (some ⟨b, 0, none⟩)]] R O POST := by
 refine Fun.enter (l := [_, _]) Tryz.func53 rfl Tryz.ntmps53 rfl (L0 := [(0, _), (1, _)]) rfl ?_
 refine Z.s1 <| Z.a1 rfl <| Z.n1 <| Z.s2 <| Z.m1 rfl <| Z.r1 rfl (Rd.lenA (enc := SL.one vs) (xs := xs) rfl rfl Tryz.underlying24 hx) ?_
 refine Z.m1 rfl <| Z.n1 ?_
 refine WC.block ?_
 refine WC.pick [8, 0, 1, 7] Z.P ?_
 refine WC.loop1o 1 (fun (j : Nat) => [(8, vi j)]) (fun (j : Nat) => j ≤ xs.length ∧ ∀ i, i < j → xs[i]! ∈ G.ks) (fun (j : Nat) => xs.length - j) (0) Z.L ?hinv1 (by repeat (first | exact Sub.nil | refine Sub.cons rfl (by rfl) ?_)) (fun _ h => h) ?_
 case hinv1 =>
  exact ⟨Nat.zero_le _, fun i h => absurd h (Nat.not_lt_zero _)⟩
 intro j
 rintro ⟨i1, i2⟩
 refine Z.s1 <| Z.r1 rfl (Rd.lss rfl rfl rfl) <| Z.n1 ?_
 refine WC.seq ?_
 refine WC.ite rfl (fun hc1 => ?_) (fun hc1 => ?_)
 ·
  refine WC.skip ?_
  refine thenQ.normal ?_
  refine WC.seq ?_
  refine WC.block ?_
  refine Z.s1 <| Z.m1 rfl <| Z.a1 rfl <| Z.q1 <| Z.m1 rfl <| Z.m1 rfl <| Z.m1 rfl <| Z.r1 rfl (Rd.idxA1 (enc := SL.one vs) (xs := xs) (k := j) rfl S24 rfl rfl rfl hx Z.W) ?_
  refine Z.r1 rfl (Rd.getA (g := vs) (xs := xs) (k := j) rfl C9 rfl hx (get!_of_lt Z.W)) ?_
  refine WL.op rfl ?_
  refine OpW.call rfl rfl Z.E Z.K rfl rfl rfl ?_
  refine lacks_spec hG hb ?_
  refine Z.n1 ?_
  refine WC.ite rfl (fun hc2 => ?_) (fun hc2 => ?_)
  ·
   refine Z.s1 <| Z.m1 rfl <| Z.a1 rfl <| Z.n1 ?_
   refine WC.ret (Ret.one Tryz.results53 rfl ?_)
   exact hk _ (.inr ⟨j, rfl, by omega, i2, hc2⟩)
  ·
   refine WC.skip ?_
   refine blockQ.normal ?_
   refine thenQ.normal ?_
   refine WC.region ?_
   refine Z.r1 rfl (Rd.add rfl rfl rfl Z.W) ?_
   refine Z.m1 rfl ?_
   refine WL.nil ?_
   exact loopQ1.mk (j + 1) ⟨by omega, fun i hi => by
   rcases Nat.lt_or_ge i j with h | h
   · exact i2 i h
   · obtain rfl : i = j := by omega
     exact Decidable.not_not.1 hc2⟩ Z.W (by repeat (first | exact Sub.nil | refine Sub.cons rfl (by rfl) ?_)) Z.F
 ·
  refine WC.exit ?_
  refine thenQ.exit ?_
  refine loopQ1.exit ?_
  refine blockQ.exit ?_
  refine thenQ.normal ?_
  refine Z.s1 <| Z.a1 rfl <| Z.n1 ?_
  refine WC.ret (Ret.one Tryz.results53 rfl ?_)
  exact hk _ (.inl ⟨rfl, fun i hi => i2 i Z.W⟩)
set_option maxRecDepth 20000 in
theorem find2_spec {xs : List T} {v : Value} {b : Nat} (hG : GV gv G R) (hb : rowC b 58 [gv] ∈ O) (hx : SlE (SL.one vs) v xs ∈ R) (hl : xs.length ≤ 4294967296)
 (hk : ∀ k, FirstNot G xs k → POST (.int .i64 k) R O) :
 Fun Tryz.prog 53 #[v, .func (.func 36) #[] #[.pointer (some ⟨b, 0, none⟩)]] R O POST := by
 refine Fun.enter (l := [_, _]) Tryz.func53 rfl Tryz.ntmps53 rfl (L0 := [(0, _), (1, _)]) rfl ?_
 refine Z.s1 <| Z.a1 rfl <| Z.n1 <| Z.s2 <| Z.m1 rfl <| Z.r1 rfl (Rd.lenE (enc := SL.one vs) (xs := xs) rfl rfl Tryz.underlying24 hx) ?_
 refine Z.m1 rfl <| Z.n1 ?_
 refine WC.block ?_
 refine WC.pick [8, 0, 1, 7] Z.P ?_
 refine WC.loop1o 1 (fun (j : Nat) => [(8, vi j)]) (fun (j : Nat) => j ≤ xs.length ∧ ∀ i, i < j → xs[i]! ∈ G.ks) (fun (j : Nat) => xs.length - j) (0) Z.L ?hinv1 (by repeat (first | exact Sub.nil | refine Sub.cons rfl (by rfl) ?_)) (fun _ h => h) ?_
 case hinv1 =>
  exact ⟨Nat.zero_le _, fun i h => absurd h (Nat.not_lt_zero _)⟩
 intro j
 rintro ⟨i1, i2⟩
 refine Z.s1 <| Z.r1 rfl (Rd.lss rfl rfl rfl) <| Z.n1 ?_
 refine WC.seq ?_
 refine WC.ite rfl (fun hc1 => ?_) (fun hc1 => ?_)
 ·
  refine WC.skip ?_
  refine thenQ.normal ?_
  refine WC.seq ?_
  refine WC.block ?_
  refine Z.s1 <| Z.m1 rfl <| Z.a1 rfl <| Z.q1 <| Z.m1 rfl <| Z.m1 rfl <| Z.m1 rfl <| Z.r1 rfl (Rd.idx1 (enc := SL.one vs) (xs := xs) (k := j) rfl S24 rfl rfl rfl hx Z.W) ?_
  refine Z.r1 rfl (Rd.get (g := vs) (xs := xs) (k := j) rfl C9 rfl hx (get!_of_lt Z.W)) ?_
  refine WL.op rfl ?_
  refine OpW.call rfl rfl Z.E Z.K rfl rfl rfl ?_
  refine lacks2_spec hG hb ?_
  refine Z.n1 ?_
  refine WC.ite rfl (fun hc2 => ?_) (fun hc2 => ?_)
  ·
   refine Z.s1 <| Z.m1 rfl <| Z.a1 rfl <| Z.n1 ?_
   refine WC.ret (Ret.one Tryz.results53 rfl ?_)
   exact hk _ (.inr ⟨j, rfl, by omega, i2, hc2⟩)
  ·
   refine WC.skip ?_
   refine blockQ.normal ?_
   refine thenQ.normal ?_
   refine WC.region ?_
   refine Z.r1 rfl (Rd.add rfl rfl rfl Z.W) ?_
   refine Z.m1 rfl ?_
   refine WL.nil ?_
   exact loopQ1.mk (j + 1) ⟨by omega, fun i hi => by
   rcases Nat.lt_or_ge i j with h | h
   · exact i2 i h
   · obtain rfl : i = j := by omega
     exact Decidable.not_not.1 hc2⟩ Z.W (by repeat (first | exact Sub.nil | refine Sub.cons rfl (by rfl) ?_)) Z.F
 ·
  refine WC.exit ?_
  refine thenQ.exit ?_
  refine loopQ1.exit ?_
  refine blockQ.exit ?_
  refine thenQ.normal ?_
  refine Z.s1 <| Z.a1 rfl <| Z.n1 ?_
  refine WC.ret (Ret.one Tryz.results53 rfl ?_)
  exact hk _ (.inl ⟨rfl, fun i hi => i2 i Z.W⟩)
def allIn (G : PG) (xs : List T) : Bool := decide (∀ x ∈ xs, x ∈ G.ks)
theorem mem_get! {xs : List T} {x : T} (h : x ∈ xs) : ∃ j, j < xs.length ∧ xs[j]! = x := by
 obtain ⟨j, hj, e⟩ := List.getElem_of_mem h
 exact ⟨j, hj, by rw [getElem!_pos xs j hj, e]⟩
set_option maxRecDepth 20000 in
theorem contains_spec {xs : List T} {v : Value} {b : Nat} (hG : GV gv G R) (hb : rowC b 58 [gv] ∈ O) (hx : SlE (SL.one vs) v xs ∈ R) (hl : xs.length ≤ 4294967296)
 (hk : POST (.bool (decide (∃ x ∈ xs, x ∉ G.ks))) R O) : Fun Tryz.prog 35 #[v, .func (.func 36) #[] #[.pointer (some ⟨b, 0, none⟩)]] R O POST := by
 refine Fun.enter (l := [_, _]) Tryz.func35 rfl Tryz.ntmps35 rfl (L0 := [(0, _), (1, _)]) rfl ?_
 refine Z.s1 <| Z.a1 rfl <| Z.q1 <| Z.m1 rfl <| Z.m1 rfl ?_
 refine WL.op rfl ?_
 refine OpW.call rfl rfl Z.E Z.K rfl rfl rfl ?_
 refine find2_spec hG hb hx hl ?_; intro k hk7
 refine Z.r1 rfl (Rd.geq rfl rfl rfl) ?_
 refine WL.say 8 (u := .bool (decide (∃ x ∈ xs, x ∉ G.ks))) rfl (vb ⟨fun h => by
 rcases hk7 with ⟨rfl, _⟩ | ⟨i, _, h1, _, h3⟩
 · omega
 · exact ⟨_, get!_mem h1, h3⟩, fun ⟨x, hx, hn⟩ => by
 rcases hk7 with ⟨_, h⟩ | ⟨i, rfl, _⟩
 · obtain ⟨j, hj, e⟩ := mem_get! hx
   exact absurd (e ▸ h j hj) hn
 · omega⟩) ?_
 refine Z.a1 rfl <| Z.n1 ?_
 refine WC.ret (Ret.one Tryz.results35 rfl ?_)
 exact hk
def stays (G : PG) (s : T) : Bool := decide (s ∈ G.ks)
theorem filter_all {p : T → Bool} {xs : List T} (h : ∀ j, j < xs.length → p xs[j]! = true) : xs.filter p = xs := by
 rw [List.filter_eq_self]
 intro a ha
 obtain ⟨j, hj, rfl⟩ := mem_get! ha
 exact h j hj
theorem filter_next (p : T → Bool) {xs : List T} {j : Nat} (h : j < xs.length) : (xs.take (j + 1)).filter p = (xs.take j).filter p ++ if p xs[j]! then [xs[j]!] else [] := by
 rw [List.take_add_one, get!_of_lt h, List.filter_append]
 simp only [Option.toList_some, List.filter_cons, List.filter_nil]
theorem drop_get {α : Type} [Inhabited α] {l : List α} {j : Nat} (h : j < l.length) : l.drop j = l[j]! :: l.drop (j + 1) := by
 rw [List.drop_eq_getElem_cons h, getElem!_pos l j h]
theorem drop_at {ys xs : List T} {j : Nat} (hl : ys.length = xs.length) (hj : j < xs.length) (h : ys.drop j = xs.drop j) : ys[j]! = xs[j]! ∧ ys.drop (j + 1) = xs.drop (j + 1) := by
 rw [drop_get (l := ys) Z.W, drop_get hj, List.cons.injEq] at h
 exact h
set_option maxRecDepth 20000 in
set_option maxHeartbeats 1000000 in
theorem delete_spec {xs : List T} {v : Value} {b : Nat} (hG : GV gv G R) (hb : rowC b 58 [gv] ∈ O) (hl : xs.length ≤ 4294967296)
 (hk : ∀ u, POST u R (accT u (xs.filter (stays G)) :: O)) : Fun Tryz.prog 28 #[v, .func (.func 88) #[] #[.pointer (some ⟨b, 0, none⟩)]] R (accT v xs :: O) POST := by
 obtain ⟨p, hp⟩ : ∃ p, p = stays G := ⟨_, rfl⟩
 refine Fun.enter (l := [_, _]) Tryz.func28 rfl Tryz.ntmps28 rfl (L0 := [(0, _), (1, _)]) rfl ?_
 refine Z.s1 <| Z.a1 rfl <| Z.q1 <| Z.m1 rfl <| Z.m1 rfl ?_
 refine WL.op rfl ?_
 refine OpW.call rfl rfl Z.E Z.K rfl rfl rfl ?_
 refine find_spec hG (List.mem_cons_of_mem _ hb) List.mem_cons_self hl ?_; intro k hk10
 refine Z.a1 rfl <| Z.n1 <| Z.s2 <| Z.m1 rfl <| Z.r1 rfl (Rd.eql rfl rfl rfl) <| Z.n1 ?_
 refine WC.ite rfl (fun hc1 => ?_) (fun hc1 => ?_)
 ·
  refine Z.s1 <| Z.m1 rfl <| Z.a1 rfl <| Z.n1 ?_
  refine WC.ret (Ret.one Tryz.results28 rfl ?_)
  have e : xs.filter (stays G) = xs := by
   rcases hk10 with ⟨_, h1⟩ | ⟨i, rfl, _⟩
   · exact filter_all (fun j hj => decide_eq_true (h1 j hj))
   · omega
  have hk' := hk v
  rw [e] at hk'
  exact hk'
 ·
  obtain ⟨i0, rfl, h1, h2, h3⟩ : ∃ i : Nat, k = i ∧ i < xs.length ∧ (∀ j, j < i → xs[j]! ∈ G.ks) ∧ xs[i]! ∉ G.ks := by
   rcases hk10 with ⟨h1, _⟩ | h1
   · exact absurd h1 hc1
   · exact h1
  have hf0 : (xs.take (i0 + 1)).filter p = xs.take i0 := by
   rw [filter_next p h1, hp, show stays G xs[i0]! = false from decide_eq_false h3, filter_all (xs := xs.take i0) (fun j hj => by
    rw [List.length_take] at hj
    have := h2 j Z.W
    rw [getElem!_pos _ _ (by rw [List.length_take]; omega), List.getElem_take, ← getElem!_pos xs j Z.W]
    exact decide_eq_true this)]
   simp
  refine WC.skip ?_
  refine thenQ.normal ?_
  refine Z.s2 <| Z.m1 rfl <| Z.r1 rfl (Rd.add rfl rfl rfl Z.W) ?_
  refine Z.a1 rfl <| Z.n1 ?_
  refine WC.block ?_
  refine WC.pick [5, 6, 0, 1] Z.P ?_
  refine WC.loop3 2 (fun (i : Nat) (j : Nat) (ys : List T) => [(5, .int .i64 (i : Int)), (6, .int .i64 (j : Int))]) (fun (i : Nat) (j : Nat) (ys : List T) => accT v ys :: O) (fun (i : Nat) (j : Nat) (ys : List T) => i < j ∧ j ≤ xs.length ∧ ys.length = xs.length ∧ ys.take i = (xs.take j).filter p ∧ ys.drop j = xs.drop j) (fun (i : Nat) (j : Nat) (ys : List T) => xs.length - j) (i0) (i0 + 1) (xs) Z.L ?hinv1 (by repeat (first | exact Sub.nil | refine Sub.cons rfl (by rfl) ?_)) (fun _ h => h) ?_
  case hinv1 =>
   exact ⟨by omega, by omega, rfl, hf0.symm, rfl⟩
  intro i j ys
  rintro ⟨i1, i2, i3, i4, i5⟩
  refine Z.s2 <| Z.m1 rfl <| Z.m1 rfl <| Z.r1 rfl (Rd.lenA rfl rfl Tryz.underlying24 List.mem_cons_self) <| Z.r1 rfl (Rd.lss rfl rfl rfl) <| Z.n1 ?_
  refine WC.ite rfl (fun hc2 => ?_) (fun hc2 => ?_)
  ·
   obtain ⟨d1, d2⟩ := drop_at i3 Z.W i5
   have hfn := filter_next p (xs := xs) (j := j) Z.W
   refine WC.skip ?_
   refine thenQ.normal ?_
   refine WC.seq ?_
   refine WC.block ?_
   refine Z.s1 <| Z.m1 rfl <| Z.m1 rfl <| Z.r1 rfl (Rd.idxA1 (k := j) rfl S24 rfl rfl rfl List.mem_cons_self Z.W) ?_
   refine Z.r1 rfl (Rd.getA (k := j) rfl C9 rfl List.mem_cons_self (get!_of_lt Z.W)) ?_
   refine Z.a1 rfl <| Z.q1 <| Z.m1 rfl <| Z.m1 rfl ?_
   refine WL.op rfl ?_
   refine OpW.call rfl rfl Z.E Z.K rfl rfl rfl ?_
   refine lacks_spec hG (List.mem_cons_of_mem _ hb) ?_
   rw [d1]
   refine Z.r1 rfl (by exact Rd.notd rfl rfl) ?_
   refine Z.n1 ?_
   refine WC.ite rfl (fun hc3 => ?_) (fun hc3 => ?_)
   ·
    refine Z.s1 <| Z.m1 rfl <| Z.m1 rfl <| Z.m1 rfl <| Z.r1 rfl (Rd.idxA1 (k := i) rfl S24 rfl rfl rfl List.mem_cons_self Z.W) ?_
    refine WL.op rfl ?_
    refine OpW.storeAcc (k := i) (a := xs[j]!) rfl Z9 rfl rfl rfl rfl (Take.head _) Z.W rfl ?_
    refine Z.g1 <| Z.m1 rfl <| Z.r1 rfl (Rd.add rfl rfl rfl Z.W) ?_
    refine Z.a1 rfl ?_
    refine WL.nil ?_
    refine blockQ.normal ?_
    refine thenQ.normal ?_
    refine WC.region ?_
    refine Z.m1 rfl <| Z.r1 rfl (Rd.add rfl rfl rfl Z.W) ?_
    refine Z.a1 rfl ?_
    refine WL.nil ?_
    exact loopQ3.mk (i + 1) (j + 1) (ys.set i xs[j]!) ⟨by omega, by omega, by rw [List.length_set, i3], by
    rw [List.take_add_one, List.take_set_of_le (Nat.le_refl _), i4, hfn, if_pos (by rw [hp]; simpa [stays] using hc3), List.getElem?_set_self Z.W]; rfl, by
    rw [List.drop_set_of_lt Z.W, d2]⟩ Z.W (by repeat (first | exact Sub.nil | refine Sub.cons rfl (by rfl) ?_)) Z.F
   ·
    refine WC.skip ?_
    refine blockQ.normal ?_
    refine thenQ.normal ?_
    refine WC.region ?_
    refine Z.m1 rfl <| Z.r1 rfl (Rd.add rfl rfl rfl Z.W) ?_
    refine Z.a1 rfl ?_
    refine WL.nil ?_
    exact loopQ3.mk i (j + 1) ys ⟨by omega, by omega, i3, by rw [i4, hfn, if_neg (by rw [hp]; simpa [stays] using hc3), List.append_nil], d2⟩ Z.W (by repeat (first | exact Sub.nil | refine Sub.cons rfl (by rfl) ?_)) Z.F
  ·
   refine WC.exit ?_
   refine thenQ.exit ?_
   refine loopQ3.exit ?_
   refine blockQ.exit ?_
   refine thenQ.normal ?_
   refine Z.s1 <| Z.m1 rfl <| Z.m1 rfl <| Z.r1 rfl (Rd.cutA_l (lo := i) rfl S24 rfl rfl rfl List.mem_cons_self Z.W) ?_
   refine WL.op rfl ?_
   refine OpW.clearAcc (a0 := []) rfl S24 rfl rfl rfl rfl rfl (Take.head _) Z.W rfl ?_
   refine Z.q1 <| Z.m1 rfl <| Z.m1 rfl <| Z.r1 rfl (Rd.cutA_h (hi := i) rfl S24 rfl rfl rfl List.mem_cons_self (by simp; omega)) ?_
   refine Z.a1 rfl <| Z.n1 ?_
   refine WC.heap (fun w h => Sat.cutAcc (enc := SL.one vs) (size := 1) (xs := ys.take i ++ List.replicate (ys.length - i) []) (hi := i) (Take.head _) (fun _ => rfl) (by simp; omega) h) ?_
   refine WC.ret (Ret.one Tryz.results28 rfl ?_)
   have e : (ys.take i ++ List.replicate (ys.length - i) []).take i = xs.filter (stays G) := by
    rw [List.take_append_of_le_length (by rw [List.length_take]; omega), List.take_take, Nat.min_self, i4, List.take_of_length_le Z.W, hp]
   rw [e]
   exact hk _
set_option maxRecDepth 20000 in
theorem clone_spec {xs : List T} {v : Value} (hx : SlE (SL.one vs) v xs ∈ R) (hl : xs.length ≤ 1000000) (hk : ∀ u, POST u R (accT u xs :: O)) : Fun Tryz.prog 26 #[v] R O POST := by
 refine Fun.know hx (φ := ∃ o c, v = .slice o xs.length c ∧ (o = none → xs = [])) (fun w h => by
  obtain ⟨o, c, h1, _, _, h2, _⟩ := h
  exact ⟨o, c, h1, fun e => List.length_eq_zero_iff.1 (h2 e)⟩) fun ⟨o, c, hv, h0⟩ => ?_
 subst hv
 refine Fun.enter (l := [_]) Tryz.func26 rfl Tryz.ntmps26 rfl (L0 := [(0, _)]) rfl ?_
 refine Z.s1 <| Z.a1 rfl <| Z.n1 <| Z.s2 <| Z.m1 rfl <| Z.r1 rfl (Rd.eqNil' rfl Tryz.underlying24 rfl rfl) <| Z.n1 ?_
 refine WC.cond rfl (fun hc1 => ?_) (fun hc1 => ?_)
 ·
  obtain rfl : xs = [] := h0 (by cases o with | none => rfl | some a => cases hc1)
  refine WC.heap (fun w h => Sat.accNil (e := 9) (size := 1) (enc := SL.one vs) h) ?_
  refine Z.s1 <| Z.a1 rfl <| Z.n1 ?_
  refine WC.ret (Ret.one Tryz.results26 rfl ?_)
  exact hk _
 ·
  refine WC.skip ?_
  refine thenQ.normal ?_
  refine Z.s1 ?_
  refine WL.op rfl ?_
  refine OpW.buildSl (ps := []) rfl S24 Z.E rfl rfl Z.C Z.K rfl rfl rfl ?_; intro b5
  refine WL.heap (fun w h => Sat.accRow (enc := SL.one vs) (size := 1) (xs := []) Z.T rfl rfl (fun x => rfl) (by simp) h) ?_
  refine Z.m1 rfl ?_
  refine WL.op rfl ?_
  refine OpW.appendE (enc := SL.one vs) (ys := xs) rfl S24 Tryz.underlying24 rfl rfl Z.T hx (by intro x; rfl) (by intro x; rfl) (by exact ⟨by simp only [maxLen, List.length_append, List.length_nil, List.length_cons, List.length_drop, List.length_take, List.length_map]; omega, by (simp only [List.length_append, List.length_nil, List.length_cons, List.length_drop, List.length_take, List.length_map]; omega)⟩) rfl rfl ?_; intro v7 hv7
  refine Z.a1 rfl <| Z.n1 ?_
  refine WC.ret (Ret.one Tryz.results26 rfl ?_)
  exact hk _
end
end Go.Proofs.YtnjfgcpmcjmddaaGreatDoor.Gr
namespace Go.Proofs.YtnjfgcpmcjmddaaGreatDoor.Gr
open Go Go.SL
structure MarkIs (G : PG) (fs : List T) (m : GoMap T Bool) : Prop where
 get : ∀ id v, m.get id = some v → v = true ∧ Come G fs id
 all : ∀ id, Come G fs id → m.get id = some true
structure MarkAt (G : PG) (fs : List T) (m : GoMap T Bool) (ws : List T) : Prop where
 get : ∀ id v, m.get id = some v → v = true ∧ Come G fs id
 work : ∀ x ∈ ws, Come G fs x
 beg : ∀ f ∈ fs, f ∈ G.ks → m.get f = some true ∨ f ∈ ws
 on : ∀ x, m.get x = some true → ∀ p ∈ G.pars x, m.get p = some true ∨ p ∈ ws
def left (G : PG) (m : GoMap T Bool) (ws : List T) : Nat := ws.length + restSum G fun x => (m.get x).isSome
theorem snoc_of {ws : List T} (h : 0 < ws.length) : ws = ws.take (ws.length - 1) ++ [ws[ws.length - 1]!] := by
 rw [← take_snoc' Z.W, List.take_of_length_le Z.W]
theorem MarkAt.old {G : PG} {fs : List T} {m : GoMap T Bool} {ws : List T} {x : T} (h : MarkAt G fs m (ws ++ [x])) (hx : m.get x = some true) : MarkAt G fs m ws := by
 refine ⟨h.get, fun y hy => h.work y (List.mem_append_left _ hy), fun f h1 h2 => ?_, fun y hy p hp => ?_⟩
 · rcases h.beg f h1 h2 with g | g
   · exact .inl g
   · rcases List.mem_append.1 g with g | g
     · exact .inr g
     · rw [List.mem_singleton.1 g]; exact .inl hx
 · rcases h.on y hy p hp with g | g
   · exact .inl g
   · rcases List.mem_append.1 g with g | g
     · exact .inr g
     · rw [List.mem_singleton.1 g]; exact .inl hx
theorem MarkAt.new {G : PG} (hc : Closed G) {fs : List T} {m : GoMap T Bool} {ws : List T} {x : T} (h : MarkAt G fs m (ws ++ [x])) : MarkAt G fs (m.set x true) (ws ++ G.pars x) := by
 have hx := h.work x (List.mem_append_right _ (List.mem_singleton.2 rfl))
 have hxk := hx.mem hc
 have key : ∀ p, (m.get p = some true ∨ p ∈ ws ++ [x]) → (m.set x true).get p = some true ∨ p ∈ ws ++ G.pars x := fun p hp => by
  rw [GoMap.get_set]
  by_cases e : p = x
  · rw [if_pos e]; exact .inl rfl
  · rw [if_neg e]
    rcases hp with g | g
    · exact .inl g
    · rcases List.mem_append.1 g with g | g
      · exact .inr (List.mem_append_left _ g)
      · exact absurd (List.mem_singleton.1 g) e
 refine ⟨fun id v hv => ?_, fun y hy => ?_, fun f h1 h2 => key f (h.beg f h1 h2), fun y hy p hp => ?_⟩
 · rw [GoMap.get_set] at hv
   by_cases e : id = x
   · rw [if_pos e] at hv
     cases hv
     exact ⟨rfl, e ▸ hx⟩
   · rw [if_neg e] at hv
     exact h.get id v hv
 · rcases List.mem_append.1 hy with g | g
   · exact h.work y (List.mem_append_left _ g)
   · exact hx.path (.step hxk g (.refl _))
 · rw [GoMap.get_set] at hy
   by_cases e : y = x
   · subst e
     exact .inr (List.mem_append_right _ hp)
   · rw [if_neg e] at hy
     exact key p (h.on y hy p hp)
theorem MarkAt.done {G : PG} {fs : List T} {m : GoMap T Bool} (h : MarkAt G fs m []) : MarkIs G fs m := by
 refine ⟨h.get, fun id hid => ?_⟩
 refine Come.all (M := fun x => m.get x = some true) (fun f h1 h2 => ?_) (fun x _ hx p hp => ?_) hid
 · rcases h.beg f h1 h2 with g | g
   · exact g
   · cases g
 · rcases h.on x hx p hp with g | g
   · exact g
   · cases g
theorem left_new {G : PG} (_hc : Closed G) {m : GoMap T Bool} {ws : List T} {x : T} (hx : x ∈ G.ks) (hm : m.get x = none) : left G (m.set x true) (ws ++ G.pars x) + 1 ≤ left G m (ws ++ [x]) := by
 unfold left
 have h : restSum G (fun y => ((m.set x true).get y).isSome) + (G.pars x).length ≤ restSum G (fun y => (m.get y).isSome) := sum_drop (f := fun x => (G.pars x).length) (l := G.ks) (p := fun y => !((m.set x true).get y).isSome) (q := fun y => !(m.get y).isSome) (z := x) hx (fun y hy => by
  rw [GoMap.get_set] at hy
  by_cases e : y = x
  · rw [if_pos e] at hy; cases hy
  · rw [if_neg e] at hy; exact hy) (by simp) (by simp [hm])
 rw [List.length_append, List.length_append, List.length_singleton]
 omega
theorem MarkAt.start (G : PG) (fs : List T) : MarkAt G fs GoMap.empty (fs.filter (stays G)) := by
 refine ⟨fun id v h => (by cases h), fun x hx => ?_, fun f h1 h2 => .inr (List.mem_filter.2 ⟨h1, decide_eq_true h2⟩), fun x hx => (by cases hx)⟩
 have h := List.mem_filter.1 hx
 exact ⟨x, h.1, of_decide_eq_true h.2, .refl _⟩
theorem restSum_le {G : PG} {p : T → Bool} : restSum G p ≤ restSum G fun _ => false := by
 unfold restSum
 exact sum_le fun x _ => rfl
section
variable {R : List RO} {O O' : List Own} {POST : Value → List RO → List Own → Prop} {gv : Value} {G : PG}
set_option maxRecDepth 20000 in
set_option maxHeartbeats 4000000 in
theorem mark_spec {fs : List T} {fv : Value} (hG : GV gv G R) (hc : Closed G) (hf : SlE (SL.one vs) fv fs ∈ R) (hsz : fs.length + restSum G (fun _ => false) ≤ 900000) (hk : ∀ b m, MarkIs G fs m → m.l.length ≤ G.ks.length → POST (.map (some b)) R (mapC vs vbl b m :: O)) :
 Fun Tryz.prog 50 #[gv, fv] R O POST := by
 have hgo := hG.one
 refine Fun.enter (l := [_, _]) Tryz.func50 rfl Tryz.ntmps50 rfl (L0 := [(0, _), (1, _)]) rfl ?_
 refine Z.s1 ?_
 refine WL.op rfl ?_
 refine OpW.box1 rfl rfl (by assumption) rfl rfl ?_; intro b2
 refine Z.a1 rfl <| Z.q1 ?_
 refine WL.op rfl ?_
 refine OpW.makeMap vs vbl rfl rfl rfl ?_; intro b8
 refine Z.a1 rfl <| Z.q1 <| Z.m1 rfl ?_
 refine WL.op rfl ?_
 refine OpW.call rfl rfl Z.E Z.K rfl rfl rfl ?_
 refine clone_spec hf Z.W ?_; intro v10
 refine Z.r1 rfl (Rd.func rfl Z.E Z.E ⟨_, rfl⟩) ?_
 refine WL.op rfl ?_
 refine OpW.call rfl rfl Z.E Z.K rfl rfl rfl ?_
 refine Fun.heap (R' := R) (O' := accT v10 fs :: rowC b2 58 [gv] :: mapC vs vbl b8 GoMap.empty :: O) Z.F ?_
 refine delete_spec hG List.mem_cons_self Z.W ?_; intro v12
 have hfl : (fs.filter (stays G)).length ≤ fs.length := List.length_filter_le _ _
 refine Z.a1 rfl <| Z.n1 ?_
 refine WC.seq ?_
 refine WC.block ?_
 refine WC.pick [6, 2, 5] Z.P ?_
 refine WC.loop3 1 (fun (ws : List T) (wv : Value) (m : GoMap T Bool) => [(6, wv)]) (fun (ws : List T) (wv : Value) (m : GoMap T Bool) => accT wv ws :: mapC vs vbl b8 m :: rowC b2 58 [gv] :: O) (fun (ws : List T) (wv : Value) (m : GoMap T Bool) => MarkAt G fs m ws ∧ left G m ws ≤ 900000) (fun (ws : List T) (wv : Value) (m : GoMap T Bool) => left G m ws) (fs.filter (stays G)) (v12) (GoMap.empty) Z.L ?hinv1 (by repeat (first | exact Sub.nil | refine Sub.cons rfl (by rfl) ?_)) Z.F ?_
 case hinv1 =>
  exact ⟨MarkAt.start G fs, (by unfold left; have := restSum_le (G := G) (p := fun x => ((GoMap.empty : GoMap T Bool).get x).isSome); omega)⟩
 intro ws wv m
 rintro ⟨i1, i2⟩
 refine Z.s2 <| Z.m1 rfl <| Z.r1 rfl (Rd.lenA (enc := SL.one vs) (xs := ws) rfl rfl Tryz.underlying24 Z.M) ?_
 refine Z.r1 rfl (Rd.gtr rfl rfl rfl) <| Z.n1 ?_
 refine WC.ite rfl (fun hc1 => ?_) (fun hc1 => ?_)
 ·
  have hw0 : 0 < ws.length := by omega
  have hwl : ws.length ≤ 900000 := by unfold left at i2; omega
  have hsn := snoc_of hw0
  have hxc := i1.work ws[ws.length - 1]! (get!_mem Z.W)
  have hxk := hxc.mem hc
  have i1' := i1
  have i2' := i2
  have hlft : left G m (ws.take (ws.length - 1) ++ [ws[ws.length - 1]!]) = left G m ws := by rw [← hsn]
  rw [hsn] at i1'
  obtain ⟨x, hx⟩ : ∃ x, ws[ws.length - 1]! = x := ⟨_, rfl⟩
  obtain ⟨us, hus⟩ : ∃ us, ws.take (ws.length - 1) = us := ⟨_, rfl⟩
  rw [hx] at hxc hxk i1' hlft
  rw [hus] at i1' hlft
  have hul : us.length ≤ 900000 := by rw [← hus, List.length_take]; omega
  refine WC.skip ?_
  refine thenQ.normal ?_
  refine WC.block ?_
  refine Z.s1 <| Z.m1 rfl <| Z.m1 rfl <| Z.r1 rfl (Rd.lenA (enc := SL.one vs) (xs := ws) rfl rfl Tryz.underlying24 Z.M) ?_
  refine Z.r1 rfl (Rd.sub rfl rfl rfl Z.W) ?_
  refine Z.r1 rfl (Rd.idxA1 (enc := SL.one vs) (xs := ws) (k := ws.length - 1) rfl S24 rfl rfl Z.W Z.M Z.W) ?_
  refine Z.r1 rfl (Rd.getA (g := vs) (xs := ws) (k := ws.length - 1) (a := x) rfl C9 rfl Z.M (by rw [← hx]; exact get!_of_lt Z.W)) ?_
  refine Z.a1 rfl <| Z.q1 <| Z.m1 rfl <| Z.m1 rfl <| Z.r1 rfl (Rd.lenA (enc := SL.one vs) (xs := ws) rfl rfl Tryz.underlying24 Z.M) ?_
  refine Z.r1 rfl (Rd.sub rfl rfl rfl Z.W) ?_
  refine Z.r1 rfl (Rd.cutA_h (enc := SL.one vs) (xs := ws) (hi := ws.length - 1) rfl S24 rfl rfl Z.W Z.M Z.W) ?_
  refine WL.heap (fun w h => Sat.cutAcc (enc := SL.one vs) (size := 1) (xs := ws) (hi := ws.length - 1) Z.T (fun _ => rfl) Z.W h) ?_
  refine WL.heap (R' := R) (O' := accT (subSl wv 1 0 (ws.length - 1)) us :: mapC vs vbl b8 m :: rowC b2 58 [gv] :: O) (fun w h => by rw [hus] at h; exact Z.Fw h) ?_
  refine Z.a1 rfl <| Z.n1 <| Z.s2 <| Z.m1 rfl <| Z.m1 rfl <| Z.r1 rfl (Rd.lookup (k := x) M37 K9 rfl rfl rfl Z.M rfl) ?_
  refine WL.say 29 (u := .bool (decide (m.get x = some true))) rfl (by cases m.get x with | none => rfl | some b => cases b <;> rfl) ?_
  refine Z.n1 ?_
  refine WC.ite rfl (fun hc2 => ?_) (fun hc2 => ?_)
  ·
   refine WC.exit ?_
   refine thenQ.exit ?_
   refine blockQ.exit ?_
   exact loopQ3.mk us (subSl wv 1 0 (ws.length - 1)) m ⟨i1'.old hc2, by
   have : left G m us + 1 = left G m ws := by rw [← hlft]; unfold left; rw [List.length_append, List.length_singleton]; omega
   omega⟩ (by
   have : left G m us + 1 = left G m ws := by rw [← hlft]; unfold left; rw [List.length_append, List.length_singleton]; omega
   omega) (by repeat (first | exact Sub.nil | refine Sub.cons rfl (by rfl) ?_)) Z.F
  ·
   have hmn : m.get x = none := by
    cases e : m.get x with
    | none => rfl
    | some v => exact absurd (by rw [e, (i1.get x v e).1]) hc2
   have hln := left_new hc (m := m) (ws := us) hxk hmn
   rw [hlft] at hln
   have hpl : (us ++ G.pars x).length ≤ 900000 := by unfold left at hln; unfold left at i2; omega
   rw [List.length_append] at hpl
   rcases hG with ⟨rfl, h0⟩ | ⟨b, bm, gm, rfl, hb, hgm, hp, hMG⟩
   · rw [h0] at hxk; cases hxk
   obtain ⟨q, hq⟩ := (hMG.keys x).1 hxk
   refine WC.skip ?_
   refine thenQ.normal ?_
   refine Z.s1 <| Z.m1 rfl <| Z.m1 rfl ?_
   refine WL.op rfl ?_
   refine OpW.mapUpdate (k := x) (v := true) M37 K9 rfl rfl rfl rfl Z.T rfl rfl rfl ?_
   refine Z.g1 <| Z.m1 rfl <| Z.r1 rfl (Rd.row1 (b := b2) (off := 0) (u := .pointer (some ⟨b, 0, none⟩)) rfl C58 rfl Z.M rfl) ?_
   refine Z.r1 rfl (Rd.nilc rfl rfl) <| Z.r1 rfl (by exact Rd.field rfl F82_0 rfl rfl) ?_
   refine Z.r1 rfl (Rd.getGl rfl C80 rfl hb rfl) <| Z.m1 rfl <| Z.r1 rfl (Rd.lookupR (k := x) M80 K9 rfl rfl rfl hgm rfl) ?_
   refine WL.say 38 (u := .agg #[vs q.1, slv q.2.1, vi q.2.2]) rfl (by rw [hq]; rfl) ?_
   refine Z.r1 rfl (Rd.part (ft := 0) rfl Tryz.underlying62 rfl C24 rfl rfl rfl) ?_
   refine WL.heap (fun w h => h.weaken hp (fun w hw => hw _ _ hq)) ?_
   refine WL.op rfl ?_
   refine OpW.appendE (enc := SL.one vs) (ys := G.pars x) rfl S24 Tryz.underlying24 rfl rfl Z.T Z.M (by intro x; rfl) (by intro x; rfl) ⟨by show _ ≤ 9223372036854775807; omega, by omega⟩ rfl rfl ?_; intro v40 hv40
   refine Z.a1 rfl ?_
   refine WL.nil ?_
   refine blockQ.normal ?_
   exact loopQ3.mk (us ++ G.pars x) v40 (m.set x true) ⟨i1'.new hc, by omega⟩ Z.W (by repeat (first | exact Sub.nil | refine Sub.cons rfl (by rfl) ?_)) Z.F
 ·
  obtain rfl : ws = [] := List.length_eq_zero_iff.1 Z.W
  have hdone := i1.done
  have hlen : m.l.length ≤ G.ks.length := by
   have h1 : (m.l.map (·.1)).Nodup := m.keys
   have := nodup_len' h1 (l' := G.ks) (fun k hk => by
    obtain ⟨y, hy, rfl⟩ := List.mem_map.1 hk
    have : m.get y.1 = some y.2.1 := GoMap.get_iff.2 ⟨y.2.2, hy⟩
    exact (hdone.get _ _ this).2.mem hc)
   rwa [List.length_map] at this
  refine WC.exit ?_
  refine thenQ.exit ?_
  refine loopQ3.exit ?_
  refine blockQ.exit ?_
  refine thenQ.normal ?_
  refine Z.s1 <| Z.m1 rfl <| Z.a1 rfl <| Z.n1 ?_
  refine WC.heap (R' := R) (O' := mapC vs vbl b8 m :: O) Z.F ?_
  refine WC.ret (Ret.one Tryz.results50 rfl ?_)
  exact hk b8 m hdone hlen
end
end Go.Proofs.YtnjfgcpmcjmddaaGreatDoor.Gr
