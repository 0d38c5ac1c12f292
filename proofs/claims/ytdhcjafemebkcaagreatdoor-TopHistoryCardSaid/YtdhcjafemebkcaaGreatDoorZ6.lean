/-
  Part 6 of the texts that the law TopHistory is proved with: Sh3, Sh4, Sh5, Ek2, Ek3, On1, Etreads, Etmakes, Etstores, Etsplits, Etobjects, Etlies, Etshelved, Etrefers, Hi2, Hi3, Ek4. No premise.
-/
import Derived.Test.YtdhcjafemebkcaaGreatDoorZ5
import Derived.Lib.IndexLaws
import Derived.Lib.Bytealg
import Derived.Tactics
import Derived.Tactics2
import Derived.Defers
import Derived.Laws.Pointers
import Derived.Laws.LoneSync
import Derived.RegionTactic
import Derived.RegionCalls
import Derived.ChangeAlike
import Derived.KernelRfl
namespace Go.Proofs.YtdhcjafemebkcaaGreatDoor
open Go Go.SL
/-- The state behind all whole blocks, and what is left. -/
def blocks (v : St8) (r : List UInt8) : St8 × List UInt8 :=
 if r.length < 64 then (v, r) else blocks (nextS v (r.take 64)) (r.drop 64)
termination_by r.length
decreasing_by rw [List.length_drop]; omega
theorem blocks_lt {v : St8} {r : List UInt8} (h : r.length < 64) : blocks v r = (v, r) := by rw [blocks, if_pos h]
theorem blocks_ge {v : St8} {r : List UInt8} (h : ¬ r.length < 64) : blocks v r = blocks (nextS v (r.take 64)) (r.drop 64) := by rw [blocks, if_neg h]
theorem blocks_ok (v : St8) (r : List UInt8) (h : v.Ok) : (blocks v r).1.Ok := by
 by_cases h1 : r.length < 64
 · rw [blocks_lt h1]; exact h
 · rw [blocks_ge h1]; exact blocks_ok _ _ (nextS_ok _ _)
termination_by r.length
decreasing_by rw [List.length_drop]; omega
theorem blocks_rest (v : St8) (r : List UInt8) : (blocks v r).2.length < 64 ∧ (blocks v r).2.length % 64 = r.length % 64 := by
 by_cases h1 : r.length < 64
 · rw [blocks_lt h1]; exact ⟨h1, rfl⟩
 · rw [blocks_ge h1]
   have h := blocks_rest (nextS v (r.take 64)) (r.drop 64)
   rw [List.length_drop] at h
   exact ⟨h.1, by omega⟩
termination_by r.length
decreasing_by rw [List.length_drop]; omega
theorem blocks_append (v : St8) (r s : List UInt8) : blocks (blocks v r).1 ((blocks v r).2 ++ s) = blocks v (r ++ s) := by
 by_cases h1 : r.length < 64
 · rw [blocks_lt h1]
 · rw [blocks_ge h1, blocks_append (nextS v (r.take 64)) (r.drop 64) s]
   have h2 : ¬ (r ++ s).length < 64 := by rw [List.length_append]; omega
   rw [blocks_ge h2, List.take_append_of_le_length Z.W, List.drop_append_of_le_length Z.W]
termination_by r.length
decreasing_by rw [List.length_drop]; omega
/-- The cells of a Hasher. -/
def hcell (v : St8) (g : Bool) (r : List UInt8) (n : Nat) : List Value := [vw v.a, vw v.b, vw v.c, vw v.d, vw v.e, vw v.f, vw v.g, vw v.h, .bool g, vs r, .int .i64 n]
def St8.begun (v : St8) (g : Bool) : St8 := if g then v else first8
theorem begun_ok {v : St8} {g : Bool} (h : g = true → v.Ok) : (v.begun g).Ok := by
 cases g
 · exact first8_ok
 · exact h rfl
set_option maxRecDepth 20000 in
set_option maxHeartbeats 4000000 in
theorem hput_spec {R : List RO} {O : List Own} {POST : Value → List RO → List Own → Prop} {v : St8} {g : Bool} {r s : List UInt8} {b n : Nat} (hr : rootsR ∈ R) (hv : g = true → v.Ok) (hn : n + s.length ≤ 4611686018427387904) (hrl : r.length + s.length ≤ 4611686018427387904)
 (hk : POST (.tuple #[]) R (rowC b 283 (hcell (blocks (v.begun g) (r ++ s)).1 true (blocks (v.begun g) (r ++ s)).2 (n + s.length)) :: O)) :
 Fun Tryz.prog 172 #[.pointer (some ⟨b, 0, none⟩), vs s] R (rowC b 283 (hcell v g r n) :: O) POST := by
 refine Fun.enter (l := [_, _]) Tryz.func172 rfl Tryz.ntmps172 rfl (L0 := [(0, _), (1, _)]) rfl ?_
 refine Z.s2 <| Z.m1 rfl <| Z.r1 rfl (by exact Rd.peq_sn rfl Tryz.underlying347 rfl rfl) ?_
 refine Z.n1 ?_
 refine WC.cond rfl (fun hc1 => ?_) (fun hc1 => ?_)
 ·
  cases hc1
 ·
  refine WC.skip ?_
  refine thenQ.normal ?_
  refine WC.cut (α := Unit) (fun _ => [(0, .pointer (some ⟨b, 0, none⟩)), (1, vs s)]) (fun _ => R) (fun _ => rowC b 283 (hcell (v.begun g) true r n) :: O) (fun _ => True) ?_ ?_
  ·
   refine Z.s1 <| Z.m1 rfl <| Z.r1 rfl (Rd.nilc rfl rfl) <| Z.r1 rfl (by exact Rd.field rfl F283_1 rfl rfl) ?_
   refine Z.r1 rfl (by exact Rd.row1 rfl C4 rfl Z.M (by rfl)) ?_
   refine Z.r1 rfl (by exact Rd.not rfl rfl) ?_
   refine Z.n1 ?_
   refine WC.cond rfl (fun hc2 => ?_) (fun hc2 => ?_)
   ·
    refine WC.region ?_
    refine Z.m1 rfl <| Z.m1 rfl ?_
    refine WL.op rfl ?_
    refine OpW.call rfl rfl Z.E Z.K rfl rfl rfl ?_
    refine first_spec ?_
    refine Z.r1 rfl (Rd.nilc rfl rfl) <| Z.r1 rfl (by exact Rd.field rfl F283_0 rfl rfl) ?_
    refine WL.op rfl ?_
    refine OpW.storeS rfl G281 rfl rfl Z.N Z.T rfl rfl Z.N rfl ?_
    refine Z.r1 rfl (Rd.nilc rfl rfl) <| Z.r1 rfl (by exact Rd.field rfl F283_1 rfl rfl) ?_
    refine WL.op rfl ?_
    refine OpW.store1 rfl Z4 rfl rfl (by exact ⟨rfl, rfl⟩) Z.T (by (simp; done)) rfl ?_
    refine WL.nil ?_
    -- cut_c2 1
    obtain rfl : g = false := by simpa using hc2
    exact ⟨(), trivial, (by repeat (first | exact Sub.nil | refine Sub.cons rfl (by rfl) ?_)), Z.F⟩
   ·
    refine WC.skip ?_
    -- cut_c2 2
    obtain rfl : g = true := by simpa using hc2
    exact ⟨(), trivial, (by repeat (first | exact Sub.nil | refine Sub.cons rfl (by rfl) ?_)), Z.F⟩
  ·
   intro _ _
   have hvo := begun_ok hv
   generalize v.begun g = v0 at *
   refine Z.s1 <| Z.m1 rfl <| Z.r1 rfl (Rd.nilc rfl rfl) <| Z.r1 rfl (by exact Rd.field rfl F283_3 rfl rfl) ?_
   refine Z.r1 rfl (by exact Rd.row1 rfl C3 rfl Z.M (by rfl)) ?_
   refine Z.m1 rfl <| Z.r1 rfl (Rd.slen (ts := #[]) (ty := 0) rfl rfl Tryz.underlying9) ?_
   refine Z.r1 rfl (Rd.add rfl rfl rfl Z.W) ?_
   refine Z.r1 rfl (Rd.nilc rfl rfl) <| Z.r1 rfl (by exact Rd.field rfl F283_3 rfl rfl) ?_
   refine WL.op rfl ?_
   refine OpW.store1 rfl Z3 rfl rfl (by exact ⟨rfl, rfl⟩) Z.T (by exact of_decide_eq_true rfl) rfl ?_
   refine Z.q1 <| Z.m1 rfl <| Z.r1 rfl (Rd.nilc rfl rfl) <| Z.r1 rfl (by exact Rd.field rfl F283_2 rfl rfl) ?_
   refine Z.r1 rfl (by exact Rd.row1 rfl C9 rfl Z.M (by rfl)) ?_
   refine Z.m1 rfl <| Z.r1 rfl (Rd.scat rfl rfl rfl Z.W) ?_
   refine Z.r1 rfl (Rd.nilc rfl rfl) <| Z.r1 rfl (by exact Rd.field rfl F283_2 rfl rfl) ?_
   refine WL.op rfl ?_
   refine OpW.store1 rfl Z9 rfl rfl (by exact ⟨rfl, rfl⟩) Z.T (by exact of_decide_eq_true rfl) rfl ?_
   refine Z.n1 ?_
   refine WC.block ?_
   refine WC.pick [0] Z.P ?_
   refine WC.loop2 0 (fun (x : St8) (q : List UInt8) => []) (fun (x : St8) (q : List UInt8) => rowC b 283 (hcell x true q (n + s.length)) :: O) (fun (x : St8) (q : List UInt8) => x.Ok ∧ blocks x q = blocks v0 (r ++ s)) (fun (x : St8) (q : List UInt8) => q.length) (v0) (r ++ s) Z.L ?hinv1 (by repeat (first | exact Sub.nil | refine Sub.cons rfl (by rfl) ?_)) (fun _ h => h) ?_
   case hinv1 =>
    exact ⟨hvo, rfl⟩
   intro x q
   rintro ⟨h1, h2⟩
   refine Z.s2 <| Z.m1 rfl <| Z.r1 rfl (Rd.nilc rfl rfl) <| Z.r1 rfl (by exact Rd.field rfl F283_2 rfl rfl) ?_
   refine Z.r1 rfl (by exact Rd.row1 rfl C9 rfl Z.M (by rfl)) ?_
   refine Z.r1 rfl (Rd.slen (ts := #[]) (ty := 0) rfl rfl Tryz.underlying9) ?_
   refine Z.r1 rfl (Rd.geq rfl rfl rfl) <| Z.n1 ?_
   refine WC.ite rfl (fun hc3 => ?_) (fun hc3 => ?_)
   ·
    have hbg := blocks_ge (v := x) (r := q) Z.W
    refine WC.skip ?_
    refine thenQ.normal ?_
    refine WC.block ?_
    refine WC.seq ?_
    refine WC.drawn (O) 14 rfl mixed ?_
    refine WD.take 0 rfl Z.K Z.H rfl rfl rfl (Rd.move rfl rfl) ?_
    refine WD.take 1 rfl Z.K Z.H rfl rfl rfl (Rd.move rfl rfl) ?_
    refine WD.take 2 rfl Z.K Z.H rfl rfl rfl (Rd.nilc rfl rfl) ?_
    refine WD.take 3 rfl Z.K Z.H rfl rfl rfl ((by exact Rd.field rfl F283_0 rfl rfl)) ?_
    refine WD.take 5 rfl Z.K Z.H rfl rfl rfl (Rd.move rfl rfl) ?_
    refine WD.take 6 rfl Z.K Z.H rfl rfl rfl (Rd.nilc rfl rfl) ?_
    refine WD.take 7 rfl Z.K Z.H rfl rfl rfl ((by exact Rd.field rfl F283_2 rfl rfl)) ?_
    refine WD.two 4 8 rfl rfl Z.K rfl rfl ?_ ?_
    ·
     refine OpW.rd rfl rfl ((by exact Rd.rowS rfl G281 rfl Z.M Z.N rfl)) ?_
     refine ⟨Z.H, ?_⟩
     refine WD.one 8 rfl Z.K rfl ?_
     refine OpW.rd rfl rfl ((by exact Rd.row1 rfl C9 rfl Z.M (by rfl))) ?_
     refine ⟨Z.H, ?_⟩
     refine WD.take 9 rfl Z.K Z.H rfl rfl rfl (Rd.scut_h (hi := 64) rfl Tryz.underlying9 rfl rfl rfl Z.W) ?_
     refine WD.one 10 rfl Z.K rfl ?_
     refine OpW.call rfl rfl Z.E Z.K rfl rfl rfl ?_
     refine stateNext_spec (v := x) (s := q.take 64) hr h1 (by rw [List.length_take]; omega) ?_
     refine ⟨Z.H, ?_⟩
     refine WD.take 11 rfl Z.K Z.H rfl rfl rfl (Rd.nilc rfl rfl) ?_
     refine WD.take 12 rfl Z.K Z.H rfl rfl rfl ((by exact Rd.field rfl F283_0 rfl rfl)) ?_
     refine WD.one 13 rfl Z.K rfl ?_
     refine OpW.storeS rfl G281 rfl rfl Z.N Z.T rfl rfl Z.N rfl ?_
     refine ⟨Z.H, ?_⟩
     refine WD.done Z.K ?_
     refine thenQ.normal ?_
     refine WC.region ?_
     refine Z.m1 rfl <| Z.m1 rfl <| Z.r1 rfl (Rd.nilc rfl rfl) <| Z.r1 rfl (by exact Rd.field rfl F283_2 rfl rfl) ?_
     refine Z.r1 rfl (by exact Rd.row1 rfl C9 rfl Z.M (by rfl)) ?_
     refine Z.r1 rfl (Rd.scut_l (lo := 64) rfl Tryz.underlying9 rfl rfl rfl Z.W) ?_
     refine Z.r1 rfl (Rd.nilc rfl rfl) <| Z.r1 rfl (by exact Rd.field rfl F283_2 rfl rfl) ?_
     refine WL.op rfl ?_
     refine OpW.store1 rfl Z9 rfl rfl (by exact ⟨rfl, rfl⟩) Z.T (by (simp; done)) rfl ?_
     refine WL.nil ?_
     refine blockQ.normal ?_
     exact loopQ2.mk (nextS x (q.take 64)) (q.drop 64) ⟨nextS_ok _ _, by rw [← h2, hbg]⟩ (by rw [List.length_drop]; omega) (by repeat (first | exact Sub.nil | refine Sub.cons rfl (by rfl) ?_)) Z.F
    ·
     refine OpW.rd rfl rfl ((by exact Rd.row1 rfl C9 rfl Z.M (by rfl))) ?_
     refine ⟨Z.H, ?_⟩
     refine WD.take 9 rfl Z.K Z.H rfl rfl rfl (Rd.scut_h (hi := 64) rfl Tryz.underlying9 rfl rfl rfl Z.W) ?_
     refine WD.one 4 rfl Z.K rfl ?_
     refine OpW.rd rfl rfl ((by exact Rd.rowS rfl G281 rfl Z.M Z.N rfl)) ?_
     refine ⟨Z.H, ?_⟩
     refine WD.one 10 rfl Z.K rfl ?_
     refine OpW.call rfl rfl Z.E Z.K rfl rfl rfl ?_
     refine stateNext_spec (v := x) (s := q.take 64) hr h1 (by rw [List.length_take]; omega) ?_
     refine ⟨Z.H, ?_⟩
     refine WD.take 11 rfl Z.K Z.H rfl rfl rfl (Rd.nilc rfl rfl) ?_
     refine WD.take 12 rfl Z.K Z.H rfl rfl rfl ((by exact Rd.field rfl F283_0 rfl rfl)) ?_
     refine WD.one 13 rfl Z.K rfl ?_
     refine OpW.storeS rfl G281 rfl rfl Z.N Z.T rfl rfl Z.N rfl ?_
     refine ⟨Z.H, ?_⟩
     refine WD.done Z.K ?_
     refine thenQ.normal ?_
     refine WC.region ?_
     refine Z.m1 rfl <| Z.m1 rfl <| Z.r1 rfl (Rd.nilc rfl rfl) <| Z.r1 rfl (by exact Rd.field rfl F283_2 rfl rfl) ?_
     refine Z.r1 rfl (by exact Rd.row1 rfl C9 rfl Z.M (by rfl)) ?_
     refine Z.r1 rfl (Rd.scut_l (lo := 64) rfl Tryz.underlying9 rfl rfl rfl Z.W) ?_
     refine Z.r1 rfl (Rd.nilc rfl rfl) <| Z.r1 rfl (by exact Rd.field rfl F283_2 rfl rfl) ?_
     refine WL.op rfl ?_
     refine OpW.store1 rfl Z9 rfl rfl (by exact ⟨rfl, rfl⟩) Z.T (by (simp; done)) rfl ?_
     refine WL.nil ?_
     refine blockQ.normal ?_
     exact loopQ2.mk (nextS x (q.take 64)) (q.drop 64) ⟨nextS_ok _ _, by rw [← h2, hbg]⟩ (by rw [List.length_drop]; omega) (by repeat (first | exact Sub.nil | refine Sub.cons rfl (by rfl) ?_)) Z.F
   ·
    have hbl := blocks_lt (v := x) (r := q) Z.W
    rw [hbl] at h2
    rw [← h2] at hk
    refine WC.exit ?_
    refine thenQ.exit ?_
    refine loopQ2.exit ?_
    refine blockQ.exit ?_
    refine Ret.normal (Ret.zero Tryz.results172 ?_)
    exact hk
end Go.Proofs.YtdhcjafemebkcaaGreatDoor
namespace Go.Proofs.YtdhcjafemebkcaaGreatDoor
open Go Go.SL
def padE (n : Nat) : List UInt8 := 128 :: List.replicate ((119 - n % 64) % 64) 0
def lenB (n i : Nat) : UInt8 := UInt8.ofNat (n * 8 / 2 ^ (56 - 8 * i) % 256)
def lenE (n : Nat) : List UInt8 := (List.range 8).map (lenB n)
def St8.wl (v : St8) : List Nat := [v.a, v.b, v.c, v.d, v.e, v.f, v.g, v.h]
theorem wl_cs (v : St8) : v.cs = v.wl.map vw := rfl
def be4 (n : Nat) : List UInt8 := [UInt8.ofNat (n / 2 ^ 24 % 256), UInt8.ofNat (n / 2 ^ 16 % 256), UInt8.ofNat (n / 2 ^ 8 % 256), UInt8.ofNat (n % 256)]
def digestS (v : St8) : List UInt8 := v.wl.flatMap be4
def finS (v : St8) (r : List UInt8) (n : Nat) : St8 := (blocks v (r ++ padE n ++ lenE n)).1
/-- The digest of a text. -/
def shaE (t : List UInt8) : List UInt8 := digestS (finS first8 t t.length)
/-- A Hasher that was given the text t. -/
def HashOf (v : St8) (g : Bool) (r : List UInt8) (n : Nat) (t : List UInt8) : Prop := (g = true → v.Ok) ∧ blocks first8 t = (v.begun g, r) ∧ n = t.length
theorem HashOf.new (v : St8) : HashOf v false [] 0 [] := ⟨(fun h => by cases h), blocks_lt (by decide), rfl⟩
theorem HashOf.put {v : St8} {g : Bool} {r : List UInt8} {n : Nat} {t : List UInt8} (h : HashOf v g r n t) (s : List UInt8) : HashOf (blocks (v.begun g) (r ++ s)).1 true (blocks (v.begun g) (r ++ s)).2 (n + s.length) (t ++ s) := by
 obtain ⟨h1, h2, h3⟩ := h
 have ha := blocks_append first8 t s
 rw [h2] at ha
 exact ⟨fun _ => blocks_ok _ _ (begun_ok h1), by rw [← ha]; rfl, by rw [h3, List.length_append]⟩
theorem HashOf.rest {v : St8} {g : Bool} {r : List UInt8} {n : Nat} {t : List UInt8} (h : HashOf v g r n t) : r.length < 64 ∧ r.length % 64 = n % 64 := by
 have h1 := blocks_rest first8 t
 rw [h.2.1, ← h.2.2] at h1
 exact h1
theorem HashOf.sum {v : St8} {g : Bool} {r : List UInt8} {n : Nat} {t : List UInt8} (h : HashOf v g r n t) : digestS (finS (v.begun g) r n) = shaE t := by
 have ha := blocks_append first8 t (padE n ++ lenE n)
 rw [h.2.1] at ha
 rw [shaE, finS, finS, ← h.2.2, List.append_assoc, ha, List.append_assoc]
theorem lenE_length (n : Nat) : (lenE n).length = 8 := by simp [lenE]
theorem len_step {n i : Nat} (hi : i < 7) : (n / 2 ^ (56 - 8 * i) * 8 % 256) ||| (n / 2 ^ (48 - 8 * i) &&& 255) / 2 ^ 5 = n * 8 / 2 ^ (56 - 8 * i) % 256 := by
 obtain ⟨q, hq⟩ : ∃ q, q = n / 2 ^ (48 - 8 * i) := ⟨_, rfl⟩
 have e1 : n / 2 ^ (56 - 8 * i) = q / 256 := by
  rw [hq, Nat.div_div_eq_div_mul, show 56 - 8 * i = (48 - 8 * i) + 8 from by omega, Nat.pow_add]
 have e2 : n * 8 / 2 ^ (56 - 8 * i) = q / 32 := by
  rw [hq, Nat.div_div_eq_div_mul, show 56 - 8 * i = ((48 - 8 * i) + 5) + 3 from by omega, Nat.pow_add _ _ 3, Nat.mul_div_mul_right _ _ (by decide), Nat.pow_add]
 rw [e1, e2, ← hq, show (255 : Nat) = 2 ^ 8 - 1 from rfl, Nat.and_two_pow_sub_one_eq_mod]
 have e3 : q / 256 * 8 % 256 = 2 ^ 3 * (q / 256 % 32) := by omega
 rw [e3, ← Nat.two_pow_add_eq_or_of_lt Z.W]
 omega
theorem last_step (n : Nat) : n / 2 ^ (56 - 8 * 7) * 8 % 256 = n * 8 / 2 ^ (56 - 8 * 7) % 256 := by simp
/-- The cells of the length when i bytes of it are there. -/
def hlrow (n i : Nat) : List Value := ((List.range i).map (lenB n)).map vy ++ List.replicate (8 - i) (vy 0)
theorem lrow_set {n i : Nat} (h : i < 8) (c : UInt8) : (hlrow n i).set i (vy c) = ((List.range i).map (lenB n)).map vy ++ vy c :: List.replicate (7 - i) (vy 0) := by
 rw [hlrow, List.set_append_right _ _ (by simp), List.length_map, List.length_map, List.length_range, Nat.sub_self, show 8 - i = (7 - i) + 1 from by omega, List.replicate_succ]; rfl
theorem lrow_done {n i : Nat} (h : i < 8) : ((List.range i).map (lenB n)).map vy ++ vy (lenB n i) :: List.replicate (7 - i) (vy 0) = hlrow n (i + 1) := by
 rw [hlrow, List.range_succ, List.map_append, List.map_append, show 8 - (i + 1) = 7 - i from by omega, List.append_assoc]; rfl
theorem flat_snoc {l : List Nat} {i : Nat} (h : i < l.length) : (l.take (i + 1)).flatMap be4 = (l.take i).flatMap be4 ++ be4 l[i]! := by
 rw [List.take_add_one, get!_of_lt h, List.flatMap_append]; simp
theorem be4_length (l : List Nat) : (l.flatMap be4).length = 4 * l.length := by
 induction l with
 | nil => rfl
 | cons a l ih => rw [List.flatMap_cons, List.length_append, ih, List.length_cons]; simp [be4]; omega
theorem repeat_zero (n : Nat) : Lib.repeatL [0] n = List.replicate n 0 := by
 have := Lib.repeatL_replicate 0 1 n
 rwa [Nat.mul_one] at this
theorem byte_wrapS (n : Nat) : IntKind.u8.wrap (n : Int) = ((UInt8.ofNat (n % 256)).toNat : Int) := by
 have : (UInt8.ofNat (n % 256)).toNat = n % 256 := by simp
 rw [this]; simp only [IntKind.wrap, IntKind.signed, IntKind.bits, Bool.false_and, Bool.false_eq_true, if_false]; omega
set_option maxRecDepth 20000 in
set_option maxHeartbeats 4000000 in
theorem hsum_spec {R : List RO} {O : List Own} {POST : Value → List RO → List Own → Prop} {v : St8} {g : Bool} {r t : List UInt8} {b n : Nat} (hr : rootsR ∈ R) (hh : HashOf v g r n t) (hn : n ≤ 281474976710656)
 (hk : POST (vs (shaE t)) R (rowC b 283 (hcell v g r n) :: O)) :
 Fun Tryz.prog 173 #[.pointer (some ⟨b, 0, none⟩)] R (rowC b 283 (hcell v g r n) :: O) POST := by
 obtain ⟨hr1, hr2⟩ := hh.rest
 have hpl : (padE n).length = (119 - n % 64) % 64 + 1 := by simp [padE]
 refine Fun.enter (l := [_]) Tryz.func173 rfl Tryz.ntmps173 rfl (L0 := [(0, _)]) rfl ?_
 refine Z.s1 <| Z.a1 rfl <| Z.n1 <| Z.s2 <| Z.m1 rfl <| Z.r1 rfl (by exact Rd.peq_sn rfl Tryz.underlying347 rfl rfl) ?_
 refine Z.n1 ?_
 refine WC.cond rfl (fun hc1 => ?_) (fun hc1 => ?_)
 ·
  cases hc1
 ·
  refine WC.skip ?_
  refine thenQ.normal ?_
  refine Z.s1 <| Z.m1 rfl <| Z.r1 rfl (Rd.nilc rfl rfl) <| Z.r1 rfl (by exact Rd.rowS rfl G283 rfl Z.M Z.N rfl) ?_
  refine WL.op rfl ?_
  refine OpW.alloc rfl I283 rfl Z.N rfl rfl ?_; intro b3
  refine WL.op rfl ?_
  refine OpW.storeS rfl G283 rfl rfl Z.N Z.T rfl rfl Z.N rfl ?_
  refine Z.q1 <| Z.m1 rfl <| Z.r1 rfl (Rd.nilc rfl rfl) <| Z.r1 rfl (by exact Rd.field rfl F283_3 rfl rfl) ?_
  refine Z.r1 rfl (by exact Rd.row1 rfl C3 rfl Z.M (by rfl)) ?_
  refine Z.r1 rfl (Rd.remN (a := n) (b := 64) rfl rfl rfl rfl rfl (by decide)) ?_
  refine Z.r1 rfl (Rd.sub rfl rfl rfl Z.W) ?_
  refine WL.say 19 (u := .int .i64 ((119 - n % 64 : Nat) : Int)) rfl (by congr 1; omega) ?_
  refine Z.r1 rfl (Rd.remN (a := 119 - n % 64) (b := 64) rfl rfl rfl rfl rfl (by decide)) ?_
  refine WL.op rfl ?_
  refine OpW.call rfl rfl Z.E Z.K rfl rfl rfl ?_
  refine Fun.below (v := vs (Lib.repeatL [0] ((119 - n % 64) % 64))) (fun w => Tryz.strings_Repeat ⟨#[0]⟩ ((119 - n % 64) % 64) w Z.W (by show 1 * _ ≤ _; omega)) ?_
  rw [repeat_zero]
  refine Z.r1 rfl (Rd.scat rfl rfl rfl (by rw [List.length_replicate, List.length_singleton]; omega)) ?_
  refine WL.op rfl ?_
  refine OpW.call rfl rfl Z.E Z.K rfl rfl rfl ?_
  refine hput_spec (v := v) (g := g) (r := r) (s := padE n) hr hh.1 Z.W Z.W ?_
  obtain ⟨x, hx⟩ : ∃ x, x = blocks (v.begun g) (r ++ padE n) := ⟨_, rfl⟩
  have hxo := blocks_ok (v.begun g) (r ++ padE n) (begun_ok hh.1)
  have hxr := blocks_rest (v.begun g) (r ++ padE n)
  have hxa := blocks_append (v.begun g) (r ++ padE n) (lenE n)
  rw [← hx] at hxo hxr hxa ⊢
  refine Z.q1 ?_
  refine WL.op rfl ?_
  refine OpW.alloc rfl I350 rfl Z.N rfl rfl ?_; intro b4
  refine Z.n1 <| Z.s2 <| Z.m1 rfl <| Z.n1 ?_
  refine WC.block ?_
  refine WC.pick [24, 0, 3, 4] Z.P ?_
  refine WC.loop1 1 (fun (i : Nat) => [(24, .int .i64 (i : Int))]) (fun (i : Nat) => rowC b4 350 (hlrow n i) :: rowC b3 283 (hcell x.1 true x.2 (n + (padE n).length)) :: rowC b 283 (hcell v g r n) :: O) (fun (i : Nat) => i ≤ 8) (fun (i : Nat) => 8 - i) (0) Z.L ?hinv1 (by repeat (first | exact Sub.nil | refine Sub.cons rfl (by rfl) ?_)) (fun _ h => h) ?_
  case hinv1 =>
   exact Nat.zero_le _
  intro i
  rintro i1
  refine Z.s1 <| Z.r1 rfl (Rd.lss rfl rfl rfl) <| Z.n1 ?_
  refine WC.seq ?_
  refine WC.ite rfl (fun hc2 => ?_) (fun hc2 => ?_)
  ·
   have hml : (((List.range i).map (lenB n)).map vy).length = i := by simp
   have hll : (hlrow n i).length = 8 := by rw [hlrow, List.length_append, hml, List.length_replicate]; omega
   have hd1 := Nat.div_le_self n (2 ^ (56 - 8 * i))
   have hd2 := Nat.div_le_self n (2 ^ (48 - 8 * i))
   refine WC.skip ?_
   refine thenQ.normal ?_
   refine WC.seq ?_
   refine WC.block ?_
   refine Z.s1 <| Z.m1 rfl <| Z.a1 rfl <| Z.q1 <| Z.m1 rfl <| Z.m1 rfl <| Z.r1 rfl (Rd.nilc rfl rfl) <| Z.r1 rfl (by exact Rd.field rfl F283_3 rfl rfl) ?_
   refine Z.r1 rfl (by exact Rd.row1 rfl C3 rfl Z.M (by rfl)) ?_
   refine Z.m1 rfl <| Z.r1 rfl (Rd.mul rfl rfl rfl Z.W) ?_
   refine Z.r1 rfl (Rd.sub rfl rfl rfl Z.W) ?_
   refine Z.r1 rfl (Rd.shrN (a := n) (n := 56 - 8 * i) rfl rfl rfl rfl Z.W (by show 56 - 8 * i ≤ 64; omega)) ?_
   refine Z.r1 rfl (Rd.shlS (a := n / 2 ^ (56 - 8 * i)) (n := 3) rfl rfl rfl rfl rfl (by decide) Z.W) ?_
   refine Z.r1 rfl (Rd.convw rfl rfl Tryz.underlying5 (hS := Tryz.underlying3)) ?_
   refine WL.say 37 (u := vy (UInt8.ofNat (n / 2 ^ (56 - 8 * i) * 8 % 256))) rfl (by rw [byte_wrapS]) ?_
   refine Z.r1 rfl (by exact Rd.idxArr1 (k := i) rfl A350 rfl rfl Z.W Z.W) ?_
   refine WL.op rfl ?_
   refine OpW.store1 rfl Z5 rfl rfl (by exact ⟨rfl, rfl⟩) Z.T Z.W rfl ?_
   refine WL.heap (fun w h => by rw [lrow_set Z.W] at h; exact h) ?_
   refine Z.q1 <| Z.m1 rfl <| Z.r1 rfl (Rd.lss rfl rfl rfl) <| Z.n1 ?_
   refine WC.ite rfl (fun hc3 => ?_) (fun hc3 => ?_)
   ·
    refine WC.tail 16 mixed Z.K ?_
    refine Z.d1 rfl (Rd.move rfl rfl) <| Z.d1 rfl (by exact Rd.idxArr1 (k := i) rfl A350 rfl rfl Z.W Z.W) ?_
    refine Z.d1 rfl (Rd.row1 rfl C5 rfl Z.M (mid_get _ _ _ hml)) ?_
    refine Z.d1 rfl (Rd.move rfl rfl) <| Z.d1 rfl (Rd.nilc rfl rfl) <| Z.d1 rfl (by exact Rd.field rfl F283_3 rfl rfl) ?_
    refine Z.d1 rfl (by exact Rd.row1 rfl C3 rfl Z.M (by rfl)) ?_
    refine Z.d1 rfl (Rd.move rfl rfl) <| Z.d1 rfl (Rd.mul rfl rfl rfl Z.W) ?_
    refine Z.d1 rfl (Rd.sub rfl rfl rfl Z.W) ?_
    refine Z.d1 rfl (Rd.shrN (a := n) (n := 48 - 8 * i) rfl rfl rfl rfl Z.W (by show 48 - 8 * i ≤ 64; omega)) ?_
    refine Z.d1 rfl (Rd.andS (a := n / 2 ^ (48 - 8 * i)) (c := 255) rfl rfl rfl rfl rfl (show _ < 9223372036854775808 by omega) (by decide)) ?_
    refine Z.d1 rfl (Rd.shrN (a := n / 2 ^ (48 - 8 * i) &&& 255) (n := 5) rfl rfl rfl rfl rfl (by decide)) ?_
    have h255 : n / 2 ^ (48 - 8 * i) &&& 255 ≤ 255 := Nat.and_le_right
    refine Z.d1 rfl (Rd.conv rfl rfl Tryz.underlying5 (wrap_natU rfl (show _ < 256 by omega)) (hS := Tryz.underlying3)) ?_
    refine Z.d1 rfl (Rd.orU rfl rfl rfl rfl rfl rfl (UInt8.toNat_lt _) (show _ < 256 by omega)) ?_
    refine WS.say 55 (u := vy (lenB n i)) rfl (by
    have e : ∀ m : Nat, m < 256 → (UInt8.ofNat m).toNat = m := fun m h => by simp; omega
    rw [e _ (Nat.mod_lt _ (by decide)), len_step Z.W, lenB, vy, e _ (Nat.mod_lt _ (by decide))]) ?_
    refine Z.d1 rfl (by exact Rd.idxArr1 (k := i) rfl A350 rfl rfl Z.W Z.W) ?_
    refine WS.switch ?_
    refine WL.op rfl ?_
    refine OpW.store1 rfl Z5 rfl rfl (by exact ⟨rfl, rfl⟩) Z.T (by (simp; done)) rfl ?_
    refine WL.heap (fun w h => by rw [mid_set _ _ _ _ hml] at h; exact h) ?_
    refine WL.nil ?_
    refine blockQ.normal ?_
    refine thenQ.normal ?_
    refine WC.region ?_
    refine Z.r1 rfl (Rd.add rfl rfl rfl Z.W) ?_
    refine Z.m1 rfl ?_
    refine WL.nil ?_
    exact loopQ1.mk (i + 1) Z.W Z.W (by repeat (first | exact Sub.nil | refine Sub.cons rfl (by rfl) ?_)) (fun w h => by rw [← lrow_done Z.W]; exact Z.Fw h)
   ·
    refine WC.skip ?_
    refine blockQ.normal ?_
    refine thenQ.normal ?_
    refine WC.region ?_
    refine Z.r1 rfl (Rd.add rfl rfl rfl Z.W) ?_
    refine Z.m1 rfl ?_
    refine WL.nil ?_
    obtain rfl : i = 7 := by omega
    exact loopQ1.mk (7 + 1) Z.W Z.W (by repeat (first | exact Sub.nil | refine Sub.cons rfl (by rfl) ?_)) (fun w h => by rw [← lrow_done Z.W, lenB, ← last_step]; exact Z.Fw h)
  ·
   obtain rfl : i = 8 := by omega
   refine WC.heap (R' := R) (O' := rowC b4 350 ((lenE n).map vy) :: rowC b3 283 (hcell x.1 true x.2 (n + (padE n).length)) :: rowC b 283 (hcell v g r n) :: O) (fun w h => by
    have e : hlrow n 8 = (lenE n).map vy := by rw [hlrow, Nat.sub_self, List.replicate_zero, List.append_nil]; rfl
    rw [e] at h; exact h) ?_
   refine WC.exit ?_
   refine thenQ.exit ?_
   refine loopQ1.exit ?_
   refine blockQ.exit ?_
   refine thenQ.normal ?_
   refine Z.s1 <| Z.r1 rfl (Rd.sliceArr rfl A350 rfl (by decide)) ?_
   refine Z.r1 rfl (Rd.strOfR (bs := lenE n) rfl Tryz.underlying26 Tryz.underlying9 Tryz.underlying5 rfl Z.M rfl (lenE_length n) Z.W) ?_
   refine WL.op rfl ?_
   refine OpW.call rfl rfl Z.E Z.K rfl rfl rfl ?_
   have hlE := lenE_length n
   refine Fun.heap (R' := R) (O' := rowC b3 283 (hcell x.1 true x.2 (n + (padE n).length)) :: rowC b 283 (hcell v g r n) :: O) Z.F ?_
   refine hput_spec (v := x.1) (g := true) (r := x.2) (s := lenE n) hr (fun _ => hxo) Z.W Z.W ?_
   rw [show x.1.begun true = x.1 from rfl, hxa]
   obtain ⟨y, hy⟩ : ∃ y, y = (blocks (v.begun g) (r ++ padE n ++ lenE n)).1 := ⟨_, rfl⟩
   rw [← hy]
   have hdg : digestS y = shaE t := by rw [hy]; exact hh.sum
   refine Z.q1 ?_
   refine WL.op rfl ?_
   refine OpW.make1 (m := 0) (c := 32) rfl S26 rfl rfl rfl rfl rfl Z.W Z.W Z.W rfl rfl ?_; intro b61
   refine WL.heap (fun w h => Sat.accCap (α := UInt8) (enc := SL.one vy) (size := 1) (c := 32) Z.T (by simp) (by decide) h) ?_
   refine Z.a1 rfl <| Z.n1 <| Z.s2 <| Z.r1 rfl (by exact Rd.field rfl F283_0 rfl rfl) ?_
   refine Z.r1 rfl (Rd.rowS (ds := y.cs) rfl G281 rfl Z.M Z.N rfl) ?_
   refine Z.m1 rfl <| Z.n1 ?_
   refine WC.block ?_
   refine WC.pick [64, 6, 63] Z.P ?_
   refine WC.loop2 2 (fun (j : Nat) (u : Value) => [(64, .int .i64 (j : Int)), (6, u)]) (fun (j : Nat) (u : Value) => accC 5 1 (SL.one vy) u ((y.wl.take j).flatMap be4) :: rowC b3 283 (hcell y true (blocks (v.begun g) (r ++ padE n ++ lenE n)).2 (n + (padE n).length + (lenE n).length)) :: rowC b 283 (hcell v g r n) :: O) (fun (j : Nat) (u : Value) => j ≤ 8 ∧ OneV u) (fun (j : Nat) (u : Value) => 8 - j) (0) (.slice (some ⟨b61, 0, none⟩) 0 32) Z.L ?hinv2 (by repeat (first | exact Sub.nil | refine Sub.cons rfl (by rfl) ?_)) (fun _ h => h) ?_
   case hinv2 =>
    exact ⟨Nat.zero_le _, OneV.sl⟩
   intro j u
   rintro ⟨j1, j2⟩
   refine Z.s1 <| Z.r1 rfl (Rd.lss rfl rfl rfl) <| Z.n1 ?_
   refine WC.seq ?_
   refine WC.ite rfl (fun hc4 => ?_) (fun hc4 => ?_)
   ·
    have hyl : y.wl.length = 8 := rfl
    have hfs := flat_snoc (l := y.wl) (i := j) Z.W
    have hfl := be4_length (y.wl.take j)
    rw [List.length_take] at hfl
    refine WC.skip ?_
    refine thenQ.normal ?_
    refine WC.seq ?_
    refine WC.block ?_
    refine Z.s1 <| Z.r1 rfl (Rd.idxAgg (k := j) rfl A281 C241 rfl rfl Z.W Z.W (by rw [wl_cs, List.getElem?_map, get!_of_lt (xs := y.wl) Z.W]; rfl)) ?_
    refine Z.a1 rfl <| Z.g1 <| Z.m1 rfl <| Z.m1 rfl <| Z.r1 rfl (Rd.shrN (a := y.wl[j]!) (n := 24) rfl rfl rfl rfl rfl (by decide)) ?_
    refine Z.r1 rfl (by exact Rd.convw rfl rfl Tryz.underlying5 (hS := Tryz.underlying241)) ?_
    refine WL.say 70 (u := vy (UInt8.ofNat (y.wl[j]! / 2 ^ 24 % 256))) rfl (by rw [byte_wrapS]) ?_
    refine Z.m1 rfl <| Z.r1 rfl (Rd.shrN (a := y.wl[j]!) (n := 16) rfl rfl rfl rfl rfl (by decide)) ?_
    refine Z.r1 rfl (by exact Rd.convw rfl rfl Tryz.underlying5 (hS := Tryz.underlying241)) ?_
    refine WL.say 73 (u := vy (UInt8.ofNat (y.wl[j]! / 2 ^ 16 % 256))) rfl (by rw [byte_wrapS]) ?_
    refine Z.m1 rfl <| Z.r1 rfl (Rd.shrN (a := y.wl[j]!) (n := 8) rfl rfl rfl rfl rfl (by decide)) ?_
    refine Z.r1 rfl (by exact Rd.convw rfl rfl Tryz.underlying5 (hS := Tryz.underlying241)) ?_
    refine WL.say 76 (u := vy (UInt8.ofNat (y.wl[j]! / 2 ^ 8 % 256))) rfl (by rw [byte_wrapS]) ?_
    refine Z.m1 rfl <| Z.r1 rfl (by exact Rd.convw rfl rfl Tryz.underlying5 (hS := Tryz.underlying241)) ?_
    refine WL.say 78 (u := vy (UInt8.ofNat (y.wl[j]! % 256))) rfl (by rw [byte_wrapS]) ?_
    refine WL.op rfl ?_
    refine OpW.buildSl (ps := [(0, _), (1, _), (2, _), (3, _)]) rfl S26 Z.E rfl rfl Z.C Z.K rfl rfl rfl ?_; intro b79
    refine WL.op rfl ?_
    refine OpW.appendRow (enc := SL.one vy) rfl S26 rfl rfl Z.T Z.T (be4 y.wl[j]!) rfl (by rfl) rfl (by intro x; rfl) (by intro x; rfl) (by exact ⟨by simp only [maxLen, List.length_append, List.length_nil, List.length_cons, List.length_drop, List.length_take, List.length_map]; omega, by omega⟩) rfl rfl ?_; intro v80 hv80
    refine Z.a1 rfl ?_
    refine WL.nil ?_
    refine blockQ.normal ?_
    refine thenQ.normal ?_
    refine WC.region ?_
    refine Z.r1 rfl (Rd.add rfl rfl rfl Z.W) ?_
    refine Z.m1 rfl ?_
    refine WL.nil ?_
    exact loopQ2.mk (j + 1) v80 ⟨by omega, hv80⟩ Z.W (by repeat (first | exact Sub.nil | refine Sub.cons rfl (by rfl) ?_)) (fun w h => by rw [hfs]; exact Z.Fw h)
   ·
    obtain rfl : j = 8 := by omega
    have hfin : (y.wl.take 8).flatMap be4 = shaE t := hdg
    refine WC.heap (fun w h => by rw [hfin] at h; exact h) ?_
    refine WC.exit ?_
    refine thenQ.exit ?_
    refine loopQ2.exit ?_
    refine blockQ.exit ?_
    refine thenQ.normal ?_
    refine Z.s1 <| Z.m1 rfl <| Z.r1 rfl (by exact Rd.strOfA rfl Tryz.underlying26 Tryz.underlying9 Tryz.underlying5 rfl Z.M) ?_
    refine Z.a1 rfl <| Z.n1 ?_
    refine WC.heap (R' := R) (O' := rowC b 283 (hcell v g r n) :: O) Z.F ?_
    refine WC.ret (Ret.one Tryz.results173 rfl ?_)
    exact hk
end Go.Proofs.YtdhcjafemebkcaaGreatDoor
namespace Go.Proofs.YtdhcjafemebkcaaGreatDoor
open Go Go.SL
theorem flatten_snoc {l : List (List UInt8)} {i : Nat} (h : i < l.length) : (l.take (i + 1)).flatten = (l.take i).flatten ++ l[i]! := by
 rw [List.take_add_one, get!_of_lt h, List.flatten_append]; simp
theorem flatten_take_le (l : List (List UInt8)) (i : Nat) : (l.take i).flatten.length ≤ l.flatten.length := by
 have h : l.flatten = (l.take i).flatten ++ (l.drop i).flatten := by rw [← List.flatten_append, List.take_append_drop]
 rw [h, List.length_append]; omega
set_option maxRecDepth 20000 in
set_option maxHeartbeats 1000000 in
theorem shaSum_spec {R : List RO} {O : List Own} {POST : Value → List RO → List Own → Prop} {l : List (List UInt8)} {lv : Value} (hr : rootsR ∈ R) (hl : SlE (SL.one vs) lv l ∈ R) (hn : l.flatten.length ≤ 281474976710656)
 (hk : POST (vs (shaE l.flatten)) R O) : Fun Tryz.prog 104 #[lv] R O POST := by
 refine Fun.len hl fun hll => ?_
 refine Fun.enter (l := [_]) Tryz.func104 rfl Tryz.ntmps104 rfl (L0 := [(0, _)]) rfl ?_
 refine Z.s1 <| Z.a1 rfl <| Z.q1 ?_
 refine WL.op rfl ?_
 refine OpW.alloc rfl I283 rfl Z.N rfl rfl ?_; intro b3
 refine Z.n1 <| Z.s2 <| Z.m1 rfl <| Z.r1 rfl (by exact Rd.lenE rfl rfl Tryz.underlying27 Z.M) ?_
 refine Z.m1 rfl <| Z.n1 ?_
 refine WC.block ?_
 refine WC.pick [8, 3, 6, 7] Z.P ?_
 refine WC.loop5 1 (fun (i : Nat) (v : St8) (g : Bool) (r : List UInt8) (n : Nat) => [(8, .int .i64 (i : Int))]) (fun (i : Nat) (v : St8) (g : Bool) (r : List UInt8) (n : Nat) => rowC b3 283 (hcell v g r n) :: O) (fun (i : Nat) (v : St8) (g : Bool) (r : List UInt8) (n : Nat) => i ≤ l.length ∧ HashOf v g r n (l.take i).flatten) (fun (i : Nat) (v : St8) (g : Bool) (r : List UInt8) (n : Nat) => l.length - i) (0) (⟨0, 0, 0, 0, 0, 0, 0, 0⟩) (false) ([]) (0) Z.L ?hinv1 (by repeat (first | exact Sub.nil | refine Sub.cons rfl (by rfl) ?_)) (fun _ h => h) ?_
 case hinv1 =>
  exact ⟨Nat.zero_le _, HashOf.new _⟩
 intro i v g r n
 rintro ⟨h1, h2⟩
 refine Z.s1 <| Z.r1 rfl (Rd.lss rfl rfl rfl) <| Z.n1 ?_
 refine WC.seq ?_
 refine WC.ite rfl (fun hc1 => ?_) (fun hc1 => ?_)
 ·
  have hf := flatten_snoc (l := l) (i := i) Z.W
  have hfl := congrArg List.length hf
  rw [List.length_append] at hfl
  have hfn := flatten_take_le l (i + 1)
  have hrr := h2.rest
  have hnn : n = (l.take i).flatten.length := h2.2.2
  refine WC.skip ?_
  refine thenQ.normal ?_
  refine WC.seq ?_
  refine WC.block ?_
  refine Z.s1 <| Z.r1 rfl (by exact Rd.idx1 (k := i) rfl S27 rfl rfl Z.W Z.M Z.W) ?_
  refine Z.r1 rfl (by exact Rd.get rfl C9 rfl Z.M (by exact get!_of_lt Z.W)) ?_
  refine Z.a1 rfl <| Z.g1 <| Z.m1 rfl ?_
  refine WL.op rfl ?_
  refine OpW.call rfl rfl Z.E Z.K rfl rfl rfl ?_
  refine hput_spec hr h2.1 Z.W Z.W ?_
  refine WL.nil ?_
  refine blockQ.normal ?_
  refine thenQ.normal ?_
  refine WC.region ?_
  refine Z.r1 rfl (Rd.add rfl rfl rfl Z.W) ?_
  refine Z.m1 rfl ?_
  refine WL.nil ?_
  exact loopQ5.mk (i + 1) _ _ _ _ ⟨by omega, by rw [hf]; exact h2.put _⟩ Z.W (by repeat (first | exact Sub.nil | refine Sub.cons rfl (by rfl) ?_)) Z.F
 ·
  have hi : l.take i = l := List.take_of_length_le Z.W
  rw [hi] at h2
  have hnn : n = l.flatten.length := h2.2.2
  refine WC.exit ?_
  refine thenQ.exit ?_
  refine loopQ5.exit ?_
  refine blockQ.exit ?_
  refine thenQ.normal ?_
  refine Z.s1 ?_
  refine WL.op rfl ?_
  refine OpW.call rfl rfl Z.E Z.K rfl rfl rfl ?_
  refine hsum_spec hr h2 Z.W ?_
  refine Z.a1 rfl <| Z.n1 ?_
  refine WC.heap (R' := R) (O' := O) Z.F ?_
  refine WC.ret (Ret.one Tryz.results104 rfl ?_)
  exact hk
def digs : List UInt8 := [48, 49, 50, 51, 52, 53, 54, 55, 56, 57, 97, 98, 99, 100, 101, 102]
def dg (n : Nat) : UInt8 := digs[n]!
def val (c : UInt8) : Int := Lib.indexByte digs c
def hx (c : UInt8) : List UInt8 := [dg (c.toNat / 16), dg (c.toNat % 16)]
end Go.Proofs.YtdhcjafemebkcaaGreatDoor
namespace Go.Proofs.YtdhcjafemebkcaaGreatDoor
open Go Go.SL Go.Ex
noncomputable section
def frc {α : Type} : List Nat → (List Nat → α) → α
 | [], k => k []
 | a :: r, k => fN a fun a => frc r fun r => k (a :: r)
def st8F {α : Type} (v : St8) (k : St8 → α) : α := fN v.a fun a => fN v.b fun b => fN v.c fun c => fN v.d fun d => fN v.e fun e => fN v.f fun f => fN v.g fun g => fN v.h fun h => k ⟨a, b, c, d, e, f, g, h⟩
def blkF : Nat → St8 → List UInt8 → St8
 | 0, v, _ => v
 | f + 1, v, r => ifb (Nat.blt r.length 64) v (st8F (nextS v (r.take 64)) fun v => blkF f v (r.drop 64))
def shaN (s : List Nat) : List Nat := (digestS (blkF 64 first8 (txt s ++ padE (ln s) ++ lenE (ln s)))).map (·.toNat)
def asSt : AV → Option (List Nat)
 | .st s => some s
 | _ => none
def shaO (s : List Nat) (h : Go.Ex.Hp) : Option (AV × Go.Ex.Hp) := ifb (Nat.ble (ln s) 3000) (frc (shaN s) fun d => some (.st d, h)) none
def shaRow (len cap : Nat) (q : Ch × Go.Ex.Hp) : Option (AV × Go.Ex.Hp) := match q.1 with
 | .row _ cs => ifb (Nat.beq (ln cs) len && (Nat.ble len 1000000 && Nat.beq cap len)) (bnd (mapO asSt cs) fun ss => shaO ss.flatten q.2) none
 | _ => none
def kSha (l : List AV) (B : Bs) (h : Go.Ex.Hp) : Option (AV × Go.Ex.Hp) := match l with
 | [.sl i off len cap] => ifb (Nat.beq off 0) (bnd (h.take B i) (shaRow len cap)) none
 | _ => none
end
section
variable {ρ : Rho} {R : List RO} {O F : List Own} {B : Bs} {OB : List Own} {h h' : Go.Ex.Hp}
theorem frc_eq {α : Type} : ∀ (l : List Nat) (k : List Nat → α), frc l k = k l
 | [], _ => rfl
 | a :: r, k => by
   show fN a _ = _
   rw [fN_eq, frc_eq r]
theorem st8F_eq {α : Type} (v : St8) (k : St8 → α) : st8F v k = k v := by simp only [st8F, fN_eq]
theorem blkF_eq : ∀ (f : Nat) (v : St8) (r : List UInt8), r.length < 64 * (f + 1) → blkF f v r = (blocks v r).1
 | 0, v, r, h => by rw [blocks_lt Z.W]; rfl
 | f + 1, v, r, h => by
   show ifb (Nat.blt r.length 64) v (st8F (nextS v (r.take 64)) fun v => blkF f v (r.drop 64)) = _
   rw [ifb_eq, st8F_eq]
   by_cases hl : r.length < 64
   · rw [if_pos (by rw [Nat.blt_eq]; exact hl), blocks_lt hl]
   · rw [if_neg (by rw [Nat.blt_eq]; exact hl), blocks_ge hl, blkF_eq f _ _ (by rw [List.length_drop]; omega)]
theorem shaN_eq {s : List Nat} (h : s.length ≤ 3000) : shaN s = (shaE (txt s)).map (·.toNat) := by
 have hl : (txt s).length = s.length := by simp [txt]
 unfold shaN shaE finS
 rw [ln_eq, hl, blkF_eq]
 rw [List.length_append, List.length_append, hl, lenE_length]
 simp only [padE, List.length_cons, List.length_replicate]
 omega
theorem asSt_ok : ∀ {cs : List AV} {ss : List (List Nat)} {vs : List Value}, mapO asSt cs = some ss → VRs ρ cs vs → (∀ n ∈ ss.flatten, n < 256) ∧ vs = (ss.map txt).flatMap (Go.SL.one Go.SL.vs)
 | [], ss, vs, h, hv => by cases h; cases hv; exact ⟨fun n hn => absurd hn List.not_mem_nil, rfl⟩
 | a :: cs, ss, vs, h, hv => by
   obtain ⟨s, hs, h⟩ := bnd_some h
   obtain ⟨t, ht, h⟩ := bnd_some (x := mapO asSt cs) h
   cases h
   cases hv with
   | cons hv hr =>
     obtain ⟨h1, rfl⟩ := asSt_ok ht hr
     unfold asSt at hs
     split at hs
     · cases hs
       cases hv with
       | st hlt =>
         refine ⟨fun n hn => ?_, rfl⟩
         rw [List.flatten_cons] at hn
         rcases List.mem_append.1 hn with hn | hn
         · exact hlt n hn
         · exact h1 n hn
     · cases hs
theorem txt_flat (ss : List (List Nat)) : (ss.map txt).flatten = txt ss.flatten := by
 rw [txt, List.map_flatten]
theorem kSha_ok (ht : rootsR ∈ R) : KOne Tryz.prog R 104 kSha := by
 intro args B h q hq
 unfold kSha at hq
 split at hq
 · rename_i i off len cap
   obtain ⟨ho, hq⟩ := ifb_none hq
   obtain rfl := beqN ho
   obtain ⟨p, hp, hq⟩ := bnd_some hq
   obtain ⟨ch, h1⟩ := p
   have hnx := take_nx hp
   unfold shaRow at hq
   split at hq
   · rename_i t cs heq
     have heq : ch = .row t cs := heq
     subst heq
     obtain ⟨hc, hq2⟩ := ifb_none hq
     clear hq
     obtain ⟨hc1, hc2⟩ := and2 hc
     obtain ⟨hc3, hc2⟩ := and2 hc2
     have hc1 := beqN hc1
     obtain rfl := beqN hc2
     have hcm : cap ≤ 9223372036854775807 := Nat.le_trans (Nat.le_of_ble_eq_true hc3) (by decide)
     rw [ln_eq] at hc1
     obtain ⟨ss, hss, hq⟩ := bnd_some hq2
     clear hq2
     obtain ⟨hlen, hq⟩ := ifb_none hq
     rw [frc_eq] at hq
     cases hq
     have hlen := Nat.le_of_ble_eq_true hlen
     rw [ln_eq] at hlen
     have hnx : h1.nx = h.nx := hnx
     refine ⟨Nat.le_of_eq hnx.symm, fun ρ OB O F vs w hvs H hN hs => .inl ⟨by kernel_rfl, ?_⟩⟩
     cases hvs with
     | cons hv1 hr =>
       cases hr
       cases hv1 with
       | sl hi hcap =>
         rename_i g
         obtain ⟨own, O', hT, hC, hH, _⟩ := H.take hp
         cases hC with
         | row hi' hv =>
           rename_i g' vs
           rw [hi] at hi'; cases hi'
           obtain ⟨hlt, rfl⟩ := asSt_ok hss hv
           have hsl : ss.length = cap := by
            have := hv.length
            rw [flat_one, List.length_map, List.length_map] at this
            omega
           have hs' := hs.perm (take_left hT F).perm
           have hs2 := Sat.shareRow (enc := Go.SL.one Go.SL.vs) (xs := ss.map txt) (m := cap) (.head _) rfl (by simp [hsl]) hcm hs'
           refine (shaSum_spec (POST := fun v2 R' O2 => v2 = Go.SL.vs (shaE (txt ss.flatten)) ∧ (∀ p ∈ R, p ∈ R') ∧ O2 = O' ++ F) (l := ss.map txt) (List.mem_cons_of_mem _ ht) List.mem_cons_self (by rw [txt_flat]; simp only [txt, List.length_map]; omega) ⟨by rw [txt_flat], fun p hp => List.mem_cons_of_mem _ hp, rfl⟩ w hs2).mono ?_
           rintro e w' ⟨v2, R', O2, rfl, ⟨rfl, hR, rfl⟩, hs3⟩
           refine ⟨_, ρ, O', rfl, ?_, ?_, hH, hs3.thin hR⟩
           · show Ext ρ ρ h.nx h1.nx
             exact Ext.refl ..
           · show VR ρ (.st (shaN ss.flatten)) _
             rw [shaN_eq hlen]
             have := VR.st (ρ := ρ) (s := (shaE (txt ss.flatten)).map (·.toNat)) (fun n hn => by
              obtain ⟨b, _, rfl⟩ := List.mem_map.1 hn
              exact UInt8.toNat_lt b)
             rwa [txt_toNat] at this
   · cases hq
 · cases hq
end
end Go.Proofs.YtdhcjafemebkcaaGreatDoor
namespace Go.Ex
open Go Go.SL
noncomputable section
def prefB : List Nat → List Nat → Bool
 | [], _ => true
 | _ :: _, [] => false
 | a :: u, b :: s => ifb (Nat.beq a b) (prefB u s) false
def idxF (u : List Nat) : List Nat → Nat → Option Nat
 | [], k => ifb (prefB u []) (some k) none
 | b :: s, k => ifb (prefB u (b :: s)) (some k) (idxF u s (k + 1))
def idxA : Option Nat → AV
 | some k => .it .i64 (Int.ofNat k)
 | none => .it .i64 (-1)
def hasA : Option Nat → AV
 | some _ => .bo true
 | none => .bo false
def kIndex (l : List AV) (_ : Bs) (h : Go.Ex.Hp) : Option (AV × Go.Ex.Hp) := match l with
 | [.st s, .st u] => ifb (Nat.ble (ln s) 1000000) (some (idxA (idxF u s 0), h)) none
 | _ => none
def cntN (c : Nat) : List Nat → Nat
 | [] => 0
 | a :: r => ifb (Nat.beq a c) (Nat.succ (cntN c r)) (cntN c r)
def kCnt (l : List AV) (_ : Bs) (h : Go.Ex.Hp) : Option (AV × Go.Ex.Hp) := match l with
 | [.st s, .it .u8 n] => bnd (toN n) fun c => ifb (Nat.blt c 256) (fN (cntN c s) fun k => some (.it .i64 (Int.ofNat k), h)) none
 | _ => none
def kContains (l : List AV) (_ : Bs) (h : Go.Ex.Hp) : Option (AV × Go.Ex.Hp) := match l with
 | [.st s, .st u] => ifb (Nat.ble (ln s) 1000000) (some (hasA (idxF u s 0), h)) none
 | _ => none
end
theorem u8_of_inj {a b : Nat} (ha : a < 256) (hb : b < 256) (h : UInt8.ofNat a = UInt8.ofNat b) : a = b := by
 have := congrArg UInt8.toNat h
 rw [UInt8.toNat_ofNat', UInt8.toNat_ofNat'] at this
 omega
theorem prefB_eq : ∀ (u s : List Nat), (∀ n ∈ u, n < 256) → (∀ n ∈ s, n < 256) → prefB u s = (txt u).isPrefixOf (txt s)
 | [], s, _, _ => by cases s <;> rfl
 | _ :: _, [], _, _ => rfl
 | a :: u, b :: s, hu, hs => by
   have ih := prefB_eq u s (fun n h => hu n (List.mem_cons_of_mem _ h)) (fun n h => hs n (List.mem_cons_of_mem _ h))
   have ha := hu a List.mem_cons_self
   have hb := hs b List.mem_cons_self
   show ifb (Nat.beq a b) (prefB u s) false = (UInt8.ofNat a :: txt u).isPrefixOf (UInt8.ofNat b :: txt s)
   rw [List.isPrefixOf, ← ih, ifb_eq]
   by_cases e : a = b
   · subst e; simp
   · have e2 : ¬ UInt8.ofNat a = UInt8.ofNat b := fun h => e (u8_of_inj ha hb h)
     rw [if_neg (by rw [Nat.beq_eq]; exact e)]
     simp [e2]
def idxI : Option Nat → Int
 | some k => (k : Int)
 | none => -1
theorem idxF_add (u : List Nat) : ∀ (s : List Nat) (k : Nat), idxF u s k = (idxF u s 0).map (· + k)
 | [], k => by
   simp only [idxF, ifb_eq]
   split <;> simp
 | b :: s, k => by
   simp only [idxF, ifb_eq]
   split
   · simp
   · rw [idxF_add u s (k + 1), idxF_add u s (0 + 1), Option.map_map]
     congr 1
     funext j
     show j + (k + 1) = j + (0 + 1) + k
     omega
theorem idxF_eq (u : List Nat) (hu : ∀ n ∈ u, n < 256) : ∀ (s : List Nat), (∀ n ∈ s, n < 256) → Lib.index (txt s) (txt u) = idxI (idxF u s 0)
 | [], _ => by
   cases u with
   | nil => rfl
   | cons a u => rfl
 | b :: s, hs => by
   have ih := idxF_eq u hu s (fun n h => hs n (List.mem_cons_of_mem _ h))
   have hp := prefB_eq u (b :: s) hu hs
   show Lib.index (UInt8.ofNat b :: txt s) (txt u) = _
   rw [Lib.index, show (txt u).isPrefixOf (UInt8.ofNat b :: txt s) = prefB u (b :: s) from hp.symm, ih]
   simp only [idxF, ifb_eq]
   rw [idxF_add u s (0 + 1)]
   by_cases h : prefB u (b :: s) = true
   · rw [if_pos h, if_pos h]; rfl
   · rw [if_neg h, if_neg h]
     cases idxF u s 0 with
     | none => rfl
     | some k =>
       have : ((idxI (some k)) == (-1 : Int)) = false := by
        rw [beq_eq_false_iff_ne]
        show ¬ (k : Int) = -1
        omega
       rw [this]
       show (k : Int) + 1 = ((k + (0 + 1) : Nat) : Int)
       omega
theorem cntN_eq {c : Nat} (hc : c < 256) : ∀ {s : List Nat}, (∀ n ∈ s, n < 256) → cntN c s = Lib.countByte (txt s) (UInt8.ofNat c)
 | [], _ => rfl
 | a :: r, h => by
   have ha := h a List.mem_cons_self
   have ih := cntN_eq hc (s := r) fun n hn => h n (List.mem_cons_of_mem _ hn)
   show ifb (Nat.beq a c) (Nat.succ (cntN c r)) (cntN c r) = List.count (UInt8.ofNat c) (UInt8.ofNat a :: txt r)
   rw [List.count_cons, ifb_eq, ih]
   by_cases e : a = c
   · subst e
     rw [if_pos (by rw [Nat.beq_eq]), if_pos (by simp)]; rfl
   · rw [if_neg (by rw [Nat.beq_eq]; exact e), if_neg (by simp only [beq_iff_eq]; exact fun h2 => e (u8_of_inj ha hc h2))]; rfl
section
variable {P : Program} {R : List RO}
theorem kCnt_ok {g : Nat} {fn : Func} (hf : P.funcs[g]? = some fn) (hname : (fn.name == "runtime.NumGoroutine") = false) (hb : fn.body.isNone = true) (hn : Extern.findNext fn = none) (he : Extern.find fn = some Extern.BytealgCount.count) : KOne P R g kCnt := by
 intro args B h q hq
 unfold kCnt at hq
 split at hq
 · rename_i s n
   obtain ⟨c, hc, hq⟩ := bnd_some hq
   obtain ⟨hlt, hq⟩ := ifb_none hq
   have hlt := Nat.le_of_ble_eq_true hlt
   rw [fN_eq] at hq
   cases hq
   refine ⟨Nat.le_refl _, fun ρ OB O F vs w hvs H hN hs => .inr ?_⟩
   cases hvs with
   | cons h1 hr =>
     cases hr with
     | cons h2 hr =>
       cases hr
       cases h1 with
       | st hst =>
         cases h2
         obtain rfl := toN_some hc
         have hrun := Lib.run_countString (P := P) ⟨(txt s).toArray⟩ (c : Int) w
         have h3 := run_callFunc_extern hf hname hb hn he #[.string ⟨(txt s).toArray⟩, .int .u8 (c : Int)] w
         rw [hrun, Result.andThen_ok] at h3
         refine ⟨_, _, h3, _, ρ, O, rfl, Ext.refl .., ?_, H, hs⟩
         show VR ρ (.it .i64 (Int.ofNat (cntN c s))) _
         rw [cntN_eq (show c < 256 from hlt) hst]
         exact .it _ _
 · cases hq
end
end Go.Ex
namespace Go.Proofs.YtdhcjafemebkcaaGreatDoor
open Go Go.SL Go.Ex
/-- The library's variable holds some number. -/
def anyN (g : Nat) : RO := fun w => ∃ m, w.cell? ⟨g, 0, none⟩ = some (.int .i64 m)
section
variable {R : List RO} {O : List Own} {POST : Value → List RO → List Own → Prop}
theorem index2_spec {s sub : List UInt8} (hg : anyN 1 ∈ R) (hs : s.length < 4294967281) (hk : POST (.int .i64 (Lib.index s sub)) R O) : Fun Tryz.prog 189 #[vs s, vs sub] R O POST := fun w hw => by
 obtain ⟨m, hm⟩ := hw.read hg
 refine (Tryz.strings_Index ⟨s.toArray⟩ ⟨sub.toArray⟩ m w (by simpa [ByteArray.size] using hs) hm).mono fun e w' ⟨he, hb⟩ => ⟨_, R, O, he, hk, by rw [hb]; exact hw⟩
theorem kIndex_ok (hg : anyN 1 ∈ R) : KOne Tryz.prog R 189 kIndex := by
 refine .still Z.K fun args B h q hq => ?_
 unfold kIndex at hq
 split at hq
 · rename_i s u
   obtain ⟨hl, hq⟩ := ifb_none hq
   have hl := Nat.le_of_ble_eq_true hl
   rw [ln_eq] at hl
   cases hq
   refine ⟨rfl, fun ρ vs hvs => ?_⟩
   cases hvs with
   | cons h1 hr =>
     cases hr with
     | cons h2 hr =>
       cases hr
       cases h2 with
       | st hu =>
         cases h1 with
         | st hst =>
           refine ⟨.int .i64 (Lib.index (txt s) (txt u)), ?_, fun O => index2_spec hg (by simp [txt]; omega) ⟨rfl, rfl, rfl⟩⟩
           rw [idxF_eq u hu s hst]
           cases idxF u s 0 with
           | none => exact .it _ _
           | some k => exact .it _ _
 · cases hq
theorem contains2_spec {s sub : List UInt8} (hg : anyN 1 ∈ R) (hs : s.length < 4294967281) (hk : POST (.bool (Lib.contains s sub)) R O) : Fun Tryz.prog 222 #[vs s, vs sub] R O POST := fun w hw => by
 obtain ⟨m, hm⟩ := hw.read hg
 refine (Tryz.strings_Contains ⟨s.toArray⟩ ⟨sub.toArray⟩ m w (by simpa [ByteArray.size] using hs) hm).mono fun e w' ⟨he, hb⟩ => ⟨_, R, O, he, hk, by rw [hb]; exact hw⟩
theorem kContains_ok (hg : anyN 1 ∈ R) : KOne Tryz.prog R 222 kContains := by
 refine .still Z.K fun args B h q hq => ?_
 unfold kContains at hq
 split at hq
 · rename_i s u
   obtain ⟨hl, hq⟩ := ifb_none hq
   have hl := Nat.le_of_ble_eq_true hl
   rw [ln_eq] at hl
   cases hq
   refine ⟨rfl, fun ρ vs hvs => ?_⟩
   cases hvs with
   | cons h1 hr =>
     cases hr with
     | cons h2 hr =>
       cases hr
       cases h2 with
       | st hu =>
         cases h1 with
         | st hst =>
           refine ⟨.bool (Lib.contains (txt s) (txt u)), ?_, fun O => contains2_spec hg (by simp [txt]; omega) ⟨rfl, rfl, rfl⟩⟩
           unfold Lib.contains
           rw [idxF_eq u hu s hst]
           cases idxF u s 0 with
           | none => exact .bo _
           | some k =>
             rw [show decide (0 ≤ idxI (some k)) = true from decide_eq_true (Int.natCast_nonneg k)]
             exact .bo _
 · cases hq
end
end Go.Proofs.YtdhcjafemebkcaaGreatDoor
namespace Go.SL
open Go
section
variable {P : Program} {n : Sz} {o : Oper} {L : Env} {R : List RO} {O O' : List Own} {K : Env → List RO → List Own → Prop}
theorem Sat.setRow {b off : Nat} {e : TypeId} {cs : List Value} {v : Value} {w : World} (hs' : Sat R (rowC b e cs :: O) w) : Sat R (rowC b e (cs.set off v) :: O) (w.setCell ⟨b, off, none⟩ v) := by
 have hp : (rowC b e cs).pred w := hs'.see List.mem_cons_self
 have hlt' : b < w.heap.size := hs'.lt b (by simp [owned, rowC])
 refine hs'.update _ ⟨rfl, rfl, rfl, by simp, fun j hj hn => heap_setCell_other w _ _ v (by simpa [rowC] using hn)⟩ (by simp [rowC]) (by simpa [rowC] using hlt') (by simp [rowC]) (fun w'' ha _ => ?_)
 show w''.heap[b]? = _
 rw [ha.2.2.2.2 b (by simpa using hlt') (by simp [rowC])]
 exact setCell_row hp off v
theorem Sat.drew1 {w : World} (h : Sat R O w) : Sat R O w.drew := h.drew _
end
end Go.SL
namespace Go.Proofs.YtdhcjafemebkcaaGreatDoor
open Go Go.SL
namespace Once
theorem disable (w : World) : (callFunc 383 #[]).run Tryz.prog w = .ok (.value (.tuple #[])) w := run_call_mark0 Tryz.func383 Z.K Z.K Z.K .disable Z.K w
theorem enable (w : World) : (callFunc 385 #[]).run Tryz.prog w = .ok (.value (.tuple #[])) w := run_call_mark0 Tryz.func385 Z.K Z.K Z.K .enable Z.K w
theorem acquire (a : Addr) (w : World) : (callFunc 386 #[.pointer (some a)]).run Tryz.prog w = .ok (.value (.tuple #[])) w := run_call_marked Tryz.func386 Z.K Z.K Z.K .acquire Z.K a w
theorem releaseMerge (a : Addr) (w : World) : (callFunc 388 #[.pointer (some a)]).run Tryz.prog w = .ok (.value (.tuple #[])) w := run_call_marked Tryz.func388 Z.K Z.K Z.K .releaseMerge Z.K a w
theorem store_deferred (a : Addr) (x : Value) (u : FrameMode) (w : World) (hc : w.cell? a = some x) (hz : w.frozen? a = false) :
 CallsD Tryz.prog 364 #[.pointer (some a), .bool true] u w fun e u' w' => u' = u ∧ (e = .returned (.tuple #[]) ∧ w' = w.drew.setCell a (.int .u32 1)) := by
 have hc' : w.drew.cell? a = some x := by go_simp
 have hz' : w.drew.frozen? a = false := by go_simp
 have hst := run_call_store (P := Tryz.prog) Tryz.func375 Z.K Z.K Z.K Z.K (k := .u32) (y := 1) hc' hz'
 go_enter_d Tryz.func364, Tryz.ntmps364
 go_wp2
 go_region_calls
 all_goals (go_end0; exact ⟨rfl, rfl⟩)
set_option maxRecDepth 100000 in
theorem unlock_deferred (a : Addr) (u : FrameMode) (w : World) (hc : w.cell? a = some (.int .i32 1)) (hz : w.frozen? a = false) :
 CallsD Tryz.prog 363 #[.pointer (some a)] u w fun e u' w' => u' = u ∧ (e = .returned (.tuple #[]) ∧ w' = w.setCell a (.int .i32 0)) := by
 have hd := disable
 have he := enable
 have hr := releaseMerge
 have hadd := run_call_add (P := Tryz.prog) Tryz.func389 Z.K Z.K Z.K .i32 Z.K (y := -1) (s := 0) hc hz (by simp [go_sem]; rfl)
 have hcv := run_convert_to_unsafe (P := Tryz.prog) (src := 479) (dst := 320) Tryz.underlying479 Tryz.underlying320 Z.K hc
 go_enter_d Tryz.func363, Tryz.ntmps363
 go_wp2
 go_end0
 go_wp2
 go_end0
 exact ⟨rfl, rfl⟩
set_option maxRecDepth 100000 in
theorem lock_free (a : Addr) (w : World) (hc : w.cell? a = some (.int .i32 0)) (hz : w.frozen? a = false) :
 Calls Tryz.prog 362 #[.pointer (some a)] w fun e w' => e = .returned (.tuple #[]) ∧ w' = w.setCell a (.int .i32 1) := by
 have hd := disable
 have he := enable
 have ha := acquire
 have hcas := run_call_cas_hit (P := Tryz.prog) Tryz.func384 Z.K Z.K Z.K .i32 Z.K (y := 1) hc hz
 have hc' : (w.setCell a (.int .i32 1)).cell? a = some (.int .i32 1) := World.cell?_setCell_same w a _ hc
 have hcv := run_convert_to_unsafe (P := Tryz.prog) (src := 479) (dst := 320) Tryz.underlying479 Tryz.underlying320 Z.K hc'
 go_enter Tryz.func362, Tryz.ntmps362
 go_wp2
 first | go_end0 | (simp only [Exit.inBlock, Exit.then]; refine bodyPost_ret (results_none rfl _ _ _) rfl ?_) | refine bodyPost_ret (results_none rfl _ _ _) rfl ?_
 go_wp2
 go_end0
 exact ⟨rfl, rfl⟩
set_option maxRecDepth 100000 in
set_option maxHeartbeats 1600000 in
theorem slow_any (b off f : Nat) (fa fc : List Value) (hf : hasBody Tryz.prog f = true) (Q : World → Prop) (w : World) (h0 : w.cell? ⟨b, off, none⟩ = some (.int .u32 0)) (h1 : w.cell? ⟨b, off + 1, none⟩ = some (.int .i32 0))
 (f0 : w.frozen? ⟨b, off, none⟩ = false) (f1 : w.frozen? ⟨b, off + 1, none⟩ = false)
 (hc : Calls Tryz.prog f (fa.toArray ++ fc.toArray) (w.setCell ⟨b, off + 1, none⟩ (.int .i32 1)) fun e w' => ∃ v, e = .returned v ∧ Q w' ∧ w'.cell? ⟨b, off, none⟩ = some (.int .u32 0) ∧ w'.cell? ⟨b, off + 1, none⟩ = some (.int .i32 1) ∧ w'.frozen? ⟨b, off, none⟩ = false ∧ w'.frozen? ⟨b, off + 1, none⟩ = false) :
 Calls Tryz.prog 349 #[.pointer (some ⟨b, off, none⟩), .func (.func f) fa.toArray fc.toArray] w fun e w' => e = .returned (.tuple #[]) ∧ ∃ w2, Q w2 ∧ w' = (w2.drew.setCell ⟨b, off, none⟩ (.int .u32 1)).setCell ⟨b, off + 1, none⟩ (.int .i32 0) := by
 have hl := run_call_load (P := Tryz.prog) Tryz.func361 Z.K Z.K Z.K .u32 Z.K (w := w.setCell ⟨b, off + 1, none⟩ (.int .i32 1)) (a := ⟨b, off, none⟩) (x := 0) ((World.cell?_setCell_other _ ⟨b, off + 1, none⟩ ⟨b, off, none⟩ _ (by simp)).trans h0)
 have hnot : ∀ (x : Bool) (w : World), (Op.unary .not (.bool x)).run Tryz.prog w = .ok (.bool (!x)) w := fun _ _ => rfl
 have hcf : ∀ (args : Array Value) (w : World), (callFunc f args).run Tryz.prog w = .ok (.enter f args) w := fun args w => run_callFunc hf args w
 go_enter_defers Tryz.func349, Tryz.ntmps349
 go_wp2_with (go_at_call 362; refine (lock_free ⟨b, off + 1, none⟩ _ (by go_simp) (by go_simp)).mono ?_; rintro e w' ⟨rfl, rfl⟩)
 go_wp2
 have hc2 : Calls Tryz.prog f (fa ++ fc).toArray (w.setCell ⟨b, off + 1, none⟩ (.int .i32 1)) fun e w' => ∃ v, e = .returned v ∧ Q w' ∧ w'.cell? ⟨b, off, none⟩ = some (.int .u32 0) ∧ w'.cell? ⟨b, off + 1, none⟩ = some (.int .i32 1) ∧ w'.frozen? ⟨b, off, none⟩ = false ∧ w'.frozen? ⟨b, off + 1, none⟩ = false := by simpa using hc
 refine hc2.mono ?_
 rintro e w1 ⟨v, rfl, hQ, c0, c1, z0, z1⟩
 go_wp2
 refine leaves_cons (f := 364) (args := #[.pointer (some ⟨b, off, none⟩), .bool true]) (by simp) (by simp [go_sem]) ?_
 refine (store_deferred ⟨b, off, none⟩ (.int .u32 0) .returning _ c0 z0).mono ?_
 rintro e u' w'' ⟨rfl, rfl, rfl⟩
 refine leaves_cons (f := 363) (args := #[.pointer (some ⟨b, off + 1, none⟩)]) (by simp [settle]) (by simp [go_sem]) ?_
 refine (unlock_deferred ⟨b, off + 1, none⟩ _ _ ?_ (by simp [z1])).mono ?_
 · refine (World.cell?_setCell_other _ ⟨b, off, none⟩ ⟨b, off + 1, none⟩ _ (by simp)).trans ?_
   rw [World.cell?_drew]
   exact c1
 rintro e u' w'' ⟨rfl, rfl, rfl⟩
 simp [Leaves, settle, results, Tryz.results349]
 exact ⟨w1, hQ, rfl⟩
set_option maxRecDepth 100000 in
theorem load_at (a : Addr) (w : World) (h0 : w.cell? a = some (.int .u32 0)) : Calls Tryz.prog 348 #[.pointer (some a)] w fun e w' => e = .returned (.bool false) ∧ w = w' := by
 have hl := run_call_load (P := Tryz.prog) Tryz.func361 Z.K Z.K Z.K .u32 Z.K (w := w) (a := a) (x := 0) h0
 go_enter Tryz.func348, Tryz.ntmps348
 go_wp2
 go_ret
 simp
set_option maxRecDepth 100000 in
theorem do_run (b off f : Nat) (fa fc : List Value) (hf : hasBody Tryz.prog f = true) (Q : World → Prop) (w : World) (h0 : w.cell? ⟨b, off, none⟩ = some (.int .u32 0)) (h1 : w.cell? ⟨b, off + 1, none⟩ = some (.int .i32 0))
 (f0 : w.frozen? ⟨b, off, none⟩ = false) (f1 : w.frozen? ⟨b, off + 1, none⟩ = false)
 (hc : Calls Tryz.prog f (fa.toArray ++ fc.toArray) (w.setCell ⟨b, off + 1, none⟩ (.int .i32 1)) fun e w' => ∃ v, e = .returned v ∧ Q w' ∧ w'.cell? ⟨b, off, none⟩ = some (.int .u32 0) ∧ w'.cell? ⟨b, off + 1, none⟩ = some (.int .i32 1) ∧ w'.frozen? ⟨b, off, none⟩ = false ∧ w'.frozen? ⟨b, off + 1, none⟩ = false) :
 Calls Tryz.prog 325 #[.pointer (some ⟨b, off, none⟩), .func (.func f) fa.toArray fc.toArray] w fun e w' => e = .returned (.tuple #[]) ∧ ∃ w2, Q w2 ∧ w' = (w2.drew.setCell ⟨b, off, none⟩ (.int .u32 1)).setCell ⟨b, off + 1, none⟩ (.int .i32 0) := by
 have hnot : ∀ (x : Bool) (w : World), (Op.unary .not (.bool x)).run Tryz.prog w = .ok (.bool (!x)) w := fun _ _ => rfl
 go_enter Tryz.func325, Tryz.ntmps325
 go_wp2_with (first | (go_at_call 348; refine (load_at ⟨b, off, none⟩ w h0).mono ?_; rintro e w' ⟨rfl, rfl⟩) | (go_at_call 349; refine (slow_any b off f fa fc hf Q w h0 h1 f0 f1 hc).mono ?_; rintro e w' ⟨rfl, w2, hQ, rfl⟩))
 go_end0
 exact ⟨rfl, w2, hQ, rfl⟩
set_option maxRecDepth 100000 in
theorem do_done (b off f : Nat) (fa fc : List Value) (w : World) (h0 : w.cell? ⟨b, off, none⟩ = some (.int .u32 1)) :
 Calls Tryz.prog 325 #[.pointer (some ⟨b, off, none⟩), .func (.func f) fa.toArray fc.toArray] w fun e w' => e = .returned (.tuple #[]) ∧ w' = w := by
 have hl := run_call_load (P := Tryz.prog) Tryz.func361 Z.K Z.K Z.K .u32 Z.K (w := w) (a := ⟨b, off, none⟩) (x := 1) h0
 have hnot : ∀ (x : Bool) (w : World), (Op.unary .not (.bool x)).run Tryz.prog w = .ok (.bool (!x)) w := fun _ _ => rfl
 go_enter Tryz.func325, Tryz.ntmps325
 go_wp2
 go_end0
 exact ⟨rfl, rfl⟩
end Once
theorem row_two {cs : List Value} {off : Nat} {a b : Value} {b' t : Nat} {R : List RO} {O : List Own} {w : World} (hs : Sat R (rowC b' t cs :: O) w) (h1 : off + 1 < cs.length) : Sat R (rowC b' t (Go.SL.spl cs off [a, b]) :: O) ((w.setCell ⟨b', off, none⟩ a).setCell ⟨b', off + 1, none⟩ b) := by
 rw [spl_two h1]
 exact (hs.setRow (off := off) (v := a)).setRow (off := off + 1) (v := b)
theorem once_t {R : List RO} : Go.Ex.OnceT Tryz.prog R 325 where
 body := by kernel_rfl
 done g off t f cs fa fc O w hc hs := by
  have hp : (rowC g t cs).pred w := hs.see List.mem_cons_self
  refine (Once.do_done g off f fa fc w (row_cell hp hc)).mono ?_
  rintro e w' ⟨rfl, rfl⟩
  exact ⟨rfl, hs⟩
 run g off t f cs fa fc O w Q hc0 hc1 hb hs hcall := by
  have hp : (rowC g t cs).pred w := hs.see List.mem_cons_self
  have hlt1 : off + 1 < cs.length := (List.getElem?_eq_some_iff.1 hc1).1
  have hspl : Go.SL.spl cs (off + 1) [.int .i32 1] = cs.set (off + 1) (.int .i32 1) := by
   unfold Go.SL.spl
   rw [List.set_eq_take_append_cons_drop, if_pos hlt1]
   simp
  have hs1 : Sat R (rowC g t (Go.SL.spl cs (off + 1) [.int .i32 1]) :: O) (w.setCell ⟨g, off + 1, none⟩ (.int .i32 1)) := by
   rw [hspl]; exact hs.setRow
  have hc := hcall _ hs1
  refine (Once.do_run g off f fa fc hb (fun w' => ∃ t' cs' O', cs'[off]? = some (.int .u32 0) ∧ cs'[off + 1]? = some (.int .i32 1) ∧ Q t' cs' O' ∧ Sat R (rowC g t' cs' :: O') w') w (row_cell hp hc0) (row_cell hp hc1) (row_free hp off) (row_free hp (off + 1)) ?_).mono ?_
  · have : fa.toArray ++ fc.toArray = (fa ++ fc).toArray := by simp
    rw [this]
    refine hc.mono ?_
    rintro e w' ⟨v, t', cs', O', rfl, h0, h1, hQ, hs'⟩
    have hp' : (rowC g t' cs').pred w' := hs'.see List.mem_cons_self
    exact ⟨v, rfl, ⟨t', cs', O', h0, h1, hQ, hs'⟩, row_cell hp' h0, row_cell hp' h1, row_free hp' off, row_free hp' (off + 1)⟩
  · rintro e w' ⟨rfl, w2, ⟨t', cs', O', h0, h1, hQ, hs'⟩, rfl⟩
    exact ⟨t', cs', O', rfl, hQ, row_two hs'.drew1 (List.getElem?_eq_some_iff.1 h1).1⟩
end Go.Proofs.YtdhcjafemebkcaaGreatDoor
namespace Go.Proofs.YtdhcjafemebkcaaGreatDoor
open Go Go.SL Go.Ex
noncomputable def kk_reads : List (Nat × KF) := [(89, kWriteString Tryz.prog 5 176), (90, kString 5), (74, kRepeat), (156, kCrc), (104, kSha), (311, kIdxB), (310, kCnt), (189, kIndex), (222, kContains), (210, kAtomAdd)]
noncomputable def qq_reads : List (Nat × List KQ) := [(118, [.i .i64, .s])]
noncomputable def kx_reads : Fx := { P := Tryz.prog, G := fun _ => none, K := kfind kk_reads, Q := kfind qq_reads, once := 325 }
theorem run_reads : good (runF kx_reads 100000 331 [] [] h0) = true := by kernel_rfl
section
variable {R : List RO} {O : List Own} {POST : Value → List RO → List Own → Prop}
theorem kt_reads (ht : tabR ∈ R) (hr : rootsR ∈ R) (hg : anyN 1 ∈ R) : ∀ x ∈ kk_reads, KOne Tryz.prog R x.1 x.2 := by
 intro x hx
 unfold kk_reads at hx
 rcases List.mem_cons.1 hx with rfl | hx
 · exact kWriteString_ok
 rcases List.mem_cons.1 hx with rfl | hx
 · exact kString_ok
 rcases List.mem_cons.1 hx with rfl | hx
 · exact kRepeat_ok
 rcases List.mem_cons.1 hx with rfl | hx
 · exact kCrc_ok ht
 rcases List.mem_cons.1 hx with rfl | hx
 · exact kSha_ok hr
 rcases List.mem_cons.1 hx with rfl | hx
 · exact kIdxB_ok Tryz.func311 Z.K Z.K Z.K Z.K
 rcases List.mem_cons.1 hx with rfl | hx
 · exact kCnt_ok Tryz.func310 Z.K Z.K Z.K Z.K
 rcases List.mem_cons.1 hx with rfl | hx
 · exact kIndex_ok hg
 rcases List.mem_cons.1 hx with rfl | hx
 · exact kContains_ok hg
 rcases List.mem_cons.1 hx with rfl | hx
 · exact kAtomAdd_ok Tryz.func210 Z.K Z.K Z.K Z.K
 cases hx
theorem fx_reads (ht : tabR ∈ R) (hr : rootsR ∈ R) (hg : anyN 1 ∈ R) : FxOk kx_reads R where
 q := QOk.of (qtab_ok (P := Tryz.prog) (l := qq_reads) Z.K)
 g := fun g cs h => by cases h
 k := KTab.of (P := Tryz.prog) (l := kk_reads) (kt_reads ht hr hg) rfl rfl
 mix := by kernel_rfl
 once := fun _ => once_t
theorem reads_spec (ht : tabR ∈ R) (hr : rootsR ∈ R) (hg : anyN 1 ∈ R) (hk : POST (.bool true) R O) : Fun Tryz.prog 331 #[] R O POST := trial_ok (fx_reads ht hr hg) Z.K run_reads hk
end
end Go.Proofs.YtdhcjafemebkcaaGreatDoor
namespace Go.Proofs.YtdhcjafemebkcaaGreatDoor
open Go Go.SL Go.Ex
noncomputable def kk_makes : List (Nat × KF) := [(89, kWriteString Tryz.prog 5 176), (90, kString 5), (74, kRepeat), (156, kCrc), (104, kSha), (311, kIdxB), (310, kCnt), (189, kIndex), (222, kContains), (210, kAtomAdd), (331, kTrue)]
noncomputable def qq_makes : List (Nat × List KQ) := [(118, [.i .i64, .s])]
noncomputable def kx_makes : Fx := { P := Tryz.prog, G := fun _ => none, K := kfind kk_makes, Q := kfind qq_makes, once := 325 }
theorem run_makes : good (runF kx_makes 100000 302 [] [] h0) = true := by kernel_rfl
section
variable {R : List RO} {O : List Own} {POST : Value → List RO → List Own → Prop}
theorem kt_makes (ht : tabR ∈ R) (hr : rootsR ∈ R) (hg : anyN 1 ∈ R) : ∀ x ∈ kk_makes, KOne Tryz.prog R x.1 x.2 := by
 intro x hx
 unfold kk_makes at hx
 rcases List.mem_cons.1 hx with rfl | hx
 · exact kWriteString_ok
 rcases List.mem_cons.1 hx with rfl | hx
 · exact kString_ok
 rcases List.mem_cons.1 hx with rfl | hx
 · exact kRepeat_ok
 rcases List.mem_cons.1 hx with rfl | hx
 · exact kCrc_ok ht
 rcases List.mem_cons.1 hx with rfl | hx
 · exact kSha_ok hr
 rcases List.mem_cons.1 hx with rfl | hx
 · exact kIdxB_ok Tryz.func311 Z.K Z.K Z.K Z.K
 rcases List.mem_cons.1 hx with rfl | hx
 · exact kCnt_ok Tryz.func310 Z.K Z.K Z.K Z.K
 rcases List.mem_cons.1 hx with rfl | hx
 · exact kIndex_ok hg
 rcases List.mem_cons.1 hx with rfl | hx
 · exact kContains_ok hg
 rcases List.mem_cons.1 hx with rfl | hx
 · exact kAtomAdd_ok Tryz.func210 Z.K Z.K Z.K Z.K
 rcases List.mem_cons.1 hx with rfl | hx
 · exact kTrue_ok Z.K fun O POST hk => reads_spec ht hr hg hk
 cases hx
theorem fx_makes (ht : tabR ∈ R) (hr : rootsR ∈ R) (hg : anyN 1 ∈ R) : FxOk kx_makes R where
 q := QOk.of (qtab_ok (P := Tryz.prog) (l := qq_makes) Z.K)
 g := fun g cs h => by cases h
 k := KTab.of (P := Tryz.prog) (l := kk_makes) (kt_makes ht hr hg) rfl rfl
 mix := by kernel_rfl
 once := fun _ => once_t
theorem makes_spec (ht : tabR ∈ R) (hr : rootsR ∈ R) (hg : anyN 1 ∈ R) (hk : POST (.bool true) R O) : Fun Tryz.prog 302 #[] R O POST := trial_ok (fx_makes ht hr hg) Z.K run_makes hk
end
end Go.Proofs.YtdhcjafemebkcaaGreatDoor
namespace Go.Proofs.YtdhcjafemebkcaaGreatDoor
open Go Go.SL Go.Ex
noncomputable def kk_stores : List (Nat × KF) := [(89, kWriteString Tryz.prog 5 176), (90, kString 5), (74, kRepeat), (156, kCrc), (104, kSha), (311, kIdxB), (310, kCnt), (189, kIndex), (222, kContains), (210, kAtomAdd), (331, kTrue), (302, kTrue)]
noncomputable def qq_stores : List (Nat × List KQ) := [(118, [.i .i64, .s])]
noncomputable def kx_stores : Fx := { P := Tryz.prog, G := fun _ => none, K := kfind kk_stores, Q := kfind qq_stores, once := 325 }
theorem run_stores : good (runF kx_stores 100000 253 [] [] h0) = true := by kernel_rfl
section
variable {R : List RO} {O : List Own} {POST : Value → List RO → List Own → Prop}
theorem kt_stores (ht : tabR ∈ R) (hr : rootsR ∈ R) (hg : anyN 1 ∈ R) : ∀ x ∈ kk_stores, KOne Tryz.prog R x.1 x.2 := by
 intro x hx
 unfold kk_stores at hx
 rcases List.mem_cons.1 hx with rfl | hx
 · exact kWriteString_ok
 rcases List.mem_cons.1 hx with rfl | hx
 · exact kString_ok
 rcases List.mem_cons.1 hx with rfl | hx
 · exact kRepeat_ok
 rcases List.mem_cons.1 hx with rfl | hx
 · exact kCrc_ok ht
 rcases List.mem_cons.1 hx with rfl | hx
 · exact kSha_ok hr
 rcases List.mem_cons.1 hx with rfl | hx
 · exact kIdxB_ok Tryz.func311 Z.K Z.K Z.K Z.K
 rcases List.mem_cons.1 hx with rfl | hx
 · exact kCnt_ok Tryz.func310 Z.K Z.K Z.K Z.K
 rcases List.mem_cons.1 hx with rfl | hx
 · exact kIndex_ok hg
 rcases List.mem_cons.1 hx with rfl | hx
 · exact kContains_ok hg
 rcases List.mem_cons.1 hx with rfl | hx
 · exact kAtomAdd_ok Tryz.func210 Z.K Z.K Z.K Z.K
 rcases List.mem_cons.1 hx with rfl | hx
 · exact kTrue_ok Z.K fun O POST hk => reads_spec ht hr hg hk
 rcases List.mem_cons.1 hx with rfl | hx
 · exact kTrue_ok Z.K fun O POST hk => makes_spec ht hr hg hk
 cases hx
theorem fx_stores (ht : tabR ∈ R) (hr : rootsR ∈ R) (hg : anyN 1 ∈ R) : FxOk kx_stores R where
 q := QOk.of (qtab_ok (P := Tryz.prog) (l := qq_stores) Z.K)
 g := fun g cs h => by cases h
 k := KTab.of (P := Tryz.prog) (l := kk_stores) (kt_stores ht hr hg) rfl rfl
 mix := by kernel_rfl
 once := fun _ => once_t
theorem stores_spec (ht : tabR ∈ R) (hr : rootsR ∈ R) (hg : anyN 1 ∈ R) (hk : POST (.bool true) R O) : Fun Tryz.prog 253 #[] R O POST := trial_ok (fx_stores ht hr hg) Z.K run_stores hk
end
end Go.Proofs.YtdhcjafemebkcaaGreatDoor
namespace Go.Proofs.YtdhcjafemebkcaaGreatDoor
open Go Go.SL Go.Ex
noncomputable def kk_splits : List (Nat × KF) := [(89, kWriteString Tryz.prog 5 176), (90, kString 5), (74, kRepeat), (156, kCrc), (104, kSha), (311, kIdxB), (310, kCnt), (189, kIndex), (222, kContains), (210, kAtomAdd), (331, kTrue), (302, kTrue), (253, kTrue)]
noncomputable def qq_splits : List (Nat × List KQ) := [(118, [.i .i64, .s])]
noncomputable def kx_splits : Fx := { P := Tryz.prog, G := fun _ => none, K := kfind kk_splits, Q := kfind qq_splits, once := 325 }
theorem run_splits : good (runF kx_splits 100000 186 [] [] h0) = true := by kernel_rfl
section
variable {R : List RO} {O : List Own} {POST : Value → List RO → List Own → Prop}
theorem kt_splits (ht : tabR ∈ R) (hr : rootsR ∈ R) (hg : anyN 1 ∈ R) : ∀ x ∈ kk_splits, KOne Tryz.prog R x.1 x.2 := by
 intro x hx
 unfold kk_splits at hx
 rcases List.mem_cons.1 hx with rfl | hx
 · exact kWriteString_ok
 rcases List.mem_cons.1 hx with rfl | hx
 · exact kString_ok
 rcases List.mem_cons.1 hx with rfl | hx
 · exact kRepeat_ok
 rcases List.mem_cons.1 hx with rfl | hx
 · exact kCrc_ok ht
 rcases List.mem_cons.1 hx with rfl | hx
 · exact kSha_ok hr
 rcases List.mem_cons.1 hx with rfl | hx
 · exact kIdxB_ok Tryz.func311 Z.K Z.K Z.K Z.K
 rcases List.mem_cons.1 hx with rfl | hx
 · exact kCnt_ok Tryz.func310 Z.K Z.K Z.K Z.K
 rcases List.mem_cons.1 hx with rfl | hx
 · exact kIndex_ok hg
 rcases List.mem_cons.1 hx with rfl | hx
 · exact kContains_ok hg
 rcases List.mem_cons.1 hx with rfl | hx
 · exact kAtomAdd_ok Tryz.func210 Z.K Z.K Z.K Z.K
 rcases List.mem_cons.1 hx with rfl | hx
 · exact kTrue_ok Z.K fun O POST hk => reads_spec ht hr hg hk
 rcases List.mem_cons.1 hx with rfl | hx
 · exact kTrue_ok Z.K fun O POST hk => makes_spec ht hr hg hk
 rcases List.mem_cons.1 hx with rfl | hx
 · exact kTrue_ok Z.K fun O POST hk => stores_spec ht hr hg hk
 cases hx
theorem fx_splits (ht : tabR ∈ R) (hr : rootsR ∈ R) (hg : anyN 1 ∈ R) : FxOk kx_splits R where
 q := QOk.of (qtab_ok (P := Tryz.prog) (l := qq_splits) Z.K)
 g := fun g cs h => by cases h
 k := KTab.of (P := Tryz.prog) (l := kk_splits) (kt_splits ht hr hg) rfl rfl
 mix := by kernel_rfl
 once := fun _ => once_t
theorem splits_spec (ht : tabR ∈ R) (hr : rootsR ∈ R) (hg : anyN 1 ∈ R) (hk : POST (.bool true) R O) : Fun Tryz.prog 186 #[] R O POST := trial_ok (fx_splits ht hr hg) Z.K run_splits hk
end
end Go.Proofs.YtdhcjafemebkcaaGreatDoor
namespace Go.Proofs.YtdhcjafemebkcaaGreatDoor
open Go Go.SL Go.Ex
noncomputable def kk_objects : List (Nat × KF) := [(89, kWriteString Tryz.prog 5 176), (90, kString 5), (74, kRepeat), (156, kCrc), (104, kSha), (311, kIdxB), (310, kCnt), (189, kIndex), (222, kContains), (210, kAtomAdd), (331, kTrue), (302, kTrue), (253, kTrue), (186, kTrue)]
noncomputable def qq_objects : List (Nat × List KQ) := [(118, [.i .i64, .s])]
noncomputable def kx_objects : Fx := { P := Tryz.prog, G := fun _ => none, K := kfind kk_objects, Q := kfind qq_objects, once := 325 }
theorem run_objects : good (runF kx_objects 100000 117 [] [] h0) = true := by kernel_rfl
section
variable {R : List RO} {O : List Own} {POST : Value → List RO → List Own → Prop}
theorem kt_objects (ht : tabR ∈ R) (hr : rootsR ∈ R) (hg : anyN 1 ∈ R) : ∀ x ∈ kk_objects, KOne Tryz.prog R x.1 x.2 := by
 intro x hx
 unfold kk_objects at hx
 rcases List.mem_cons.1 hx with rfl | hx
 · exact kWriteString_ok
 rcases List.mem_cons.1 hx with rfl | hx
 · exact kString_ok
 rcases List.mem_cons.1 hx with rfl | hx
 · exact kRepeat_ok
 rcases List.mem_cons.1 hx with rfl | hx
 · exact kCrc_ok ht
 rcases List.mem_cons.1 hx with rfl | hx
 · exact kSha_ok hr
 rcases List.mem_cons.1 hx with rfl | hx
 · exact kIdxB_ok Tryz.func311 Z.K Z.K Z.K Z.K
 rcases List.mem_cons.1 hx with rfl | hx
 · exact kCnt_ok Tryz.func310 Z.K Z.K Z.K Z.K
 rcases List.mem_cons.1 hx with rfl | hx
 · exact kIndex_ok hg
 rcases List.mem_cons.1 hx with rfl | hx
 · exact kContains_ok hg
 rcases List.mem_cons.1 hx with rfl | hx
 · exact kAtomAdd_ok Tryz.func210 Z.K Z.K Z.K Z.K
 rcases List.mem_cons.1 hx with rfl | hx
 · exact kTrue_ok Z.K fun O POST hk => reads_spec ht hr hg hk
 rcases List.mem_cons.1 hx with rfl | hx
 · exact kTrue_ok Z.K fun O POST hk => makes_spec ht hr hg hk
 rcases List.mem_cons.1 hx with rfl | hx
 · exact kTrue_ok Z.K fun O POST hk => stores_spec ht hr hg hk
 rcases List.mem_cons.1 hx with rfl | hx
 · exact kTrue_ok Z.K fun O POST hk => splits_spec ht hr hg hk
 cases hx
theorem fx_objects (ht : tabR ∈ R) (hr : rootsR ∈ R) (hg : anyN 1 ∈ R) : FxOk kx_objects R where
 q := QOk.of (qtab_ok (P := Tryz.prog) (l := qq_objects) Z.K)
 g := fun g cs h => by cases h
 k := KTab.of (P := Tryz.prog) (l := kk_objects) (kt_objects ht hr hg) rfl rfl
 mix := by kernel_rfl
 once := fun _ => once_t
theorem objects_spec (ht : tabR ∈ R) (hr : rootsR ∈ R) (hg : anyN 1 ∈ R) (hk : POST (.bool true) R O) : Fun Tryz.prog 117 #[] R O POST := trial_ok (fx_objects ht hr hg) Z.K run_objects hk
end
end Go.Proofs.YtdhcjafemebkcaaGreatDoor
namespace Go.Proofs.YtdhcjafemebkcaaGreatDoor
open Go Go.SL Go.Ex
noncomputable def kk_lies : List (Nat × KF) := [(89, kWriteString Tryz.prog 5 176), (90, kString 5), (74, kRepeat), (156, kCrc), (104, kSha), (311, kIdxB), (310, kCnt), (189, kIndex), (222, kContains), (210, kAtomAdd), (331, kTrue), (302, kTrue), (253, kTrue), (186, kTrue), (117, kTrue)]
noncomputable def qq_lies : List (Nat × List KQ) := [(118, [.i .i64, .s])]
noncomputable def kx_lies : Fx := { P := Tryz.prog, G := fun _ => none, K := kfind kk_lies, Q := kfind qq_lies, once := 325 }
theorem run_lies : good (runF kx_lies 100000 66 [] [] h0) = true := by kernel_rfl
section
variable {R : List RO} {O : List Own} {POST : Value → List RO → List Own → Prop}
theorem kt_lies (ht : tabR ∈ R) (hr : rootsR ∈ R) (hg : anyN 1 ∈ R) : ∀ x ∈ kk_lies, KOne Tryz.prog R x.1 x.2 := by
 intro x hx
 unfold kk_lies at hx
 rcases List.mem_cons.1 hx with rfl | hx
 · exact kWriteString_ok
 rcases List.mem_cons.1 hx with rfl | hx
 · exact kString_ok
 rcases List.mem_cons.1 hx with rfl | hx
 · exact kRepeat_ok
 rcases List.mem_cons.1 hx with rfl | hx
 · exact kCrc_ok ht
 rcases List.mem_cons.1 hx with rfl | hx
 · exact kSha_ok hr
 rcases List.mem_cons.1 hx with rfl | hx
 · exact kIdxB_ok Tryz.func311 Z.K Z.K Z.K Z.K
 rcases List.mem_cons.1 hx with rfl | hx
 · exact kCnt_ok Tryz.func310 Z.K Z.K Z.K Z.K
 rcases List.mem_cons.1 hx with rfl | hx
 · exact kIndex_ok hg
 rcases List.mem_cons.1 hx with rfl | hx
 · exact kContains_ok hg
 rcases List.mem_cons.1 hx with rfl | hx
 · exact kAtomAdd_ok Tryz.func210 Z.K Z.K Z.K Z.K
 rcases List.mem_cons.1 hx with rfl | hx
 · exact kTrue_ok Z.K fun O POST hk => reads_spec ht hr hg hk
 rcases List.mem_cons.1 hx with rfl | hx
 · exact kTrue_ok Z.K fun O POST hk => makes_spec ht hr hg hk
 rcases List.mem_cons.1 hx with rfl | hx
 · exact kTrue_ok Z.K fun O POST hk => stores_spec ht hr hg hk
 rcases List.mem_cons.1 hx with rfl | hx
 · exact kTrue_ok Z.K fun O POST hk => splits_spec ht hr hg hk
 rcases List.mem_cons.1 hx with rfl | hx
 · exact kTrue_ok Z.K fun O POST hk => objects_spec ht hr hg hk
 cases hx
theorem fx_lies (ht : tabR ∈ R) (hr : rootsR ∈ R) (hg : anyN 1 ∈ R) : FxOk kx_lies R where
 q := QOk.of (qtab_ok (P := Tryz.prog) (l := qq_lies) Z.K)
 g := fun g cs h => by cases h
 k := KTab.of (P := Tryz.prog) (l := kk_lies) (kt_lies ht hr hg) rfl rfl
 mix := by kernel_rfl
 once := fun _ => once_t
theorem lies_spec (ht : tabR ∈ R) (hr : rootsR ∈ R) (hg : anyN 1 ∈ R) (hk : POST (.bool true) R O) : Fun Tryz.prog 66 #[] R O POST := trial_ok (fx_lies ht hr hg) Z.K run_lies hk
end
end Go.Proofs.YtdhcjafemebkcaaGreatDoor
namespace Go.Proofs.YtdhcjafemebkcaaGreatDoor
open Go Go.SL Go.Ex
noncomputable def kk_shelved : List (Nat × KF) := [(89, kWriteString Tryz.prog 5 176), (90, kString 5), (74, kRepeat), (156, kCrc), (104, kSha), (311, kIdxB), (310, kCnt), (189, kIndex), (222, kContains), (210, kAtomAdd), (331, kTrue), (302, kTrue), (253, kTrue), (186, kTrue), (117, kTrue), (66, kTrue)]
noncomputable def qq_shelved : List (Nat × List KQ) := [(118, [.i .i64, .s])]
noncomputable def kx_shelved : Fx := { P := Tryz.prog, G := fun _ => none, K := kfind kk_shelved, Q := kfind qq_shelved, once := 325 }
theorem run_shelved : good (runF kx_shelved 100000 31 [] [] h0) = true := by kernel_rfl
section
variable {R : List RO} {O : List Own} {POST : Value → List RO → List Own → Prop}
theorem kt_shelved (ht : tabR ∈ R) (hr : rootsR ∈ R) (hg : anyN 1 ∈ R) : ∀ x ∈ kk_shelved, KOne Tryz.prog R x.1 x.2 := by
 intro x hx
 unfold kk_shelved at hx
 rcases List.mem_cons.1 hx with rfl | hx
 · exact kWriteString_ok
 rcases List.mem_cons.1 hx with rfl | hx
 · exact kString_ok
 rcases List.mem_cons.1 hx with rfl | hx
 · exact kRepeat_ok
 rcases List.mem_cons.1 hx with rfl | hx
 · exact kCrc_ok ht
 rcases List.mem_cons.1 hx with rfl | hx
 · exact kSha_ok hr
 rcases List.mem_cons.1 hx with rfl | hx
 · exact kIdxB_ok Tryz.func311 Z.K Z.K Z.K Z.K
 rcases List.mem_cons.1 hx with rfl | hx
 · exact kCnt_ok Tryz.func310 Z.K Z.K Z.K Z.K
 rcases List.mem_cons.1 hx with rfl | hx
 · exact kIndex_ok hg
 rcases List.mem_cons.1 hx with rfl | hx
 · exact kContains_ok hg
 rcases List.mem_cons.1 hx with rfl | hx
 · exact kAtomAdd_ok Tryz.func210 Z.K Z.K Z.K Z.K
 rcases List.mem_cons.1 hx with rfl | hx
 · exact kTrue_ok Z.K fun O POST hk => reads_spec ht hr hg hk
 rcases List.mem_cons.1 hx with rfl | hx
 · exact kTrue_ok Z.K fun O POST hk => makes_spec ht hr hg hk
 rcases List.mem_cons.1 hx with rfl | hx
 · exact kTrue_ok Z.K fun O POST hk => stores_spec ht hr hg hk
 rcases List.mem_cons.1 hx with rfl | hx
 · exact kTrue_ok Z.K fun O POST hk => splits_spec ht hr hg hk
 rcases List.mem_cons.1 hx with rfl | hx
 · exact kTrue_ok Z.K fun O POST hk => objects_spec ht hr hg hk
 rcases List.mem_cons.1 hx with rfl | hx
 · exact kTrue_ok Z.K fun O POST hk => lies_spec ht hr hg hk
 cases hx
theorem fx_shelved (ht : tabR ∈ R) (hr : rootsR ∈ R) (hg : anyN 1 ∈ R) : FxOk kx_shelved R where
 q := QOk.of (qtab_ok (P := Tryz.prog) (l := qq_shelved) Z.K)
 g := fun g cs h => by cases h
 k := KTab.of (P := Tryz.prog) (l := kk_shelved) (kt_shelved ht hr hg) rfl rfl
 mix := by kernel_rfl
 once := fun _ => once_t
theorem shelved_spec (ht : tabR ∈ R) (hr : rootsR ∈ R) (hg : anyN 1 ∈ R) (hk : POST (.bool true) R O) : Fun Tryz.prog 31 #[] R O POST := trial_ok (fx_shelved ht hr hg) Z.K run_shelved hk
end
end Go.Proofs.YtdhcjafemebkcaaGreatDoor
namespace Go.Proofs.YtdhcjafemebkcaaGreatDoor
open Go Go.SL Go.Ex
noncomputable def kk_refers : List (Nat × KF) := [(89, kWriteString Tryz.prog 5 176), (90, kString 5), (74, kRepeat), (156, kCrc), (104, kSha), (311, kIdxB), (310, kCnt), (189, kIndex), (222, kContains), (210, kAtomAdd), (331, kTrue), (302, kTrue), (253, kTrue), (186, kTrue), (117, kTrue), (66, kTrue), (31, kTrue)]
noncomputable def qq_refers : List (Nat × List KQ) := [(118, [.i .i64, .s])]
noncomputable def kx_refers : Fx := { P := Tryz.prog, G := fun _ => none, K := kfind kk_refers, Q := kfind qq_refers, once := 325 }
theorem run_refers : good (runF kx_refers 100000 11 [] [] h0) = true := by kernel_rfl
section
variable {R : List RO} {O : List Own} {POST : Value → List RO → List Own → Prop}
theorem kt_refers (ht : tabR ∈ R) (hr : rootsR ∈ R) (hg : anyN 1 ∈ R) : ∀ x ∈ kk_refers, KOne Tryz.prog R x.1 x.2 := by
 intro x hx
 unfold kk_refers at hx
 rcases List.mem_cons.1 hx with rfl | hx
 · exact kWriteString_ok
 rcases List.mem_cons.1 hx with rfl | hx
 · exact kString_ok
 rcases List.mem_cons.1 hx with rfl | hx
 · exact kRepeat_ok
 rcases List.mem_cons.1 hx with rfl | hx
 · exact kCrc_ok ht
 rcases List.mem_cons.1 hx with rfl | hx
 · exact kSha_ok hr
 rcases List.mem_cons.1 hx with rfl | hx
 · exact kIdxB_ok Tryz.func311 Z.K Z.K Z.K Z.K
 rcases List.mem_cons.1 hx with rfl | hx
 · exact kCnt_ok Tryz.func310 Z.K Z.K Z.K Z.K
 rcases List.mem_cons.1 hx with rfl | hx
 · exact kIndex_ok hg
 rcases List.mem_cons.1 hx with rfl | hx
 · exact kContains_ok hg
 rcases List.mem_cons.1 hx with rfl | hx
 · exact kAtomAdd_ok Tryz.func210 Z.K Z.K Z.K Z.K
 rcases List.mem_cons.1 hx with rfl | hx
 · exact kTrue_ok Z.K fun O POST hk => reads_spec ht hr hg hk
 rcases List.mem_cons.1 hx with rfl | hx
 · exact kTrue_ok Z.K fun O POST hk => makes_spec ht hr hg hk
 rcases List.mem_cons.1 hx with rfl | hx
 · exact kTrue_ok Z.K fun O POST hk => stores_spec ht hr hg hk
 rcases List.mem_cons.1 hx with rfl | hx
 · exact kTrue_ok Z.K fun O POST hk => splits_spec ht hr hg hk
 rcases List.mem_cons.1 hx with rfl | hx
 · exact kTrue_ok Z.K fun O POST hk => objects_spec ht hr hg hk
 rcases List.mem_cons.1 hx with rfl | hx
 · exact kTrue_ok Z.K fun O POST hk => lies_spec ht hr hg hk
 rcases List.mem_cons.1 hx with rfl | hx
 · exact kTrue_ok Z.K fun O POST hk => shelved_spec ht hr hg hk
 cases hx
theorem fx_refers (ht : tabR ∈ R) (hr : rootsR ∈ R) (hg : anyN 1 ∈ R) : FxOk kx_refers R where
 q := QOk.of (qtab_ok (P := Tryz.prog) (l := qq_refers) Z.K)
 g := fun g cs h => by cases h
 k := KTab.of (P := Tryz.prog) (l := kk_refers) (kt_refers ht hr hg) rfl rfl
 mix := by kernel_rfl
 once := fun _ => once_t
theorem refers_spec (ht : tabR ∈ R) (hr : rootsR ∈ R) (hg : anyN 1 ∈ R) (hk : POST (.bool true) R O) : Fun Tryz.prog 11 #[] R O POST := trial_ok (fx_refers ht hr hg) Z.K run_refers hk
end
end Go.Proofs.YtdhcjafemebkcaaGreatDoor
namespace Go.Proofs.YtdhcjafemebkcaaGreatDoor.Gr
open Go Go.SL
def L2 : List Nd := [([97], [], 0), ([98], [[97]], 0)]
def nv2 (b : Nat) : List Nv := [([97], (none, 0, 0), 0), ([98], (some ⟨b, 0, none⟩, 1, 1), 0)]
theorem nds2 {b : Nat} {w : World} (h0 : SlE (SL.one vs) nilS ([] : List T) w) (h1 : SlE (SL.one vs) (.slice (some ⟨b, 0, none⟩) 1 1) ([[97]] : List T) w) : ndsP (nv2 b) L2 w := by
 intro i hi
 rcases i with _ | _ | i
 · exact h0
 · exact h1
 · exact absurd hi (by simp [L2])
theorem nls2 {b : Nat} {i : Nat} (hi : i < L2.length) : (nv2 b)[i]!.1 = L2[i]!.1 ∧ (nv2 b)[i]!.2.2 = L2[i]!.2.2 := by
 rcases i with _ | _ | i
 · exact ⟨rfl, rfl⟩
 · exact ⟨rfl, rfl⟩
 · exact absurd hi (by simp [L2])
theorem L2_nodup : (ids L2).Nodup := by decide
theorem L2_small : ∀ n ∈ L2, n.2.1.length ≤ 100 := by decide
theorem L2_back : Back L2 := by
 intro i hi p hp
 rcases i with _ | _ | i
 · exact absurd hp List.not_mem_nil
 · exact ⟨0, by decide, (List.mem_singleton.1 hp).symm⟩
 · exact absurd hi (by simp [L2])
theorem come_2 : Come (gOf L2) [[98]] [97] := by
 refine ⟨[98], List.mem_cons_self, by decide, .step (by decide) ?_ (.refl _)⟩
 exact (pars_at L2_nodup (i := 1) (by decide)).2 List.mem_cons_self
theorem diff_x : (Ld.diffE [] [[120]]).length = 1 := by
 have h := Go.Lcs.trace_len 0 0 ([] : List T) [[120]]
 rw [Go.Lcs.lcs_nil_left] at h
 rw [Ld.diffE, List.length_map]
 simpa using h
section
variable {R : List RO} {O O' : List Own} {POST : Value → List RO → List Own → Prop}
set_option maxRecDepth 20000 in
set_option maxHeartbeats 400000 in
theorem grows_spec (ht : tabR ∈ R) (hr : rootsR ∈ R) (hx : anyN 1 ∈ R) (hk : POST (.bool true) R O) : Fun Tryz.prog 4 #[] R O POST := by
 have hc : Closed (gOf L2) := L2_back.closed L2_nodup
 have hs : Small (gOf L2) := gOf_small (by decide) L2_small
 refine Fun.enter (l := []) Tryz.func4 rfl Tryz.ntmps4 rfl (L0 := []) rfl ?_
 refine Z.s1 <| Z.a1 rfl <| Z.q1 <| Z.r1 rfl (Rd.buildN (ps := [(0, _)]) rfl Bs29 I29 rfl Z.E Z.C (by apply NFo.mk; repeat (first | exact NF.nil | apply NF.cons))) ?_
 refine WL.op rfl ?_
 refine OpW.buildSl (ps := [(0, _)]) rfl S27 Z.E rfl rfl Z.C Z.K rfl rfl rfl ?_; intro b7
 refine Z.r1 rfl (Rd.buildN (ps := [(0, _), (1, _)]) rfl Bs29 I29 rfl Z.E Z.C (by apply NFo.mk; repeat (first | exact NF.nil | apply NF.cons))) ?_
 refine WL.op rfl ?_
 refine OpW.buildSl (ps := [(0, _), (1, _)]) rfl S25 Z.E rfl rfl Z.C Z.K rfl rfl rfl ?_; intro b9
 refine WL.heap (fun w h => Sat.shareRow (b := b7) (enc := SL.one vs) (xs := [[97]]) Z.T rfl rfl (by decide) h) ?_
 refine WL.heap (fun w h => Sat.shareRow (b := b9) (enc := encN) (xs := nv2 b7) Z.T rfl rfl (by show (2 : Nat) ≤ _; decide) h) ?_
 refine WL.heap (fun w h => h.nilE (α := T) (enc := SL.one vs)) ?_
 refine WL.heap (fun w h => h.derive (q := ndsP (nv2 b7) L2) (fun w hR => nds2 (hR _ Z.M) (hR _ Z.M))) ?_
 refine WL.op rfl ?_
 refine OpW.call rfl rfl Z.E Z.K rfl rfl rfl ?_
 refine newOk_spec (L := L2) ⟨nv2 b7, Z.M, List.mem_cons_self, rfl, fun i hi => nls2 hi⟩ L2_nodup L2_back (by decide) L2_small ?_; intro gv p1 p2 p3 hone hG
 refine Z.m1 rfl <| Z.x1 rfl <| Z.x1 rfl <| Z.a1 rfl <| Z.a1 rfl <| Z.q1 ?_
 refine WL.op rfl ?_
 refine OpW.buildSl (ps := [(0, _)]) rfl S27 Z.E rfl rfl Z.C Z.K rfl rfl rfl ?_; intro b14
 refine WL.heap (fun w h => Sat.shareRow (b := b14) (enc := SL.one vs) (xs := [[120]]) Z.T rfl rfl (by decide) h) ?_
 refine WL.heap (fun w h => h.nilE (α := T) (enc := SL.one vs)) ?_
 refine WL.op rfl ?_
 refine OpW.call rfl rfl Z.E Z.K rfl rfl rfl ?_
 refine Ld.diff_spec (xs := []) (ys := [[120]]) Z.M Z.M (by decide) (by decide) ?_; intro v15
 refine Z.m1 rfl <| Z.x1 rfl <| Z.x1 rfl <| Z.a1 rfl <| Z.a1 rfl <| Z.q1 ?_
 refine WL.op rfl ?_
 refine OpW.call rfl rfl Z.E Z.K rfl rfl rfl ?_
 refine refers_spec Z.M Z.M Z.M ?_
 refine WL.say 18 (u := .bool (decide True)) rfl (by simp) ?_
 refine Z.m1 rfl ?_
 refine WL.case 19 rfl (fun hg19 => ?_) (fun hg19 => ?_)
 ·
  refine Z.y1 rfl (Rd.move rfl rfl) <| Z.y1 rfl (Rd.eql rfl rfl rfl) <| Z.r1 rfl (Rd.pick_t rfl rfl rfl) <| Z.m1 rfl ?_
  refine WL.case 23 rfl (fun hg23 => ?_) (fun hg23 => ?_)
  ·
   refine Z.y1 rfl (Rd.move rfl rfl) ?_
   refine WL.op_yes rfl rfl rfl rfl ?_
   refine OpW.call rfl rfl Z.E Z.K rfl rfl rfl ?_
   refine anc_spec (a := [97]) (b := [98]) (hG.mono (fun _ hp => by repeat (first | exact hp | refine List.mem_cons_of_mem _ ?_))) hc hs ?_
   refine WL.say 25 (u := .bool (decide True)) rfl (by rw [decide_eq_true come_2]; simp) ?_
   refine Z.r1 rfl (Rd.pick_t rfl rfl rfl) <| Z.m1 rfl ?_
   refine WL.case 27 rfl (fun hg27 => ?_) (fun hg27 => ?_)
   ·
    refine Z.y1 rfl (Rd.move rfl rfl) <| Z.y1 rfl (Rd.eql rfl rfl rfl) <| Z.r1 rfl (Rd.pick_t rfl rfl rfl) <| Z.m1 rfl ?_
    refine WL.case 31 rfl (fun hg31 => ?_) (fun hg31 => ?_)
    ·
     refine Z.y1 rfl (Rd.move rfl rfl) <| Z.y1 rfl (by exact Rd.lenE rfl rfl Tryz.underlying37 Z.M) ?_
     refine Z.y1 rfl (Rd.eql rfl rfl rfl) ?_
     refine WL.say 34 (u := .bool true) rfl (by rw [diff_x]; rfl) ?_
     refine Z.r1 rfl (Rd.pick_t rfl rfl rfl) <| Z.a1 rfl <| Z.n1 ?_
     refine WC.heap (R' := R) (O' := O) (fun w h => h.thin (fun _ hp => by repeat (first | exact hp | refine List.mem_cons_of_mem _ ?_))) ?_
     refine WC.ret (Ret.one Tryz.results4 rfl ?_)
     exact hk
    ·
     exact absurd rfl hg31
   ·
    exact absurd trivial hg27
  ·
   exact absurd rfl hg23
 ·
  exact absurd trivial hg19
end
end Go.Proofs.YtdhcjafemebkcaaGreatDoor.Gr
namespace Go.Proofs.YtdhcjafemebkcaaGreatDoor.Gr
open Go Go.SL
def encLI (x : VL) : List Value := [x.1]
def QLI (w : World) (x : VL) : Prop := SlE (SL.one vi) x.1 x.2 w
theorem elsLI : ElsW Tryz.prog 23 encLI QLI := by
 have h := elsW_slice Tryz.underlying23 (size := 1) Z.K (by decide) (elsW_int Tryz.underlying3) (fun _ => rfl)
 exact elsW_map (fun z : Value × List Int => ((z.1, z.2) : VL)) h (fun _ => rfl) (fun w a q => q.1)
theorem QLI.stable {W : World} {a : VL} (w' : World) (h : QLI W a) (ha : Agree (· ∈ owned []) W w') : QLI w' a := SlE.stable h w' ha
def MtH (na : List Nv) (ts : List Int) (i : Nat) : Prop := na.length = i ∧ ∀ j, j < i → na[j]!.1 = nmT j ∧ na[j]!.2.2 = tmT ts j
theorem MtH.next {na : List Nv} {ts : List Int} {i : Nat} {d : Option Addr × Nat × Nat} (h : MtH na ts i) : MtH (na ++ [(nmT i, d, tmT ts i)]) ts (i + 1) := by
 refine ⟨by rw [List.length_append, h.1]; rfl, fun j hj => ?_⟩
 rcases Nat.lt_or_ge j i with g | g
 · rw [getElem!_pos _ j (by rw [List.length_append, h.1]; omega), List.getElem_append_left (by rw [h.1]; exact g), ← getElem!_pos na j (by rw [h.1]; exact g)]
   exact h.2 j g
 · obtain rfl : j = i := by omega
   rw [getElem!_pos _ j (by rw [List.length_append, h.1]; simp), List.getElem_append_right (by rw [h.1]; exact Nat.le_refl _)]
   simp [h.1]
theorem nds_next {na : List Nv} {L : List Nd} {x : Nv} {n : Nd} {w : World} (hl : na.length = L.length) (h : ndsP na L w) (hx : SlE (SL.one vs) (slv x.2.1) n.2.1 w) : ndsP (na ++ [x]) (L ++ [n]) w := by
 intro i hi
 rw [List.length_append, List.length_singleton] at hi
 rcases Nat.lt_or_ge i L.length with g | g
 · rw [getElem!_pos (na ++ [x]) i (by rw [List.length_append, hl]; omega), List.getElem_append_left Z.W, ← getElem!_pos na i Z.W, getElem!_pos (L ++ [n]) i (by rw [List.length_append]; omega), List.getElem_append_left g, ← getElem!_pos L i g]
   exact h i g
 · obtain rfl : i = L.length := by omega
   rw [getElem!_pos (na ++ [x]) L.length (by rw [List.length_append, hl]; simp), List.getElem_append_right Z.W, getElem!_pos (L ++ [n]) L.length (by rw [List.length_append]; simp), List.getElem_append_right Z.W]
   simp only [hl, Nat.sub_self, List.getElem_cons_zero]
   exact hx
theorem slv_of {α : Type} {enc : α → List Value} {v : Value} {xs : List α} {w : World} (h : SlE enc v xs w) : ∃ d : Option Addr × Nat × Nat, v = .slice d.1 d.2.1 d.2.2 := by
 obtain ⟨o, c, h, _⟩ := h
 exact ⟨(o, _, c), h⟩
theorem room2 {n bytes : Nat} (h : n ≤ 100000 ∧ bytes ≤ 100000) : Room (n + 1) bytes := ⟨by show _ ≤ 9223372036854775807; omega, by have : (n + 1) * bytes ≤ 100001 * 100000 := Nat.mul_le_mul Z.W h.2; omega⟩
section
variable {R : List RO} {O O' : List Own} {POST : Value → List RO → List Own → Prop}
set_option maxRecDepth 20000 in
set_option maxHeartbeats 4000000 in
theorem history_spec {qs : List VL} {ts : List Int} {lv tv : Value} (hl : SlE encLI lv qs ∈ R) (hq : AllQ QLI qs ∈ R) (htm : SlE (SL.one vi) tv ts ∈ R) (ht : tabR ∈ R) (hr : rootsR ∈ R) (hx : anyN 1 ∈ R) (hk : POST (.bool true) R O) : Fun Tryz.prog 3 #[lv, tv] R O POST := by
 refine Fun.turn ?_
 refine Fun.len hl fun hll => ?_
 refine Fun.len htm fun htl => ?_
 refine Fun.enter (l := [_, _]) Tryz.func3 rfl Tryz.ntmps3 rfl (L0 := [(0, _), (1, _)]) rfl ?_
 refine Z.s1 <| Z.a1 rfl <| Z.n1 <| Z.s2 ?_
 refine WL.op rfl ?_
 refine OpW.call rfl rfl Z.E Z.K rfl rfl rfl ?_
 refine grows_spec ht hr hx ?_
 refine Z.r1 rfl (by exact Rd.not rfl rfl) ?_
 refine WL.say 23 (u := .bool (decide False)) rfl rfl ?_
 refine Z.n1 ?_
 refine WC.ite rfl (fun hc1 => ?_) (fun hc1 => ?_)
 ·
  exact hc1.elim
 ·
  refine WC.skip ?_
  refine thenQ.normal ?_
  refine Z.s1 <| Z.a1 rfl <| Z.n1 <| Z.s2 <| Z.a1 rfl <| Z.n1 ?_
  refine WC.block ?_
  refine WC.pick [5, 6, 0, 1] Z.P ?_
  refine WC.loop3r 2 (fun (i : Nat) (na : List Nv) (av : Value) => [(5, av), (6, vi i)]) (fun (i : Nat) (na : List Nv) (av : Value) => ndsP na (hTo qs ts i) :: R) (fun (i : Nat) (na : List Nv) (av : Value) => accC 29 3 encN av na :: O) (fun (i : Nat) (na : List Nv) (av : Value) => i ≤ qs.length ∧ i ≤ 14 ∧ MtH na ts i) (fun (i : Nat) (na : List Nv) (av : Value) => qs.length - i) (0) ([]) (nilS) Z.L ?hinv1 (by repeat (first | exact Sub.nil | refine Sub.cons rfl (by rfl) ?_)) (fun w h => by
  have h2 := Sat.accNil (e := 29) (size := 3) (enc := encN) h
  have h3 := h2.derive (q := ndsP [] (hTo qs ts 0)) (fun _ _ i hi => absurd hi (by simp [hTo]))
  exact Z.Fw h3) ?_
  case hinv1 =>
   exact ⟨Nat.zero_le _, Nat.zero_le _, rfl, fun j h => absurd h (Nat.not_lt_zero _)⟩
  intro i na av
  rintro ⟨i1, i2, i3⟩
  refine WC.seq ?_
  refine WC.pick [0, 1, 5, 6] Z.P ?_
  refine WC.val 31 (.bool (decide (i < qs.length ∧ i < 14))) ?_ ?_
  ·
   refine WC.region ?_
   refine Z.m1 rfl <| Z.m1 rfl <| Z.r1 rfl (by exact Rd.lenE rfl rfl Tryz.underlying22 Z.M) ?_
   refine Z.r1 rfl (Rd.lss rfl rfl rfl) <| Z.m1 rfl ?_
   refine WL.case 28 rfl (fun hg28 => ?_) (fun hg28 => ?_)
   ·
    refine Z.y1 rfl (Rd.move rfl rfl) <| Z.y1 rfl (Rd.lss rfl rfl rfl) <| Z.r1 rfl (Rd.pick_t rfl rfl rfl) ?_
    refine WL.nil ?_
    exact ⟨by repeat (first | exact Sub.nil | refine Sub.cons rfl (by first | rfl | (exact vb ⟨fun h => ⟨by omega, by omega⟩, fun h => by omega⟩)) ?_), by exact (fun _ h => h.thin (SubL.mem Z.S))⟩
   ·
    refine Z.o1 rfl <| Z.o1 rfl <| Z.r1 rfl (Rd.pick_f rfl rfl rfl) ?_
    refine WL.nil ?_
    exact ⟨by repeat (first | exact Sub.nil | refine Sub.cons rfl (by first | rfl | (exact vb_f Z.W)) ?_), by exact (fun _ h => h.thin (SubL.mem Z.S))⟩
  ·
   refine WC.ite rfl (fun hc2 => ?_) (fun hc2 => ?_)
   ·
    have hiq : i < qs.length := by omega
    obtain ⟨ps, hps⟩ : ∃ ps, qs[i]!.2 = ps := ⟨_, rfl⟩
    refine WC.heap (fun w h => h.weaken (p := AllQ QLI qs) (q := SlE (SL.one vi) qs[i]!.1 ps) Z.M (fun w hw => by rw [← hps]; exact hw _ (get!_mem hiq))) ?_
    refine WC.skip ?_
    refine thenQ.normal ?_
    refine WC.seq ?_
    refine WC.block ?_
    refine Z.s1 <| Z.m1 rfl <| Z.r1 rfl (Rd.mul rfl rfl rfl Z.W) ?_
    refine Z.r1 rfl (Rd.remN (a := i * 5) (b := 26) rfl rfl rfl Z.W rfl (by decide)) ?_
    refine Z.r1 rfl (Rd.add rfl rfl rfl Z.W) ?_
    refine Z.r1 rfl (by exact Rd.convw rfl rfl Tryz.underlying5 (hS := Tryz.underlying3)) ?_
    refine WL.say 38 (u := vy (UInt8.ofNat (97 + i * 5 % 26))) rfl (by rw [wrap_u8 Z.W, vy_nat Z.W]; push_cast; rfl) ?_
    refine Z.m1 rfl <| Z.r1 rfl (Rd.add rfl rfl rfl Z.W) ?_
    refine Z.r1 rfl (by exact Rd.convw rfl rfl Tryz.underlying5 (hS := Tryz.underlying3)) ?_
    refine WL.say 41 (u := vy (UInt8.ofNat (97 + i))) rfl (by rw [wrap_u8 Z.W, vy_nat Z.W]; push_cast; rfl) ?_
    refine WL.op rfl ?_
    refine OpW.buildSl (ps := [(0, _), (1, _)]) rfl S26 Z.E rfl rfl Z.C Z.K rfl rfl rfl ?_; intro b42
    refine Z.r1 rfl (Rd.strOfR (bs := nmT i) rfl Tryz.underlying26 Tryz.underlying9 Tryz.underlying5 rfl Z.M rfl rfl (by decide)) ?_
    refine Z.r1 rfl (Rd.buildN (ps := [(0, _)]) rfl Bs29 I29 rfl Z.E Z.C (by apply NFo.mk; repeat (first | exact NF.nil | apply NF.cons))) ?_
    refine WL.op rfl ?_
    refine OpW.alloc rfl I29 rfl Z.N rfl rfl ?_; intro b7
    refine WL.op rfl ?_
    refine OpW.storeS rfl G29 rfl rfl Z.N Z.T rfl rfl Z.N rfl ?_
    refine Z.n1 ?_
    refine WC.seq ?_
    refine WC.seq ?_
    refine WC.heap (fun w h => Sat.accNil (e := 9) (size := 1) (enc := SL.one vs) h) ?_
    refine WC.region ?_
    refine Z.a1 rfl <| Z.n1 ?_
    refine WC.block ?_
    refine WC.pick [8, 0, 1, 5, 6, 7] Z.P ?_
    refine WC.loop2 1 (fun (k : Nat) (pv : Value) => [(8, vi k)]) (fun (k : Nat) (pv : Value) => rowC b7 29 [vs (nmT i), pv, vi 0] :: accT pv (psT i k ps) :: accC 29 3 encN av na :: O) (fun (k : Nat) (pv : Value) => k ≤ 3 ∧ k ≤ ps.length ∧ OneV pv ∧ (i = 0 → k = 0)) (fun (k : Nat) (pv : Value) => 3 - k) (0) (nilS) Z.L ?hinv2 (by repeat (first | exact Sub.nil | refine Sub.cons rfl (by rfl) ?_)) (fun w h => by rw [psT_zero]; exact Z.Fw h) ?_
    case hinv2 =>
     exact ⟨Nat.zero_le _, Nat.zero_le _, OneV.sl, fun _ => rfl⟩
    intro k pv
    rintro ⟨j1, j2, j3, j4⟩
    refine WC.seq ?_
    refine WC.pick [0, 1, 5, 6, 7, 8] Z.P ?_
    refine WC.val 59 (.bool (decide (k < ps.length ∧ k < 3 ∧ 0 < i))) ?_ ?_
    ·
     refine WC.region ?_
     refine Z.m1 rfl <| Z.m1 rfl <| Z.m1 rfl <| Z.r1 rfl (by exact Rd.idx1 (k := i) rfl S22 rfl rfl Z.W Z.M Z.W) ?_
     refine Z.r1 rfl (by exact Rd.get rfl C23 rfl Z.M (by exact get!_of_lt Z.W)) ?_
     refine Z.r1 rfl (Rd.lenE (enc := SL.one vi) (xs := ps) rfl rfl Tryz.underlying23 Z.M) ?_
     refine Z.r1 rfl (Rd.lss rfl rfl rfl) <| Z.m1 rfl ?_
     refine WL.case 52 rfl (fun hg52 => ?_) (fun hg52 => ?_)
     ·
      refine Z.y1 rfl (Rd.move rfl rfl) <| Z.y1 rfl (Rd.lss rfl rfl rfl) <| Z.r1 rfl (Rd.pick_t rfl rfl rfl) <| Z.m1 rfl ?_
      refine WL.case 56 rfl (fun hg56 => ?_) (fun hg56 => ?_)
      ·
       refine Z.y1 rfl (Rd.move rfl rfl) <| Z.y1 rfl (Rd.gtr rfl rfl rfl) <| Z.r1 rfl (Rd.pick_t rfl rfl rfl) ?_
       refine WL.nil ?_
       exact ⟨by repeat (first | exact Sub.nil | refine Sub.cons rfl (by first | rfl | (exact vb ⟨fun h => ⟨by omega, by omega, by omega⟩, fun h => by omega⟩)) ?_), by exact (fun _ h => h.thin (SubL.mem Z.S))⟩
      ·
       refine Z.o1 rfl <| Z.o1 rfl <| Z.r1 rfl (Rd.pick_f rfl rfl rfl) ?_
       refine WL.nil ?_
       exact ⟨by repeat (first | exact Sub.nil | refine Sub.cons rfl (by first | rfl | (exact vb_f Z.W)) ?_), by exact (fun _ h => h.thin (SubL.mem Z.S))⟩
     ·
      refine Z.o1 rfl <| Z.o1 rfl <| Z.r1 rfl (Rd.pick_f rfl rfl rfl) <| Z.m1 rfl <| Z.o1 rfl <| Z.o1 rfl <| Z.r1 rfl (Rd.pick_f rfl rfl rfl) ?_
      refine WL.nil ?_
      exact ⟨by repeat (first | exact Sub.nil | refine Sub.cons rfl (by first | rfl | (exact vb_f Z.W)) ?_), by exact (fun _ h => h.thin (SubL.mem Z.S))⟩
    ·
     refine WC.ite rfl (fun hc3 => ?_) (fun hc3 => ?_)
     ·
      obtain ⟨p, hp⟩ : ∃ p, ps[k]! = p := ⟨_, rfl⟩
      have hM0 : 0 < i := by omega
      have htm := tmodT p hM0
      have hup := upT_lt (p := p) hM0
      have hpl := psT_len i k ps
      have hna := i3.1
      have hroom : Room ((psT i k ps).length + 1) 16 := room2 Z.W
      refine WC.skip ?_
      refine thenQ.normal ?_
      refine WC.seq ?_
      refine WC.block ?_
      refine WC.drawn (accC 29 3 encN av na :: O) 23 rfl mixed ?_
      refine WD.take 0 rfl Z.K Z.H rfl rfl rfl ((by exact Rd.field rfl F29_1 rfl rfl)) ?_
      refine WD.take 2 rfl Z.K Z.H rfl rfl rfl (Rd.move rfl rfl) ?_
      refine WD.take 3 rfl Z.K Z.H rfl rfl rfl (Rd.move rfl rfl) ?_
      refine WD.take 4 rfl Z.K Z.H rfl rfl rfl (Rd.move rfl rfl) ?_
      refine WD.take 5 rfl Z.K Z.H rfl rfl rfl ((by exact Rd.idx1 (k := i) rfl S22 rfl rfl Z.W Z.M Z.W)) ?_
      refine WD.take 6 rfl Z.K Z.H rfl rfl rfl ((by exact Rd.get rfl C23 rfl Z.M (by exact get!_of_lt Z.W))) ?_
      refine WD.take 7 rfl Z.K Z.H rfl rfl rfl (Rd.move rfl rfl) ?_
      refine WD.take 8 rfl Z.K Z.H rfl rfl rfl (Rd.idx1 (enc := SL.one vi) (xs := ps) (k := k) rfl S23 rfl rfl rfl Z.M Z.W) ?_
      refine WD.take 9 rfl Z.K Z.H rfl rfl rfl (Rd.get (g := vi) (xs := ps) (k := k) (a := p) rfl C3 rfl Z.M (by rw [← hp]; exact get!_of_lt Z.W)) ?_
      refine WD.take 10 rfl Z.K Z.H rfl rfl rfl (Rd.move rfl rfl) ?_
      refine WD.take 11 rfl Z.K Z.H rfl rfl rfl (Rd.remI (b := i) rfl rfl rfl rfl hM0) ?_
      refine WD.take 12 rfl Z.K Z.H rfl rfl rfl (Rd.move rfl rfl) ?_
      refine WD.take 13 rfl Z.K Z.H rfl rfl rfl (Rd.add rfl rfl rfl Z.W) ?_
      refine WD.take 14 rfl Z.K Z.H rfl rfl rfl (Rd.move rfl rfl) ?_
      refine WD.take 15 rfl Z.K Z.H rfl rfl rfl (Rd.remN (a := (p.tmod (i : Nat) + (i : Nat)).toNat) (b := i) rfl rfl rfl Z.W rfl hM0) ?_
      refine WD.say 77 (u := vi (upT i p : Nat)) rfl rfl ?_
      refine WD.take 16 rfl Z.K Z.H rfl rfl rfl ((by exact Rd.idxA (k := upT i p) rfl S25 rfl rfl Z.W Z.M Z.W)) ?_
      refine WD.take 17 rfl Z.K Z.H rfl rfl rfl ((by exact Rd.fieldA rfl F29_0 rfl Z.M Z.W)) ?_
      refine WD.take 18 rfl Z.K Z.H rfl rfl rfl (Rd.getFA (enc := encN) (size := 3) (xs := na) (k := upT i p) (f := 0) (a := na[upT i p]!) (u := vs na[upT i p]!.1) rfl C9 rfl Z.M (fun x => rfl) Z.W (get!_of_lt Z.W) rfl) ?_
      refine WD.say 80 (u := vs (nmT (upT i p))) rfl (by rw [(i3.2 _ hup).1]) ?_
      refine WD.two 1 19 rfl rfl Z.K rfl rfl ?_ ?_
      ·
       refine OpW.rd rfl rfl (Rd.row1 (b := b7) (off := 1) (u := pv) rfl C27 rfl Z.M rfl) ?_
       refine ⟨Z.H, ?_⟩
       refine WD.one 19 rfl Z.K rfl ?_
       refine OpW.buildSl (ps := [(0, _)]) rfl S27 Z.E rfl rfl Z.C Z.K rfl rfl rfl ?_; intro b81
       refine ⟨Z.H, ?_⟩
       refine WD.one 20 rfl Z.K rfl ?_
       refine OpW.appendRow (enc := SL.one vs) rfl S27 rfl rfl Z.T Z.T [nmT (upT i p)] rfl (by rfl) rfl (by intro x; rfl) (by intro x; rfl) (by assumption) rfl rfl ?_; intro v82 hv82
       refine ⟨Z.H, ?_⟩
       refine WD.take 21 rfl Z.K Z.H rfl rfl rfl ((by exact Rd.field rfl F29_1 rfl rfl)) ?_
       refine WD.one 22 rfl Z.K rfl ?_
       refine OpW.store1 rfl Z27 rfl rfl (by assumption) Z.T (by (simp; done)) rfl ?_
       refine ⟨Z.H, ?_⟩
       refine WD.done Z.K ?_
       refine blockQ.normal ?_
       refine thenQ.normal ?_
       refine WC.region ?_
       refine Z.m1 rfl <| Z.r1 rfl (Rd.add rfl rfl rfl Z.W) ?_
       refine Z.a1 rfl ?_
       refine WL.nil ?_
       exact loopQ2.mk (k + 1) v82 ⟨by omega, by omega, hv82, by omega⟩ Z.W (by repeat (first | exact Sub.nil | refine Sub.cons rfl (by rfl) ?_)) (fun w h => by rw [psT_next hM0 Z.W, hp]; exact Z.Fw h)
      ·
       refine OpW.buildSl (ps := [(0, _)]) rfl S27 Z.E rfl rfl Z.C Z.K rfl rfl rfl ?_; intro b81
       refine ⟨Z.H, ?_⟩
       refine WD.one 1 rfl Z.K rfl ?_
       refine OpW.rd rfl rfl (Rd.row1 (b := b7) (off := 1) (u := pv) rfl C27 rfl Z.M rfl) ?_
       refine ⟨Z.H, ?_⟩
       refine WD.one 20 rfl Z.K rfl ?_
       refine OpW.appendRow (enc := SL.one vs) rfl S27 rfl rfl Z.T Z.T [nmT (upT i p)] rfl (by rfl) rfl (by intro x; rfl) (by intro x; rfl) (by assumption) rfl rfl ?_; intro v82 hv82
       refine ⟨Z.H, ?_⟩
       refine WD.take 21 rfl Z.K Z.H rfl rfl rfl ((by exact Rd.field rfl F29_1 rfl rfl)) ?_
       refine WD.one 22 rfl Z.K rfl ?_
       refine OpW.store1 rfl Z27 rfl rfl (by assumption) Z.T (by (simp; done)) rfl ?_
       refine ⟨Z.H, ?_⟩
       refine WD.done Z.K ?_
       refine blockQ.normal ?_
       refine thenQ.normal ?_
       refine WC.region ?_
       refine Z.m1 rfl <| Z.r1 rfl (Rd.add rfl rfl rfl Z.W) ?_
       refine Z.a1 rfl ?_
       refine WL.nil ?_
       exact loopQ2.mk (k + 1) v82 ⟨by omega, by omega, hv82, by omega⟩ Z.W (by repeat (first | exact Sub.nil | refine Sub.cons rfl (by rfl) ?_)) (fun w h => by rw [psT_next hM0 Z.W, hp]; exact Z.Fw h)
     ·
      obtain ⟨tm, htm⟩ : ∃ tm, tm = tmT ts i := ⟨_, rfl⟩
      have hfin := psT_done (m := i) (k := k) (ps := ps) hc3 j1 j2 j4
      have hna := i3.1
      refine WC.exit ?_
      refine thenQ.exit ?_
      refine loopQ2.exit ?_
      refine blockQ.exit ?_
      refine thenQ.normal ?_
      refine WC.cut (α := Unit) (fun _ => [(0, lv), (1, tv), (5, av), (6, vi i), (7, .pointer (some ⟨b7, 0, none⟩))]) (fun _ => ndsP na (hTo qs ts i) :: R) (fun _ => rowC b7 29 [vs (nmT i), pv, vi tm] :: accT pv (psT i 3 ps) :: accC 29 3 encN av na :: O) (fun _ => True) ?_ ?_
      ·
       refine Z.s1 <| Z.m1 rfl <| Z.m1 rfl <| Z.r1 rfl (by exact Rd.lenE rfl rfl Tryz.underlying23 Z.M) ?_
       refine Z.r1 rfl (Rd.lss rfl rfl rfl) <| Z.n1 ?_
       refine WC.ite rfl (fun hc4 => ?_) (fun hc4 => ?_)
       ·
        obtain rfl : tm = ts[i]! := by rw [htm]; exact if_pos Z.W
        refine WC.region ?_
        refine Z.m1 rfl <| Z.m1 rfl <| Z.r1 rfl (by exact Rd.idx1 (k := i) rfl S23 rfl rfl Z.W Z.M Z.W) ?_
        refine Z.r1 rfl (by exact Rd.get rfl C3 rfl Z.M (by exact get!_of_lt Z.W)) ?_
        refine Z.r1 rfl (by exact Rd.field rfl F29_2 rfl rfl) ?_
        refine WL.op rfl ?_
        refine OpW.store1 rfl Z3 rfl rfl (by exact ⟨rfl, rfl⟩) Z.T (by (simp; done)) rfl ?_
        refine WL.nil ?_
        exact ⟨(), trivial, (by repeat (first | exact Sub.nil | refine Sub.cons rfl (by rfl) ?_)), (fun w h => by rw [hfin] at h; exact Z.Fw h)⟩
       ·
        obtain rfl : tm = 0 := by rw [htm]; exact if_neg Z.W
        refine WC.skip ?_
        exact ⟨(), trivial, (by repeat (first | exact Sub.nil | refine Sub.cons rfl (by rfl) ?_)), (fun w h => by rw [hfin] at h; exact Z.Fw h)⟩
      ·
       intro _ _
       refine WC.heap (fun w h => Sat.shareA (xs := psT i 3 ps) Z.T h) ?_
       refine WC.know (p := SlE (SL.one vs) pv (psT i 3 ps)) List.mem_cons_self (fun w h => slv_of h) ?_
       rintro ⟨d, rfl⟩
       have hroom : Room (na.length + 1) 48 := room2 Z.W
       refine WC.region ?_
       refine Z.m1 rfl <| Z.r1 rfl (by exact Rd.rowS rfl G29 rfl Z.M Z.N rfl) ?_
       refine WL.op rfl ?_
       refine OpW.buildSl (ps := [(0, _)]) rfl S25 Z.E rfl rfl Z.C Z.K rfl rfl rfl ?_; intro b95
       refine WL.op rfl ?_
       refine OpW.appendRow (enc := encN) rfl S25 rfl rfl Z.T Z.T [(nmT i, d, tm)] rfl (by rfl) rfl (by intro x; rfl) (by intro x; rfl) (by assumption) rfl rfl ?_; intro v96 hv96
       refine Z.a1 rfl ?_
       refine WL.nil ?_
       refine blockQ.normal ?_
       refine thenQ.normal ?_
       refine WC.region ?_
       refine Z.m1 rfl <| Z.r1 rfl (Rd.add rfl rfl rfl Z.W) ?_
       refine Z.a1 rfl ?_
       refine WL.nil ?_
       exact loopQ3.mk (i + 1) (na ++ [(nmT i, d, tm)]) v96 ⟨by omega, by omega, by rw [htm]; exact i3.next⟩ Z.W (by repeat (first | exact Sub.nil | refine Sub.cons rfl (by rfl) ?_)) (fun w h => by
       rw [hTo_next]
       have h3 := h.derive (q := ndsP (na ++ [(nmT i, d, tm)]) (hTo qs ts i ++ [hnd qs ts i])) (fun w hw => nds_next (by rw [i3.1, hTo_len]) (hw (ndsP na (hTo qs ts i)) Z.M) (by have := hw (SlE (SL.one vs) (slv d) (psT i 3 ps)) Z.M; rw [← hps] at this; exact this))
       exact Z.Fw h3)
   ·
    obtain ⟨L, hL⟩ : ∃ L, hTo qs ts i = L := ⟨_, rfl⟩
    have hn := h_nodup qs ts i2
    have hbk := h_back qs ts i
    have hle := hTo_len qs ts i
    have hsm := h_small qs ts i
    have hid : ∀ j, j < i → na[j]!.1 = (hTo qs ts i)[j]!.1 ∧ na[j]!.2.2 = (hTo qs ts i)[j]!.2.2 := fun j hj => by
     rw [hTo_get qs ts hj]
     exact i3.2 j hj
    rw [hL] at hn hbk hle hsm hid
    have hcl := hbk.closed hn
    have hcy := hbk.free hn
    have hS : Small (gOf L) := gOf_small Z.W hsm
    refine WC.heap (R' := SlE encN av na :: ndsP na L :: R) (O' := O) (fun w h => by
     rw [hL] at h
     have h3 := Sat.shareA (xs := na) Z.T h
     exact Z.Fw h3) ?_
    have hN : NLs av L (SlE encN av na :: ndsP na L :: R) na := ⟨List.mem_cons_self, List.mem_cons_of_mem _ List.mem_cons_self, by rw [i3.1, hle], fun j hj => hid j Z.W⟩
    have hnl := hN.len
    refine WC.exit ?_
    refine thenQ.exit ?_
    refine loopQ3.exit ?_
    refine blockQ.exit ?_
    refine thenQ.normal ?_
    refine Z.s1 <| Z.m1 rfl ?_
    refine WL.op rfl ?_
    refine OpW.call rfl rfl Z.E Z.K rfl rfl rfl ?_
    refine newOk_spec ⟨na, hN⟩ hn hbk Z.W hsm ?_; intro gv p1 p2 p3 hone hG
    refine Z.m1 rfl <| Z.x1 rfl <| Z.x1 rfl <| Z.a1 rfl <| Z.a1 rfl <| Z.n1 <| Z.s2 <| Z.m1 rfl <| Z.r1 rfl (Rd.neq rfl rfl rfl) <| Z.n1 ?_
    refine WC.ite rfl (fun hc5 => ?_) (fun hc5 => ?_)
    ·
     exact absurd rfl hc5
    ·
     refine WC.skip ?_
     refine thenQ.normal ?_
     refine WC.seq ?_
     refine WC.seq ?_
     have hN2 : NLs av L (p1 :: p2 :: p3 :: SlE encN av na :: ndsP na L :: R) na := hN.mono (fun _ hp => by repeat (first | exact hp | refine List.mem_cons_of_mem _ ?_))
     refine WC.region ?_
     refine Z.a1 rfl <| Z.n1 ?_
     refine WC.block ?_
     refine WC.pick [11, 5, 9] Z.P ?_
     refine WC.loop1o 1 (fun (n : Nat) => [(11, vi n)]) (fun (n : Nat) => n ≤ L.length) (fun (n : Nat) => L.length - n) (0) Z.L ?hinv3 (by repeat (first | exact Sub.nil | refine Sub.cons rfl (by rfl) ?_)) (fun _ h => h) ?_
     case hinv3 =>
      exact Nat.zero_le _
     intro n
     rintro n1
     refine Z.s2 <| Z.m1 rfl <| Z.m1 rfl <| Z.r1 rfl (hN2.rdLen rfl rfl Tryz.underlying25) <| Z.r1 rfl (Rd.lss rfl rfl rfl) <| Z.n1 ?_
     refine WC.ite rfl (fun hc6 => ?_) (fun hc6 => ?_)
     ·
      have hi : n < L.length := by omega
      obtain ⟨x, hx⟩ : ∃ x, x = L[n]!.1 := ⟨_, rfl⟩
      have hsn := hsm L[n]! (get!_mem hi)
      have hxk : x ∈ (gOf L).ks := mem_ids.2 ⟨n, hi, hx.symm⟩
      have hpx : ∀ p, p ∈ (gOf L).pars x ↔ p ∈ L[n]!.2.1 := fun p => by rw [hx]; exact pars_at hn hi
      refine WC.skip ?_
      refine thenQ.normal ?_
      refine WC.seq ?_
      refine WC.block ?_
      refine Z.s1 <| Z.m1 rfl <| Z.m1 rfl <| Z.m1 rfl <| Z.r1 rfl (hN2.rdIdx hi rfl S25 rfl rfl rfl) <| Z.r1 rfl (by exact Rd.fieldE rfl F29_0 rfl Z.M Z.W) ?_
      refine Z.r1 rfl (hN2.rdId hi rfl C9 rfl rfl) ?_
      refine WL.say 115 (u := vs x) rfl (by rw [hx]) ?_
      refine WL.op rfl ?_
      refine OpW.buildSl (ps := [(0, _)]) rfl S27 Z.E rfl rfl Z.C Z.K rfl rfl rfl ?_; intro b116
      refine WL.heap (fun w h => Sat.shareRow (enc := SL.one vs) (xs := [x]) (m := 1) Z.T rfl rfl (by decide) h) ?_
      refine WL.op rfl ?_
      refine OpW.call rfl rfl Z.E Z.K rfl rfl rfl ?_
      refine log_spec (fs := [x]) (hG.mono (fun _ hp => by repeat (first | exact hp | refine List.mem_cons_of_mem _ ?_))) hcl hS List.mem_cons_self (by simp) ?_; intro v117 out hout
      have hond := hout.nodup
      have hol : out.length ≤ 14 := by
       have h1 := nodup_len' hond.1 (l' := ids L) (fun y hy => (hond.2 y hy).mem hcl)
       have h2 : (ids L).length = L.length := List.length_map _
       omega
      have hall := kahn_all (G := gOf L) (A := Come (gOf L) [x]) (fun x h => h.mem hcl) hcy (hout.inv (J := fun _ => True) (fun _ _ _ _ => trivial) trivial).2
      obtain ⟨rest, hrest⟩ := log_head hcl hcy hxk hout
      have hop : 0 < out.length := by rw [hrest]; simp
      refine WL.heap (fun w h => Sat.shareA (xs := out) Z.T h) ?_
      refine Z.a1 rfl <| Z.q1 ?_
      refine WL.op rfl ?_
      refine OpW.makeMap vs vbl rfl rfl rfl ?_; intro b118
      refine Z.a1 rfl <| Z.n1 ?_
      refine WC.seq ?_
      refine WC.seq ?_
      refine WC.heap (R' := SlE (SL.one vs) v117 out :: p1 :: p2 :: p3 :: SlE encN av na :: ndsP na L :: R) (O' := mapC vs vbl b118 GoMap.empty :: O) Z.F ?_
      refine WC.region ?_
      refine Z.a1 rfl <| Z.n1 ?_
      refine WC.block ?_
      refine WC.pick [14, 5, 9, 11, 12, 13] Z.P ?_
      refine WC.loop2 1 (fun (k : Nat) (m : GoMap T Bool) => [(14, vi k)]) (fun (k : Nat) (m : GoMap T Bool) => mapC vs vbl b118 m :: O) (fun (k : Nat) (m : GoMap T Bool) => k ≤ out.length ∧ ∀ z, m.get z = some true ↔ z ∈ out.take k) (fun (k : Nat) (m : GoMap T Bool) => out.length - k) (0) (GoMap.empty) Z.L ?hinv4 (by repeat (first | exact Sub.nil | refine Sub.cons rfl (by rfl) ?_)) (fun _ h => h) ?_
      case hinv4 =>
       exact ⟨Nat.zero_le _, fun z => by simp⟩
      intro k m
      rintro ⟨k1, k2⟩
      refine Z.s2 <| Z.m1 rfl <| Z.m1 rfl <| Z.r1 rfl (by exact Rd.lenE rfl rfl Tryz.underlying27 Z.M) ?_
      refine Z.r1 rfl (Rd.lss rfl rfl rfl) <| Z.n1 ?_
      refine WC.ite rfl (fun hc7 => ?_) (fun hc7 => ?_)
      ·
       refine WC.skip ?_
       refine thenQ.normal ?_
       refine WC.seq ?_
       refine WC.block ?_
       refine WC.seq ?_
       refine WC.seq ?_
       refine WC.tail 17 mixed Z.K ?_
       refine Z.d1 rfl (Rd.move rfl rfl) <| Z.d1 rfl (Rd.move rfl rfl) <| Z.d1 rfl (Rd.move rfl rfl) <| Z.d1 rfl (by exact Rd.idx1 (k := k) rfl S27 rfl rfl Z.W Z.M Z.W) ?_
       refine Z.d1 rfl (by exact Rd.get rfl C9 rfl Z.M (by exact get!_of_lt Z.W)) ?_
       refine Z.d1 rfl (by exact Rd.lookup M35 K9 rfl rfl rfl Z.M (by rfl)) ?_
       refine WS.say 130 (u := .bool (decide False)) rfl (by rw [boolAt]; exact vb ⟨fun h => not_take hond.1 Z.W ((k2 _).1 h), False.elim⟩) ?_
       refine Z.d1 rfl (Rd.move rfl rfl) ?_
       refine WS.case 131 rfl (fun hg131 => ?_) (fun hg131 => ?_)
       ·
        exact hg131.elim
       ·
        refine WS.rd_yes rfl rfl rfl rfl rfl rfl (Rd.move rfl rfl) ?_
        refine WS.rd_yes rfl rfl rfl rfl rfl rfl (Rd.move rfl rfl) ?_
        refine WS.rd_yes rfl rfl rfl rfl rfl rfl (Rd.move rfl rfl) ?_
        refine WS.rd_yes rfl rfl rfl rfl rfl rfl ((by exact Rd.idx1 (k := k) rfl S27 rfl rfl Z.W Z.M Z.W)) ?_
        refine WS.rd_yes rfl rfl rfl rfl rfl rfl ((by exact Rd.get rfl C9 rfl Z.M (by exact get!_of_lt Z.W))) ?_
        refine WS.rd_yes rfl rfl rfl rfl rfl rfl (Rd.move rfl rfl) ?_
        refine WS.rd_yes rfl rfl rfl rfl rfl rfl (Rd.move rfl rfl) ?_
        refine WS.rd_yes rfl rfl rfl rfl rfl rfl ((hN2.mono (fun _ hp => by repeat (first | exact hp | refine List.mem_cons_of_mem _ ?_))).rdIdx hi rfl S25 rfl rfl rfl) ?_
        refine WS.rd_yes rfl rfl rfl rfl rfl rfl ((by exact Rd.fieldE rfl F29_0 rfl Z.M Z.W)) ?_
        refine WS.rd_yes rfl rfl rfl rfl rfl rfl ((hN2.mono (fun _ hp => by repeat (first | exact hp | refine List.mem_cons_of_mem _ ?_))).rdId hi rfl C9 rfl rfl) ?_
        refine WS.say 141 (u := vs x) rfl (by rw [hx]) ?_
        refine WS.switch ?_
        refine WL.op_yes rfl rfl rfl rfl ?_
        refine OpW.call rfl rfl Z.E Z.K rfl rfl rfl ?_
        refine anc_spec (hG.mono (fun _ hp => by repeat (first | exact hp | refine List.mem_cons_of_mem _ ?_))) hcl hS ?_
        refine Z.y1 rfl (by exact Rd.notd rfl rfl) ?_
        refine WL.say 143 (u := .bool (decide False)) rfl (vb ⟨fun h => h (hond.2 _ (get!_mem Z.W)), False.elim⟩) ?_
        refine Z.r1 rfl (Rd.pick_f rfl rfl rfl) <| Z.n1 ?_
        refine WC.ite rfl (fun hc8 => ?_) (fun hc8 => ?_)
        ·
         exact hc8.elim
        ·
         refine WC.skip ?_
         refine thenQ.normal ?_
         refine WC.region ?_
         refine Z.m1 rfl <| Z.m1 rfl <| Z.m1 rfl <| Z.r1 rfl (by exact Rd.idx1 (k := k) rfl S27 rfl rfl Z.W Z.M Z.W) ?_
         refine Z.r1 rfl (by exact Rd.get rfl C9 rfl Z.M (by exact get!_of_lt Z.W)) ?_
         refine WL.op rfl ?_
         refine OpW.mapUpdate M35 K9 rfl rfl rfl rfl Z.T (by rfl) (by rfl) rfl ?_
         refine WL.nil ?_
         refine blockQ.normal ?_
         refine thenQ.normal ?_
         refine WC.region ?_
         refine Z.m1 rfl <| Z.r1 rfl (Rd.add rfl rfl rfl Z.W) ?_
         refine Z.a1 rfl ?_
         refine WL.nil ?_
         exact loopQ2.mk (k + 1) (m.set out[k]! true) ⟨by omega, by rw [take_snoc' Z.W]; exact has_next k2 _⟩ Z.W (by repeat (first | exact Sub.nil | refine Sub.cons rfl (by rfl) ?_)) Z.F
      ·
       obtain rfl : k = out.length := by omega
       rw [List.take_length] at k2
       refine WC.exit ?_
       refine thenQ.exit ?_
       refine loopQ2.exit ?_
       refine blockQ.exit ?_
       refine thenQ.normal ?_
       refine WC.seq ?_
       refine WC.pick [5, 9, 11, 12, 13] Z.P ?_
       refine WC.val 172 (.bool (decide False)) ?_ ?_
       ·
        refine WC.drawn (mapC vs vbl b118 m :: O) 23 rfl mixed ?_
        refine WD.take 0 rfl Z.K Z.H rfl rfl rfl (Rd.move rfl rfl) ?_
        refine WD.take 1 rfl Z.K Z.H rfl rfl rfl ((by exact Rd.idx1 (k := 0) rfl S27 rfl rfl rfl Z.M Z.W)) ?_
        refine WD.take 2 rfl Z.K Z.H rfl rfl rfl (Rd.get (g := vs) (xs := out) (k := 0) (a := x) rfl C9 rfl Z.M (by rw [hrest]; rfl)) ?_
        refine WD.take 3 rfl Z.K Z.H rfl rfl rfl (Rd.move rfl rfl) ?_
        refine WD.take 4 rfl Z.K Z.H rfl rfl rfl (Rd.move rfl rfl) ?_
        refine WD.take 5 rfl Z.K Z.H rfl rfl rfl ((hN2.mono (fun _ hp => by repeat (first | exact hp | refine List.mem_cons_of_mem _ ?_))).rdIdx hi rfl S25 rfl rfl rfl) ?_
        refine WD.take 6 rfl Z.K Z.H rfl rfl rfl ((by exact Rd.fieldE rfl F29_0 rfl Z.M Z.W)) ?_
        refine WD.take 7 rfl Z.K Z.H rfl rfl rfl ((hN2.mono (fun _ hp => by repeat (first | exact hp | refine List.mem_cons_of_mem _ ?_))).rdId hi rfl C9 rfl rfl) ?_
        refine WD.say 157 (u := vs x) rfl (by rw [hx]) ?_
        refine WD.take 8 rfl Z.K Z.H rfl rfl rfl (Rd.sneq rfl rfl rfl) ?_
        refine WD.take 9 rfl Z.K Z.H rfl rfl rfl (Rd.move rfl rfl) ?_
        refine WD.case 159 rfl (fun hg159 => ?_) (fun hg159 => ?_)
        ·
         exact absurd rfl hg159
        ·
         refine WD.take_yes 10 rfl Z.K Z.H rfl rfl rfl rfl rfl rfl (Rd.move rfl rfl) ?_
         refine WD.take_yes 11 rfl Z.K Z.H rfl rfl rfl rfl rfl rfl (Rd.move rfl rfl) ?_
         refine WD.take_yes 12 rfl Z.K Z.H rfl rfl rfl rfl rfl rfl (Rd.move rfl rfl) ?_
         refine WD.take_yes 13 rfl Z.K Z.H rfl rfl rfl rfl rfl rfl ((hN2.mono (fun _ hp => by repeat (first | exact hp | refine List.mem_cons_of_mem _ ?_))).rdIdx hi rfl S25 rfl rfl rfl) ?_
         refine WD.take_yes 14 rfl Z.K Z.H rfl rfl rfl rfl rfl rfl ((by exact Rd.fieldE rfl F29_0 rfl Z.M Z.W)) ?_
         refine WD.take_yes 15 rfl Z.K Z.H rfl rfl rfl rfl rfl rfl ((hN2.mono (fun _ hp => by repeat (first | exact hp | refine List.mem_cons_of_mem _ ?_))).rdId hi rfl C9 rfl rfl) ?_
         refine WD.say 165 (u := vs x) rfl (by rw [hx]) ?_
         refine WD.take_yes 19 rfl Z.K Z.H rfl rfl rfl rfl rfl rfl (Rd.move rfl rfl) ?_
         refine WD.take_yes 20 rfl Z.K Z.H rfl rfl rfl rfl rfl rfl (Rd.lenE (enc := SL.one vs) (xs := out) rfl rfl Tryz.underlying27 Z.M) ?_
         refine WD.one_yes 16 rfl Z.K rfl rfl rfl rfl ?_
         refine OpW.buildSl (ps := [(0, _)]) rfl S27 Z.E rfl rfl Z.C Z.K rfl rfl rfl ?_; intro b166
         refine ⟨Z.H, ?_⟩
         refine WD.heap (fun w h => Sat.shareRow (enc := SL.one vs) (xs := [x]) (m := 1) Z.T rfl rfl (by decide) h) ?_
         refine WD.one_yes 17 rfl Z.K rfl rfl rfl rfl ?_
         refine OpW.call rfl rfl Z.E Z.K rfl rfl rfl ?_
         refine reach_spec (fs := [x]) (hG.mono (fun _ hp => by repeat (first | exact hp | refine List.mem_cons_of_mem _ ?_))) hcl hS List.mem_cons_self (by simp) ?_; intro v167 ks hka hks
         have hkk : ks.length = out.length := Nat.le_antisymm (nodup_len' hka.nodup (fun y hy => hall y ((hks y).1 hy))) (nodup_len' hond.1 (fun y hy => (hks y).2 (hond.2 y hy)))
         refine ⟨Z.H, ?_⟩
         refine WD.one_yes 18 rfl Z.K rfl rfl rfl rfl ?_
         refine OpW.rd rfl rfl (Rd.lenA (enc := SL.one vs) (xs := ks) rfl rfl Tryz.underlying27 Z.M) ?_
         refine ⟨Z.H, ?_⟩
         refine WD.take_yes 21 rfl Z.K Z.H rfl rfl rfl rfl rfl rfl (Rd.neq rfl rfl rfl) ?_
         refine WD.take 22 rfl Z.K Z.H rfl rfl rfl (Rd.pick_f rfl rfl rfl) ?_
         refine WD.done Z.K ?_
         exact ⟨by repeat (first | exact Sub.nil | refine Sub.cons rfl (by first | rfl | (exact vb ⟨fun h => h (by rw [hkk]), False.elim⟩)) ?_), by exact Z.F⟩
       ·
        refine WC.ite rfl (fun hc9 => ?_) (fun hc9 => ?_)
        ·
         exact hc9.elim
        ·
         refine WC.skip ?_
         refine thenQ.normal ?_
         refine WC.seq ?_
         refine WC.heap (R' := SlE (SL.one vs) v117 out :: p1 :: p2 :: p3 :: SlE encN av na :: ndsP na L :: R) (O' := mapC vs vbl b118 m :: O) Z.F ?_
         refine WC.region ?_
         refine Z.a1 rfl <| Z.n1 ?_
         refine WC.block ?_
         refine WC.pick [15, 5, 9, 11, 12, 13] Z.P ?_
         refine WC.loop1o 1 (fun (k : Nat) => [(15, vi k)]) (fun (k : Nat) => k ≤ L[n]!.2.1.length) (fun (k : Nat) => L[n]!.2.1.length - k) (0) Z.L ?hinv5 (by repeat (first | exact Sub.nil | refine Sub.cons rfl (by rfl) ?_)) (fun _ h => h) ?_
         case hinv5 =>
          exact Nat.zero_le _
         intro k
         rintro q1
         refine Z.s2 <| Z.m1 rfl <| Z.m1 rfl <| Z.m1 rfl <| Z.r1 rfl ((hN2.mono (fun _ hp => by repeat (first | exact hp | refine List.mem_cons_of_mem _ ?_))).rdIdx hi rfl S25 rfl rfl rfl) ?_
         refine Z.r1 rfl (by exact Rd.fieldE rfl F29_1 rfl Z.M Z.W) ?_
         refine Z.r1 rfl ((hN2.mono (fun _ hp => by repeat (first | exact hp | refine List.mem_cons_of_mem _ ?_))).rdPs hi rfl C27 rfl rfl) ?_
         refine Z.r1 rfl ((hN2.mono (fun _ hp => by repeat (first | exact hp | refine List.mem_cons_of_mem _ ?_))).rdPLen hi rfl rfl Tryz.underlying27) ?_
         refine Z.r1 rfl (Rd.lss rfl rfl rfl) <| Z.n1 ?_
         refine WC.ite rfl (fun hc10 => ?_) (fun hc10 => ?_)
         ·
          have hk5 : k < L[n]!.2.1.length := by omega
          obtain ⟨pp, hpp⟩ : ∃ pp, pp = L[n]!.2.1[k]! := ⟨_, rfl⟩
          have hppx : pp ∈ (gOf L).pars x := (hpx pp).2 (by rw [hpp]; exact get!_mem hk5)
          refine WC.skip ?_
          refine thenQ.normal ?_
          refine WC.seq ?_
          refine WC.block ?_
          refine Z.s1 <| Z.m1 rfl <| Z.m1 rfl <| Z.m1 rfl <| Z.r1 rfl ((hN2.mono (fun _ hp => by repeat (first | exact hp | refine List.mem_cons_of_mem _ ?_))).rdIdx hi rfl S25 rfl rfl rfl) ?_
          refine Z.r1 rfl (by exact Rd.fieldE rfl F29_1 rfl Z.M Z.W) ?_
          refine Z.r1 rfl ((hN2.mono (fun _ hp => by repeat (first | exact hp | refine List.mem_cons_of_mem _ ?_))).rdPs hi rfl C27 rfl rfl) ?_
          refine Z.m1 rfl <| Z.r1 rfl ((hN2.mono (fun _ hp => by repeat (first | exact hp | refine List.mem_cons_of_mem _ ?_))).rdPIdx hi hk5 rfl S27 rfl rfl rfl) ?_
          refine Z.r1 rfl ((hN2.mono (fun _ hp => by repeat (first | exact hp | refine List.mem_cons_of_mem _ ?_))).rdP hi hk5 rfl C9 rfl) ?_
          refine WL.say 191 (u := vs pp) rfl (by rw [hpp]) ?_
          refine WL.op rfl ?_
          refine OpW.buildSl (ps := [(0, _)]) rfl S27 Z.E rfl rfl Z.C Z.K rfl rfl rfl ?_; intro b192
          refine WL.heap (fun w h => Sat.shareRow (enc := SL.one vs) (xs := [pp]) (m := 1) Z.T rfl rfl (by decide) h) ?_
          refine WL.op rfl ?_
          refine OpW.call rfl rfl Z.E Z.K rfl rfl rfl ?_
          refine log_spec (fs := [pp]) (hG.mono (fun _ hp => by repeat (first | exact hp | refine List.mem_cons_of_mem _ ?_))) hcl hS List.mem_cons_self (by simp) ?_; intro v193 ups hups
          have hupd := hups.nodup
          have hul : ups.length ≤ 14 := by
           have h1 := nodup_len' hupd.1 (l' := ids L) (fun y hy => (hupd.2 y hy).mem hcl)
           have h2 : (ids L).length = L.length := List.length_map _
           omega
          have huin : ∀ y ∈ ups, y ∈ out := fun y hy => hall y (come_par hxk hppx (hupd.2 y hy))
          have hone1 : L[n]!.2.1.length = 1 → (Ld.diffE ups out).length = out.length := fun h1 => by
           have hp1 : ∀ y, y ∈ (gOf L).pars x ↔ y = pp := fun y => by
            rw [hpx y]
            obtain ⟨z, hz⟩ := List.length_eq_one_iff.1 h1
            have hk0 : k = 0 := by omega
            have : pp = z := by rw [hpp, hz, hk0]; rfl
            rw [hz, this, List.mem_singleton]
           have e := log_one hcl hcy hxk hp1 hout hups
           have hxu : x ∉ ups := fun hm => hcy x ⟨hxk, pp, hppx, (come_path (hupd.2 x hm)).2⟩
           rw [e]
           exact diff_one hxu
          refine WL.heap (fun w h => Sat.shareA (xs := ups) Z.T h) ?_
          refine Z.a1 rfl <| Z.n1 <| Z.s2 <| Z.a1 rfl <| Z.n1 ?_
          refine WC.block ?_
          refine WC.pick [17, 5, 9, 11, 12, 13, 15, 16] Z.P ?_
          refine WC.loop1o 1 (fun (j : Nat) => [(17, vi j)]) (fun (j : Nat) => j ≤ ups.length) (fun (j : Nat) => ups.length - j) (0) Z.L ?hinv6 (by repeat (first | exact Sub.nil | refine Sub.cons rfl (by rfl) ?_)) (fun _ h => h) ?_
          case hinv6 =>
           exact Nat.zero_le _
          intro j
          rintro p1'
          refine Z.s2 <| Z.m1 rfl <| Z.m1 rfl <| Z.r1 rfl (Rd.lenE (enc := SL.one vs) (xs := ups) rfl rfl Tryz.underlying27 Z.M) ?_
          refine Z.r1 rfl (Rd.lss rfl rfl rfl) <| Z.n1 ?_
          refine WC.ite rfl (fun hc11 => ?_) (fun hc11 => ?_)
          ·
           refine WC.skip ?_
           refine thenQ.normal ?_
           refine WC.seq ?_
           refine WC.block ?_
           refine Z.s1 <| Z.m1 rfl <| Z.m1 rfl <| Z.m1 rfl <| Z.r1 rfl (Rd.idx1 (enc := SL.one vs) (xs := ups) (k := j) rfl S27 rfl rfl rfl Z.M Z.W) ?_
           refine Z.r1 rfl (Rd.get (g := vs) (xs := ups) (k := j) (a := ups[j]!) rfl C9 rfl Z.M (get!_of_lt Z.W)) ?_
           refine Z.r1 rfl (by exact Rd.lookup M35 K9 rfl rfl rfl Z.M (by rfl)) ?_
           refine WL.say 205 (u := .bool (decide True)) rfl (by rw [boolAt]; exact vb ⟨fun _ => trivial, fun _ => (k2 _).2 (huin _ (get!_mem Z.W))⟩) ?_
           refine Z.r1 rfl (by exact Rd.notd rfl rfl) ?_
           refine Z.n1 ?_
           refine WC.ite rfl (fun hc12 => ?_) (fun hc12 => ?_)
           ·
            exact absurd trivial hc12
           ·
            refine WC.skip ?_
            refine blockQ.normal ?_
            refine thenQ.normal ?_
            refine WC.region ?_
            refine Z.m1 rfl <| Z.r1 rfl (Rd.add rfl rfl rfl Z.W) ?_
            refine Z.a1 rfl ?_
            refine WL.nil ?_
            exact loopQ1.mk (j + 1) Z.W Z.W (by repeat (first | exact Sub.nil | refine Sub.cons rfl (by rfl) ?_)) Z.F
          ·
           refine WC.exit ?_
           refine thenQ.exit ?_
           refine loopQ1.exit ?_
           refine blockQ.exit ?_
           refine thenQ.normal ?_
           refine Z.s1 <| Z.m1 rfl <| Z.m1 rfl ?_
           refine WL.op rfl ?_
           refine OpW.call rfl rfl Z.E Z.K rfl rfl rfl ?_
           refine Ld.diff_spec (xs := ups) (ys := out) Z.M Z.M Z.W Z.W ?_; intro v210
           refine Z.m1 rfl <| Z.x1 rfl <| Z.x1 rfl <| Z.a1 rfl <| Z.a1 rfl <| Z.q1 <| Z.m1 rfl <| Z.m1 rfl ?_
           refine WL.op rfl ?_
           refine OpW.call rfl rfl Z.E Z.K rfl rfl rfl ?_
           have hdl := Ld.diffE_length ups out
           refine Ld.apply_spec (xs := ups) (l := Ld.diffE ups out) Z.M Z.M Z.W ?_; rw [Ld.applyE_diffE]; intro v216
           refine Z.m1 rfl <| Z.x1 rfl <| Z.x1 rfl <| Z.a1 rfl <| Z.a1 rfl <| Z.n1 ?_
           refine WC.pick [5, 9, 11, 12, 13, 15, 18, 19, 20, 21] Z.P ?_
           refine WC.val 247 (.bool (decide False)) ?_ ?_
           ·
            refine WC.region ?_
            refine Z.m1 rfl <| Z.r1 rfl (Rd.neq rfl rfl rfl) <| Z.m1 rfl ?_
            refine WL.case 221 rfl (fun hg221 => ?_) (fun hg221 => ?_)
            ·
             exact absurd rfl hg221
            ·
             refine Z.y1 rfl (Rd.move rfl rfl) <| Z.y1 rfl (Rd.neq rfl rfl rfl) <| Z.r1 rfl (Rd.pick_f rfl rfl rfl) <| Z.m1 rfl ?_
             refine WL.case 225 rfl (fun hg225 => ?_) (fun hg225 => ?_)
             ·
              exact absurd rfl hg225
             ·
              refine Z.y1 rfl (Rd.move rfl rfl) <| Z.y1 rfl (Rd.lenE (enc := SL.one vs) (xs := out) rfl rfl Tryz.underlying27 List.mem_cons_self) ?_
              refine Z.y1 rfl (Rd.move rfl rfl) <| Z.y1 rfl (Rd.lenE (enc := SL.one vs) (xs := out) rfl rfl Tryz.underlying27 Z.M) ?_
              refine Z.y1 rfl (Rd.neq rfl rfl rfl) <| Z.r1 rfl (Rd.pick_f rfl rfl rfl) <| Z.m1 rfl ?_
              refine WL.case 232 rfl (fun hg232 => ?_) (fun hg232 => ?_)
              ·
               exact absurd rfl hg232
              ·
               refine Z.y1 rfl (Rd.move rfl rfl) <| Z.y1 rfl (Rd.move rfl rfl) <| Z.y1 rfl ((hN2.mono (fun _ hp => by repeat (first | exact hp | refine List.mem_cons_of_mem _ ?_))).rdIdx hi rfl S25 rfl rfl rfl) ?_
               refine Z.y1 rfl (by exact Rd.fieldE rfl F29_1 rfl Z.M Z.W) ?_
               refine Z.y1 rfl ((hN2.mono (fun _ hp => by repeat (first | exact hp | refine List.mem_cons_of_mem _ ?_))).rdPs hi rfl C27 rfl rfl) ?_
               refine Z.y1 rfl ((hN2.mono (fun _ hp => by repeat (first | exact hp | refine List.mem_cons_of_mem _ ?_))).rdPLen hi rfl rfl Tryz.underlying27) ?_
               refine Z.y1 rfl (Rd.eql rfl rfl rfl) <| Z.y1 rfl (Rd.move rfl rfl) ?_
               refine WL.case 240 rfl (fun hg240 => ?_) (fun hg240 => ?_)
               ·
                refine Z.y1 rfl (Rd.move rfl rfl) <| Z.y1 rfl (Rd.lenE (enc := Ld.encE) (xs := Ld.diffE ups out) rfl rfl Tryz.underlying37 Z.M) ?_
                refine Z.y1 rfl (Rd.move rfl rfl) <| Z.y1 rfl (Rd.lenE (enc := SL.one vs) (xs := out) rfl rfl Tryz.underlying27 Z.M) ?_
                refine Z.y1 rfl (Rd.neq rfl rfl rfl) <| Z.y1 rfl (Rd.pick_t rfl rfl rfl) <| Z.r1 rfl (Rd.pick_f rfl rfl rfl) ?_
                refine WL.nil ?_
                exact ⟨by repeat (first | exact Sub.nil | refine Sub.cons rfl (by first | rfl | (exact vb ⟨fun h => h (by rw [hone1 Z.W]), False.elim⟩)) ?_), by exact (fun _ h => h.thin (SubL.mem Z.S))⟩
               ·
                refine Z.o1 rfl <| Z.o1 rfl <| Z.o1 rfl <| Z.o1 rfl <| Z.o1 rfl <| Z.y1 rfl (Rd.pick_f rfl rfl rfl) <| Z.r1 rfl (Rd.pick_f rfl rfl rfl) ?_
                refine WL.nil ?_
                exact ⟨by repeat (first | exact Sub.nil | refine Sub.cons rfl (by rfl) ?_), by exact (fun _ h => h.thin (SubL.mem Z.S))⟩
           ·
            refine WC.ite rfl (fun hc13 => ?_) (fun hc13 => ?_)
            ·
             exact hc13.elim
            ·
             refine WC.skip ?_
             refine blockQ.normal ?_
             refine thenQ.normal ?_
             refine WC.region ?_
             refine Z.m1 rfl <| Z.r1 rfl (Rd.add rfl rfl rfl Z.W) ?_
             refine Z.a1 rfl ?_
             refine WL.nil ?_
             exact loopQ1.mk (k + 1) Z.W Z.W (by repeat (first | exact Sub.nil | refine Sub.cons rfl (by rfl) ?_)) Z.F
         ·
          refine WC.exit ?_
          refine thenQ.exit ?_
          refine loopQ1.exit ?_
          refine blockQ.exit ?_
          refine blockQ.normal ?_
          refine thenQ.normal ?_
          refine WC.region ?_
          refine Z.m1 rfl <| Z.r1 rfl (Rd.add rfl rfl rfl Z.W) ?_
          refine Z.a1 rfl ?_
          refine WL.nil ?_
          exact loopQ1.mk (n + 1) Z.W Z.W (by repeat (first | exact Sub.nil | refine Sub.cons rfl (by rfl) ?_)) Z.F
     ·
      refine WC.exit ?_
      refine thenQ.exit ?_
      refine loopQ1.exit ?_
      refine blockQ.exit ?_
      refine thenQ.normal ?_
      refine Z.s1 <| Z.a1 rfl <| Z.n1 ?_
      refine WC.ret (Ret.one Tryz.results3 rfl ?_)
      exact ⟨_, _, hk, Z.F⟩
end
end Go.Proofs.YtdhcjafemebkcaaGreatDoor.Gr
namespace Go.Proofs.YtdhcjafemebkcaaGreatDoor
open Go Go.SL
theorem anyN_stable {W : World} {g : Nat} (h : anyN g W) (w' : World) (ha : Agree (· ∈ owned []) W w') : anyN g w' := by
 obtain ⟨m, hm⟩ := h
 refine ⟨m, ?_⟩
 rw [← hm]
 exact World.cell?_of_block (ha.2.2.2.2 _ (World.block_lt_of_cell? W _ hm) (by simp [owned]))
end Go.Proofs.YtdhcjafemebkcaaGreatDoor
