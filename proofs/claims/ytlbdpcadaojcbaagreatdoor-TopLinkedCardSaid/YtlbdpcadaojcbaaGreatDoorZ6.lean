/-
  Part 6 of the texts that the law TopLinked is proved with: Ek2, Ek3, On1, Etreads, Etmakes, Etstores, Etsplits, Etobjects, Lk3. No premise.
-/
import Derived.Test.YtlbdpcadaojcbaaGreatDoorZ5
import Derived.Lib.Bytealg
import Derived.Tactics
import Derived.Tactics2
import Derived.Defers
import Derived.Laws.Pointers
import Derived.Laws.LoneSync
import Derived.RegionTactic
import Derived.RegionCalls
import Derived.ChangeAlike
import Derived.KernelRfl
namespace Go.Proofs.YtlbdpcadaojcbaaGreatDoor
open Go Go.SL Go.Ex
noncomputable section
def frc {α : Type} : List Nat → (List Nat → α) → α
 | [], k => k []
 | a :: r, k => fN a fun a => frc r fun r => k (a :: r)
def st8F {α : Type} (v : St8) (k : St8 → α) : α := fN v.a fun a => fN v.b fun b => fN v.c fun c => fN v.d fun d => fN v.e fun e => fN v.f fun f => fN v.g fun g => fN v.h fun h => k ⟨a, b, c, d, e, f, g, h⟩
def blkF : Nat → St8 → List UInt8 → St8
 | 0, v, _ => v
 | f + 1, v, r => ifb (Nat.blt r.length 64) v (st8F (nextS v (r.take 64)) fun v => blkF f v (r.drop 64))
def shaN (s : List Nat) : List Nat := (digestS (blkF 64 first8 (txt s ++ padE (ln s) ++ lenE (ln s)))).map (·.toNat)
def asSt : AV → Option (List Nat)
 | .st s => some s
 | _ => none
def shaO (s : List Nat) (h : Go.Ex.Hp) : Option (AV × Go.Ex.Hp) := ifb (Nat.ble (ln s) 3000) (frc (shaN s) fun d => some (.st d, h)) none
def shaRow (len cap : Nat) (q : Ch × Go.Ex.Hp) : Option (AV × Go.Ex.Hp) := match q.1 with
 | .row _ cs => ifb (Nat.beq (ln cs) len && (Nat.ble len 1000000 && Nat.beq cap len)) (bnd (mapO asSt cs) fun ss => shaO ss.flatten q.2) none
 | _ => none
def kSha (l : List AV) (B : Bs) (h : Go.Ex.Hp) : Option (AV × Go.Ex.Hp) := match l with
 | [.sl i off len cap] => ifb (Nat.beq off 0) (bnd (h.take B i) (shaRow len cap)) none
 | _ => none
end
section
variable {ρ : Rho} {R : List RO} {O F : List Own} {B : Bs} {OB : List Own} {h h' : Go.Ex.Hp}
theorem frc_eq {α : Type} : ∀ (l : List Nat) (k : List Nat → α), frc l k = k l
 | [], _ => rfl
 | a :: r, k => by
   show fN a _ = _
   rw [fN_eq, frc_eq r]
theorem st8F_eq {α : Type} (v : St8) (k : St8 → α) : st8F v k = k v := by simp only [st8F, fN_eq]
theorem blkF_eq : ∀ (f : Nat) (v : St8) (r : List UInt8), r.length < 64 * (f + 1) → blkF f v r = (blocks v r).1
 | 0, v, r, h => by rw [blocks_lt Z.W]; rfl
 | f + 1, v, r, h => by
   show ifb (Nat.blt r.length 64) v (st8F (nextS v (r.take 64)) fun v => blkF f v (r.drop 64)) = _
   rw [ifb_eq, st8F_eq]
   by_cases hl : r.length < 64
   · rw [if_pos (by rw [Nat.blt_eq]; exact hl), blocks_lt hl]
   · rw [if_neg (by rw [Nat.blt_eq]; exact hl), blocks_ge hl, blkF_eq f _ _ (by rw [List.length_drop]; omega)]
theorem shaN_eq {s : List Nat} (h : s.length ≤ 3000) : shaN s = (shaE (txt s)).map (·.toNat) := by
 have hl : (txt s).length = s.length := by simp [txt]
 unfold shaN shaE finS
 rw [ln_eq, hl, blkF_eq]
 rw [List.length_append, List.length_append, hl, lenE_length]
 simp only [padE, List.length_cons, List.length_replicate]
 omega
theorem asSt_ok : ∀ {cs : List AV} {ss : List (List Nat)} {vs : List Value}, mapO asSt cs = some ss → VRs ρ cs vs → (∀ n ∈ ss.flatten, n < 256) ∧ vs = (ss.map txt).flatMap (Go.SL.one Go.SL.vs)
 | [], ss, vs, h, hv => by cases h; cases hv; exact ⟨fun n hn => absurd hn List.not_mem_nil, rfl⟩
 | a :: cs, ss, vs, h, hv => by
   obtain ⟨s, hs, h⟩ := bnd_some h
   obtain ⟨t, ht, h⟩ := bnd_some (x := mapO asSt cs) h
   cases h
   cases hv with
   | cons hv hr =>
     obtain ⟨h1, rfl⟩ := asSt_ok ht hr
     unfold asSt at hs
     split at hs
     · cases hs
       cases hv with
       | st hlt =>
         refine ⟨fun n hn => ?_, rfl⟩
         rw [List.flatten_cons] at hn
         rcases List.mem_append.1 hn with hn | hn
         · exact hlt n hn
         · exact h1 n hn
     · cases hs
theorem txt_flat (ss : List (List Nat)) : (ss.map txt).flatten = txt ss.flatten := by
 rw [txt, List.map_flatten]
theorem kSha_ok (ht : rootsR ∈ R) : KOne Tryz.prog R 13 kSha := by
 intro args B h q hq
 unfold kSha at hq
 split at hq
 · rename_i i off len cap
   obtain ⟨ho, hq⟩ := ifb_none hq
   obtain rfl := beqN ho
   obtain ⟨p, hp, hq⟩ := bnd_some hq
   obtain ⟨ch, h1⟩ := p
   have hnx := take_nx hp
   unfold shaRow at hq
   split at hq
   · rename_i t cs heq
     have heq : ch = .row t cs := heq
     subst heq
     obtain ⟨hc, hq2⟩ := ifb_none hq
     clear hq
     obtain ⟨hc1, hc2⟩ := and2 hc
     obtain ⟨hc3, hc2⟩ := and2 hc2
     have hc1 := beqN hc1
     obtain rfl := beqN hc2
     have hcm : cap ≤ 9223372036854775807 := Nat.le_trans (Nat.le_of_ble_eq_true hc3) (by decide)
     rw [ln_eq] at hc1
     obtain ⟨ss, hss, hq⟩ := bnd_some hq2
     clear hq2
     obtain ⟨hlen, hq⟩ := ifb_none hq
     rw [frc_eq] at hq
     cases hq
     have hlen := Nat.le_of_ble_eq_true hlen
     rw [ln_eq] at hlen
     have hnx : h1.nx = h.nx := hnx
     refine ⟨Nat.le_of_eq hnx.symm, fun ρ OB O F vs w hvs H hN hs => .inl ⟨by kernel_rfl, ?_⟩⟩
     cases hvs with
     | cons hv1 hr =>
       cases hr
       cases hv1 with
       | sl hi hcap =>
         rename_i g
         obtain ⟨own, O', hT, hC, hH, _⟩ := H.take hp
         cases hC with
         | row hi' hv =>
           rename_i g' vs
           rw [hi] at hi'; cases hi'
           obtain ⟨hlt, rfl⟩ := asSt_ok hss hv
           have hsl : ss.length = cap := by
            have := hv.length
            rw [flat_one, List.length_map, List.length_map] at this
            omega
           have hs' := hs.perm (take_left hT F).perm
           have hs2 := Sat.shareRow (enc := Go.SL.one Go.SL.vs) (xs := ss.map txt) (m := cap) (.head _) rfl (by simp [hsl]) hcm hs'
           refine (shaSum_spec (POST := fun v2 R' O2 => v2 = Go.SL.vs (shaE (txt ss.flatten)) ∧ (∀ p ∈ R, p ∈ R') ∧ O2 = O' ++ F) (l := ss.map txt) (List.mem_cons_of_mem _ ht) List.mem_cons_self (by rw [txt_flat]; simp only [txt, List.length_map]; omega) ⟨by rw [txt_flat], fun p hp => List.mem_cons_of_mem _ hp, rfl⟩ w hs2).mono ?_
           rintro e w' ⟨v2, R', O2, rfl, ⟨rfl, hR, rfl⟩, hs3⟩
           refine ⟨_, ρ, O', rfl, ?_, ?_, hH, hs3.thin hR⟩
           · show Ext ρ ρ h.nx h1.nx
             exact Ext.refl ..
           · show VR ρ (.st (shaN ss.flatten)) _
             rw [shaN_eq hlen]
             have := VR.st (ρ := ρ) (s := (shaE (txt ss.flatten)).map (·.toNat)) (fun n hn => by
              obtain ⟨b, _, rfl⟩ := List.mem_map.1 hn
              exact UInt8.toNat_lt b)
             rwa [txt_toNat] at this
   · cases hq
 · cases hq
end
end Go.Proofs.YtlbdpcadaojcbaaGreatDoor
namespace Go.Ex
open Go Go.SL
noncomputable section
def prefB : List Nat → List Nat → Bool
 | [], _ => true
 | _ :: _, [] => false
 | a :: u, b :: s => ifb (Nat.beq a b) (prefB u s) false
def idxF (u : List Nat) : List Nat → Nat → Option Nat
 | [], k => ifb (prefB u []) (some k) none
 | b :: s, k => ifb (prefB u (b :: s)) (some k) (idxF u s (k + 1))
def idxA : Option Nat → AV
 | some k => .it .i64 (Int.ofNat k)
 | none => .it .i64 (-1)
def kIndex (l : List AV) (_ : Bs) (h : Go.Ex.Hp) : Option (AV × Go.Ex.Hp) := match l with
 | [.st s, .st u] => ifb (Nat.ble (ln s) 1000000) (some (idxA (idxF u s 0), h)) none
 | _ => none
def cntN (c : Nat) : List Nat → Nat
 | [] => 0
 | a :: r => ifb (Nat.beq a c) (Nat.succ (cntN c r)) (cntN c r)
def kCnt (l : List AV) (_ : Bs) (h : Go.Ex.Hp) : Option (AV × Go.Ex.Hp) := match l with
 | [.st s, .it .u8 n] => bnd (toN n) fun c => ifb (Nat.blt c 256) (fN (cntN c s) fun k => some (.it .i64 (Int.ofNat k), h)) none
 | _ => none
end
theorem u8_of_inj {a b : Nat} (ha : a < 256) (hb : b < 256) (h : UInt8.ofNat a = UInt8.ofNat b) : a = b := by
 have := congrArg UInt8.toNat h
 rw [UInt8.toNat_ofNat', UInt8.toNat_ofNat'] at this
 omega
theorem prefB_eq : ∀ (u s : List Nat), (∀ n ∈ u, n < 256) → (∀ n ∈ s, n < 256) → prefB u s = (txt u).isPrefixOf (txt s)
 | [], s, _, _ => by cases s <;> rfl
 | _ :: _, [], _, _ => rfl
 | a :: u, b :: s, hu, hs => by
   have ih := prefB_eq u s (fun n h => hu n (List.mem_cons_of_mem _ h)) (fun n h => hs n (List.mem_cons_of_mem _ h))
   have ha := hu a List.mem_cons_self
   have hb := hs b List.mem_cons_self
   show ifb (Nat.beq a b) (prefB u s) false = (UInt8.ofNat a :: txt u).isPrefixOf (UInt8.ofNat b :: txt s)
   rw [List.isPrefixOf, ← ih, ifb_eq]
   by_cases e : a = b
   · subst e; simp
   · have e2 : ¬ UInt8.ofNat a = UInt8.ofNat b := fun h => e (u8_of_inj ha hb h)
     rw [if_neg (by rw [Nat.beq_eq]; exact e)]
     simp [e2]
def idxI : Option Nat → Int
 | some k => (k : Int)
 | none => -1
theorem idxF_add (u : List Nat) : ∀ (s : List Nat) (k : Nat), idxF u s k = (idxF u s 0).map (· + k)
 | [], k => by
   simp only [idxF, ifb_eq]
   split <;> simp
 | b :: s, k => by
   simp only [idxF, ifb_eq]
   split
   · simp
   · rw [idxF_add u s (k + 1), idxF_add u s (0 + 1), Option.map_map]
     congr 1
     funext j
     show j + (k + 1) = j + (0 + 1) + k
     omega
theorem idxF_eq (u : List Nat) (hu : ∀ n ∈ u, n < 256) : ∀ (s : List Nat), (∀ n ∈ s, n < 256) → Lib.index (txt s) (txt u) = idxI (idxF u s 0)
 | [], _ => by
   cases u with
   | nil => rfl
   | cons a u => rfl
 | b :: s, hs => by
   have ih := idxF_eq u hu s (fun n h => hs n (List.mem_cons_of_mem _ h))
   have hp := prefB_eq u (b :: s) hu hs
   show Lib.index (UInt8.ofNat b :: txt s) (txt u) = _
   rw [Lib.index, show (txt u).isPrefixOf (UInt8.ofNat b :: txt s) = prefB u (b :: s) from hp.symm, ih]
   simp only [idxF, ifb_eq]
   rw [idxF_add u s (0 + 1)]
   by_cases h : prefB u (b :: s) = true
   · rw [if_pos h, if_pos h]; rfl
   · rw [if_neg h, if_neg h]
     cases idxF u s 0 with
     | none => rfl
     | some k =>
       have : ((idxI (some k)) == (-1 : Int)) = false := by
        rw [beq_eq_false_iff_ne]
        show ¬ (k : Int) = -1
        omega
       rw [this]
       show (k : Int) + 1 = ((k + (0 + 1) : Nat) : Int)
       omega
theorem cntN_eq {c : Nat} (hc : c < 256) : ∀ {s : List Nat}, (∀ n ∈ s, n < 256) → cntN c s = Lib.countByte (txt s) (UInt8.ofNat c)
 | [], _ => rfl
 | a :: r, h => by
   have ha := h a List.mem_cons_self
   have ih := cntN_eq hc (s := r) fun n hn => h n (List.mem_cons_of_mem _ hn)
   show ifb (Nat.beq a c) (Nat.succ (cntN c r)) (cntN c r) = List.count (UInt8.ofNat c) (UInt8.ofNat a :: txt r)
   rw [List.count_cons, ifb_eq, ih]
   by_cases e : a = c
   · subst e
     rw [if_pos (by rw [Nat.beq_eq]), if_pos (by simp)]; rfl
   · rw [if_neg (by rw [Nat.beq_eq]; exact e), if_neg (by simp only [beq_iff_eq]; exact fun h2 => e (u8_of_inj ha hc h2))]; rfl
section
variable {P : Program} {R : List RO}
theorem kCnt_ok {g : Nat} {fn : Func} (hf : P.funcs[g]? = some fn) (hname : (fn.name == "runtime.NumGoroutine") = false) (hb : fn.body.isNone = true) (hn : Extern.findNext fn = none) (he : Extern.find fn = some Extern.BytealgCount.count) : KOne P R g kCnt := by
 intro args B h q hq
 unfold kCnt at hq
 split at hq
 · rename_i s n
   obtain ⟨c, hc, hq⟩ := bnd_some hq
   obtain ⟨hlt, hq⟩ := ifb_none hq
   have hlt := Nat.le_of_ble_eq_true hlt
   rw [fN_eq] at hq
   cases hq
   refine ⟨Nat.le_refl _, fun ρ OB O F vs w hvs H hN hs => .inr ?_⟩
   cases hvs with
   | cons h1 hr =>
     cases hr with
     | cons h2 hr =>
       cases hr
       cases h1 with
       | st hst =>
         cases h2
         obtain rfl := toN_some hc
         have hrun := Lib.run_countString (P := P) ⟨(txt s).toArray⟩ (c : Int) w
         have h3 := run_callFunc_extern hf hname hb hn he #[.string ⟨(txt s).toArray⟩, .int .u8 (c : Int)] w
         rw [hrun, Result.andThen_ok] at h3
         refine ⟨_, _, h3, _, ρ, O, rfl, Ext.refl .., ?_, H, hs⟩
         show VR ρ (.it .i64 (Int.ofNat (cntN c s))) _
         rw [cntN_eq (show c < 256 from hlt) hst]
         exact .it _ _
 · cases hq
end
end Go.Ex
namespace Go.SL
open Go
section
variable {P : Program} {n : Sz} {o : Oper} {L : Env} {R : List RO} {O O' : List Own} {K : Env → List RO → List Own → Prop}
theorem Sat.setRow {b off : Nat} {e : TypeId} {cs : List Value} {v : Value} {w : World} (hs' : Sat R (rowC b e cs :: O) w) : Sat R (rowC b e (cs.set off v) :: O) (w.setCell ⟨b, off, none⟩ v) := by
 have hp : (rowC b e cs).pred w := hs'.see List.mem_cons_self
 have hlt' : b < w.heap.size := hs'.lt b (by simp [owned, rowC])
 refine hs'.update _ ⟨rfl, rfl, rfl, by simp, fun j hj hn => heap_setCell_other w _ _ v (by simpa [rowC] using hn)⟩ (by simp [rowC]) (by simpa [rowC] using hlt') (by simp [rowC]) (fun w'' ha _ => ?_)
 show w''.heap[b]? = _
 rw [ha.2.2.2.2 b (by simpa using hlt') (by simp [rowC])]
 exact setCell_row hp off v
theorem Sat.drew1 {w : World} (h : Sat R O w) : Sat R O w.drew := h.drew _
end
end Go.SL
namespace Go.Proofs.YtlbdpcadaojcbaaGreatDoor
open Go Go.SL
namespace Once
theorem disable (w : World) : (callFunc 219 #[]).run Tryz.prog w = .ok (.value (.tuple #[])) w := run_call_mark0 Tryz.func219 Z.K Z.K Z.K .disable Z.K w
theorem enable (w : World) : (callFunc 221 #[]).run Tryz.prog w = .ok (.value (.tuple #[])) w := run_call_mark0 Tryz.func221 Z.K Z.K Z.K .enable Z.K w
theorem acquire (a : Addr) (w : World) : (callFunc 222 #[.pointer (some a)]).run Tryz.prog w = .ok (.value (.tuple #[])) w := run_call_marked Tryz.func222 Z.K Z.K Z.K .acquire Z.K a w
theorem releaseMerge (a : Addr) (w : World) : (callFunc 224 #[.pointer (some a)]).run Tryz.prog w = .ok (.value (.tuple #[])) w := run_call_marked Tryz.func224 Z.K Z.K Z.K .releaseMerge Z.K a w
theorem store_deferred (a : Addr) (x : Value) (u : FrameMode) (w : World) (hc : w.cell? a = some x) (hz : w.frozen? a = false) :
 CallsD Tryz.prog 171 #[.pointer (some a), .bool true] u w fun e u' w' => u' = u ∧ (e = .returned (.tuple #[]) ∧ w' = w.drew.setCell a (.int .u32 1)) := by
 have hc' : w.drew.cell? a = some x := by go_simp
 have hz' : w.drew.frozen? a = false := by go_simp
 have hst := run_call_store (P := Tryz.prog) Tryz.func204 Z.K Z.K Z.K Z.K (k := .u32) (y := 1) hc' hz'
 go_enter_d Tryz.func171, Tryz.ntmps171
 go_wp2
 go_region_calls
 all_goals (go_end0; exact ⟨rfl, rfl⟩)
set_option maxRecDepth 100000 in
theorem unlock_deferred (a : Addr) (u : FrameMode) (w : World) (hc : w.cell? a = some (.int .i32 1)) (hz : w.frozen? a = false) :
 CallsD Tryz.prog 170 #[.pointer (some a)] u w fun e u' w' => u' = u ∧ (e = .returned (.tuple #[]) ∧ w' = w.setCell a (.int .i32 0)) := by
 have hd := disable
 have he := enable
 have hr := releaseMerge
 have hadd := run_call_add (P := Tryz.prog) Tryz.func225 Z.K Z.K Z.K .i32 Z.K (y := -1) (s := 0) hc hz (by simp [go_sem]; rfl)
 have hcv := run_convert_to_unsafe (P := Tryz.prog) (src := 310) (dst := 190) Tryz.underlying310 Tryz.underlying190 Z.K hc
 go_enter_d Tryz.func170, Tryz.ntmps170
 go_wp2
 go_end0
 go_wp2
 go_end0
 exact ⟨rfl, rfl⟩
set_option maxRecDepth 100000 in
theorem lock_free (a : Addr) (w : World) (hc : w.cell? a = some (.int .i32 0)) (hz : w.frozen? a = false) :
 Calls Tryz.prog 169 #[.pointer (some a)] w fun e w' => e = .returned (.tuple #[]) ∧ w' = w.setCell a (.int .i32 1) := by
 have hd := disable
 have he := enable
 have ha := acquire
 have hcas := run_call_cas_hit (P := Tryz.prog) Tryz.func220 Z.K Z.K Z.K .i32 Z.K (y := 1) hc hz
 have hc' : (w.setCell a (.int .i32 1)).cell? a = some (.int .i32 1) := World.cell?_setCell_same w a _ hc
 have hcv := run_convert_to_unsafe (P := Tryz.prog) (src := 310) (dst := 190) Tryz.underlying310 Tryz.underlying190 Z.K hc'
 go_enter Tryz.func169, Tryz.ntmps169
 go_wp2
 first | go_end0 | (simp only [Exit.inBlock, Exit.then]; refine bodyPost_ret (results_none rfl _ _ _) rfl ?_) | refine bodyPost_ret (results_none rfl _ _ _) rfl ?_
 go_wp2
 go_end0
 exact ⟨rfl, rfl⟩
set_option maxRecDepth 100000 in
set_option maxHeartbeats 1600000 in
theorem slow_any (b off f : Nat) (fa fc : List Value) (hf : hasBody Tryz.prog f = true) (Q : World → Prop) (w : World) (h0 : w.cell? ⟨b, off, none⟩ = some (.int .u32 0)) (h1 : w.cell? ⟨b, off + 1, none⟩ = some (.int .i32 0))
 (f0 : w.frozen? ⟨b, off, none⟩ = false) (f1 : w.frozen? ⟨b, off + 1, none⟩ = false)
 (hc : Calls Tryz.prog f (fa.toArray ++ fc.toArray) (w.setCell ⟨b, off + 1, none⟩ (.int .i32 1)) fun e w' => ∃ v, e = .returned v ∧ Q w' ∧ w'.cell? ⟨b, off, none⟩ = some (.int .u32 0) ∧ w'.cell? ⟨b, off + 1, none⟩ = some (.int .i32 1) ∧ w'.frozen? ⟨b, off, none⟩ = false ∧ w'.frozen? ⟨b, off + 1, none⟩ = false) :
 Calls Tryz.prog 120 #[.pointer (some ⟨b, off, none⟩), .func (.func f) fa.toArray fc.toArray] w fun e w' => e = .returned (.tuple #[]) ∧ ∃ w2, Q w2 ∧ w' = (w2.drew.setCell ⟨b, off, none⟩ (.int .u32 1)).setCell ⟨b, off + 1, none⟩ (.int .i32 0) := by
 have hl := run_call_load (P := Tryz.prog) Tryz.func168 Z.K Z.K Z.K .u32 Z.K (w := w.setCell ⟨b, off + 1, none⟩ (.int .i32 1)) (a := ⟨b, off, none⟩) (x := 0) ((World.cell?_setCell_other _ ⟨b, off + 1, none⟩ ⟨b, off, none⟩ _ (by simp)).trans h0)
 have hnot : ∀ (x : Bool) (w : World), (Op.unary .not (.bool x)).run Tryz.prog w = .ok (.bool (!x)) w := fun _ _ => rfl
 have hcf : ∀ (args : Array Value) (w : World), (callFunc f args).run Tryz.prog w = .ok (.enter f args) w := fun args w => run_callFunc hf args w
 go_enter_defers Tryz.func120, Tryz.ntmps120
 go_wp2_with (go_at_call 169; refine (lock_free ⟨b, off + 1, none⟩ _ (by go_simp) (by go_simp)).mono ?_; rintro e w' ⟨rfl, rfl⟩)
 go_wp2
 have hc2 : Calls Tryz.prog f (fa ++ fc).toArray (w.setCell ⟨b, off + 1, none⟩ (.int .i32 1)) fun e w' => ∃ v, e = .returned v ∧ Q w' ∧ w'.cell? ⟨b, off, none⟩ = some (.int .u32 0) ∧ w'.cell? ⟨b, off + 1, none⟩ = some (.int .i32 1) ∧ w'.frozen? ⟨b, off, none⟩ = false ∧ w'.frozen? ⟨b, off + 1, none⟩ = false := by simpa using hc
 refine hc2.mono ?_
 rintro e w1 ⟨v, rfl, hQ, c0, c1, z0, z1⟩
 go_wp2
 refine leaves_cons (f := 171) (args := #[.pointer (some ⟨b, off, none⟩), .bool true]) (by simp) (by simp [go_sem]) ?_
 refine (store_deferred ⟨b, off, none⟩ (.int .u32 0) .returning _ c0 z0).mono ?_
 rintro e u' w'' ⟨rfl, rfl, rfl⟩
 refine leaves_cons (f := 170) (args := #[.pointer (some ⟨b, off + 1, none⟩)]) (by simp [settle]) (by simp [go_sem]) ?_
 refine (unlock_deferred ⟨b, off + 1, none⟩ _ _ ?_ (by simp [z1])).mono ?_
 · refine (World.cell?_setCell_other _ ⟨b, off, none⟩ ⟨b, off + 1, none⟩ _ (by simp)).trans ?_
   rw [World.cell?_drew]
   exact c1
 rintro e u' w'' ⟨rfl, rfl, rfl⟩
 simp [Leaves, settle, results, Tryz.results120]
 exact ⟨w1, hQ, rfl⟩
set_option maxRecDepth 100000 in
theorem load_at (a : Addr) (w : World) (h0 : w.cell? a = some (.int .u32 0)) : Calls Tryz.prog 119 #[.pointer (some a)] w fun e w' => e = .returned (.bool false) ∧ w = w' := by
 have hl := run_call_load (P := Tryz.prog) Tryz.func168 Z.K Z.K Z.K .u32 Z.K (w := w) (a := a) (x := 0) h0
 go_enter Tryz.func119, Tryz.ntmps119
 go_wp2
 go_ret
 simp
set_option maxRecDepth 100000 in
theorem do_run (b off f : Nat) (fa fc : List Value) (hf : hasBody Tryz.prog f = true) (Q : World → Prop) (w : World) (h0 : w.cell? ⟨b, off, none⟩ = some (.int .u32 0)) (h1 : w.cell? ⟨b, off + 1, none⟩ = some (.int .i32 0))
 (f0 : w.frozen? ⟨b, off, none⟩ = false) (f1 : w.frozen? ⟨b, off + 1, none⟩ = false)
 (hc : Calls Tryz.prog f (fa.toArray ++ fc.toArray) (w.setCell ⟨b, off + 1, none⟩ (.int .i32 1)) fun e w' => ∃ v, e = .returned v ∧ Q w' ∧ w'.cell? ⟨b, off, none⟩ = some (.int .u32 0) ∧ w'.cell? ⟨b, off + 1, none⟩ = some (.int .i32 1) ∧ w'.frozen? ⟨b, off, none⟩ = false ∧ w'.frozen? ⟨b, off + 1, none⟩ = false) :
 Calls Tryz.prog 73 #[.pointer (some ⟨b, off, none⟩), .func (.func f) fa.toArray fc.toArray] w fun e w' => e = .returned (.tuple #[]) ∧ ∃ w2, Q w2 ∧ w' = (w2.drew.setCell ⟨b, off, none⟩ (.int .u32 1)).setCell ⟨b, off + 1, none⟩ (.int .i32 0) := by
 have hnot : ∀ (x : Bool) (w : World), (Op.unary .not (.bool x)).run Tryz.prog w = .ok (.bool (!x)) w := fun _ _ => rfl
 go_enter Tryz.func73, Tryz.ntmps73
 go_wp2_with (first | (go_at_call 119; refine (load_at ⟨b, off, none⟩ w h0).mono ?_; rintro e w' ⟨rfl, rfl⟩) | (go_at_call 120; refine (slow_any b off f fa fc hf Q w h0 h1 f0 f1 hc).mono ?_; rintro e w' ⟨rfl, w2, hQ, rfl⟩))
 go_end0
 exact ⟨rfl, w2, hQ, rfl⟩
set_option maxRecDepth 100000 in
theorem do_done (b off f : Nat) (fa fc : List Value) (w : World) (h0 : w.cell? ⟨b, off, none⟩ = some (.int .u32 1)) :
 Calls Tryz.prog 73 #[.pointer (some ⟨b, off, none⟩), .func (.func f) fa.toArray fc.toArray] w fun e w' => e = .returned (.tuple #[]) ∧ w' = w := by
 have hl := run_call_load (P := Tryz.prog) Tryz.func168 Z.K Z.K Z.K .u32 Z.K (w := w) (a := ⟨b, off, none⟩) (x := 1) h0
 have hnot : ∀ (x : Bool) (w : World), (Op.unary .not (.bool x)).run Tryz.prog w = .ok (.bool (!x)) w := fun _ _ => rfl
 go_enter Tryz.func73, Tryz.ntmps73
 go_wp2
 go_end0
 exact ⟨rfl, rfl⟩
end Once
theorem row_two {cs : List Value} {off : Nat} {a b : Value} {b' t : Nat} {R : List RO} {O : List Own} {w : World} (hs : Sat R (rowC b' t cs :: O) w) (h1 : off + 1 < cs.length) : Sat R (rowC b' t (Go.SL.spl cs off [a, b]) :: O) ((w.setCell ⟨b', off, none⟩ a).setCell ⟨b', off + 1, none⟩ b) := by
 rw [spl_two h1]
 exact (hs.setRow (off := off) (v := a)).setRow (off := off + 1) (v := b)
theorem once_t {R : List RO} : Go.Ex.OnceT Tryz.prog R 73 where
 body := by kernel_rfl
 done g off t f cs fa fc O w hc hs := by
  have hp : (rowC g t cs).pred w := hs.see List.mem_cons_self
  refine (Once.do_done g off f fa fc w (row_cell hp hc)).mono ?_
  rintro e w' ⟨rfl, rfl⟩
  exact ⟨rfl, hs⟩
 run g off t f cs fa fc O w Q hc0 hc1 hb hs hcall := by
  have hp : (rowC g t cs).pred w := hs.see List.mem_cons_self
  have hlt1 : off + 1 < cs.length := (List.getElem?_eq_some_iff.1 hc1).1
  have hspl : Go.SL.spl cs (off + 1) [.int .i32 1] = cs.set (off + 1) (.int .i32 1) := by
   unfold Go.SL.spl
   rw [List.set_eq_take_append_cons_drop, if_pos hlt1]
   simp
  have hs1 : Sat R (rowC g t (Go.SL.spl cs (off + 1) [.int .i32 1]) :: O) (w.setCell ⟨g, off + 1, none⟩ (.int .i32 1)) := by
   rw [hspl]; exact hs.setRow
  have hc := hcall _ hs1
  refine (Once.do_run g off f fa fc hb (fun w' => ∃ t' cs' O', cs'[off]? = some (.int .u32 0) ∧ cs'[off + 1]? = some (.int .i32 1) ∧ Q t' cs' O' ∧ Sat R (rowC g t' cs' :: O') w') w (row_cell hp hc0) (row_cell hp hc1) (row_free hp off) (row_free hp (off + 1)) ?_).mono ?_
  · have : fa.toArray ++ fc.toArray = (fa ++ fc).toArray := by simp
    rw [this]
    refine hc.mono ?_
    rintro e w' ⟨v, t', cs', O', rfl, h0, h1, hQ, hs'⟩
    have hp' : (rowC g t' cs').pred w' := hs'.see List.mem_cons_self
    exact ⟨v, rfl, ⟨t', cs', O', h0, h1, hQ, hs'⟩, row_cell hp' h0, row_cell hp' h1, row_free hp' off, row_free hp' (off + 1)⟩
  · rintro e w' ⟨rfl, w2, ⟨t', cs', O', h0, h1, hQ, hs'⟩, rfl⟩
    exact ⟨t', cs', O', rfl, hQ, row_two hs'.drew1 (List.getElem?_eq_some_iff.1 h1).1⟩
end Go.Proofs.YtlbdpcadaojcbaaGreatDoor
namespace Go.Proofs.YtlbdpcadaojcbaaGreatDoor
open Go Go.SL Go.Ex
noncomputable def kk_reads : List (Nat × KF) := [(35, kWriteString Tryz.prog 5 72), (37, kString 5), (66, kRepeat), (188, kCrc), (13, kSha), (189, kIdxB), (201, kCnt), (118, kAtomAdd)]
noncomputable def qq_reads : List (Nat × List KQ) := [(169, [.i .i64, .s])]
noncomputable def kx_reads : Fx := { P := Tryz.prog, G := fun _ => none, K := kfind kk_reads, Q := kfind qq_reads, once := 73 }
theorem run_reads : good (runF kx_reads 100000 91 [] [] h0) = true := by kernel_rfl
section
variable {R : List RO} {O : List Own} {POST : Value → List RO → List Own → Prop}
theorem kt_reads (ht : tabR ∈ R) (hr : rootsR ∈ R) : ∀ x ∈ kk_reads, KOne Tryz.prog R x.1 x.2 := by
 intro x hx
 unfold kk_reads at hx
 rcases List.mem_cons.1 hx with rfl | hx
 · exact kWriteString_ok
 rcases List.mem_cons.1 hx with rfl | hx
 · exact kString_ok
 rcases List.mem_cons.1 hx with rfl | hx
 · exact kRepeat_ok
 rcases List.mem_cons.1 hx with rfl | hx
 · exact kCrc_ok ht
 rcases List.mem_cons.1 hx with rfl | hx
 · exact kSha_ok hr
 rcases List.mem_cons.1 hx with rfl | hx
 · exact kIdxB_ok Tryz.func189 Z.K Z.K Z.K Z.K
 rcases List.mem_cons.1 hx with rfl | hx
 · exact kCnt_ok Tryz.func201 Z.K Z.K Z.K Z.K
 rcases List.mem_cons.1 hx with rfl | hx
 · exact kAtomAdd_ok Tryz.func118 Z.K Z.K Z.K Z.K
 cases hx
theorem fx_reads (ht : tabR ∈ R) (hr : rootsR ∈ R) : FxOk kx_reads R where
 q := QOk.of (qtab_ok (P := Tryz.prog) (l := qq_reads) Z.K)
 g := fun g cs h => by cases h
 k := KTab.of (P := Tryz.prog) (l := kk_reads) (kt_reads ht hr) rfl rfl
 mix := by kernel_rfl
 once := fun _ => once_t
theorem reads_spec (ht : tabR ∈ R) (hr : rootsR ∈ R) (hk : POST (.bool true) R O) : Fun Tryz.prog 91 #[] R O POST := trial_ok (fx_reads ht hr) Z.K run_reads hk
end
end Go.Proofs.YtlbdpcadaojcbaaGreatDoor
namespace Go.Proofs.YtlbdpcadaojcbaaGreatDoor
open Go Go.SL Go.Ex
noncomputable def kk_makes : List (Nat × KF) := [(35, kWriteString Tryz.prog 5 72), (37, kString 5), (66, kRepeat), (188, kCrc), (13, kSha), (189, kIdxB), (201, kCnt), (118, kAtomAdd), (91, kTrue)]
noncomputable def qq_makes : List (Nat × List KQ) := [(169, [.i .i64, .s])]
noncomputable def kx_makes : Fx := { P := Tryz.prog, G := fun _ => none, K := kfind kk_makes, Q := kfind qq_makes, once := 73 }
theorem run_makes : good (runF kx_makes 100000 55 [] [] h0) = true := by kernel_rfl
section
variable {R : List RO} {O : List Own} {POST : Value → List RO → List Own → Prop}
theorem kt_makes (ht : tabR ∈ R) (hr : rootsR ∈ R) : ∀ x ∈ kk_makes, KOne Tryz.prog R x.1 x.2 := by
 intro x hx
 unfold kk_makes at hx
 rcases List.mem_cons.1 hx with rfl | hx
 · exact kWriteString_ok
 rcases List.mem_cons.1 hx with rfl | hx
 · exact kString_ok
 rcases List.mem_cons.1 hx with rfl | hx
 · exact kRepeat_ok
 rcases List.mem_cons.1 hx with rfl | hx
 · exact kCrc_ok ht
 rcases List.mem_cons.1 hx with rfl | hx
 · exact kSha_ok hr
 rcases List.mem_cons.1 hx with rfl | hx
 · exact kIdxB_ok Tryz.func189 Z.K Z.K Z.K Z.K
 rcases List.mem_cons.1 hx with rfl | hx
 · exact kCnt_ok Tryz.func201 Z.K Z.K Z.K Z.K
 rcases List.mem_cons.1 hx with rfl | hx
 · exact kAtomAdd_ok Tryz.func118 Z.K Z.K Z.K Z.K
 rcases List.mem_cons.1 hx with rfl | hx
 · exact kTrue_ok Z.K fun O POST hk => reads_spec ht hr hk
 cases hx
theorem fx_makes (ht : tabR ∈ R) (hr : rootsR ∈ R) : FxOk kx_makes R where
 q := QOk.of (qtab_ok (P := Tryz.prog) (l := qq_makes) Z.K)
 g := fun g cs h => by cases h
 k := KTab.of (P := Tryz.prog) (l := kk_makes) (kt_makes ht hr) rfl rfl
 mix := by kernel_rfl
 once := fun _ => once_t
theorem makes_spec (ht : tabR ∈ R) (hr : rootsR ∈ R) (hk : POST (.bool true) R O) : Fun Tryz.prog 55 #[] R O POST := trial_ok (fx_makes ht hr) Z.K run_makes hk
end
end Go.Proofs.YtlbdpcadaojcbaaGreatDoor
namespace Go.Proofs.YtlbdpcadaojcbaaGreatDoor
open Go Go.SL Go.Ex
noncomputable def kk_stores : List (Nat × KF) := [(35, kWriteString Tryz.prog 5 72), (37, kString 5), (66, kRepeat), (188, kCrc), (13, kSha), (189, kIdxB), (201, kCnt), (118, kAtomAdd), (91, kTrue), (55, kTrue)]
noncomputable def qq_stores : List (Nat × List KQ) := [(169, [.i .i64, .s])]
noncomputable def kx_stores : Fx := { P := Tryz.prog, G := fun _ => none, K := kfind kk_stores, Q := kfind qq_stores, once := 73 }
theorem run_stores : good (runF kx_stores 100000 22 [] [] h0) = true := by kernel_rfl
section
variable {R : List RO} {O : List Own} {POST : Value → List RO → List Own → Prop}
theorem kt_stores (ht : tabR ∈ R) (hr : rootsR ∈ R) : ∀ x ∈ kk_stores, KOne Tryz.prog R x.1 x.2 := by
 intro x hx
 unfold kk_stores at hx
 rcases List.mem_cons.1 hx with rfl | hx
 · exact kWriteString_ok
 rcases List.mem_cons.1 hx with rfl | hx
 · exact kString_ok
 rcases List.mem_cons.1 hx with rfl | hx
 · exact kRepeat_ok
 rcases List.mem_cons.1 hx with rfl | hx
 · exact kCrc_ok ht
 rcases List.mem_cons.1 hx with rfl | hx
 · exact kSha_ok hr
 rcases List.mem_cons.1 hx with rfl | hx
 · exact kIdxB_ok Tryz.func189 Z.K Z.K Z.K Z.K
 rcases List.mem_cons.1 hx with rfl | hx
 · exact kCnt_ok Tryz.func201 Z.K Z.K Z.K Z.K
 rcases List.mem_cons.1 hx with rfl | hx
 · exact kAtomAdd_ok Tryz.func118 Z.K Z.K Z.K Z.K
 rcases List.mem_cons.1 hx with rfl | hx
 · exact kTrue_ok Z.K fun O POST hk => reads_spec ht hr hk
 rcases List.mem_cons.1 hx with rfl | hx
 · exact kTrue_ok Z.K fun O POST hk => makes_spec ht hr hk
 cases hx
theorem fx_stores (ht : tabR ∈ R) (hr : rootsR ∈ R) : FxOk kx_stores R where
 q := QOk.of (qtab_ok (P := Tryz.prog) (l := qq_stores) Z.K)
 g := fun g cs h => by cases h
 k := KTab.of (P := Tryz.prog) (l := kk_stores) (kt_stores ht hr) rfl rfl
 mix := by kernel_rfl
 once := fun _ => once_t
theorem stores_spec (ht : tabR ∈ R) (hr : rootsR ∈ R) (hk : POST (.bool true) R O) : Fun Tryz.prog 22 #[] R O POST := trial_ok (fx_stores ht hr) Z.K run_stores hk
end
end Go.Proofs.YtlbdpcadaojcbaaGreatDoor
namespace Go.Proofs.YtlbdpcadaojcbaaGreatDoor
open Go Go.SL Go.Ex
noncomputable def kk_splits : List (Nat × KF) := [(35, kWriteString Tryz.prog 5 72), (37, kString 5), (66, kRepeat), (188, kCrc), (13, kSha), (189, kIdxB), (201, kCnt), (118, kAtomAdd), (91, kTrue), (55, kTrue), (22, kTrue)]
noncomputable def qq_splits : List (Nat × List KQ) := [(169, [.i .i64, .s])]
noncomputable def kx_splits : Fx := { P := Tryz.prog, G := fun _ => none, K := kfind kk_splits, Q := kfind qq_splits, once := 73 }
theorem run_splits : good (runF kx_splits 100000 10 [] [] h0) = true := by kernel_rfl
section
variable {R : List RO} {O : List Own} {POST : Value → List RO → List Own → Prop}
theorem kt_splits (ht : tabR ∈ R) (hr : rootsR ∈ R) : ∀ x ∈ kk_splits, KOne Tryz.prog R x.1 x.2 := by
 intro x hx
 unfold kk_splits at hx
 rcases List.mem_cons.1 hx with rfl | hx
 · exact kWriteString_ok
 rcases List.mem_cons.1 hx with rfl | hx
 · exact kString_ok
 rcases List.mem_cons.1 hx with rfl | hx
 · exact kRepeat_ok
 rcases List.mem_cons.1 hx with rfl | hx
 · exact kCrc_ok ht
 rcases List.mem_cons.1 hx with rfl | hx
 · exact kSha_ok hr
 rcases List.mem_cons.1 hx with rfl | hx
 · exact kIdxB_ok Tryz.func189 Z.K Z.K Z.K Z.K
 rcases List.mem_cons.1 hx with rfl | hx
 · exact kCnt_ok Tryz.func201 Z.K Z.K Z.K Z.K
 rcases List.mem_cons.1 hx with rfl | hx
 · exact kAtomAdd_ok Tryz.func118 Z.K Z.K Z.K Z.K
 rcases List.mem_cons.1 hx with rfl | hx
 · exact kTrue_ok Z.K fun O POST hk => reads_spec ht hr hk
 rcases List.mem_cons.1 hx with rfl | hx
 · exact kTrue_ok Z.K fun O POST hk => makes_spec ht hr hk
 rcases List.mem_cons.1 hx with rfl | hx
 · exact kTrue_ok Z.K fun O POST hk => stores_spec ht hr hk
 cases hx
theorem fx_splits (ht : tabR ∈ R) (hr : rootsR ∈ R) : FxOk kx_splits R where
 q := QOk.of (qtab_ok (P := Tryz.prog) (l := qq_splits) Z.K)
 g := fun g cs h => by cases h
 k := KTab.of (P := Tryz.prog) (l := kk_splits) (kt_splits ht hr) rfl rfl
 mix := by kernel_rfl
 once := fun _ => once_t
theorem splits_spec (ht : tabR ∈ R) (hr : rootsR ∈ R) (hk : POST (.bool true) R O) : Fun Tryz.prog 10 #[] R O POST := trial_ok (fx_splits ht hr) Z.K run_splits hk
end
end Go.Proofs.YtlbdpcadaojcbaaGreatDoor
namespace Go.Proofs.YtlbdpcadaojcbaaGreatDoor
open Go Go.SL Go.Ex
noncomputable def kk_objects : List (Nat × KF) := [(35, kWriteString Tryz.prog 5 72), (37, kString 5), (66, kRepeat), (188, kCrc), (13, kSha), (189, kIdxB), (201, kCnt), (118, kAtomAdd), (91, kTrue), (55, kTrue), (22, kTrue), (10, kTrue)]
noncomputable def qq_objects : List (Nat × List KQ) := [(169, [.i .i64, .s])]
noncomputable def kx_objects : Fx := { P := Tryz.prog, G := fun _ => none, K := kfind kk_objects, Q := kfind qq_objects, once := 73 }
theorem run_objects : good (runF kx_objects 100000 4 [] [] h0) = true := by kernel_rfl
section
variable {R : List RO} {O : List Own} {POST : Value → List RO → List Own → Prop}
theorem kt_objects (ht : tabR ∈ R) (hr : rootsR ∈ R) : ∀ x ∈ kk_objects, KOne Tryz.prog R x.1 x.2 := by
 intro x hx
 unfold kk_objects at hx
 rcases List.mem_cons.1 hx with rfl | hx
 · exact kWriteString_ok
 rcases List.mem_cons.1 hx with rfl | hx
 · exact kString_ok
 rcases List.mem_cons.1 hx with rfl | hx
 · exact kRepeat_ok
 rcases List.mem_cons.1 hx with rfl | hx
 · exact kCrc_ok ht
 rcases List.mem_cons.1 hx with rfl | hx
 · exact kSha_ok hr
 rcases List.mem_cons.1 hx with rfl | hx
 · exact kIdxB_ok Tryz.func189 Z.K Z.K Z.K Z.K
 rcases List.mem_cons.1 hx with rfl | hx
 · exact kCnt_ok Tryz.func201 Z.K Z.K Z.K Z.K
 rcases List.mem_cons.1 hx with rfl | hx
 · exact kAtomAdd_ok Tryz.func118 Z.K Z.K Z.K Z.K
 rcases List.mem_cons.1 hx with rfl | hx
 · exact kTrue_ok Z.K fun O POST hk => reads_spec ht hr hk
 rcases List.mem_cons.1 hx with rfl | hx
 · exact kTrue_ok Z.K fun O POST hk => makes_spec ht hr hk
 rcases List.mem_cons.1 hx with rfl | hx
 · exact kTrue_ok Z.K fun O POST hk => stores_spec ht hr hk
 rcases List.mem_cons.1 hx with rfl | hx
 · exact kTrue_ok Z.K fun O POST hk => splits_spec ht hr hk
 cases hx
theorem fx_objects (ht : tabR ∈ R) (hr : rootsR ∈ R) : FxOk kx_objects R where
 q := QOk.of (qtab_ok (P := Tryz.prog) (l := qq_objects) Z.K)
 g := fun g cs h => by cases h
 k := KTab.of (P := Tryz.prog) (l := kk_objects) (kt_objects ht hr) rfl rfl
 mix := by kernel_rfl
 once := fun _ => once_t
theorem objects_spec (ht : tabR ∈ R) (hr : rootsR ∈ R) (hk : POST (.bool true) R O) : Fun Tryz.prog 4 #[] R O POST := trial_ok (fx_objects ht hr) Z.K run_objects hk
end
end Go.Proofs.YtlbdpcadaojcbaaGreatDoor
namespace Go.Proofs.YtlbdpcadaojcbaaGreatDoor
open Go Go.SL
abbrev nilS : Value := .slice none 0 0
theorem tm_ok (ts : List Int) (i : Nat) : 0 ≤ tmOf ts i ∧ tmOf ts i ≤ 1099511627776 := by
 unfold tmOf
 split
 · have := land_le .i64 ts[i]! 1099511627775
   omega
 · omega
theorem com_ok (xs : List (List UInt8)) (ts : List Int) (i : Nat) : encE (comOf xs ts (idAt xs ts i) i) = (encB (comOf xs ts (idAt xs ts i) i), 0) := commit_ok (shaE_length _) (pars_ok xs ts i) (tm_ok ts i)
theorem com_names (t : List UInt8) (ps : List (List UInt8)) (n : Int) : Names (obCommit t ps n) := ⟨fun x hx => absurd hx List.not_mem_nil, Nat.zero_le _⟩
/-- All that is made of a note, a file and the link ahead. -/
theorem made_ok (xs : List (List UInt8)) (ts : List Int) (i : Nat) (q : List (List UInt8)) (p : List UInt8) (hq : q = parsOf p) (hp : p = idAt xs ts i) : ∃ B T S : List UInt8, ∃ tm : Int, B.length ≤ 100000 ∧ T.length ≤ 100000 ∧ S.length ≤ 100000 ∧ tm = tmOf ts i ∧
 encE (obBlob (xs[i]!.take 500)) = (B, 0) ∧ encE (obTree (shaE B)) = (T, 0) ∧ encE (obCommit (shaE T) q tm) = (S, 0) ∧ idAt xs ts (i + 1) = shaE S := by
 have htk := take_le xs[i]!
 subst hq hp
 refine ⟨blobB xs[i]!, treeB xs[i]!, encB (comOf xs ts (idAt xs ts i) i), tmOf ts i, ?_, ?_, ?_, rfl, blob_ok htk, tree_ok (shaE_length _), com_ok xs ts i, rfl⟩
 · have := encB_len (o := obBlob (xs[i]!.take 500)) (B := 500) (n := 5) (fun t ht => by rw [show texts (obBlob (xs[i]!.take 500)) = [xs[i]!.take 500] from rfl] at ht; rw [List.mem_singleton.1 ht]; exact htk) (by show 1 ≤ 5; omega) Z.W
   unfold blobB; omega
 · have := encB_len (o := obTree (shaE (blobB xs[i]!))) (B := 500) (n := 5) (fun t ht => by
    rw [show texts (obTree (shaE (blobB xs[i]!))) = [[102], shaE (blobB xs[i]!)] from rfl] at ht
    rcases List.mem_cons.1 ht with rfl | ht
    · decide
    · rw [List.mem_singleton.1 ht, shaE_length]; omega) (by show 2 ≤ 5; omega) Z.W
   unfold treeB; omega
 · have := encB_len (o := comOf xs ts (idAt xs ts i) i) (B := 500) (n := 5) (fun t ht => by
    rw [show texts (comOf xs ts (idAt xs ts i) i) = [shaE (treeB xs[i]!), (parsOf (idAt xs ts i)).flatten, [], [], putI (tmOf ts i)] from rfl] at ht
    have hps := putI_short (tmOf ts i)
    have hf : (parsOf (idAt xs ts i)).flatten.length ≤ 32 := by
     rcases pars_ok xs ts i with h | ⟨q, h, hq⟩
     · rw [h]; exact Nat.zero_le _
     · rw [h]; simp; omega
    have hs := shaE_length (treeB xs[i]!)
    simp only [List.mem_cons, List.not_mem_nil, or_false] at ht
    rcases ht with rfl | rfl | rfl | rfl | rfl
    · omega
    · omega
    · exact Nat.zero_le _
    · exact Nat.zero_le _
    · omega) (by show 5 ≤ 5; omega) Z.W
   omega
theorem pars_one {p t : List UInt8} {qs : List (List UInt8)} (h : qs = parsOf p) (h2 : (1 : Int) < ((t :: qs).length : Nat)) : (t :: qs)[1]? = some p := by
 subst h
 unfold parsOf at h2 ⊢
 split
 · rename_i e
   rw [if_pos e] at h2
   exact absurd h2 (by show ¬ (1 : Int) < ((1 : Nat) : Int); omega)
 · rfl
section
variable {R : List RO} {O : List Own} {POST : Value → List RO → List Own → Prop}
set_option maxRecDepth 20000 in
set_option maxHeartbeats 4000000 in
theorem linked_spec {xs : List (List UInt8)} {ts : List Int} {lv tv : Value} (hl : SlE (SL.one vs) lv xs ∈ R) (htm : SlE (SL.one vi) tv ts ∈ R) (hq : ∀ x ∈ xs, x.length ≤ 140737488355328) (ht : tabR ∈ R) (hr : rootsR ∈ R) (hk : POST (.bool true) R O) : Fun Tryz.prog 3 #[lv, tv] R O POST := by
 refine Fun.turn ?_
 refine Fun.len hl fun hll => ?_
 refine Fun.len htm fun htl => ?_
 refine Fun.enter (l := [_, _]) Tryz.func3 rfl Tryz.ntmps3 rfl (L0 := [(0, _), (1, _)]) rfl ?_
 refine WC.seq ?_
 refine WC.region ?_
 refine WL.rd rfl rfl rfl (Rd.assign rfl rfl) ?_
 refine WL.nil ?_
 refine thenQ.normal ?_
 refine WC.seq ?_
 refine WC.seq ?_
 refine WC.region ?_
 refine WL.op rfl ?_
 refine OpW.call rfl rfl Z.E Z.K rfl rfl rfl ?_
 refine objects_spec ht hr ?_
 refine WL.rd rfl rfl rfl ((by exact Rd.not rfl rfl)) ?_
 refine WL.say 20 (u := .bool (decide False)) rfl rfl ?_
 refine WL.nil ?_
 refine thenQ.normal ?_
 refine WC.ite rfl (fun hc1 => ?_) (fun hc1 => ?_)
 ·
  exact hc1.elim
 ·
  refine WC.skip ?_
  refine thenQ.normal ?_
  refine WC.seq ?_
  refine WC.heap (fun w h => Sat.nilE (enc := encT) h) ?_
  refine WC.heap (fun w h => Sat.nilE (enc := SL.one vs) h) ?_
  refine WC.region ?_
  refine WL.rd rfl rfl rfl (Rd.assign rfl rfl) ?_
  refine WL.nil ?_
  refine thenQ.normal ?_
  refine WC.seq ?_
  refine WC.region ?_
  refine WL.rd rfl rfl rfl (Rd.assign rfl rfl) ?_
  refine WL.nil ?_
  refine thenQ.normal ?_
  refine WC.seq ?_
  refine WC.seq ?_
  refine WC.region ?_
  refine WL.rd rfl rfl rfl (Rd.assign rfl rfl) ?_
  refine WL.nil ?_
  refine thenQ.normal ?_
  refine WC.block ?_
  refine WC.pick [5, 6, 7, 0, 1] Z.P ?_
  refine WC.loop4 3 (fun (turn : Nat) (iv : Value) (dl : List (List UInt8)) (p0 : List UInt8) => [(5, vs p0), (6, iv), (7, vi turn)]) (fun (turn : Nat) (iv : Value) (dl : List (List UInt8)) (p0 : List UInt8) => accC 9 1 (SL.one vs) iv dl :: O) (fun (turn : Nat) (iv : Value) (dl : List (List UInt8)) (p0 : List UInt8) => turn ≤ 2 ∧ dl = if turn = 0 then [] else idsTo xs ts (min xs.length 12)) (fun (turn : Nat) (iv : Value) (dl : List (List UInt8)) (p0 : List UInt8) => 2 - turn) (0) (nilS) ([]) ([]) Z.L ?hinv1 (by repeat (first | exact Sub.nil | refine Sub.cons rfl (by rfl) ?_)) (fun w h => by have := Sat.accNil (e := 9) (size := 1) (enc := SL.one vs) h; exact Z.Fw this) ?_
  case hinv1 =>
   exact ⟨Nat.zero_le _, rfl⟩
  intro turn iv dl p0
  rintro ⟨u1, u2⟩
  refine WC.seq ?_
  refine WC.seq ?_
  refine WC.region ?_
  refine WL.rd rfl rfl rfl (Rd.move rfl rfl) ?_
  refine WL.rd rfl rfl rfl (Rd.lss rfl rfl rfl) ?_
  refine WL.nil ?_
  refine thenQ.normal ?_
  refine WC.ite rfl (fun hc2 => ?_) (fun hc2 => ?_)
  ·
   refine WC.skip ?_
   refine thenQ.normal ?_
   refine WC.seq ?_
   refine WC.block ?_
   refine WC.seq ?_
   refine WC.region ?_
   refine WL.rd rfl rfl rfl (Rd.assign rfl rfl) ?_
   refine WL.nil ?_
   refine thenQ.normal ?_
   refine WC.seq ?_
   refine WC.region ?_
   refine WL.rd rfl rfl rfl (Rd.assign rfl rfl) ?_
   refine WL.nil ?_
   refine thenQ.normal ?_
   refine WC.block ?_
   refine WC.pick [5, 6, 8, 0, 1, 7] Z.P ?_
   refine WC.loop3 3 (fun (i : Nat) (iv2 : Value) (dl2 : List (List UInt8)) => [(5, vs (idAt xs ts i)), (6, iv2), (8, vi i)]) (fun (i : Nat) (iv2 : Value) (dl2 : List (List UInt8)) => accC 9 1 (SL.one vs) iv2 dl2 :: O) (fun (i : Nat) (iv2 : Value) (dl2 : List (List UInt8)) => i ≤ xs.length ∧ i ≤ 12 ∧ (turn = 0 → dl2 = idsTo xs ts i) ∧ (turn ≠ 0 → dl2 = idsTo xs ts (min xs.length 12))) (fun (i : Nat) (iv2 : Value) (dl2 : List (List UInt8)) => xs.length - i) (0) (iv) (dl) Z.L ?hinv2 (by repeat (first | exact Sub.nil | refine Sub.cons rfl (by rfl) ?_)) Z.F ?_
   case hinv2 =>
    exact ⟨Nat.zero_le _, Nat.zero_le _, fun h => by rw [u2, if_pos h]; rfl, fun h => by rw [u2, if_neg h]⟩
   intro i iv2 dl2
   rintro ⟨i1, i2, i3, i4⟩
   refine WC.seq ?_
   refine WC.pick [0, 1, 5, 6, 7, 8] Z.P ?_
   refine WC.val 32 (.bool (decide (i < xs.length ∧ i < 12))) ?_ ?_
   ·
    refine WC.region ?_
    refine WL.rd rfl rfl rfl (Rd.move rfl rfl) ?_
    refine WL.rd rfl rfl rfl (Rd.move rfl rfl) ?_
    refine WL.rd rfl rfl rfl ((by exact Rd.lenE rfl rfl Tryz.underlying22 Z.M)) ?_
    refine WL.rd rfl rfl rfl (Rd.lss rfl rfl rfl) ?_
    refine WL.rd rfl rfl rfl (Rd.move rfl rfl) ?_
    refine WL.case 29 rfl (fun hg29 => ?_) (fun hg29 => ?_)
    ·
     refine WL.rd_yes rfl rfl rfl rfl rfl rfl (Rd.move rfl rfl) ?_
     refine WL.rd_yes rfl rfl rfl rfl rfl rfl (Rd.lss rfl rfl rfl) ?_
     refine WL.rd rfl rfl rfl (Rd.pick_t rfl rfl rfl) ?_
     refine WL.nil ?_
     exact ⟨by repeat (first | exact Sub.nil | refine Sub.cons rfl (by first | rfl | (exact vb ⟨fun h => ⟨by omega, by omega⟩, fun h => by omega⟩)) ?_), by exact (fun _ h => h.thin (SubL.mem Z.S))⟩
    ·
     refine WL.no rfl rfl rfl rfl rfl rfl ?_
     refine WL.no rfl rfl rfl rfl rfl rfl ?_
     refine WL.rd rfl rfl rfl (Rd.pick_f rfl rfl rfl) ?_
     refine WL.nil ?_
     exact ⟨by repeat (first | exact Sub.nil | refine Sub.cons rfl (by first | rfl | (exact vb_f Z.W)) ?_), by exact (fun _ h => h.thin (SubL.mem Z.S))⟩
   ·
    refine WC.ite rfl (fun hc3 => ?_) (fun hc3 => ?_)
    ·
     have hqi := hq xs[i]! (by rw [getElem!_pos xs i Z.W]; exact List.getElem_mem _)
     have htk := take_le xs[i]!
     have hpar := pars_ok xs ts i
     have hdl : dl2.length ≤ 12 := by
      rcases Nat.eq_zero_or_pos turn with h | h
      · rw [i3 h, ids_len]; omega
      · rw [i4 Z.W, ids_len]; omega
     obtain ⟨p, hp⟩ : ∃ p, p = idAt xs ts i := ⟨_, rfl⟩
     rw [← hp]
     rw [← hp] at hpar
     obtain ⟨qs, hqs⟩ : ∃ q, q = parsOf p := ⟨_, rfl⟩
     rw [← hqs] at hpar
     obtain ⟨B, T, S, tm, hB0, hT0, hS0, htmd, hB, hT, hS, hnx⟩ := made_ok xs ts i qs p hqs hp
     have hpl : qs.length ≤ 8 := by rcases hpar with rfl | ⟨q, rfl, _⟩ <;> simp
     obtain ⟨nx, hnx0⟩ : ∃ nx, nx = idAt xs ts (i + 1) := ⟨_, rfl⟩
     have hnxS := hnx0.trans hnx
     have hnx1 : vs nx = vs (idAt xs ts (i + 1)) := by rw [hnx0]
     refine WC.skip ?_
     refine thenQ.normal ?_
     refine WC.seq ?_
     refine WC.block ?_
     refine WC.seq ?_
     refine WC.drawn (O) 18 rfl mixed ?_
     refine WD.take 0 rfl Z.K Z.H rfl rfl rfl (Rd.move rfl rfl) ?_
     refine WD.take 1 rfl Z.K Z.H rfl rfl rfl (Rd.move rfl rfl) ?_
     refine WD.take 2 rfl Z.K Z.H rfl rfl rfl ((by exact Rd.idx1 (k := i) rfl S22 rfl rfl Z.W Z.M Z.W)) ?_
     refine WD.take 3 rfl Z.K Z.H rfl rfl rfl ((by exact Rd.get rfl C9 rfl Z.M (by exact get!_of_lt Z.W))) ?_
     refine WD.take 4 rfl Z.K Z.H rfl rfl rfl (Rd.move rfl rfl) ?_
     refine WD.take 5 rfl Z.K Z.H rfl rfl rfl (Rd.move rfl rfl) ?_
     refine WD.take 6 rfl Z.K Z.H rfl rfl rfl ((by exact Rd.idx1 (k := i) rfl S22 rfl rfl Z.W Z.M Z.W)) ?_
     refine WD.take 7 rfl Z.K Z.H rfl rfl rfl ((by exact Rd.get rfl C9 rfl Z.M (by exact get!_of_lt Z.W))) ?_
     refine WD.take 8 rfl Z.K Z.H rfl rfl rfl (Rd.slen (ts := #[]) (ty := 0) rfl rfl Tryz.underlying9) ?_
     refine WD.take 9 rfl Z.K Z.H rfl rfl rfl (Rd.min2 rfl rfl rfl) ?_
     refine WD.take 10 rfl Z.K Z.H rfl rfl rfl (Rd.scut_h (hi := min xs[i]!.length 500) rfl Tryz.underlying9 rfl rfl Z.W Z.W) ?_
     refine WD.say 46 (u := vs (xs[i]!.take 500)) rfl (by rw [show xs[i]!.take (min xs[i]!.length 500) = xs[i]!.take 500 from by rw [List.take_eq_take_iff]; omega]) ?_
     refine WD.take 11 rfl Z.K Z.H rfl rfl rfl (Rd.buildN (ps := [(0, _), (1, _)]) rfl Bs30 I30 rfl Z.E Z.C (by apply NFo.mk; repeat (first | exact NF.nil | apply NF.cons))) ?_
     refine WD.one 12 rfl Z.K rfl ?_
     refine OpW.call rfl rfl Z.E Z.K rfl rfl rfl ?_
     refine encode_spec (o := obBlob (xs[i]!.take 500)) (ev := nilS) (pv := nilS) Z.M Z.M ⟨fun x hx => absurd hx List.not_mem_nil, Nat.zero_le _⟩ ?_; rw [hB]
     refine ⟨Z.H, ?_⟩
     refine WD.take 13 rfl Z.K Z.H rfl rfl rfl (Rd.move rfl rfl) ?_
     refine WD.take 14 rfl Z.K Z.H rfl rfl rfl (Rd.extract rfl rfl rfl) ?_
     refine WD.take 15 rfl Z.K Z.H rfl rfl rfl (Rd.extract rfl rfl rfl) ?_
     refine WD.take 16 rfl Z.K Z.H rfl rfl rfl (Rd.assign rfl rfl) ?_
     refine WD.take 17 rfl Z.K Z.H rfl rfl rfl (Rd.assign rfl rfl) ?_
     refine WD.done Z.K ?_
     refine thenQ.normal ?_
     refine WC.seq ?_
     refine WC.region ?_
     refine WL.rd rfl rfl rfl (Rd.move rfl rfl) ?_
     refine WL.op rfl ?_
     refine OpW.call rfl rfl Z.E Z.K rfl rfl rfl ?_
     refine id2_spec (s := B) Z.M Z.W ?_
     refine WL.rd rfl rfl rfl (Rd.buildN (ps := [(0, _), (1, _)]) rfl Bs33 I33 rfl Z.E Z.C (by apply NFo.mk; repeat (first | exact NF.nil | apply NF.cons))) ?_
     refine WL.op rfl ?_
     refine OpW.buildSl (ps := [(0, _)]) rfl S28 Z.E rfl rfl Z.C Z.K rfl rfl rfl ?_; intro b55
     refine WL.heap (fun w h => Sat.shareRow (enc := encT) (xs := [([102], shaE B)]) (m := 1) Z.T rfl rfl (by decide) h) ?_
     refine WL.rd rfl rfl rfl (Rd.buildN (ps := [(0, _), (2, _)]) rfl Bs30 I30 rfl Z.E Z.C (by apply NFo.mk; repeat (first | exact NF.nil | apply NF.cons))) ?_
     refine WL.op rfl ?_
     refine OpW.call rfl rfl Z.E Z.K rfl rfl rfl ?_
     refine encode_spec (o := obTree (shaE B)) (ev := .slice (some ⟨b55, 0, none⟩) 1 1) (pv := nilS) Z.M Z.M ⟨fun x hx => by rw [List.mem_singleton.1 hx]; show 1 ≤ 9223372036854775000; omega, Nat.zero_le _⟩ ?_; rw [hT]
     refine WL.rd rfl rfl rfl (Rd.move rfl rfl) ?_
     refine WL.rd rfl rfl rfl (Rd.extract rfl rfl rfl) ?_
     refine WL.rd rfl rfl rfl (Rd.extract rfl rfl rfl) ?_
     refine WL.rd rfl rfl rfl (Rd.assign rfl rfl) ?_
     refine WL.rd rfl rfl rfl (Rd.assign rfl rfl) ?_
     refine WL.nil ?_
     refine thenQ.normal ?_
     refine WC.seq ?_
     refine WC.region ?_
     refine WL.rd rfl rfl rfl (Rd.move rfl rfl) ?_
     refine WL.op rfl ?_
     refine OpW.call rfl rfl Z.E Z.K rfl rfl rfl ?_
     refine id2_spec (s := T) Z.M Z.W ?_
     refine WL.rd rfl rfl rfl (Rd.buildN (ps := [(0, _), (3, _)]) rfl Bs30 I30 rfl Z.E Z.C (by apply NFo.mk; repeat (first | exact NF.nil | apply NF.cons))) ?_
     refine WL.op rfl ?_
     refine OpW.alloc rfl I30 rfl Z.N rfl rfl ?_; intro b13
     refine WL.op rfl ?_
     refine OpW.storeS rfl G30 rfl rfl Z.N Z.T rfl rfl Z.N rfl ?_
     refine WL.nil ?_
     refine thenQ.normal ?_
     refine WC.cut (α := Unit) (fun _ => [(0, lv), (1, tv), (5, vs p), (6, iv2), (7, vi turn), (8, vi i), (10, .int .i64 0), (11, vs T), (12, .int .i64 0), (13, .pointer (some ⟨b13, 0, none⟩))]) (fun _ => SlE (SL.one vs) nilS [] :: SlE encT nilS [] :: R) (fun _ => rowC b13 30 (obC (obCommit (shaE T) [] tm) nilS nilS) :: accC 9 1 (SL.one vs) iv2 dl2 :: O) (fun _ => True) ?_ ?_
     ·
      refine WC.seq ?_
      refine WC.region ?_
      refine WL.rd rfl rfl rfl (Rd.move rfl rfl) ?_
      refine WL.rd rfl rfl rfl (Rd.move rfl rfl) ?_
      refine WL.rd rfl rfl rfl ((by exact Rd.lenE rfl rfl Tryz.underlying23 Z.M)) ?_
      refine WL.rd rfl rfl rfl (Rd.lss rfl rfl rfl) ?_
      refine WL.nil ?_
      refine thenQ.normal ?_
      refine WC.ite rfl (fun hc4 => ?_) (fun hc4 => ?_)
      ·
       obtain rfl : tm = ((land .i64 ts[i]! 1099511627775 : Nat) : Int) := by rw [htmd]; exact if_pos Z.W
       refine WC.region ?_
       refine WL.rd rfl rfl rfl (Rd.move rfl rfl) ?_
       refine WL.rd rfl rfl rfl (Rd.move rfl rfl) ?_
       refine WL.rd rfl rfl rfl ((by exact Rd.idx1 (k := i) rfl S23 rfl rfl Z.W Z.M Z.W)) ?_
       refine WL.rd rfl rfl rfl ((by exact Rd.get rfl C3 rfl Z.M (by exact get!_of_lt Z.W))) ?_
       refine WL.rd rfl rfl rfl (Rd.andm (m := 1099511627775) rfl rfl rfl rfl (by decide)) ?_
       refine WL.rd rfl rfl rfl ((by exact Rd.field rfl F30_7 rfl rfl)) ?_
       refine WL.op rfl ?_
       refine OpW.store1 rfl Z3 rfl rfl (by exact ⟨rfl, rfl⟩) Z.T (by (simp; done)) rfl ?_
       refine WL.nil ?_
       exact ⟨(), trivial, (by repeat (first | exact Sub.nil | refine Sub.cons rfl (by rfl) ?_)), Z.F⟩
      ·
       obtain rfl : tm = 0 := by rw [htmd]; exact if_neg Z.W
       refine WC.skip ?_
       exact ⟨(), trivial, (by repeat (first | exact Sub.nil | refine Sub.cons rfl (by rfl) ?_)), Z.F⟩
     ·
      intro _ _
      refine WC.cut (α := Value) (fun _ => [(0, lv), (1, tv), (5, vs p), (6, iv2), (7, vi turn), (8, vi i), (10, .int .i64 0), (11, vs T), (12, .int .i64 0), (13, .pointer (some ⟨b13, 0, none⟩))]) (fun y => SlE (SL.one vs) y qs :: SlE (SL.one vs) nilS [] :: SlE encT nilS [] :: R) (fun y => rowC b13 30 (obC (obCommit (shaE T) qs tm) nilS y) :: accC 9 1 (SL.one vs) iv2 dl2 :: O) (fun _ => True) ?_ ?_
      ·
       refine WC.seq ?_
       refine WC.region ?_
       refine WL.rd rfl rfl rfl (Rd.move rfl rfl) ?_
       refine WL.rd rfl rfl rfl (Rd.sneq rfl rfl rfl) ?_
       refine WL.nil ?_
       refine thenQ.normal ?_
       refine WC.ite rfl (fun hc5 => ?_) (fun hc5 => ?_)
       ·
        obtain rfl : qs = [p] := by rw [hqs]; exact if_neg hc5
        refine WC.region ?_
        refine WL.rd rfl rfl rfl (Rd.move rfl rfl) ?_
        refine WL.op rfl ?_
        refine OpW.buildSl (ps := [(0, _)]) rfl S22 Z.E rfl rfl Z.C Z.K rfl rfl rfl ?_; intro b76
        refine WL.heap (fun w h => Sat.shareRow (enc := SL.one vs) (xs := [p]) (m := 1) Z.T rfl rfl (by decide) h) ?_
        refine WL.rd rfl rfl rfl ((by exact Rd.field rfl F30_4 rfl rfl)) ?_
        refine WL.op rfl ?_
        refine OpW.store1 rfl Z22 rfl rfl (by exact ⟨rfl, rfl⟩) Z.T (by (simp; done)) rfl ?_
        refine WL.nil ?_
        exact ⟨_, trivial, (by repeat (first | exact Sub.nil | refine Sub.cons rfl (by rfl) ?_)), Z.F⟩
       ·
        obtain rfl : qs = [] := by rw [hqs]; exact if_pos (Decidable.not_not.1 hc5)
        refine WC.skip ?_
        exact ⟨_, trivial, (by repeat (first | exact Sub.nil | refine Sub.cons rfl (by rfl) ?_)), Z.F⟩
      ·
       intro pv _
       refine WC.seq ?_
       refine WC.region ?_
       refine WL.rd rfl rfl rfl ((by exact Rd.rowS rfl G30 rfl Z.M Z.N rfl)) ?_
       refine WL.op rfl ?_
       refine OpW.call rfl rfl Z.E Z.K rfl rfl rfl ?_
       refine encode_spec (o := obCommit (shaE T) qs tm) (ev := nilS) (pv := pv) Z.M Z.M (com_names _ _ _) ?_; rw [hS]
       refine WL.rd rfl rfl rfl (Rd.move rfl rfl) ?_
       refine WL.rd rfl rfl rfl (Rd.extract rfl rfl rfl) ?_
       refine WL.rd rfl rfl rfl (Rd.extract rfl rfl rfl) ?_
       refine WL.rd rfl rfl rfl (Rd.assign rfl rfl) ?_
       refine WL.rd rfl rfl rfl (Rd.assign rfl rfl) ?_
       refine WL.nil ?_
       refine thenQ.normal ?_
       refine WC.seq ?_
       refine WC.region ?_
       refine WL.rd rfl rfl rfl (Rd.move rfl rfl) ?_
       refine WL.op rfl ?_
       refine OpW.call rfl rfl Z.E Z.K rfl rfl rfl ?_
       refine decode_spec (s := S) Z.W ?_; intro o e ev2 pv2 b85 c85 hd
       have hd0 := enc_dec (o := obCommit (shaE T) qs tm) (by rw [hS])
       rw [hS] at hd0
       obtain ⟨ho, he0⟩ := dec_uniq hd hd0
       subst ho
       subst he0
       refine WL.rd rfl rfl rfl (Rd.move rfl rfl) ?_
       refine WL.rd rfl rfl rfl (Rd.extract rfl rfl rfl) ?_
       refine WL.know2 (p := SlE encT ev2 (obCommit (shaE T) qs tm).ents) Z.M (fun w h => h.oneV) fun h5 => ?_
       refine WL.know2 (p := SlE (SL.one vs) pv2 (obCommit (shaE T) qs tm).pars) Z.M (fun w h => h.oneV) fun h6 => ?_
       refine WL.rd rfl rfl rfl (Rd.extract rfl rfl rfl) ?_
       refine WL.op rfl ?_
       refine OpW.alloc rfl I30 rfl Z.N rfl rfl ?_; intro b16
       refine WL.op rfl ?_
       refine OpW.storeS (r := obC (obCommit (shaE T) qs tm) ev2 pv2) rfl G30 rfl rfl Z.N Z.T rfl rfl Z.N rfl ?_ (h1 := by simp only [List.all_cons, List.all_nil, h5.one, h6.one]; rfl)
       refine WL.rd rfl rfl rfl (Rd.assign rfl rfl) ?_
       refine WL.nil ?_
       refine thenQ.normal ?_
       refine WC.seq ?_
       refine WC.pick [0, 1, 5, 6, 7, 8, 10, 11, 12, 13, 14, 15, 16, 17] Z.P ?_
       refine WC.val 108 (.bool (decide False)) ?_ ?_
       ·
        refine WC.region ?_
        refine WL.rd rfl rfl rfl (Rd.move rfl rfl) ?_
        refine WL.rd rfl rfl rfl (Rd.neq rfl rfl rfl) ?_
        refine WL.rd rfl rfl rfl (Rd.move rfl rfl) ?_
        refine WL.case 90 rfl (fun hg90 => ?_) (fun hg90 => ?_)
        ·
         exact absurd rfl hg90
        ·
         refine WL.rd_yes rfl rfl rfl rfl rfl rfl (Rd.move rfl rfl) ?_
         refine WL.rd_yes rfl rfl rfl rfl rfl rfl (Rd.neq rfl rfl rfl) ?_
         refine WL.rd rfl rfl rfl (Rd.pick_f rfl rfl rfl) ?_
         refine WL.rd rfl rfl rfl (Rd.move rfl rfl) ?_
         refine WL.case 94 rfl (fun hg94 => ?_) (fun hg94 => ?_)
         ·
          exact absurd rfl hg94
         ·
          refine WL.rd_yes rfl rfl rfl rfl rfl rfl (Rd.move rfl rfl) ?_
          refine WL.rd_yes rfl rfl rfl rfl rfl rfl (Rd.neq rfl rfl rfl) ?_
          refine WL.rd rfl rfl rfl (Rd.pick_f rfl rfl rfl) ?_
          refine WL.rd rfl rfl rfl (Rd.move rfl rfl) ?_
          refine WL.case 98 rfl (fun hg98 => ?_) (fun hg98 => ?_)
          ·
           exact absurd rfl hg98
          ·
           refine WL.rd_yes rfl rfl rfl rfl rfl rfl (Rd.move rfl rfl) ?_
           refine WL.rd_yes rfl rfl rfl rfl rfl rfl (Rd.neq rfl rfl rfl) ?_
           refine WL.rd rfl rfl rfl (Rd.pick_f rfl rfl rfl) ?_
           refine WL.rd rfl rfl rfl (Rd.move rfl rfl) ?_
           refine WL.case 102 rfl (fun hg102 => ?_) (fun hg102 => ?_)
           ·
            exact absurd rfl hg102
           ·
            refine WL.rd_yes rfl rfl rfl rfl rfl rfl ((by exact Rd.field rfl F30_7 rfl rfl)) ?_
            refine WL.rd_yes rfl rfl rfl rfl rfl rfl ((by exact Rd.row1 rfl C3 rfl Z.M (by rfl))) ?_
            refine WL.rd_yes rfl rfl rfl rfl rfl rfl ((by exact Rd.field rfl F30_7 rfl rfl)) ?_
            refine WL.rd_yes rfl rfl rfl rfl rfl rfl ((by exact Rd.row1 rfl C3 rfl Z.M (by rfl))) ?_
            refine WL.rd_yes rfl rfl rfl rfl rfl rfl (Rd.neq rfl rfl rfl) ?_
            refine WL.rd rfl rfl rfl (Rd.pick_f rfl rfl rfl) ?_
            refine WL.nil ?_
            exact ⟨by repeat (first | exact Sub.nil | refine Sub.cons rfl (by first | rfl | (exact vb ⟨fun h => h rfl, False.elim⟩)) ?_), by exact (fun _ h => h.thin (SubL.mem Z.S))⟩
       ·
        refine WC.ite rfl (fun hc6 => ?_) (fun hc6 => ?_)
        ·
         exact hc6.elim
        ·
         refine WC.skip ?_
         refine thenQ.normal ?_
         refine WC.seq ?_
         refine WC.region ?_
         refine WL.rd rfl rfl rfl ((by exact Rd.rowS rfl G30 rfl Z.M Z.N rfl)) ?_
         refine WL.op rfl ?_
         refine OpW.call rfl rfl Z.E Z.K rfl rfl rfl ?_
         refine links_spec (o := obCommit (shaE T) qs tm) (ev := ev2) (pv := pv2) Z.M Z.M rfl hpl ?_; intro v110
         refine WL.rd rfl rfl rfl (Rd.assign rfl rfl) ?_
         refine WL.nil ?_
         refine thenQ.normal ?_
         refine WC.seq ?_
         refine WC.pick [0, 1, 5, 6, 7, 8, 11, 13, 14, 18] Z.P ?_
         refine WC.val 137 (.bool (decide False)) ?_ ?_
         ·
          refine WC.drawnA 27 rfl mixed ?_
          refine WD.take 0 rfl Z.K Held.all rfl rfl rfl (Rd.move rfl rfl) ?_
          refine WD.take 1 rfl Z.K Held.all rfl rfl rfl ((by exact Rd.lenE rfl rfl Tryz.underlying22 Z.M)) ?_
          refine WD.take 2 rfl Z.K Held.all rfl rfl rfl ((by exact Rd.field rfl F30_4 rfl rfl)) ?_
          refine WD.take 3 rfl Z.K Held.all rfl rfl rfl ((by exact Rd.row1 rfl C22 rfl Z.M (by rfl))) ?_
          refine WD.take 4 rfl Z.K Held.all rfl rfl rfl ((by exact Rd.lenE rfl rfl Tryz.underlying22 Z.M)) ?_
          refine WD.take 5 rfl Z.K Held.all rfl rfl rfl (Rd.add rfl rfl rfl Z.W) ?_
          refine WD.take 6 rfl Z.K Held.all rfl rfl rfl (Rd.neq rfl rfl rfl) ?_
          refine WD.take 7 rfl Z.K Held.all rfl rfl rfl (Rd.move rfl rfl) ?_
          refine WD.case 118 rfl (fun hg118 => ?_) (fun hg118 => ?_)
          ·
           exact absurd (by show ((qs.length + 1 : Nat) : Int) = 1 + (qs.length : Int); omega) hg118
          ·
           refine WD.take_yes 8 rfl Z.K Held.all rfl rfl rfl rfl rfl rfl (Rd.move rfl rfl) ?_
           refine WD.take_yes 9 rfl Z.K Held.all rfl rfl rfl rfl rfl rfl ((by exact Rd.idx1 (k := 0) rfl S22 rfl rfl rfl Z.M Z.W)) ?_
           refine WD.take_yes 10 rfl Z.K Held.all rfl rfl rfl rfl rfl rfl ((by exact Rd.get rfl C9 rfl Z.M (by rfl))) ?_
           refine WD.take_yes 11 rfl Z.K Held.all rfl rfl rfl rfl rfl rfl (Rd.move rfl rfl) ?_
           refine WD.one_yes 12 rfl Z.K rfl rfl rfl rfl ?_
           refine OpW.call rfl rfl Z.E Z.K rfl rfl rfl ?_
           refine id2_spec (s := T) Z.M Z.W ?_
           refine ⟨Z.H, ?_⟩
           refine WD.take_yes 13 rfl Z.K Z.H rfl rfl rfl rfl rfl rfl (Rd.sneq rfl rfl rfl) ?_
           refine WD.take 14 rfl Z.K Z.H rfl rfl rfl (Rd.pick_f rfl rfl rfl) ?_
           refine WD.take 15 rfl Z.K Z.H rfl rfl rfl (Rd.move rfl rfl) ?_
           refine WD.case 126 rfl (fun hg126 => ?_) (fun hg126 => ?_)
           ·
            exact absurd rfl hg126
           ·
            refine WD.take_yes 16 rfl Z.K Z.H rfl rfl rfl rfl rfl rfl (Rd.move rfl rfl) ?_
            refine WD.take_yes 17 rfl Z.K Z.H rfl rfl rfl rfl rfl rfl ((by exact Rd.lenE rfl rfl Tryz.underlying22 Z.M)) ?_
            refine WD.take_yes 18 rfl Z.K Z.H rfl rfl rfl rfl rfl rfl (Rd.gtr rfl rfl rfl) ?_
            refine WD.take_yes 19 rfl Z.K Z.H rfl rfl rfl rfl rfl rfl (Rd.move rfl rfl) ?_
            refine WD.case 130 rfl (fun hg130 => ?_) (fun hg130 => ?_)
            ·
             refine WD.take_yes 20 rfl Z.K Z.H rfl rfl rfl rfl rfl rfl (Rd.move rfl rfl) ?_
             refine WD.take_yes 21 rfl Z.K Z.H rfl rfl rfl rfl rfl rfl ((by exact Rd.idx1 (k := 1) rfl S22 rfl rfl rfl Z.M Z.W)) ?_
             refine WD.take_yes 22 rfl Z.K Z.H rfl rfl rfl rfl rfl rfl (Rd.get (g := vs) (k := 1) (xs := shaE T :: qs) (a := p) rfl C9 rfl Z.M (pars_one hqs hg130)) ?_
             refine WD.take_yes 23 rfl Z.K Z.H rfl rfl rfl rfl rfl rfl (Rd.move rfl rfl) ?_
             refine WD.take_yes 24 rfl Z.K Z.H rfl rfl rfl rfl rfl rfl (Rd.sneq rfl rfl rfl) ?_
             refine WD.take_yes 25 rfl Z.K Z.H rfl rfl rfl rfl rfl rfl (Rd.pick_t rfl rfl rfl) ?_
             refine WD.take 26 rfl Z.K Z.H rfl rfl rfl (Rd.pick_f rfl rfl rfl) ?_
             refine WD.done Z.K ?_
             exact ⟨by repeat (first | exact Sub.nil | refine Sub.cons rfl (by first | rfl | (exact vb ⟨fun h => h rfl, False.elim⟩)) ?_), by exact (fun _ h => h.thin (SubL.mem Z.S))⟩
            ·
             refine WD.take_no 20 rfl Z.K Z.H rfl rfl rfl rfl rfl rfl ?_
             refine WD.take_no 21 rfl Z.K Z.H rfl rfl rfl rfl rfl rfl ?_
             refine WD.take_no 22 rfl Z.K Z.H rfl rfl rfl rfl rfl rfl ?_
             refine WD.take_no 23 rfl Z.K Z.H rfl rfl rfl rfl rfl rfl ?_
             refine WD.take_no 24 rfl Z.K Z.H rfl rfl rfl rfl rfl rfl ?_
             refine WD.take_yes 25 rfl Z.K Z.H rfl rfl rfl rfl rfl rfl (Rd.pick_f rfl rfl rfl) ?_
             refine WD.take 26 rfl Z.K Z.H rfl rfl rfl (Rd.pick_f rfl rfl rfl) ?_
             refine WD.done Z.K ?_
             exact ⟨by repeat (first | exact Sub.nil | refine Sub.cons rfl (by rfl) ?_), by exact (fun _ h => h.thin (SubL.mem Z.S))⟩
         ·
          refine WC.ite rfl (fun hc7 => ?_) (fun hc7 => ?_)
          ·
           exact hc7.elim
          ·
           refine WC.skip ?_
           refine thenQ.normal ?_
           refine WC.seq ?_
           refine WC.region ?_
           refine WL.rd rfl rfl rfl (Rd.move rfl rfl) ?_
           refine WL.op rfl ?_
           refine OpW.call rfl rfl Z.E Z.K rfl rfl rfl ?_
           refine id2_spec (s := S) Z.M Z.W ?_; rw [← hnxS]
           refine WL.rd rfl rfl rfl (Rd.assign rfl rfl) ?_
           refine WL.nil ?_
           refine thenQ.normal ?_
           refine WC.seq ?_
           refine WC.region ?_
           refine WL.rd rfl rfl rfl (Rd.move rfl rfl) ?_
           refine WL.rd rfl rfl rfl (Rd.eql rfl rfl rfl) ?_
           refine WL.nil ?_
           refine thenQ.normal ?_
           refine WC.ite rfl (fun hc8 => ?_) (fun hc8 => ?_)
           ·
            obtain rfl : turn = 0 := by omega
            refine WC.region ?_
            refine WL.rd rfl rfl rfl (Rd.move rfl rfl) ?_
            refine WL.rd rfl rfl rfl (Rd.move rfl rfl) ?_
            refine WL.op rfl ?_
            refine OpW.buildSl (ps := [(0, _)]) rfl S22 Z.E rfl rfl Z.C Z.K rfl rfl rfl ?_; intro b144
            refine WL.op rfl ?_
            refine OpW.appendRow (enc := SL.one vs) rfl S22 rfl rfl Z.T Z.T [nx] rfl (by rfl) rfl (by intro x; rfl) (by intro x; rfl) (by exact ⟨by simp only [maxLen, List.length_append, List.length_nil, List.length_cons, List.length_drop, List.length_take, List.length_map]; omega, by omega⟩) rfl rfl ?_; intro v145 hv145
            refine WL.rd rfl rfl rfl (Rd.assign rfl rfl) ?_
            refine WL.nil ?_
            refine blockQ.normal ?_
            refine thenQ.normal ?_
            refine WC.region ?_
            refine WL.rd rfl rfl rfl (Rd.move rfl rfl) ?_
            refine WL.rd rfl rfl rfl (Rd.add rfl rfl rfl Z.W) ?_
            refine WL.rd rfl rfl rfl (Rd.assign rfl rfl) ?_
            refine WL.nil ?_
            exact loopQ3.mk (i + 1) v145 (dl2 ++ [nx]) ⟨by omega, by omega, fun _ => by rw [ids_next, ← hnx0, i3 rfl], fun h => absurd rfl h⟩ Z.W (by repeat (first | exact Sub.nil | refine Sub.cons rfl (by first | rfl | assumption) ?_)) Z.F
           ·
            have hd2 : dl2.length = min xs.length 12 := by rw [i4 Z.W, ids_len]
            refine WC.seq ?_
            refine WC.region ?_
            refine WL.rd rfl rfl rfl (Rd.move rfl rfl) ?_
            refine WL.rd rfl rfl rfl (Rd.move rfl rfl) ?_
            refine WL.rd rfl rfl rfl ((by exact Rd.idxA1 (k := i) rfl S22 rfl rfl Z.W Z.M Z.W)) ?_
            refine WL.rd rfl rfl rfl ((by exact Rd.getA rfl C9 rfl Z.M (by exact get!_of_lt Z.W))) ?_
            refine WL.rd rfl rfl rfl (Rd.move rfl rfl) ?_
            refine WL.rd rfl rfl rfl (Rd.sneq rfl rfl rfl) ?_
            refine WL.nil ?_
            refine thenQ.normal ?_
            refine WC.ite rfl (fun hc9 => ?_) (fun hc9 => ?_)
            ·
             exact absurd (by rw [i4 Z.W, ids_at Z.W]; exact hnx0.symm) hc9
            ·
             refine WC.skip ?_
             refine blockQ.normal ?_
             refine thenQ.normal ?_
             refine WC.region ?_
             refine WL.rd rfl rfl rfl (Rd.move rfl rfl) ?_
             refine WL.rd rfl rfl rfl (Rd.add rfl rfl rfl Z.W) ?_
             refine WL.rd rfl rfl rfl (Rd.assign rfl rfl) ?_
             refine WL.nil ?_
             exact loopQ3.mk (i + 1) iv2 dl2 ⟨by omega, by omega, fun h => absurd h Z.W, i4⟩ Z.W (by repeat (first | exact Sub.nil | refine Sub.cons rfl (by first | rfl | assumption) ?_)) Z.F
    ·
     refine WC.exit ?_
     refine thenQ.exit ?_
     refine loopQ3.exit ?_
     refine blockQ.exit ?_
     refine blockQ.normal ?_
     refine thenQ.normal ?_
     refine WC.region ?_
     refine WL.rd rfl rfl rfl (Rd.move rfl rfl) ?_
     refine WL.rd rfl rfl rfl (Rd.add rfl rfl rfl Z.W) ?_
     refine WL.rd rfl rfl rfl (Rd.assign rfl rfl) ?_
     refine WL.nil ?_
     exact loopQ4.mk (turn + 1) iv2 dl2 (idAt xs ts i) ⟨by omega, by
     rw [if_neg (Nat.succ_ne_zero _)]
     have hm : i = min xs.length 12 := by omega
     rcases Nat.eq_zero_or_pos turn with h | h
     · rw [i3 h, hm]
     · exact i4 Z.W⟩ Z.W (by repeat (first | exact Sub.nil | refine Sub.cons rfl (by rfl) ?_)) Z.F
  ·
   refine WC.exit ?_
   refine thenQ.exit ?_
   refine loopQ4.exit ?_
   refine blockQ.exit ?_
   refine thenQ.normal ?_
   refine WC.seq ?_
   refine WC.region ?_
   refine WL.rd rfl rfl rfl (Rd.assign rfl rfl) ?_
   refine WL.nil ?_
   refine thenQ.normal ?_
   refine WC.ret (Ret.one Tryz.results3 rfl ?_)
   exact ⟨_, _, hk, Z.F⟩
end
theorem elsStr : ElsW Tryz.prog 9 (SL.one vs) QStr := elsW_string Tryz.underlying9
theorem QStr_stable {W : World} {a : List UInt8} (w' : World) (h : QStr W a) (_ : Agree (· ∈ owned []) W w') : QStr w' a := h
end Go.Proofs.YtlbdpcadaojcbaaGreatDoor
