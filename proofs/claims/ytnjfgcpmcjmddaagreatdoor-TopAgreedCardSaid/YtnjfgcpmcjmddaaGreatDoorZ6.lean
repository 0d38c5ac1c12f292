/-
  Part 6 of the texts that the law TopAgreed is proved with: Es28, Es29, Ex3, Es30, Bld, Nm1, Nm2, Nm3, Nm4, Cr1, Ek1, Sh1, Sh2, Sh3, Sh4, Sh5, Ek2, Ek3, On1, Etreads, Etmakes, Etstores, Etsplits, Etobjects, Etlies, Etshelved, Etrefers, Hi2. No premise.
-/
import Derived.Test.YtnjfgcpmcjmddaaGreatDoorZ5
import Derived.LoopNIn
import Derived.Lib.Bytealg
import Derived.Lib.IndexLaws
import Derived.Tactics
import Derived.Tactics2
import Derived.Defers
import Derived.Laws.Pointers
import Derived.Laws.LoneSync
import Derived.RegionTactic
import Derived.RegionCalls
import Derived.ChangeAlike
import Derived.KernelRfl
namespace Go.Ex
open Go Go.SL
section
variable {ρ0 : Rho} {X : Fx} {o : Oper} {R : List RO} {O0 F : List Own} {e : Tr} {Bf : Bs} {rc : RC} {ops : Array Oper} {k : Nat} {ds : List Deferred} {U : Us} {S : Sp} {nd nd' : Nd} {l : Array Bool} {a : Act} {w : World} {i : Nat} {rx : XR} {B : Bs} {h : Hp}
theorem runO_rd (hX : FxOk X R) {y : Bool} {q : Tr × Hp} (hr : isR (xo X o.op) = true) (hm : runO X rc y o.dst (xo X o.op) e B h = some q) :
 q.2 = h ∧ ∃ d av, o.dst = some d ∧ q.1 = e.put d av ∧ ∀ (ρ : Rho) (OB O : List Own) (L : Env), ER ρ e L → HR ρ B OB h O → ∃ v, VR ρ av v ∧ Rd X.P o L R O v := by
 generalize hx : xo X o.op = x at hm hr
 cases x with
 | p f =>
   obtain ⟨a, d, ha, hd, rfl⟩ := resP_some (show resP o.dst e h (f e) = some q from hm)
   exact ⟨rfl, d, a, hd, rfl, fun ρ OB O L hE H => xo_p hX.q hx hE ha⟩
 | l t x =>
   obtain ⟨a, d, ha, hd, rfl⟩ := resP_some (show resP o.dst e h (ldA X e B h t x) = some q from hm)
   exact ⟨rfl, d, a, hd, rfl, fun ρ OB O L hE H => xo_l hx hX.g hE H ha⟩
 | r f =>
   obtain ⟨a, d, ha, hd, rfl⟩ := resP_some (show resP o.dst e h (f e B h) = some q from hm)
   exact ⟨rfl, d, a, hd, rfl, fun ρ OB O L hE H => xo_r hx hE H ha⟩
 | _ => cases hr
theorem Ext.within {ρ ρ' : Rho} {A Y0 a b : Nat} (h : Ext ρ0 ρ A Y0) (h' : Ext ρ ρ' a b) (h1 : A ≤ a) (h2 : b ≤ Y0) : Ext ρ0 ρ' A Y0 :=
 ⟨Rho.trans h.1 h'.1, fun i hi => by rw [h'.2 i Z.W, h.2 i hi]⟩
theorem run_ok (hX : FxOk X R) (hrc : RcOk X R rc) (hx : rx = xr X ops) (hok : ∀ o ∈ ops.toList, opOk k o = true) {x : XP} {wb : Bool} (hxi : nth rx.xs i = some x) (hwb : wantE x.g nd.e = some wb) (hm : stB X rc Bf S U nd i x wb = some nd') (hi : i ∈ Region.ready .any ops l) (hN : NR k ds ρ0 R ops rx U Bf O0 F S nd l a w) (Q : Exit → Act → World → Prop) :
 left (l.setIfInBounds i true) + 1 = left l ∧ wpOp X.P ops Q i (fun a' w' => NR k ds ρ0 R ops rx U Bf O0 F S nd' (l.setIfInBounds i true) a' w') a w := by
 obtain ⟨o, ho, rfl⟩ := nth_xs hx hxi
 have hilt : i < ops.size := (Array.getElem?_eq_some_iff.1 ho).1
 have hok1 : opOk k o = true := hok o (Array.mem_toList_iff.2 (Array.mem_of_getElem? ho))
 obtain ⟨hsz, hb, hcl, hS, ρ, L, O, hXt, hNw, hE, H, hfr, hs⟩ := hN
 have hil : l.getD i false = false := by
  have := (mem_ready.1 hi).1
  simp [hsz, hilt] at this ⊢
  exact this
 refine ⟨left_set (by rw [hsz]; exact hilt) hil, ?_⟩
 unfold stB at hm
 rw [fN_eq, fN_eq] at hm
 cases hg : gdO ops o.guard with
 | none =>
   rw [xop_bad hg] at hwb hm
   cases hwb
   cases hm
 | some g =>
   rw [xop_good hg] at hwb hm
   have hw := want_ok hg hwb hE hfr
   unfold wpOp
   rw [ho]
   cases wb with
   | false =>
     have hm : some (⟨Nat.lor nd.li (2 ^ i), putD nd.e o.dst (.tu []), nd.h⟩ : Nd) = some nd' := hm
     cases hm
     simp only [hw, Bool.false_eq_true, if_false]
     exact ⟨by rw [Array.size_setIfInBounds]; exact hsz, NR.bits_set hsz hb hilt, hcl.set hi, hS.mono i, ρ, putL L o.dst undef, O, hXt, fun j hj hl => hNw j hj (un_of_set hl), erPut hE _ (.tu .nil), H, frPut hfr (opOk_d hok1 ds) undef, hs⟩
   | true =>
     simp only [hw, if_true]
     obtain ⟨q, hq, hm⟩ := bnd_some (show bnd (runO X rc false o.dst (xo X o.op) nd.e Bf ⟨nd.h.cur, nd.h.tomb, S.nx + i * S.s, S.lv⟩) (stU U (Nat.lor nd.li (2 ^ i)) (S.nx + i * S.s + S.s)) = some nd' from hm)
     obtain ⟨hu, hm⟩ := ifb_none hm
     cases hm
     obtain ⟨hu, htop⟩ := and2 hu
     have htop := Nat.le_of_ble_eq_true htop
     refine .inl ?_
     have H' : HR ρ Bf O0 ⟨nd.h.cur, nd.h.tomb, S.nx + i * S.s, S.lv⟩ O := H
     by_cases hR : isR (xo X o.op) = true
     · obtain ⟨hq2, d, av, hd, hq1, hrd⟩ := runO_rd hX hR hq
       obtain ⟨v, hv, hr⟩ := hrd ρ O0 O L hE H'
       unfold Oper.wp
       rw [hr a.eval w (fun x u hx => hfr.ev hx) (fun p hp => hs.read hp) (fun c hc => hs.see (List.mem_append_left _ hc)), Oper.upon_value, hd]
       refine ⟨by rw [Array.size_setIfInBounds]; exact hsz, NR.bits_set hsz hb hilt, hcl.set hi, hS.mono i, ρ, (d, v) :: L, O, hXt, fun j hj hl => hNw j hj (un_of_set hl), ?_, ?_, hfr.put (opOk_d hok1 ds d hd) v, hs⟩
       · show ER ρ q.1 _
         rw [hq1]; exact hE.put hv
       · show HR ρ Bf O0 q.2 O
         rw [hq2]; exact H'
     · rcases runO_ok hX hrc hok1 hq with ⟨hf, _⟩ | ⟨hle, hop⟩
       · cases hf
       have hle : S.nx + i * S.s ≤ q.2.nx := hle
       have hNi := (hNw i hilt hil).sub (Nat.le_refl _) htop
       refine Oper.wp_mono (fun a' w' hq => ?_) (hop ρ O0 O F L ds hE H' hNi a w hfr hs Q)
       obtain ⟨L', R', O', ⟨rfl, ρ', O1, hX', hE', H1, rfl⟩, hfr', hs'⟩ := hq
       have hX' : Ext ρ ρ' (S.nx + i * S.s) q.2.nx := hX'
       have hi1 : (i + 1) * S.s ≤ ops.size * S.s := Nat.mul_le_mul_right _ hilt
       rw [Nat.add_mul, Nat.one_mul] at hi1
       have hwr : wrOf rx.xs i = true := by
        unfold wrOf
        rw [hxi, xop_good hg]
        show (!isR (xo X o.op)) = true
        simpa using hR
       refine ⟨by rw [Array.size_setIfInBounds]; exact hsz, NR.bits_set hsz hb hilt, hcl.set hi, ⟨fun p hp => hs'.read hp, fun hsm hk => ?_, fun u hu' hk o' ho' => ?_⟩, ρ', L', O1, hXt.within hX' Z.W Z.W, fun j hj hl => ?_, hE', H1, hfr', hs'⟩
       · exfalso
         have hmem : i ∈ rx.ws := by
          subst hx
          refine List.mem_filter.2 ⟨List.mem_range.2 ?_, hwr⟩
          rw [nth_eq] at hxi
          exact (List.getElem?_eq_some_iff.1 hxi).1
         have := hk i hmem
         rw [getD_set_self (by rw [hsz]; exact hilt)] at this
         cases this
       · have h1 : anyUp (Nat.lor nd.li (2 ^ i)) u.2.1 = false := anyUp_of fun k hk' => by rw [← NR.bits_set hsz hb hilt]; exact hk k hk'
         have h2 := List.all_eq_true.1 (show (U.all fun u => anyUp (Nat.lor nd.li (2 ^ i)) u.2.1 || (!el q.2.tomb u.2.2.1)) = true from hu) u hu'
         rw [h1, Bool.false_or, el_eq] at h2
         have h3 : u.2.2.1 ∉ q.2.tomb := by simpa using h2
         exact hs'.see (List.mem_append_left _ (H1.kept h3 ho'))
       · have hji : j ≠ i := fun e => by
          subst e
          rw [getD_set_self (by rw [hsz]; exact hilt)] at hl; cases hl
         refine (hNw j hj (un_of_set hl)).ext hX' ?_
         rcases Nat.lt_or_gt_of_ne hji with h1 | h1
         · right
           have h2 : (j + 1) * S.s ≤ i * S.s := Nat.mul_le_mul_right _ h1
           rw [Nat.add_mul, Nat.one_mul] at h2
           omega
         · left
           have h2 : (i + 1) * S.s ≤ j * S.s := Nat.mul_le_mul_right _ h1
           rw [Nat.add_mul, Nat.one_mul] at h2
           omega
def Nd.Le (m n : Nd) : Prop := m = n ∨ (m.li = n.li ∧ m.e.le n.e = true ∧ m.h.le n.h = true)
theorem NR.le {m n : Nd} (h : m.Le n) (hN : NR k ds ρ0 R ops rx U Bf O0 F S n l a w) : NR k ds ρ0 R ops rx U Bf O0 F S m l a w := by
 rcases h with rfl | ⟨h1, h2, h3⟩
 · exact hN
 · obtain ⟨hsz, hb, hcl, hS, ρ, L, O, hXt, hNw, hE, H, hfr, hs⟩ := hN
   obtain ⟨O', H', hW⟩ := H.le h3
   exact ⟨hsz, by rw [h1]; exact hb, hcl, hS, ρ, L, O', hXt, hNw, hE.le h2, H', hfr, hW.sat hs⟩
theorem ins_ok : ∀ {l r : List Nd} {n : Nd}, ins l n = some r → (∀ m ∈ l, m ∈ r) ∧ ∃ m ∈ r, m.Le n
 | [], r, n, h => by cases h; exact ⟨fun m hm => absurd hm List.not_mem_nil, n, List.mem_singleton.2 rfl, .inl rfl⟩
 | m :: l, r, n, h => by
   have h : ifb (Nat.beq m.li n.li) (ifb (m.e.le n.e && m.h.le n.h) (some (m :: l)) none) (bnd (ins l n) fun s => some (m :: s)) = some r := h
   rcases ifb_some h with ⟨h1, h2⟩ | ⟨_, h2⟩
   · obtain ⟨h3, h2⟩ := ifb_none h2
     cases h2
     obtain ⟨h3, h4⟩ := and2 h3
     exact ⟨fun m hm => hm, m, List.mem_cons_self, .inr ⟨beqN h1, h3, h4⟩⟩
   · obtain ⟨s, hs, h2⟩ := bnd_some h2
     cases h2
     obtain ⟨h3, m', hm', hle⟩ := ins_ok hs
     exact ⟨fun q hq => by
      rcases List.mem_cons.1 hq with rfl | hq
      · exact List.mem_cons_self
      · exact List.mem_cons_of_mem _ (h3 q hq), m', List.mem_cons_of_mem _ hm', hle⟩
theorem insAll_ok : ∀ {ns l r : List Nd}, insAll l ns = some r → (∀ m ∈ l, m ∈ r) ∧ ∀ n ∈ ns, ∃ m ∈ r, m.Le n
 | [], l, r, h => by
   have h : some l = some r := by cases l <;> exact h
   cases h; exact ⟨fun m hm => hm, fun n hn => absurd hn List.not_mem_nil⟩
 | n :: ns, l, r, h => by
   have h : bnd (ins l n) (fun l => insAll l ns) = some r := by cases l <;> exact h
   obtain ⟨l1, hl1, h⟩ := bnd_some h
   obtain ⟨h1, m, hm, hle⟩ := ins_ok hl1
   obtain ⟨h2, h3⟩ := insAll_ok h
   refine ⟨fun q hq => h2 q (h1 q hq), fun q hq => ?_⟩
   rcases List.mem_cons.1 hq with rfl | hq
   · exact ⟨m, h2 m hm, hle⟩
   · exact h3 q hq
theorem pickP_some : ∀ {rs : List Nat} {n : Nd}, pickP X ops rx U Bf nd rs = some n → ∃ i ∈ rs, pick1 X ops rx U Bf nd i = some n
 | [], _, h => by cases h
 | i :: rs, n, h => by
   rcases orC_some (show orC (pick1 X ops rx U Bf nd i) (pickP X ops rx U Bf nd rs) = some n from h) with h | ⟨_, h⟩
   · exact ⟨i, List.mem_cons_self, h⟩
   · obtain ⟨j, hj, h⟩ := pickP_some h
     exact ⟨j, List.mem_cons_of_mem _ hj, h⟩
theorem runB_some : ∀ {rs : List Nat} {ns : List Nd}, runB X rc rx Bf S U nd rs = some ns → ∀ i ∈ rs, ∃ x wb n, nth rx.xs i = some x ∧ wantE x.g nd.e = some wb ∧ stB X rc Bf S U nd i x wb = some n ∧ n ∈ ns
 | [], _, _, i, hi => absurd hi List.not_mem_nil
 | j :: rs, ns, h, i, hi => by
   obtain ⟨x, hx, h⟩ := bnd_some (show bnd (nth rx.xs j) _ = some ns from h)
   obtain ⟨wb, hwb, h⟩ := bnd_some h
   obtain ⟨n, hn, h⟩ := bnd_some h
   obtain ⟨l, hl, h⟩ := bnd_some h
   cases h
   rcases List.mem_cons.1 hi with rfl | hi
   · exact ⟨x, wb, n, hx, hwb, hn, List.mem_cons_self⟩
   · obtain ⟨x', wb', n', h1, h2, h3, h4⟩ := runB_some hl i hi
     exact ⟨x', wb', n', h1, h2, h3, List.mem_cons_of_mem _ h4⟩
theorem someN_some {x : Option (List Nd)} {ns : List Nd} (h : someN x = some ns) : x = some ns ∧ ns ≠ [] := by
 match x, h with
 | none, h => cases h
 | some [], h => cases h
 | some (n :: ns'), h => cases h; exact ⟨rfl, by simp⟩
theorem runX_some {C : Nd → Prop} (hC : ∀ m n, m.Le n → C n → C m) : ∀ {nds ns : List Nd}, runX X rc ops rx Bf S U nds = some ns → ∀ nd ∈ nds, ∃ b, nextN X rc ops rx Bf S U nd (rdyM nd.li rx.ops 0) = some b ∧ b ≠ [] ∧ ∀ n ∈ b, C n → ∃ m ∈ ns, C m
 | [], _, _, nd, hnd => absurd hnd List.not_mem_nil
 | nd0 :: r, ns, h, nd, hnd => by
   obtain ⟨a, ha, h⟩ := bnd_some (show bnd (fN nd0.li fun li => someN (nextN X rc ops rx Bf S U nd0 (rdyM li rx.ops 0))) _ = some ns from h)
   rw [fN_eq] at ha
   obtain ⟨ha, hne⟩ := someN_some ha
   obtain ⟨b, hb, h⟩ := bnd_some h
   obtain ⟨h1, h2⟩ := insAll_ok h
   rcases List.mem_cons.1 hnd with rfl | hnd
   · exact ⟨a, ha, hne, fun n hn hc => ⟨n, h1 n hn, hc⟩⟩
   · obtain ⟨c, hc, hne', h3⟩ := runX_some hC hb nd hnd
     refine ⟨c, hc, hne', fun n hn hcn => ?_⟩
     obtain ⟨m, hm, hcm⟩ := h3 n hn hcn
     obtain ⟨m', hm', hle'⟩ := h2 m hm
     exact ⟨m', hm', hC _ _ hle' hcm⟩
def Fin (k : Nat) (ds : List Deferred) (ρ0 : Rho) (R : List RO) (n : Nat) (Bf : Bs) (O0 F : List Own) (S : Sp) (q : Tr × Hp) : Exit → Act → World → Prop := fun ex a w => ex = .normal ∧ ∃ ρ L O, Ext ρ0 ρ S.nx (S.nx + n * S.s) ∧ ER ρ q.1 L ∧ HR ρ Bf O0 q.2 O ∧ Fr ⟨k, ds⟩ L a ∧ Sat R (O ++ F) w
theorem runD_ok (hX : FxOk X R) (hrc : RcOk X R rc) (hx : rx = xr X ops) (hU : UOk ops rx U) (hB0 : LR ρ0 Bf O0) (hok : ∀ o ∈ ops.toList, opOk k o = true) : ∀ (fuel : Nat) {nds : List Nd} {q : Tr × Hp}, runD X rc ops rx Bf S U fuel nds = some q → ∀ nd ∈ nds, ∀ (l : Array Bool) (a : Act) (w : World), NR k ds ρ0 R ops rx U Bf O0 F S nd l a w → left l = fuel →
 Go.SL.wpAnyL X.P .any ops (Fin k ds ρ0 R ops.size Bf O0 F S q) (SS R rx U Bf O0) fuel l a w
 | 0, nds, q, hm, nd, hnd, l, a, w, hN, hl => by
   have hm : lastN nds = some q := hm
   unfold lastN at hm
   split at hm
   · cases hm
     rw [List.mem_singleton] at hnd
     subst hnd
     obtain ⟨_, _, _, _, ρ, L, O, hXt, _, hE, H, hfr, hs⟩ := hN
     exact ⟨left_zero hl, rfl, ρ, L, O, hXt, hE, H, hfr, hs⟩
   · cases hm
 | fuel + 1, nds, q, hm, nd, hnd, l, a, w, hN, hl => by
   obtain ⟨ns, hns, hm⟩ := bnd_some (show bnd (runX X rc ops rx Bf S U nds) (runD X rc ops rx Bf S U fuel) = some q from hm)
   have ih := fun nd hnd l a w hN hl => runD_ok hX hrc hx hU hB0 hok fuel hm nd hnd l a w hN hl
   have hrdy : ∀ i, i ∈ Region.ready .any ops l ↔ i ∈ rdyM nd.li rx.ops 0 := fun i => by
    have : rx.ops = ops.toList := by subst hx; rfl
    rw [this]
    exact rdy_ready hN.1 hN.2.1 i
   have key : ∀ (l' : Array Bool) (a' : Act) (w' : World), ∃ b, nextN X rc ops rx Bf S U nd (rdyM nd.li rx.ops 0) = some b ∧ b ≠ [] ∧ ∀ n ∈ b, NR k ds ρ0 R ops rx U Bf O0 F S n l' a' w' → ∃ m ∈ ns, NR k ds ρ0 R ops rx U Bf O0 F S m l' a' w' :=
    fun l' a' w' => runX_some (C := fun n => NR k ds ρ0 R ops rx U Bf O0 F S n l' a' w') (fun m n h hn => hn.le h) hns nd hnd
   obtain ⟨b, hb, hbne, _⟩ := key l a w
   have key : ∀ n ∈ b, ∀ (l' : Array Bool) (a' : Act) (w' : World), NR k ds ρ0 R ops rx U Bf O0 F S n l' a' w' → ∃ m ∈ ns, NR k ds ρ0 R ops rx U Bf O0 F S m l' a' w' := fun n hn l' a' w' hN' => by
    obtain ⟨b', hb', _, hk⟩ := key l' a' w'
    rw [hb] at hb'; cases hb'
    exact hk n hn hN'
   unfold nextN at hb
   rcases orC_some hb with hb | ⟨_, hb⟩
   · obtain ⟨n, hn, hb⟩ := bnd_some hb
     cases hb
     obtain ⟨i, hi, hp⟩ := pickP_some hn
     obtain ⟨a', hN', hl', hwp⟩ := pick_ok hX hx hU hB0 hok hp ((hrdy i).2 hi) hN
     obtain ⟨m, hm', hNm⟩ := key n (List.mem_singleton.2 rfl) _ _ _ hN'
     exact hwp _ fuel (fun c a w h => by cases h.1) (ih m hm' _ _ _ hNm Z.W)
   · have hall := runB_some hb
     refine ⟨fun hemp => ?_, fun i hi => ?_⟩
     · exfalso
       have he : rdyM nd.li rx.ops 0 = [] := List.eq_nil_iff_forall_not_mem.2 fun i hi => by
        have := (hrdy i).2 hi
        rw [hemp] at this; cases this
       rw [he] at hb
       cases hb
       exact hbne rfl
     · obtain ⟨x, wb, n, h1, h2, h3, h4⟩ := hall i ((hrdy i).1 hi)
       obtain ⟨hl', hwp⟩ := run_ok hX hrc hx hok h1 h2 h3 hi hN (Fin k ds ρ0 R ops.size Bf O0 F S q)
       refine wpOp_mono (fun a' w' hN' => ?_) hwp
       obtain ⟨m, hm', hNm⟩ := key n h4 _ _ _ hN'
       exact ⟨hNm.2.2.2.1, ih m hm' _ _ _ hNm Z.W⟩
theorem orc_ok {os : List Oper} {xs : List XP} {B : Bs} {h : Hp} : ∀ (xl : List XP) (i : Nat) (e : Tr), ∀ u ∈ orc X os xs B h xl i e, u.2.1 = behind os xs u.1
 | [], _, _, u, hu => absurd hu List.not_mem_nil
 | x :: r, i, e, u, hu => by
   unfold orc at hu
   split at hu
   · rcases List.mem_cons.1 hu with rfl | hu
     · rfl
     · exact orc_ok r _ _ u hu
   · exact orc_ok r _ _ u hu
theorem allB_mem {α : Type} {f : α → Bool} {l : List α} (h : allB f l = true) : ∀ x ∈ l, f x = true := by
 rw [allB_eq] at h
 exact List.all_eq_true.1 h
theorem regD_ok {ro : Option Nat} {x : Xt} {e' : Tr} {h' : Hp} {id : Nat} (hX : FxOk X R) (hrc : RcOk X R rc) (hm : regD X rc ops (xr X ops) e B h = some (x, e', h')) :
 h.nx ≤ h'.nx ∧ ∀ (k : Nat) (ρ : Rho) (OB F : List Own) (a : Act) (w : World), codeOk k (.region id ops true) = true → Nw ρ h.nx h'.nx → St k ρ e B OB h R F a w →
  (Code.region id ops true).wpIn (fw ro) 0 X.P (fun ex a' w' => exM x ex ∧ ∃ ρ', Ext ρ ρ' h.nx h'.nx ∧ St k ρ' e' B OB h' R F a' w') a w := by
 unfold regD at hm
 cases hlv : h.lv with
 | zero => rw [hlv] at hm; cases hm
 | succ l =>
   rw [hlv] at hm
   have hm : regS X rc ops (xr X ops) e B h l = some (x, e', h') := hm
   unfold regS at hm
   rw [fN_eq] at hm
   obtain ⟨q, hq, hm⟩ := bnd_some hm
   cases hm
   have hnx : (h.over (h.nx + (xr X ops).n * 16777216 ^ l) q.2).nx = h.nx + ops.size * 16777216 ^ l := rfl
   refine ⟨by rw [hnx]; omega, fun k ρ OB F a w hok hN hst => ?_⟩
   rw [hnx] at hN ⊢
   obtain ⟨L, O, M, hE, H, hM, hfr, hs⟩ := hst
   have hops : ∀ o ∈ ops.toList, opOk k o = true := allB_mem hok
   have hUo : UOk ops (xr X ops) (orcU X (xr X ops) e B h) := fun u hu => by
    unfold orcU at hu
    rw [ifb_eq] at hu
    split at hu
    · exact absurd hu List.not_mem_nil
    · exact orc_ok _ _ _ u hu
   have hw1 : Go.SL.wpAnyL X.P .any ops (Fin k a.defers ρ R ops.size (h.flat B) O (M ++ F) ⟨h.nx, 16777216 ^ l, l⟩ q) (SS R (xr X ops) (orcU X (xr X ops) e B h) (h.flat B) O) ops.size (Array.replicate ops.size false) a { w with drawn := w.drawn + 1 } := by
    refine runD_ok hX hrc rfl hUo H.flat hops ops.size (show runD X rc ops (xr X ops) (h.flat B) ⟨h.nx, 16777216 ^ l, l⟩ (orcU X (xr X ops) e B h) ops.size [⟨0, e, ⟨[], [], h.nx, l⟩⟩] = some q from hq) _ (List.mem_singleton.2 rfl) _ _ _ ?_ (left_replicate _)
    have hs2 := hs.drew (w.drawn + 1)
    refine ⟨by simp, fun i => ?_, fun j oj hj hl => ?_, ⟨fun p hp => hs2.read hp, fun _ _ o ho => hs2.see (List.mem_append_left _ ho), fun u _ _ o ho => hs2.see (List.mem_append_left _ (fndO_mem ho))⟩, ρ, L, O, Ext.refl .., fun i hi _ => hN.sub (Nat.le_add_right _ _) ?_, hE, ⟨H.flat, [], .nil, rfl⟩, hfr, hs2⟩
    · rw [bit_zero, Array.getD_eq_getD_getElem?, Array.getElem?_replicate]
      split <;> rfl
    · rw [Array.getD_eq_getD_getElem?, Array.getElem?_replicate] at hl
      split at hl <;> cases hl
    · have : (i + 1) * 16777216 ^ l ≤ ops.size * 16777216 ^ l := Nat.mul_le_mul_right _ hi
      rw [Nat.add_mul, Nat.one_mul] at this
      show h.nx + i * 16777216 ^ l + 16777216 ^ l ≤ _
      omega
   refine wpIn_mono (wpIn_region_any hX.mix (wpAny_in (fun o ho => opOk_noDef (hops o ho)) (fun ⟨_, _, hf⟩ => by cases hf.1) _ _ _ _ (wpAny_of_L _ _ _ _ hw1))) fun ex a' w' hf => ?_
   obtain ⟨rfl, ρ', L', O2, hX', hE', G, hfr', hs'⟩ := hf
   obtain ⟨O3, H3, hW⟩ := H.over (nx := h.nx + (xr X ops).n * 16777216 ^ l) hX'.1 G
   have hd : a'.defers = a.defers := hfr'.defers
   exact ⟨trivial, ρ', hX', L', O3, M, hE', H3, by rw [hd]; exact hM, by rw [hd]; exact hfr', hW.sat hs'⟩
end
end Go.Ex
namespace Go.Ex
open Go Go.SL
section
variable {ρ : Rho} {X : Fx} {o : Oper} {R : List RO} {O F : List Own} {e : Tr} {B : Bs} {OB : List Own} {h : Hp} {rc : RC} {ops : Array Oper} {k : Nat} {ds : List Deferred} {a : Act} {w : World}
abbrev Aft (X : Fx) (R : List RO) (k : Nat) (ρ : Rho) (B : Bs) (OB F : List Own) (m : Nat) (x : Xt) (e' : Tr) (h' : Hp) : Exit → Act → World → Prop := fun ex a' w' => exM x ex ∧ ∃ ρ', Ext ρ ρ' m h'.nx ∧ St k ρ' e' B OB h' R F a' w'
theorem thenA_some {f : Tr → Hp → Rs} {r : Rs} {x : Xt} {e' : Tr} {h' : Hp} (hm : thenA f r = some (x, e', h')) : (∃ e1 h1, r = some (.nm, e1, h1) ∧ f e1 h1 = some (x, e', h')) ∨ (r = some (x, e', h') ∧ x ≠ .nm) := by
 obtain ⟨q, hq, hm⟩ := bnd_some hm
 obtain ⟨x1, e1, h1⟩ := q
 cases x1 with
 | nm => exact .inl ⟨e1, h1, hq, hm⟩
 | rt =>
   have hm : r = some (x, e', h') := hm
   rw [hq] at hm
   cases hm
   exact .inr ⟨hq, fun h => by cases h⟩
 | ex i =>
   have hm : r = some (x, e', h') := hm
   rw [hq] at hm
   cases hm
   exact .inr ⟨hq, fun h => by cases h⟩
theorem blockA_some {id : Nat} {r : Rs} {x : Xt} {e' : Tr} {h' : Hp} (hm : blockA id r = some (x, e', h')) : (r = some (.ex id, e', h') ∧ x = .nm) ∨ (r = some (x, e', h') ∧ x ≠ .ex id) := by
 obtain ⟨q, hq, hm⟩ := bnd_some hm
 obtain ⟨x1, e1, h1⟩ := q
 cases x1 with
 | nm =>
   have hm : r = some (x, e', h') := hm
   rw [hq] at hm
   cases hm
   exact .inr ⟨hq, fun h => by cases h⟩
 | rt =>
   have hm : r = some (x, e', h') := hm
   rw [hq] at hm
   cases hm
   exact .inr ⟨hq, fun h => by cases h⟩
 | ex i =>
   rcases ifb_some (show ifb (Nat.beq i id) (some (.nm, e1, h1)) r = some (x, e', h') from hm) with ⟨h1, h2⟩ | ⟨h1, h2⟩
   · obtain rfl := beqN h1
     cases h2
     exact .inl ⟨hq, rfl⟩
   · rw [hq] at h2
     cases h2
     refine .inr ⟨hq, fun h => ?_⟩
     cases h
     rw [show Nat.beq id id = true from Nat.beq_refl _] at h1
     cases h1
theorem exM_normal {ex : Exit} (h : exM .nm ex) : ex = .normal := by cases ex <;> first | rfl | exact h.elim
theorem exM_exit {i : Nat} {ex : Exit} (h : exM (.ex i) ex) : ex = .exit i := by cases ex <;> first | exact congrArg _ (Eq.symm h) | exact h.elim
theorem exM_not {x : Xt} {ex : Exit} (h : exM x ex) (hx : x ≠ .nm) {K : Act → World → Prop} {Q : Exit → Act → World → Prop} {a : Act} {w : World} (hq : Q ex a w) : Exit.then K Q ex a w := by
 cases ex with
 | normal => cases x <;> first | exact absurd rfl hx | exact h.elim
 | _ => exact hq
theorem yield_nx (hrc : RcOk X R rc) {j : Nat} {l : List AV} {q : AV × Hp} (hm : bnd (h.take B j) (yieldA rc j l B) = some q) : h.nx ≤ q.2.nx := by
 obtain ⟨p, hp, hm⟩ := bnd_some hm
 have hnx1 := take_nx hp
 unfold yieldA at hm
 split at hm
 case h_2 => cases hm
 obtain ⟨_, hm⟩ := ifb_none hm
 obtain ⟨e1, h2, hr1, hm⟩ := yBody_some hm
 obtain ⟨x2, e2, h3, hr2, b, xo, rfl, _, _⟩ := yEnd_some hm
 have h1 := (hrc _ _ _ _ _ _ _ _ hr1).1
 have h2 := (hrc _ _ _ _ _ _ _ _ hr2).1
 show h.nx ≤ h3.nx
 omega
theorem runO_nx (hX : FxOk X R) (hrc : RcOk X R rc) {y : Bool} {d : Option Nat} {op : Op} {q : Tr × Hp} (hm : runO X rc y d (xo X op) e B h = some q) : h.nx ≤ q.2.nx := by
 generalize hx : xo X op = x at hm
 cases x with
 | p f => obtain ⟨a, d, ha, hd, rfl⟩ := resP_some (show resP d e h (f e) = some q from hm); exact Nat.le_refl _
 | l t x => obtain ⟨a, d, ha, hd, rfl⟩ := resP_some (show resP d e h (ldA X e B h t x) = some q from hm); exact Nat.le_refl _
 | r f => obtain ⟨a, d, ha, hd, rfl⟩ := resP_some (show resP d e h (f e B h) = some q from hm); exact Nat.le_refl _
 | w f => obtain ⟨p, hp, rfl⟩ := resW_some (show resW d e (f e B h) = some q from hm); exact xo_nx hx hp
 | c f =>
   obtain ⟨p, hp, rfl⟩ := resW_some (show resW d e (f rc y e B h) = some q from hm)
   rcases xo_call hx with ⟨x, args, ts, hop, rfl⟩ | ⟨x, name, args, ts, hop, rfl⟩
   · obtain ⟨l, hl, hp⟩ := bnd_some hp
     obtain ⟨v, hv, hp⟩ := bnd_some hp
     by_cases hy : ∃ j, v = .yl j
     · obtain ⟨j, rfl⟩ := hy
       obtain ⟨hy, hp⟩ := ifb_none (show ifb y (bnd (h.take B j) (yieldA rc j l B)) none = some p from hp)
       exact yield_nx hrc hp
     · exact callV_nx hX hrc hp fun j hj => hy ⟨j, hj⟩
   · obtain ⟨l, hl, hp⟩ := bnd_some hp
     obtain ⟨v, hv, hp⟩ := bnd_some hp
     exact callI_nx hX hrc hp
 | bad => cases hm
theorem rl_nx (hX : FxOk X R) (hrc : RcOk X R rc) {y : Bool} : ∀ (rest : List Oper) {e : Tr} {h : Hp} {q : Tr × Hp}, runL X rc y B (mapL (xop X ops) rest) e h = some q → h.nx ≤ q.2.nx
 | [], e, h, q, hm => by
   have hm : some (e, h) = some q := hm
   cases hm; exact Nat.le_refl _
 | o :: rest, e, h, q, hm => by
   have hm : bnd (wantE (xop X ops o).g e) (fun w => bnd (stL X rc y (xop X ops o) e B h w) fun q => runL X rc y B (mapL (xop X ops) rest) q.1 q.2) = some q := hm
   obtain ⟨wb, hwb, hm⟩ := bnd_some hm
   obtain ⟨q1, hq1, hm⟩ := bnd_some hm
   refine Nat.le_trans ?_ (rl_nx hX hrc rest hm)
   cases wb with
   | false =>
     have hq1 : some (putD e (xop X ops o).d (.tu []), h) = some q1 := hq1
     cases hq1; exact Nat.le_refl _
   | true =>
     have hq1 : runO X rc y (xop X ops o).d (xop X ops o).x e B h = some q1 := hq1
     cases hg : gdO ops o.guard with
     | none => rw [xop_bad hg] at hq1; cases hq1
     | some g => rw [xop_good hg] at hq1; exact runO_nx hX hrc hq1
theorem seq_ok {y : Bool} {c d : Code} {x : Xt} {e' : Tr} {h' : Hp} (hrc : RcOk X R rc) (hm : thenA (fun e h => rc y d e B h) (rc y c e B h) = some (x, e', h')) :
 h.nx ≤ h'.nx ∧ ∀ (ro : Option Nat) (k : Nat) (ρ : Rho) (OB F : List Own) (a : Act) (w : World), codeOk k c = true → codeOk k d = true → (y = true → ro = none) → Nw ρ h.nx h'.nx → St k ρ e B OB h R F a w →
  (Code.seq c d).wpIn (fw ro) 0 X.P (Aft X R k ρ B OB F h.nx x e' h') a w := by
 rcases thenA_some hm with ⟨e1, h1, hr1, hr2⟩ | ⟨hr1, hx⟩
 · obtain ⟨hle1, hw1⟩ := hrc _ _ _ _ _ _ _ _ hr1
   obtain ⟨hle2, hw2⟩ := hrc _ _ _ _ _ _ _ _ hr2
   refine ⟨Nat.le_trans hle1 hle2, fun ro k ρ OB F a w hc hd hy hN hst => wpIn_seq (wpIn_mono (hw1 ro k ρ OB F a w hc hy (hN.sub (Nat.le_refl _) hle2) hst) fun ex a' w' hq => ?_)⟩
   obtain ⟨hex, ρ1, hX1, hst1⟩ := hq
   obtain rfl := exM_normal hex
   refine wpIn_mono (hw2 ro k ρ1 OB F a' w' hd hy ((hN.sub hle1 (Nat.le_refl _)).ext hX1 (.inl (Nat.le_refl _))) hst1) fun ex a2 w2 hq => ?_
   obtain ⟨hex2, ρ2, hX2, hst2⟩ := hq
   exact ⟨hex2, ρ2, Ext.trans hle1 hle2 hX1 hX2, hst2⟩
 · obtain ⟨hle1, hw1⟩ := hrc _ _ _ _ _ _ _ _ hr1
   exact ⟨hle1, fun ro k ρ OB F a w hc hd hy hN hst => wpIn_seq (wpIn_mono (hw1 ro k ρ OB F a w hc hy hN hst) fun ex a' w' hq => exM_not hq.1 hx hq)⟩
theorem block_ok {y : Bool} {c : Code} {id : Nat} {x : Xt} {e' : Tr} {h' : Hp} (hrc : RcOk X R rc) (hm : blockA id (rc y c e B h) = some (x, e', h')) :
 h.nx ≤ h'.nx ∧ ∀ (ro : Option Nat) (k : Nat) (ρ : Rho) (OB F : List Own) (a : Act) (w : World), codeOk k c = true → (y = true → ro = none) → Nw ρ h.nx h'.nx → St k ρ e B OB h R F a w →
  (Code.block id c).wpIn (fw ro) 0 X.P (Aft X R k ρ B OB F h.nx x e' h') a w := by
 rcases blockA_some hm with ⟨hr1, rfl⟩ | ⟨hr1, hx⟩
 · obtain ⟨hle1, hw1⟩ := hrc _ _ _ _ _ _ _ _ hr1
   refine ⟨hle1, fun ro k ρ OB F a w hc hy hN hst => wpIn_block (wpIn_mono (hw1 ro k ρ OB F a w hc hy hN hst) fun ex a' w' hq => ?_)⟩
   obtain ⟨hex, hq⟩ := hq
   obtain rfl := exM_exit hex
   simp only [Exit.inBlock, if_true]
   exact ⟨trivial, hq⟩
 · obtain ⟨hle1, hw1⟩ := hrc _ _ _ _ _ _ _ _ hr1
   refine ⟨hle1, fun ro k ρ OB F a w hc hy hN hst => wpIn_block (wpIn_mono (hw1 ro k ρ OB F a w hc hy hN hst) fun ex a' w' hq => ?_)⟩
   cases ex with
   | exit j =>
     have hne : ¬ j = id := fun hj => by
      subst hj
      have h1 := hq.1
      cases x with
      | ex i =>
        have h1 : i = j := h1
        exact hx (by rw [h1])
      | nm => exact h1.elim
      | rt => exact h1.elim
     simp only [Exit.inBlock, hne, if_false]
     exact hq
   | _ => exact hq
theorem cond_ok {y : Bool} {c : Operand} {p d : Code} {x : Xt} {e' : Tr} {h' : Hp} (hrc : RcOk X R rc) (hm : (bnd (opv e c) fun v => bnd (bool1 v) (condA y e B h rc p d)) = some (x, e', h')) :
 h.nx ≤ h'.nx ∧ ∀ (ro : Option Nat) (k : Nat) (ρ : Rho) (OB F : List Own) (a : Act) (w : World), codeOk k p = true → codeOk k d = true → (y = true → ro = none) → Nw ρ h.nx h'.nx → St k ρ e B OB h R F a w →
  (Code.cond c p d).wpIn (fw ro) 0 X.P (Aft X R k ρ B OB F h.nx x e' h') a w := by
 obtain ⟨v, hv, hm⟩ := bnd_some hm
 obtain ⟨t, ht, hm⟩ := bnd_some hm
 have hvt : v = .bo t := by
  unfold bool1 at ht
  split at ht
  · cases ht; rfl
  · cases ht
 subst hvt
 have hc : ∀ {k : Nat} {ρ : Rho} {OB F : List Own} {a : Act} {w : World}, St k ρ e B OB h R F a w → a.eval c = .bool t := fun hst => by
  obtain ⟨L, O, M, hE, H, hM, hfr, hs⟩ := hst
  obtain ⟨va, hva, hx⟩ := hE.op hv
  cases hva
  exact hfr.ev hx
 cases t with
 | true =>
   obtain ⟨hle, hw⟩ := hrc _ _ _ _ _ _ _ _ (show rc y p e B h = some (x, e', h') from hm)
   exact ⟨hle, fun ro k ρ OB F a w hp hd hy hN hst => wpIn_cond_true (hc hst) (hw ro k ρ OB F a w hp hy hN hst)⟩
 | false =>
   obtain ⟨hle, hw⟩ := hrc _ _ _ _ _ _ _ _ (show rc y d e B h = some (x, e', h') from hm)
   exact ⟨hle, fun ro k ρ OB F a w hp hd hy hN hst => wpIn_cond_false (hc hst) (hw ro k ρ OB F a w hd hy hN hst)⟩
theorem range_ok (hX : FxOk X R) (hrc : RcOk X R rc) {f : AV} {g : Operand} {ps : Array Nat} {asg body : Code} {x : Xt} {e' : Tr} {h' : Hp} (hf : opv e g = some f) (hm : rangeF X rc e B h ps.toList asg body f = some (x, e', h')) :
 h.nx ≤ h'.nx ∧ ∀ (k : Nat) (ρ : Rho) (OB F : List Own) (a : Act) (w : World), lpOk k ps.toList asg body = true → Nw ρ h.nx h'.nx → St k ρ e B OB h R F a w →
  (Code.rangeFunc g ps asg body).wpIn (fw none) 0 X.P (Aft X R k ρ B OB F h.nx x e' h') a w := by
 unfold rangeF at hm
 split at hm
 case h_2 => cases hm
 rename_i gf fa fc
 obtain ⟨fx, hfx, hm⟩ := bnd_some hm
 obtain ⟨q, hq, hm⟩ := bnd_some hm
 obtain ⟨p, hp, hm⟩ := bnd_some hm
 obtain ⟨ch, h3⟩ := p
 obtain ⟨hle, hcall⟩ := callA_ok hX hrc hq
 obtain ⟨_, _, _, _, _, hbody⟩ := fnOf_some hfx
 rw [add_nx] at hle
 have hnx3 : h3.nx = q.2.nx := take_nx hp
 have hres : ∃ e0 xo ps' asg' body', ch = .lp e0 xo ps' asg' body' ∧ e' = e ∧ h' = h3 ∧ x = (match xo with | none => Xt.nm | some x => x) := by
  unfold rangeE at hm
  split at hm
  · rename_i heq; cases hm; exact ⟨_, _, _, _, _, heq, rfl, rfl, rfl⟩
  · rename_i heq; cases hm; exact ⟨_, _, _, _, _, heq, rfl, rfl, rfl⟩
  · cases hm
 obtain ⟨e0, xo, ps', asg', body', rfl, rfl, rfl, hxx⟩ := hres
 refine ⟨by omega, fun k ρ OB F a w hlp hN hst => ?_⟩
 obtain ⟨L, O, M, hE, H, hM, hfr, hs⟩ := hst
 obtain ⟨vf, hvf, hev⟩ := hE.op hf
 cases hvf with
 | fn ha hc =>
   rename_i va vc
   have e1 : a.eval g = _ := hfr.ev hev
   refine wpIn_rangeFunc fun fn _ => ?_
   have hsD : Sat R (dfC w.heap.size :: (O ++ (M ++ F))) (w.alloc (.deferred (some []))) := hs.alloc _ _ rfl (fun w' h _ => h)
   have hsz : (w.alloc (.deferred (some []))).heap.size = w.heap.size + 1 := by simp
   have hfr0 : Fr ⟨k, []⟩ L { tmps := a.tmps, defers := [] } := ⟨hfr.size, rfl, fun t v ht => hfr.get t v ht⟩
   have hsL : Sat R (recC (w.heap.size + 1) ⟨k, []⟩ L w.heap.size .ready none ps asg body :: dfC w.heap.size :: (O ++ (M ++ F))) ((w.alloc (.deferred (some []))).alloc (.loop { state := .ready, pending := none, fn, tmps := a.tmps, params := ps, assign := asg, body, defers := w.heap.size })) :=
    hsD.alloc _ _ (by rw [hsz]; rfl) (fun w' h _ => ⟨fn, a.tmps, by rw [hsz] at h; exact h, hfr0⟩)
   have hX1 := Ext.set (hN h.nx (Nat.le_refl _) Z.W) (.b (w.heap.size + 1))
   have hi1 : (ρ.set h.nx (.b (w.heap.size + 1))) h.nx = some (.b (w.heap.size + 1)) := Rho.set_self ..
   have hH1 : HR (ρ.set h.nx (.b (w.heap.size + 1))) B OB (h.add (.lp e' none ps.toList asg body)) (recC (w.heap.size + 1) ⟨k, []⟩ L w.heap.size .ready none ps asg body :: O) := by
    rw [add_eq]
    have hC : CR (ρ.set h.nx (.b (w.heap.size + 1))) h.nx (.lp e' none ps.toList asg body) (recC (w.heap.size + 1) ⟨k, []⟩ L w.heap.size .ready none ps.toList.toArray asg body) := .lp hi1 (hE.mono hX1.1) .on hlp
    rw [Array.toArray_toList] at hC
    exact (H.mono hX1.1).put hC
   have hN1 : Nw (ρ.set h.nx (.b (w.heap.size + 1))) (h.add (.lp e' none ps.toList asg body)).nx q.2.nx := by
    rw [add_nx]
    exact (hN.sub (Nat.le_succ _) Z.W).ext hX1 (.inl (Nat.le_refl _))
   have hargs : VRs (ρ.set h.nx (.b (w.heap.size + 1))) (app fa (.yl h.nx :: fc)) (va ++ (.func (.yield (w.heap.size + 1)) #[] #[] :: vc)) := by
    rw [app_eq]
    exact (ha.mono hX1.1).append (.cons (.yl hi1) (hc.mono hX1.1))
   have hperm : (recC (w.heap.size + 1) ⟨k, []⟩ L w.heap.size .ready none ps asg body :: dfC w.heap.size :: (O ++ (M ++ F))).Perm ((recC (w.heap.size + 1) ⟨k, []⟩ L w.heap.size .ready none ps asg body :: O) ++ (dfC w.heap.size :: (M ++ F))) :=
    List.Perm.cons _ List.perm_middle.symm
   have hcw := hcall _ OB _ _ _ _ hargs hH1 hN1 (hsL.perm hperm)
   have hcw := show Calls X.P gf _ _ _ from (by
    rcases hcw with ⟨_, hcw⟩ | ⟨v, w', hrun, _⟩
    · exact hcw
    · rw [run_callFunc hbody] at hrun; cases hrun)
   rw [add_nx] at hcw
   obtain ⟨W1, hW1⟩ : ∃ W1, (w.alloc (.deferred (some []))).alloc (.loop { state := .ready, pending := none, fn, tmps := a.tmps, params := ps, assign := asg, body, defers := w.heap.size }) = W1 := ⟨_, rfl⟩
   rw [hW1] at hcw
   refine ⟨w.heap.size + 1, markOf w.heap.size, W1, { target := .fn (.func gf) vc.toArray, args := va.toArray ++ #[.func (.yield (w.heap.size + 1)) #[] #[]] }, W1, gf, (va ++ (.func (.yield (w.heap.size + 1)) #[] #[] :: vc)).toArray, W1,
    hW1 ▸ run_enterLoop_outer fn a.tmps ps asg body, ?_, fun _ _ => trivial, ?_, fun hx => Bool.noConfusion hx, callsIn_fw.2 (hcw.mono ?_)⟩
   · simp only [resolve, e1]
     simp [go_sem, Deferred.ofValue]
   · have : va.toArray ++ #[.func (.yield (w.heap.size + 1)) #[] #[]] ++ vc.toArray = (va ++ (.func (.yield (w.heap.size + 1)) #[] #[] :: vc)).toArray := by simp
     simp only [invoke, this, run_callFunc hbody]
   · rintro ex w2 ⟨v, ρ', O', rfl, hX2, _, hH2, hs2⟩
     obtain ⟨own, O3, hT, hC, hH3, _⟩ := hH2.take hp
     have hi2 := hX2.1 _ _ hi1
     have hXX : Ext ρ ρ' h.nx h'.nx := by
      have := Ext.trans (Nat.le_succ _) hle hX1 hX2
      rwa [← hnx3] at this
     cases hC with
     | lp hi3 hE3 hlx3 hw3 =>
       rename_i l' D m Lr st pe
       rw [hi2] at hi3
       cases hi3
       have hs3 := hs2.perm (take_left hT (dfC w.heap.size :: (M ++ F))).perm
       obtain ⟨f2, tmps2, hl2, hfr2⟩ := hs3.see List.mem_cons_self
       have hnb : st ≠ .busy := by cases hlx3 <;> (intro h; cases h)
       refine ⟨pe, _, run_endLoop hl2 hnb, ?_⟩
       have hs4 := (hs3.loopPut (st' := .exhausted) (pe' := pe) (f := f2) hfr2).drop
       have hst' : St k ρ' e' B OB h' R F { a with defers := markOf w.heap.size ++ a.defers } (w2.putObj (w.heap.size + 1) (.loop { state := .exhausted, pending := pe, fn := f2, tmps := tmps2, params := ps'.toArray, assign := asg', body := body', defers := D })) :=
        ⟨L, O3, dfC w.heap.size :: M, hE.mono hXX.1, hH3, .cons hM, ⟨hfr.size, rfl, fun t v ht => hfr.get t v ht⟩, hs4⟩
       cases hlx3 with
       | on => exact ⟨by rw [hxx]; trivial, ρ', hXX, hst'⟩
       | rt => exact wpIn_ret ⟨by rw [hxx]; trivial, ρ', hXX, hst'⟩
       | ex j => exact wpIn_exit ⟨by rw [hxx]; rfl, ρ', hXX, hst'⟩
theorem loop_ok {y : Bool} {c : Code} : ∀ (f : Nat), (∀ g, g ≤ f → RcOk X R (runC X g)) → ∀ {e : Tr} {h : Hp} {x : Xt} {e' : Tr} {h' : Hp}, runC X (f + 1) y (.loop c) e B h = some (x, e', h') →
 h.nx ≤ h'.nx ∧ ∀ (ro : Option Nat) (k : Nat) (ρ : Rho) (OB F : List Own) (a : Act) (w : World), codeOk k c = true → (y = true → ro = none) → Nw ρ h.nx h'.nx → St k ρ e B OB h R F a w →
  ∀ (Q : Exit → Act → World → Prop), (∀ ex a' w', Aft X R k ρ B OB F h.nx x e' h' ex a' w' → Q ex a' w') → x ≠ .nm → Code.roundsIn (fw ro) 0 X.P c Q (f + 1) a w
 | f, hall, e, h, x, e', h', hm => by
   have hm : thenA (fun e h => runC X f y (.loop c) e B h) (runC X f y c e B h) = some (x, e', h') := hm
   rcases thenA_some hm with ⟨e1, h1, hr1, hr2⟩ | ⟨hr1, hx⟩
   · obtain ⟨hle1, hw1⟩ := hall f (Nat.le_refl _) _ _ _ _ _ _ _ _ hr1
     cases f with
     | zero => cases hr2
     | succ g =>
       obtain ⟨hle2, hw2⟩ := loop_ok g (fun j hj => hall j Z.W) hr2
       refine ⟨Nat.le_trans hle1 hle2, fun ro k ρ OB F a w hc hy hN hst Q hQ hx => ?_⟩
       rw [roundsIn_succ]
       refine wpIn_mono (hw1 ro k ρ OB F a w hc hy (hN.sub (Nat.le_refl _) hle2) hst) fun ex a' w' hq => ?_
       obtain ⟨hex, ρ1, hX1, hst1⟩ := hq
       obtain rfl := exM_normal hex
       refine hw2 ro k ρ1 OB F a' w' hc hy ((hN.sub hle1 (Nat.le_refl _)).ext hX1 (.inl (Nat.le_refl _))) hst1 Q (fun ex a2 w2 hq => hQ ex a2 w2 ?_) hx
       obtain ⟨hex2, ρ2, hX2, hst2⟩ := hq
       exact ⟨hex2, ρ2, Ext.trans hle1 hle2 hX1 hX2, hst2⟩
   · obtain ⟨hle1, hw1⟩ := hall f (Nat.le_refl _) _ _ _ _ _ _ _ _ hr1
     refine ⟨hle1, fun ro k ρ OB F a w hc hy hN hst Q hQ hx' => ?_⟩
     rw [roundsIn_succ]
     exact wpIn_mono (hw1 ro k ρ OB F a w hc hy hN hst) fun ex a' w' hq => exM_not hq.1 hx (hQ ex a' w' hq)
theorem loop_exit {y : Bool} {c : Code} : ∀ (f : Nat) {e : Tr} {h : Hp} {x : Xt} {e' : Tr} {h' : Hp}, runC X f y (.loop c) e B h = some (x, e', h') → x ≠ .nm
 | 0, _, _, _, _, _, hm => by cases hm
 | f + 1, e, h, x, e', h', hm => by
   have hm : thenA (fun e h => runC X f y (.loop c) e B h) (runC X f y c e B h) = some (x, e', h') := hm
   rcases thenA_some hm with ⟨e1, h1, _, hr2⟩ | ⟨_, hx⟩
   · exact loop_exit f hr2
   · exact hx
theorem code_ok (hX : FxOk X R) : ∀ (f : Nat), ∀ g, g ≤ f → RcOk X R (runC X g)
 | 0, g, hg => by
   obtain rfl : g = 0 := by omega
   intro y c e B h x e' h' hm
   cases hm
 | f + 1, g, hg => by
   have hall := code_ok hX f
   rcases Nat.lt_or_ge g (f + 1) with h1 | h1
   · exact hall g Z.W
   obtain rfl : g = f + 1 := by omega
   have hrc := hall f (Nat.le_refl _)
   intro y c e B h x e' h' hm
   have hm : (xc X c).f (runC X f) y e B h = some (x, e', h') := hm
   cases c with
   | skip =>
     have hm : some (Xt.nm, e, h) = some (x, e', h') := hm
     cases hm
     exact ⟨Nat.le_refl _, fun ro k ρ OB F a w _ _ _ hst => wpIn_skip ⟨trivial, ρ, Ext.refl .., hst⟩⟩
   | region id ops draw =>
     cases draw with
     | false =>
       obtain ⟨q, hq, hm⟩ := bnd_some (show nmA (runL X (runC X f) y B (xops X ops) e h) = some (x, e', h') from hm)
       cases hm
       have hle : h.nx ≤ q.2.nx := by
        have := rl_nx hX hrc (ops := ops) ops.toList hq
        exact this
       refine ⟨hle, fun ro k ρ OB F a w hc hy hN hst => wpIn_region_list ?_⟩
       exact (runL_ok hX hrc hy ops.toList (allB_mem hc) hq).2 ρ OB F a w _ hN hst fun ρ' a' w' hX' hst' => ⟨trivial, ρ', hX', hst'⟩
     | true =>
       have hm : regD X (runC X f) ops (xr X ops) e B h = some (x, e', h') := hm
       exact ⟨(regD_ok (ro := none) (id := id) hX hrc hm).1, fun ro k ρ OB F a w hc hy hN hst => (regD_ok (ro := ro) (id := id) hX hrc hm).2 k ρ OB F a w hc hN hst⟩
   | seq c d =>
     obtain ⟨hle, hw⟩ := seq_ok hrc (show thenA (fun e h => runC X f y d e B h) (runC X f y c e B h) = some (x, e', h') from hm)
     exact ⟨hle, fun ro k ρ OB F a w hc hy hN hst => hw ro k ρ OB F a w (and2 hc).1 (and2 hc).2 hy hN hst⟩
   | cond g c d =>
     obtain ⟨hle, hw⟩ := cond_ok hrc (show (bnd (opv e g) fun v => bnd (bool1 v) (condA y e B h (runC X f) c d)) = some (x, e', h') from hm)
     exact ⟨hle, fun ro k ρ OB F a w hc hy hN hst => hw ro k ρ OB F a w (and2 hc).1 (and2 hc).2 hy hN hst⟩
   | block id c =>
     obtain ⟨hle, hw⟩ := block_ok hrc (show blockA id (runC X f y c e B h) = some (x, e', h') from hm)
     exact ⟨hle, fun ro k ρ OB F a w hc hy hN hst => hw ro k ρ OB F a w hc hy hN hst⟩
   | loop c =>
     have hm : runC X (f + 1) y (.loop c) e B h = some (x, e', h') := hm
     obtain ⟨hle, hw⟩ := loop_ok f hall hm
     exact ⟨hle, fun ro k ρ OB F a w hc hy hN hst => wpIn_loop_rounds (f + 1) (hw ro k ρ OB F a w hc hy hN hst _ (fun ex a' w' h => h) (loop_exit _ hm))⟩
   | rangeFunc g ps asg body =>
     obtain ⟨hy1, hm⟩ := ifb_none (show ifb y (bnd (opv e g) (rangeF X (runC X f) e B h ps.toList asg body)) none = some (x, e', h') from hm)
     obtain ⟨v, hv, hm⟩ := bnd_some hm
     obtain ⟨hle, hw⟩ := range_ok hX hrc hv hm
     exact ⟨hle, fun ro k ρ OB F a w hc hy hN hst => by
      obtain rfl := hy hy1
      exact hw k ρ OB F a w hc hN hst⟩
   | exit id =>
     have hm : some (Xt.ex id, e, h) = some (x, e', h') := hm
     cases hm
     exact ⟨Nat.le_refl _, fun ro k ρ OB F a w _ _ _ hst => wpIn_exit ⟨rfl, ρ, Ext.refl .., hst⟩⟩
   | ret =>
     have hm : some (Xt.rt, e, h) = some (x, e', h') := hm
     cases hm
     exact ⟨Nat.le_refl _, fun ro k ρ OB F a w _ _ _ hst => wpIn_ret ⟨trivial, ρ, Ext.refl .., hst⟩⟩
   | _ => cases hm
end
end Go.Ex
namespace Go.Ex
open Go
noncomputable section
abbrev KF := List AV → Bs → Hp → Option (AV × Hp)
structure BQ where
 t : Nat
 cs : List AV
 s : List Nat
 h : Hp
def selfA (i off : Nat) : AV → Bool
 | .np => true
 | .pt j o => Nat.beq i j && Nat.beq off o
 | _ => false
def bBuf (u t : Nat) (cs : List AV) (n : Nat) (q : Ch × Hp) : Option BQ := match q.1 with
 | .byt v s => ifb (Nat.beq v u && Nat.beq n (ln s)) (some ⟨t, cs, s, q.2⟩) none
 | _ => none
def bTxt (B : Bs) (u t : Nat) (cs : List AV) (h : Hp) : AV → Option BQ
 | .ns => some ⟨t, cs, [], h⟩
 | .ac j o n => ifb (Nat.beq o 0) (bnd (h.take B j) (bBuf u t cs n)) none
 | _ => none
def bRow (B : Bs) (u i off : Nat) (q : Ch × Hp) : Option BQ := match q.1 with
 | .row t cs => bnd (nth cs off) fun a => ifb (selfA i off a) (bnd (nth cs (off + 1)) (bTxt B u t cs q.2)) none
 | _ => none
def bGet (B : Bs) (h : Hp) (u i off : Nat) : Option BQ := bnd (h.take B i) (bRow B u i off)
def bPut (u i off : Nat) (s : List Nat) (q : BQ) : Option (AV × Hp) := ifb (Nat.ble (ln q.s + ln s) 1000000) (fN (ln (app q.s s)) fun n => fN (Nat.succ q.h.nx) fun nx =>
 some (.tu [.it .i64 (Int.ofNat (ln s)), .ni], ⟨(i, .row q.t (splA q.cs off [.pt i off, .ac q.h.nx 0 n])) :: (q.h.nx, .byt u (app q.s s)) :: q.h.cur, q.h.tomb, nx, q.h.lv⟩)) none
def bLies (P : Program) (tB off : Nat) (q : BQ) : Bool := liesAt P P.depth q.t (ln q.cs / P.cellsOf q.t) off tB 1
def kWriteString (P : Program) (u tB : Nat) (l : List AV) (B : Bs) (h : Hp) : Option (AV × Hp) := match l with
 | [.pt i off, .st s] => bnd (bGet B h u i off) fun q => ifb (bLies P tB off q) (bPut u i off s q) none
 | _ => none
def kString (u : Nat) (l : List AV) (B : Bs) (h : Hp) : Option (AV × Hp) := match l with
 | [.pt i off] => bnd (bGet B h u i off) fun q => some (.st q.s, q.h.put i (.row q.t q.cs))
 | _ => none
def kRepeat (l : List AV) (_ : Bs) (h : Hp) : Option (AV × Hp) := match l with
 | [.st s, .it .i64 n] => bnd (toN n) fun n => ifb (Nat.ble n 1000000 && Nat.ble (ln s * n) 1000000) (some (.st (rep s n), h)) none
 | _ => none
def crcW (c : Nat) : Nat := ifb (Nat.beq (Nat.mod c 2) 1) (Nat.xor (Nat.div c 2) 0xEDB88320) (Nat.div c 2)
def crcB (c : Nat) : Nat := crcW (crcW (crcW (crcW (crcW (crcW (crcW (crcW c)))))))
def crcF (l : List Nat) : Nat → Nat := List.rec (fun c => c) (fun b _ ih c => fN (crcB (Nat.xor c b)) ih) l
def kCrc (l : List AV) (_ : Bs) (h : Hp) : Option (AV × Hp) := match l with
 | [.st s] => ifb (Nat.ble (ln s) 1000000) (fN (Nat.xor (crcF s 0xFFFFFFFF) 0xFFFFFFFF) fun c => some (.it .u32 (Int.ofNat c), h)) none
 | _ => none
def idxOf (c : Nat) : List Nat → Nat → AV
 | [], _ => .it .i64 (-1)
 | a :: r, i => ifb (Nat.beq a c) (.it .i64 (Int.ofNat i)) (idxOf c r (i + 1))
def kIdxB (l : List AV) (_ : Bs) (h : Hp) : Option (AV × Hp) := match l with
 | [.st s, .it .u8 n] => bnd (toN n) fun c => ifb (Nat.blt c 256) (some (idxOf c s 0, h)) none
 | _ => none
def atAdd (i off : Nat) (n : Int) (q : Ch × Hp) : Option (AV × Hp) := match q.1 with
 | .row t cs => match nth cs off with
   | some (.it .i64 m) => bnd (it .i64 (IntKind.i64.wrap (m + n))) fun r => some (r, q.2.put i (.row t (splA cs off [r])))
   | _ => none
 | _ => none
def kAtomAdd (l : List AV) (B : Bs) (h : Hp) : Option (AV × Hp) := match l with
 | [.pt i off, .it .i64 n] => bnd (h.take B i) (atAdd i off n)
 | _ => none
def kTrue (l : List AV) (_ : Bs) (h : Hp) : Option (AV × Hp) := match l with
 | [] => some (.bo true, h)
 | _ => none
def kfind {α : Type} : List (Nat × α) → Nat → Option α
 | [], _ => none
 | q :: r, i => ifb (Nat.beq q.1 i) (some q.2) (kfind r i)
def h0 : Hp := ⟨[], [], 0, 8⟩
def good : Option (AV × Hp) → Bool
 | some (.bo true, _) => true
 | _ => false
end
end Go.Ex
namespace Go.Ex
open Go Go.SL
section
variable {ρ : Rho} {X : Fx} {P : Program} {R : List RO} {O F : List Own} {e : Tr} {B : Bs} {OB : List Own} {h h' : Hp}
theorem trial_ok (hX : FxOk X R) {f g : Nat} (hb : hasBody X.P g = true) (hm : good (runF X f g [] [] h0) = true) {POST : Value → List RO → List Own → Prop} (hk : POST (.bool true) R O) : Fun X.P g #[] R O POST := by
 intro w hs
 cases hr : runF X f g [] [] h0 with
 | none => rw [hr] at hm; cases hm
 | some q =>
   rw [hr] at hm
   have hq1 : q.1 = .bo true := by
    obtain ⟨a, h⟩ := q
    cases a with
    | bo b => cases b with
      | true => rfl
      | false => cases hm
    | _ => cases hm
   obtain ⟨_, hC⟩ := callA_ok hX (code_ok hX f f (Nat.le_refl _)) (show callA X (runC X f) g [] [] h0 = some q from hr)
   have hH : HR rhN [] [] h0 [] := ⟨.nil, [], .nil, rfl⟩
   have hcw := hC rhN [] [] O [] w .nil hH (fun i _ _ => rfl) hs
   have key : ∀ e w', RetP rhN [] [] h0.nx q R O e w' → ∃ v R' O', e = .returned v ∧ POST v R' O' ∧ Sat R' O' w' := by
    rintro e w' ⟨v, ρ', O', rfl, _, hv, _, hs'⟩
    rw [hq1] at hv
    cases hv
    exact ⟨_, R, O, rfl, hk, Sat.dropAll hs'⟩
   rcases hcw with ⟨_, hcw⟩ | ⟨v, w', hrun, _⟩
   · exact hcw.mono key
   · rw [run_callFunc hb] at hrun; cases hrun
def KOne (P : Program) (R : List RO) (g : Nat) (k : KF) : Prop := ∀ (args : List AV) (B : Bs) (h : Hp) (q : AV × Hp), k args B h = some q → h.nx ≤ q.2.nx ∧ CallOk P R g args B h q
theorem kfind_mem {α : Type} {k : α} : ∀ {l : List (Nat × α)} {g : Nat}, kfind l g = some k → ∃ x ∈ l, x.1 = g ∧ x.2 = k
 | [], _, h => by cases h
 | x :: r, g, hk => by
   have hk : ifb (Nat.beq x.1 g) (some x.2) (kfind r g) = some k := hk
   rcases ifb_some hk with ⟨h1, h2⟩ | ⟨_, h2⟩
   · cases h2
     exact ⟨x, List.mem_cons_self, beqN h1, rfl⟩
   · obtain ⟨y, hy, hh⟩ := kfind_mem h2
     exact ⟨y, List.mem_cons_of_mem _ hy, hh⟩
theorem qtab_ok {l : List (Nat × List KQ)} (h : allB (fun x => qOk P x.1 x.2) l = true) : ∀ t ks, kfind l t = some ks → qOk P t ks = true := fun t ks hk => by
 obtain ⟨x, hx, rfl, rfl⟩ := kfind_mem hk
 exact allB_mem h x hx
theorem KTab.of {l : List (Nat × KF)} (h : ∀ x ∈ l, KOne P R x.1 x.2) {X : Fx} (hP : X.P = P) (hK : X.K = kfind l) : KTab X R := by
 intro g k hk
 rw [hK] at hk
 subst hP
 obtain ⟨x, hx, rfl, rfl⟩ := kfind_mem hk
 exact h x hx
theorem KOne.still {g : Nat} {k : KF} (hb : hasBody P g = true) (hk : ∀ (args : List AV) (B : Bs) (h : Hp) (q : AV × Hp), k args B h = some q → q.2 = h ∧ ∀ (ρ : Rho) (vs : List Value), VRs ρ args vs → ∃ v, VR ρ q.1 v ∧ ∀ (O : List Own), Fun P g vs.toArray R O fun v' R' O' => v' = v ∧ R' = R ∧ O' = O) : KOne P R g k := by
 intro args B h q hq
 obtain ⟨h1, h2⟩ := hk args B h q hq
 rw [h1]
 refine ⟨Nat.le_refl _, fun ρ OB O F vs w hvs H hN hs => .inl ⟨hb, ?_⟩⟩
 obtain ⟨v, hv, hF⟩ := h2 ρ vs hvs
 refine (hF (O ++ F) w hs).mono ?_
 rintro e w' ⟨v', R', O', rfl, ⟨rfl, rfl, rfl⟩, hs'⟩
 exact ⟨_, ρ, O, rfl, by rw [h1]; exact Ext.refl .., hv, by rw [h1]; exact H, hs'⟩
theorem kTrue_ok {g : Nat} (hb : hasBody P g = true) (hF : ∀ (O : List Own) (POST : Value → List RO → List Own → Prop), POST (.bool true) R O → Fun P g #[] R O POST) : KOne P R g kTrue := by
 refine .still hb fun args B h q hq => ?_
 cases args with
 | nil =>
   cases hq
   refine ⟨rfl, fun ρ vs hvs => ?_⟩
   cases hvs
   exact ⟨_, .bo true, fun O => hF O _ ⟨rfl, rfl, rfl⟩⟩
 | cons a r => cases hq
theorem indexByte_ge : ∀ (l : List UInt8) (c : UInt8), -1 ≤ Lib.indexByte l c
 | [], _ => by show (-1 : Int) ≤ -1; omega
 | b :: l, c => by
   have ih := indexByte_ge l c
   show (-1 : Int) ≤ if b == c then 0 else if Lib.indexByte l c == -1 then -1 else Lib.indexByte l c + 1
   split
   · omega
   · split <;> omega
theorem idxOf_ok {c : Nat} (hc : c < 256) : ∀ {s : List Nat} (i : Nat), (∀ n ∈ s, n < 256) → idxOf c s i = .it .i64 (if Lib.indexByte (txt s) (UInt8.ofNat c) == -1 then -1 else Lib.indexByte (txt s) (UInt8.ofNat c) + (i : Int))
 | [], i, _ => rfl
 | a :: r, i, h => by
   have ha := h a List.mem_cons_self
   have ih := idxOf_ok hc (s := r) (i + 1) fun n hn => h n (List.mem_cons_of_mem _ hn)
   show ifb (Nat.beq a c) (.it .i64 (Int.ofNat i)) (idxOf c r (i + 1)) = _
   rw [ifb_eq, ih]
   show _ = AV.it .i64 (if (if UInt8.ofNat a == UInt8.ofNat c then (0 : Int) else if Lib.indexByte (txt r) (UInt8.ofNat c) == -1 then -1 else Lib.indexByte (txt r) (UInt8.ofNat c) + 1) == -1 then -1 else (if UInt8.ofNat a == UInt8.ofNat c then (0 : Int) else if Lib.indexByte (txt r) (UInt8.ofNat c) == -1 then -1 else Lib.indexByte (txt r) (UInt8.ofNat c) + 1) + (i : Int))
   have e1 : (UInt8.ofNat a == UInt8.ofNat c) = Nat.beq a c := by
    rw [Bool.eq_iff_iff, beq_iff_eq, Nat.beq_eq]
    exact ⟨u8_inj ha hc, fun h => by rw [h]⟩
   rw [e1]
   cases Nat.beq a c
   · simp only [Bool.false_eq_true, if_false]
     generalize hz : Lib.indexByte (txt r) (UInt8.ofNat c) = z
     have hnn := indexByte_ge (txt r) (UInt8.ofNat c)
     rw [hz] at hnn
     by_cases hz1 : z = -1
     · subst hz1; rfl
     · have hz2 : (z == -1) = false := by simpa using hz1
       have hz3 : (z + 1 == -1) = false := by simp; omega
       simp only [hz2, Bool.false_eq_true, if_false, hz3]
       congr 1
       push_cast
       omega
   · simp
theorem kIdxB_ok {g : Nat} {fn : Func} (hf : P.funcs[g]? = some fn) (hname : (fn.name == "runtime.NumGoroutine") = false) (hb : fn.body.isNone = true) (hn : Extern.findNext fn = none) (he : Extern.find fn = some Extern.BytealgIndexByte.indexByte) : KOne P R g kIdxB := by
 intro args B h q hq
 unfold kIdxB at hq
 split at hq
 · rename_i s n
   obtain ⟨c, hc, hq⟩ := bnd_some hq
   obtain ⟨hlt, hq⟩ := ifb_none hq
   have hlt := Nat.le_of_ble_eq_true hlt
   cases hq
   refine ⟨Nat.le_refl _, fun ρ OB O F vs w hvs H hN hs => .inr ?_⟩
   cases hvs with
   | cons h1 hr =>
     cases hr with
     | cons h2 hr =>
       cases hr
       cases h1 with
       | st hst =>
         cases h2
         obtain rfl := toN_some hc
         have hrun := Lib.run_indexByteString (P := P) ⟨(txt s).toArray⟩ (c : Int) w
         have h3 := run_callFunc_extern hf hname hb hn he #[.string ⟨(txt s).toArray⟩, .int .u8 (c : Int)] w
         rw [hrun, Result.andThen_ok] at h3
         refine ⟨_, _, h3, _, ρ, O, rfl, Ext.refl .., ?_, H, hs⟩
         show VR ρ (idxOf c s 0) _
         rw [idxOf_ok (show c < 256 from hlt) 0 hst]
         have e2 : (if Lib.indexByte (txt s) (UInt8.ofNat c) == -1 then -1 else Lib.indexByte (txt s) (UInt8.ofNat c) + ((0 : Nat) : Int)) = Lib.indexByte (txt s) (UInt8.ofNat c) := by
          split
          · rename_i h; exact (by simpa using h : Lib.indexByte (txt s) (UInt8.ofNat c) = -1).symm
          · simp
         rw [e2]
         exact .it _ _
 · cases hq
theorem kAtomAdd_ok {g : Nat} {fn : Func} (hf : P.funcs[g]? = some fn) (hname : (fn.name == "runtime.NumGoroutine") = false) (hb : fn.body.isNone = true) (hn : Extern.findNext fn = none) (he : Extern.find fn = some (Extern.Atomic.update (Op.intArith .add) .i64 true)) : KOne P R g kAtomAdd := by
 intro args B h q hq
 unfold kAtomAdd at hq
 split at hq
 · rename_i i off n
   obtain ⟨p, hp, hq⟩ := bnd_some hq
   obtain ⟨ch, h1⟩ := p
   have hnx := take_nx hp
   unfold atAdd at hq
   split at hq
   · rename_i t cs heq
     have heq : ch = .row t cs := heq
     subst heq
     split at hq
     · rename_i m hm
       obtain ⟨r, hr, hq⟩ := bnd_some hq
       rw [it_eq] at hr
       cases hr
       cases hq
       have hnx : h1.nx = h.nx := hnx
       refine ⟨Nat.le_of_eq hnx.symm, fun ρ OB O F vs w hvs H hN hs => .inr ?_⟩
       cases hvs with
       | cons h1 hr =>
         cases hr with
         | cons h2 hr =>
           cases hr
           cases h1 with
           | pt hi =>
             rename_i b
             cases h2
             obtain ⟨own, O', hT, hC, hH, _⟩ := H.take hp
             cases hC with
             | row hi' hv =>
               rename_i b' vs
               rw [hi] at hi'; cases hi'
               have hc := hv.int hm
               have hs' := hs.perm (take_left hT F).perm
               have hpr : (rowC b t vs).pred w := hs'.see List.mem_cons_self
               have hlt : off < vs.length := (List.getElem?_eq_some_iff.1 hc).1
               have hcell := row_cell hpr hc
               have hfree := row_free hpr off
               have hsum : (Op.intArith .add .i64 m n).run P w = .ok (.int .i64 (IntKind.i64.wrap (m + n))) w := by simp [Op.intArith]
               have hrun := run_call_add (P := P) hf hname hb hn .i64 he (y := n) hcell hfree hsum
               have hlt' : b < w.heap.size := hs'.lt b (by simp [owned, rowC])
               have hspl : Go.SL.spl vs off [.int .i64 (IntKind.i64.wrap (m + n))] = vs.set off (.int .i64 (IntKind.i64.wrap (m + n))) := by
                unfold Go.SL.spl
                rw [List.set_eq_take_append_cons_drop, if_pos hlt]
                simp
               refine ⟨_, _, hrun, _, ρ, rowC b t (Go.SL.spl vs off [.int .i64 (IntKind.i64.wrap (m + n))]) :: O', rfl, Ext.refl .., .it _ _, hH.put (.row hi (hv.spl (.cons (.it _ _) .nil) _)), ?_⟩
               rw [hspl]
               refine hs'.update _ ⟨rfl, rfl, rfl, by simp, fun j hj hne => heap_setCell_other w _ _ _ (by simpa [rowC, eq_comm] using hne)⟩ (by simp [rowC]) (by simpa [rowC] using hlt') (by simp [rowC]) (fun w'' ha _ => ?_)
               show w''.heap[b]? = _
               rw [ha.2.2.2.2 b (by simpa using hlt') (by simp [rowC])]
               exact setCell_row hpr off _
     · cases hq
   · cases hq
 · cases hq
end
end Go.Ex
namespace Go.Proofs.YtnjfgcpmcjmddaaGreatDoor
open Go Go.SL
section
variable {R : List RO} {O : List Own} {POST : Value → List RO → List Own → Prop} {b off : Nat} {e : TypeId} {cs : List Value} {p v : Value} {bs : List UInt8}
abbrev pself (b off : Nat) : Value := .pointer (some ⟨b, off, none⟩)
set_option maxRecDepth 20000 in
theorem bcc_new (h0 : cs[off]? = some (.pointer none)) (hl : liesAt Tryz.prog Tryz.prog.depth e (cs.length / Tryz.prog.cellsOf e) off 207 1 = true) (hk : POST (.tuple #[]) R (rowC b e (cs.set off (pself b off)) :: O)) :
 Fun Tryz.prog 175 #[pself b off] R (rowC b e cs :: O) POST := by
 have hlt := (List.getElem?_eq_some_iff.1 h0).1
 refine Fun.enter (l := [_]) Tryz.func175 rfl Tryz.ntmps175 rfl (L0 := [(0, _)]) rfl ?_
 refine Z.s1 <| Z.m1 rfl <| Z.r1 rfl (Rd.nilc rfl rfl) <| Z.r1 rfl (Rd.field (off := off) (r := off) rfl F207_0 rfl rfl) ?_
 refine Z.r1 rfl (Rd.row1 (off := off) rfl C205 rfl List.mem_cons_self h0) ?_
 refine Z.r1 rfl (Rd.peq_nn rfl Tryz.underlying205 rfl rfl) <| Z.n1 ?_
 refine WC.cond rfl (fun hc1 => ?_) (fun hc1 => ?_)
 ·
  refine WC.region ?_
  refine Z.m1 rfl <| Z.m1 rfl <| Z.r1 rfl (Rd.toUnsafe (off := off) rfl Tryz.underlying205 Tryz.underlying353 I207 (by decide) rfl List.mem_cons_self hlt) ?_
  refine WL.op rfl ?_
  refine OpW.rd rfl rfl (Rd.extern (ef := Extern.AbiNoEscape.same) rfl rfl Z.E Tryz.func237 rfl rfl Z.K Z.K (fun w => Lib.run_noEscape w _)) ?_
  refine Z.r1 rfl (Rd.ofUnsafe (off := off) rfl Tryz.underlying353 Tryz.underlying205 I207 rfl List.mem_cons_self hl) ?_
  refine Z.r1 rfl (Rd.nilc rfl rfl) <| Z.r1 rfl (Rd.field (off := off) (r := off) rfl F207_0 rfl rfl) ?_
  refine WL.op rfl ?_
  refine OpW.store1 (off := off) rfl Z205 rfl rfl (by exact ⟨rfl, rfl⟩) (Take.head _) hlt rfl ?_
  refine WL.nil ?_
  refine Ret.normal (Ret.zero Tryz.results175 ?_)
  exact hk
 ·
  simp at hc1
set_option maxRecDepth 20000 in
theorem bcc_used (h0 : cs[off]? = some (pself b off)) (hk : POST (.tuple #[]) R (rowC b e (cs.set off (pself b off)) :: O)) :
 Fun Tryz.prog 175 #[pself b off] R (rowC b e cs :: O) POST := by
 have hlt := (List.getElem?_eq_some_iff.1 h0).1
 have hs : cs.set off (pself b off) = cs := by
  apply List.ext_getElem? ; intro i
  rw [List.getElem?_set]
  split
  · rename_i h; subst h; rw [h0]
  · rfl
 rw [hs] at hk
 refine Fun.enter (l := [_]) Tryz.func175 rfl Tryz.ntmps175 rfl (L0 := [(0, _)]) rfl ?_
 refine Z.s1 <| Z.m1 rfl <| Z.r1 rfl (Rd.nilc rfl rfl) <| Z.r1 rfl (Rd.field (off := off) (r := off) rfl F207_0 rfl rfl) ?_
 refine Z.r1 rfl (Rd.row1 (off := off) rfl C205 rfl List.mem_cons_self h0) ?_
 refine Z.r1 rfl (Rd.peq_sn rfl Tryz.underlying205 rfl rfl) <| Z.n1 ?_
 refine WC.cond rfl (fun hc1 => ?_) (fun hc1 => ?_)
 ·
  simp at hc1
 ·
  refine Z.s1 <| Z.m1 rfl <| Z.r1 rfl (Rd.nilc rfl rfl) <| Z.r1 rfl (Rd.field (off := off) (r := off) rfl F207_0 rfl rfl) ?_
  refine Z.r1 rfl (Rd.row1 (off := off) rfl C205 rfl List.mem_cons_self h0) ?_
  refine Z.m1 rfl <| Z.r1 rfl (Rd.pneq_self rfl Tryz.underlying205 I207 rfl rfl) <| Z.n1 ?_
  refine WC.cond rfl (fun hc2 => ?_) (fun hc2 => ?_)
  ·
   simp at hc2
  ·
   refine WC.skip ?_
   refine Ret.normal (Ret.zero Tryz.results175 ?_)
   exact hk
theorem bcc_spec (hp : p = .pointer none ∨ p = pself b off) (h0 : cs[off]? = some p) (hl : liesAt Tryz.prog Tryz.prog.depth e (cs.length / Tryz.prog.cellsOf e) off 207 1 = true) (hk : POST (.tuple #[]) R (rowC b e (cs.set off (pself b off)) :: O)) :
 Fun Tryz.prog 175 #[pself b off] R (rowC b e cs :: O) POST := by
 rcases hp with rfl | rfl
 · exact bcc_new h0 hl hk
 · exact bcc_used h0 hk
set_option maxRecDepth 20000 in
theorem bws_spec {s : List UInt8} (hp : p = .pointer none ∨ p = pself b off) (h0 : cs[off]? = some p) (h1 : cs[off + 1]? = some v) (hl : liesAt Tryz.prog Tryz.prog.depth e (cs.length / Tryz.prog.cellsOf e) off 207 1 = true) (hsz : bs.length + s.length ≤ 140737488355328)
 (hk : ∀ v', OneV v' → POST (.tuple #[.int .i64 s.length, .nilIface]) R (rowC b e ((cs.set off (pself b off)).set (off + 1) v') :: accC 5 1 (SL.one vy) v' (bs ++ s) :: O)) :
 Fun Tryz.prog 109 #[pself b off, vs s] R (rowC b e cs :: accC 5 1 (SL.one vy) v bs :: O) POST := by
 have hlt := (List.getElem?_eq_some_iff.1 h1).1
 have h1' : (cs.set off (pself b off))[off + 1]? = some v := by rw [List.getElem?_set_ne Z.W]; exact h1
 refine Fun.enter (l := [_, _]) Tryz.func109 rfl Tryz.ntmps109 rfl (L0 := [(0, _), (1, _)]) rfl ?_
 refine Z.s1 <| Z.a1 rfl <| Z.a1 rfl <| Z.q1 <| Z.m1 rfl ?_
 refine WL.op rfl ?_
 refine OpW.call rfl rfl Z.E Z.K rfl rfl rfl ?_
 refine bcc_spec hp h0 hl ?_
 refine Z.q1 <| Z.m1 rfl <| Z.m1 rfl <| Z.r1 rfl (Rd.nilc rfl rfl) <| Z.r1 rfl (Rd.field (off := off) (r := off + 1) rfl F207_1 rfl rfl) ?_
 refine Z.r1 rfl (Rd.row1 (off := off + 1) rfl C38 rfl List.mem_cons_self h1') ?_
 refine Z.m1 rfl ?_
 refine WL.op rfl ?_
 refine OpW.appendStr rfl S38 Tryz.underlying9 rfl rfl Z.T (by exact ⟨by simp only [maxLen, List.length_append, List.length_nil, List.length_cons, List.length_drop, List.length_take, List.length_map]; omega, by omega⟩) rfl rfl ?_; intro v14 hv14
 refine Z.r1 rfl (Rd.nilc rfl rfl) <| Z.r1 rfl (Rd.field (off := off) (r := off + 1) rfl F207_1 rfl rfl) ?_
 refine WL.op rfl ?_
 refine OpW.store1 (off := off + 1) rfl Z38 rfl rfl hv14 Z.T (by rw [List.length_set]; exact hlt) rfl ?_
 refine Z.q1 <| Z.m1 rfl <| Z.r1 rfl (Rd.slen (ts := #[]) (ty := 0) rfl rfl Tryz.underlying9) ?_
 refine Z.a1 rfl <| Z.a1 rfl <| Z.n1 ?_
 refine WC.ret (Ret.two Tryz.results109 rfl rfl ?_)
 exact hk _ hv14
set_option maxRecDepth 20000 in
theorem bstr_spec (h1 : cs[off + 1]? = some v) (hk : POST (vs bs) R (rowC b e cs :: O)) :
 Fun Tryz.prog 110 #[pself b off] R (rowC b e cs :: accC 5 1 (SL.one vy) v bs :: O) POST := by
 refine Fun.enter (l := [_]) Tryz.func110 rfl Tryz.ntmps110 rfl (L0 := [(0, _)]) rfl ?_
 refine Z.s1 <| Z.a1 rfl <| Z.n1 ?_
 refine WC.seq ?_
 refine WC.drawn (rowC b e cs :: O) 12 rfl mixed ?_
 refine WD.take 0 rfl Z.K Z.H rfl rfl rfl (Rd.move rfl rfl) ?_
 refine WD.take 1 rfl Z.K Z.H rfl rfl rfl (Rd.nilc rfl rfl) ?_
 refine WD.take 2 rfl Z.K Z.H rfl rfl rfl (Rd.field (off := off) (r := off + 1) rfl F207_1 rfl rfl) ?_
 refine WD.take 3 rfl Z.K Z.H rfl rfl rfl (Rd.row1 (off := off + 1) rfl C38 rfl List.mem_cons_self h1) ?_
 refine WD.take 5 rfl Z.K Z.H rfl rfl rfl (Rd.move rfl rfl) ?_
 refine WD.take 6 rfl Z.K Z.H rfl rfl rfl (Rd.nilc rfl rfl) ?_
 refine WD.take 7 rfl Z.K Z.H rfl rfl rfl (Rd.field (off := off) (r := off + 1) rfl F207_1 rfl rfl) ?_
 refine WD.take 8 rfl Z.K Z.H rfl rfl rfl (Rd.row1 (off := off + 1) rfl C38 rfl List.mem_cons_self h1) ?_
 refine WD.two 4 9 rfl rfl Z.K rfl rfl ?_ ?_
 ·
  refine OpW.sliceData rfl Tryz.underlying293 rfl Z.M rfl rfl ?_; intro q7 hq7
  refine ⟨Z.H, ?_⟩
  refine WD.one 9 rfl Z.K rfl ?_
  refine OpW.rd rfl rfl ((by exact Rd.lenA rfl rfl Tryz.underlying38 Z.M)) ?_
  refine ⟨Z.H, ?_⟩
  refine WD.one 10 rfl Z.K rfl ?_
  refine OpW.unsafeStr rfl Tryz.underlying293 Z.K rfl rfl rfl rfl Z.T hq7 rfl rfl ?_
  refine ⟨Z.H, ?_⟩
  refine WD.take 11 rfl Z.K Z.H rfl rfl rfl (Rd.assign rfl rfl) ?_
  refine WD.done Z.K ?_
  refine thenQ.normal ?_
  refine WC.ret (Ret.one Tryz.results110 rfl ?_)
  exact hk
 ·
  refine OpW.rd rfl rfl ((by exact Rd.lenA rfl rfl Tryz.underlying38 Z.M)) ?_
  refine ⟨Z.H, ?_⟩
  refine WD.one 4 rfl Z.K rfl ?_
  refine OpW.sliceData rfl Tryz.underlying293 rfl Z.M rfl rfl ?_; intro q7 hq7
  refine ⟨Z.H, ?_⟩
  refine WD.one 10 rfl Z.K rfl ?_
  refine OpW.unsafeStr rfl Tryz.underlying293 Z.K rfl rfl rfl rfl Z.T hq7 rfl rfl ?_
  refine ⟨Z.H, ?_⟩
  refine WD.take 11 rfl Z.K Z.H rfl rfl rfl (Rd.assign rfl rfl) ?_
  refine WD.done Z.K ?_
  refine thenQ.normal ?_
  refine WC.ret (Ret.one Tryz.results110 rfl ?_)
  exact hk
end
end Go.Proofs.YtnjfgcpmcjmddaaGreatDoor
namespace Go.Proofs.YtnjfgcpmcjmddaaGreatDoor
open Go Go.SL
def blen (n : Nat) : Nat := if n = 0 then 0 else Nat.log2 n + 1
theorem blen_div {n k : Nat} (h : 2 ^ k ≤ n) : blen n = blen (n / 2 ^ k) + k := by
 have h1 : 0 < n / 2 ^ k := Nat.div_pos h (Nat.two_pow_pos k)
 have h0 : n ≠ 0 := by have := Nat.two_pow_pos k; omega
 unfold blen
 rw [if_neg h0, if_neg Z.W]
 have : Nat.log2 n = Nat.log2 (n / 2 ^ k) + k := by
  rw [Nat.log2_eq_iff h0]
  have h3 := Nat.log2_self_le (n := n / 2 ^ k) Z.W
  have h4 := Nat.lt_log2_self (n := n / 2 ^ k)
  constructor
  · rw [Nat.pow_add]
    exact (Nat.le_div_iff_mul_le (Nat.two_pow_pos k)).1 h3
  · rw [show Nat.log2 (n / 2 ^ k) + k + 1 = (Nat.log2 (n / 2 ^ k) + 1) + k from by omega, Nat.pow_add]
    exact (Nat.div_lt_iff_lt_mul (Nat.two_pow_pos k)).1 h4
 omega
theorem blen_lt {n k : Nat} (h : n < 2 ^ k) : blen n ≤ k := by
 unfold blen
 split
 · omega
 · have := (Nat.log2_lt (n := n) (k := k) Z.W).2 h; omega
def len8tab : List UInt8 := [0, 1, 2, 2, 3, 3, 3, 3, 4, 4, 4, 4, 4, 4, 4, 4, 5, 5, 5, 5, 5, 5, 5, 5, 5, 5, 5, 5, 5, 5, 5, 5, 6, 6, 6, 6, 6, 6, 6, 6, 6, 6, 6, 6, 6, 6, 6, 6, 6, 6, 6, 6, 6, 6, 6, 6, 6, 6, 6, 6, 6, 6, 6, 6, 7, 7, 7, 7, 7, 7, 7, 7, 7, 7, 7, 7, 7, 7, 7, 7, 7, 7, 7, 7, 7, 7, 7, 7, 7, 7, 7, 7, 7, 7, 7, 7, 7, 7, 7, 7, 7, 7, 7, 7, 7, 7, 7, 7, 7, 7, 7, 7, 7, 7, 7, 7, 7, 7, 7, 7, 7, 7, 7, 7, 7, 7, 7, 7, 8, 8, 8, 8, 8, 8, 8, 8, 8, 8, 8, 8, 8, 8, 8, 8, 8, 8, 8, 8, 8, 8, 8, 8, 8, 8, 8, 8, 8, 8, 8, 8, 8, 8, 8, 8, 8, 8, 8, 8, 8, 8, 8, 8, 8, 8, 8, 8, 8, 8, 8, 8, 8, 8, 8, 8, 8, 8, 8, 8, 8, 8, 8, 8, 8, 8, 8, 8, 8, 8, 8, 8, 8, 8, 8, 8, 8, 8, 8, 8, 8, 8, 8, 8, 8, 8, 8, 8, 8, 8, 8, 8, 8, 8, 8, 8, 8, 8, 8, 8, 8, 8, 8, 8, 8, 8, 8, 8, 8, 8, 8, 8, 8, 8, 8, 8, 8, 8, 8, 8, 8, 8, 8, 8, 8, 8, 8, 8]
theorem len8_all : ∀ n < 256, len8tab[n]? = some (UInt8.ofNat (blen n)) := by decide +kernel
theorem blen_u8 {n : Nat} (h : n < 256) : (UInt8.ofNat (blen n)).toNat = blen n := by
 have := blen_lt (n := n) (k := 8) h
 simp; omega
theorem _root_.Go.SL.Rd.len8 {P : Program} {o : Oper} {t : TypeId} {x y : Operand} {L : Env} {R : List RO} {O : List Own} {kd : IntKind} {p : Int} {k : Nat} (ho : o.op = .index t x y) (hT : P.underlying t = some .string) (hx : ev L x = some (vs len8tab)) (hy : ev L y = some (.int kd p)) (hp : p = (k : Int)) (hk : k < 256) : Rd P o L R O (.int .u8 (blen k : Nat)) := by
 have h := Rd.sidx (R := R) (O := O) ho hT hx hy hp (len8_all k hk)
 rw [blen_u8 hk] at h; exact h
theorem vi_eq {POST : Value → List RO → List Own → Prop} {R : List RO} {O : List Own} {a b : Int} (h : POST (.int .i64 a) R O) (e : a = b) : POST (.int .i64 b) R O := e ▸ h
theorem len8_le (n : Nat) (h : n < 256) : blen n ≤ 8 := blen_lt (k := 8) h
set_option maxRecDepth 20000 in
theorem len64_spec {R : List RO} {O : List Own} {POST : Value → List RO → List Own → Prop} {n : Nat} (hn : n < 18446744073709551616) (hk : POST (.int .i64 (blen n)) R O) : Fun Tryz.prog 158 #[.int .u64 n] R O POST := by
 refine Fun.enter (l := [_]) Tryz.func158 rfl Tryz.ntmps158 rfl (L0 := [(0, _)]) rfl ?_
 refine Z.s1 <| Z.a1 rfl <| Z.n1 <| Z.s2 <| Z.m1 rfl <| Z.r1 rfl (Rd.geq rfl rfl rfl) <| Z.n1 ?_
 refine WC.ite rfl (fun hc1 => ?_) (fun hc1 => ?_)
 ·
  have e1 := blen_div (n := n) (k := 32) Z.W
  refine Z.s1 <| Z.m1 rfl <| Z.r1 rfl (Rd.shrN (n := 32) rfl rfl rfl rfl rfl (by decide)) ?_
  refine Z.a1 rfl <| Z.g1 <| Z.a1 rfl <| Z.n1 <| Z.s2 <| Z.m1 rfl <| Z.r1 rfl (Rd.geq rfl rfl rfl) <| Z.n1 ?_
  refine WC.ite rfl (fun hc2 => ?_) (fun hc2 => ?_)
  ·
   first | have e2 := blen_div (n := n / 2 ^ 32) (k := 16) Z.W | have e2 := blen_div (n := n) (k := 16) Z.W
   refine Z.s1 <| Z.m1 rfl <| Z.r1 rfl (Rd.shrN (n := 16) rfl rfl rfl rfl rfl (by decide)) ?_
   refine Z.a1 rfl <| Z.g1 <| Z.m1 rfl <| Z.r1 rfl (Rd.add rfl rfl rfl Z.W) ?_
   refine Z.a1 rfl <| Z.n1 <| Z.s2 <| Z.m1 rfl <| Z.r1 rfl (Rd.geq rfl rfl rfl) <| Z.n1 ?_
   refine WC.ite rfl (fun hc3 => ?_) (fun hc3 => ?_)
   ·
    first | have e3 := blen_div (n := n / 2 ^ 32 / 2 ^ 16) (k := 8) Z.W | have e3 := blen_div (n := n / 2 ^ 32) (k := 8) Z.W | have e3 := blen_div (n := n / 2 ^ 16) (k := 8) Z.W | have e3 := blen_div (n := n) (k := 8) Z.W
    refine Z.s1 <| Z.m1 rfl <| Z.r1 rfl (Rd.shrN (n := 8) rfl rfl rfl rfl rfl (by decide)) ?_
    refine Z.a1 rfl <| Z.g1 <| Z.m1 rfl <| Z.r1 rfl (Rd.add rfl rfl rfl Z.W) ?_
    refine Z.a1 rfl <| Z.q1 <| Z.m1 rfl <| Z.m1 rfl <| Z.r1 rfl (Rd.conv rfl rfl Tryz.underlying5 (wrap_natU (k := .u8) rfl (show _ < 256 by omega)) (hS := Tryz.underlying274)) ?_
    refine Z.r1 rfl (Rd.len8 rfl Tryz.underlying9 rfl rfl rfl Z.W) ?_
    refine Z.r1 rfl (Rd.conv rfl rfl Tryz.underlying3 (wrap_natS (k := .i64) (Nat.lt_of_le_of_lt (len8_le _ Z.W) (by decide))) (hS := Tryz.underlying5)) ?_
    refine Z.r1 rfl (Rd.add rfl rfl rfl (by (have h8 := len8_le (n / 2 ^ 32 / 2 ^ 16 / 2 ^ 8) Z.W; omega))) ?_
    refine Z.a1 rfl <| Z.n1 ?_
    refine WC.ret (Ret.one Tryz.results158 rfl ?_)
    exact vi_eq hk Z.W
   ·
    refine WC.skip ?_
    refine thenQ.normal ?_
    refine Z.s1 <| Z.m1 rfl <| Z.m1 rfl <| Z.r1 rfl (Rd.conv rfl rfl Tryz.underlying5 (wrap_natU (k := .u8) rfl (show _ < 256 by omega)) (hS := Tryz.underlying274)) ?_
    refine Z.r1 rfl (Rd.len8 rfl Tryz.underlying9 rfl rfl rfl Z.W) ?_
    refine Z.r1 rfl (Rd.conv rfl rfl Tryz.underlying3 (wrap_natS (k := .i64) (Nat.lt_of_le_of_lt (len8_le _ Z.W) (by decide))) (hS := Tryz.underlying5)) ?_
    refine Z.r1 rfl (Rd.add rfl rfl rfl (by (have h8 := len8_le (n / 2 ^ 32 / 2 ^ 16) Z.W; omega))) ?_
    refine Z.a1 rfl <| Z.n1 ?_
    refine WC.ret (Ret.one Tryz.results158 rfl ?_)
    exact vi_eq hk Z.W
  ·
   refine WC.skip ?_
   refine thenQ.normal ?_
   refine Z.s2 <| Z.m1 rfl <| Z.r1 rfl (Rd.geq rfl rfl rfl) <| Z.n1 ?_
   refine WC.ite rfl (fun hc3 => ?_) (fun hc3 => ?_)
   ·
    first | have e3 := blen_div (n := n / 2 ^ 32 / 2 ^ 16) (k := 8) Z.W | have e3 := blen_div (n := n / 2 ^ 32) (k := 8) Z.W | have e3 := blen_div (n := n / 2 ^ 16) (k := 8) Z.W | have e3 := blen_div (n := n) (k := 8) Z.W
    refine Z.s1 <| Z.m1 rfl <| Z.r1 rfl (Rd.shrN (n := 8) rfl rfl rfl rfl rfl (by decide)) ?_
    refine Z.a1 rfl <| Z.g1 <| Z.m1 rfl <| Z.r1 rfl (Rd.add rfl rfl rfl Z.W) ?_
    refine Z.a1 rfl <| Z.q1 <| Z.m1 rfl <| Z.m1 rfl <| Z.r1 rfl (Rd.conv rfl rfl Tryz.underlying5 (wrap_natU (k := .u8) rfl (show _ < 256 by omega)) (hS := Tryz.underlying274)) ?_
    refine Z.r1 rfl (Rd.len8 rfl Tryz.underlying9 rfl rfl rfl Z.W) ?_
    refine Z.r1 rfl (Rd.conv rfl rfl Tryz.underlying3 (wrap_natS (k := .i64) (Nat.lt_of_le_of_lt (len8_le _ Z.W) (by decide))) (hS := Tryz.underlying5)) ?_
    refine Z.r1 rfl (Rd.add rfl rfl rfl (by (have h8 := len8_le (n / 2 ^ 32 / 2 ^ 8) Z.W; omega))) ?_
    refine Z.a1 rfl <| Z.n1 ?_
    refine WC.ret (Ret.one Tryz.results158 rfl ?_)
    exact vi_eq hk Z.W
   ·
    refine WC.skip ?_
    refine thenQ.normal ?_
    refine Z.s1 <| Z.m1 rfl <| Z.m1 rfl <| Z.r1 rfl (Rd.conv rfl rfl Tryz.underlying5 (wrap_natU (k := .u8) rfl (show _ < 256 by omega)) (hS := Tryz.underlying274)) ?_
    refine Z.r1 rfl (Rd.len8 rfl Tryz.underlying9 rfl rfl rfl Z.W) ?_
    refine Z.r1 rfl (Rd.conv rfl rfl Tryz.underlying3 (wrap_natS (k := .i64) (Nat.lt_of_le_of_lt (len8_le _ Z.W) (by decide))) (hS := Tryz.underlying5)) ?_
    refine Z.r1 rfl (Rd.add rfl rfl rfl (by (have h8 := len8_le (n / 2 ^ 32) Z.W; omega))) ?_
    refine Z.a1 rfl <| Z.n1 ?_
    refine WC.ret (Ret.one Tryz.results158 rfl ?_)
    exact vi_eq hk Z.W
 ·
  refine WC.skip ?_
  refine thenQ.normal ?_
  refine Z.s2 <| Z.m1 rfl <| Z.r1 rfl (Rd.geq rfl rfl rfl) <| Z.n1 ?_
  refine WC.ite rfl (fun hc2 => ?_) (fun hc2 => ?_)
  ·
   first | have e2 := blen_div (n := n / 2 ^ 32) (k := 16) Z.W | have e2 := blen_div (n := n) (k := 16) Z.W
   refine Z.s1 <| Z.m1 rfl <| Z.r1 rfl (Rd.shrN (n := 16) rfl rfl rfl rfl rfl (by decide)) ?_
   refine Z.a1 rfl <| Z.g1 <| Z.m1 rfl <| Z.r1 rfl (Rd.add rfl rfl rfl Z.W) ?_
   refine Z.a1 rfl <| Z.n1 <| Z.s2 <| Z.m1 rfl <| Z.r1 rfl (Rd.geq rfl rfl rfl) <| Z.n1 ?_
   refine WC.ite rfl (fun hc3 => ?_) (fun hc3 => ?_)
   ·
    first | have e3 := blen_div (n := n / 2 ^ 32 / 2 ^ 16) (k := 8) Z.W | have e3 := blen_div (n := n / 2 ^ 32) (k := 8) Z.W | have e3 := blen_div (n := n / 2 ^ 16) (k := 8) Z.W | have e3 := blen_div (n := n) (k := 8) Z.W
    refine Z.s1 <| Z.m1 rfl <| Z.r1 rfl (Rd.shrN (n := 8) rfl rfl rfl rfl rfl (by decide)) ?_
    refine Z.a1 rfl <| Z.g1 <| Z.m1 rfl <| Z.r1 rfl (Rd.add rfl rfl rfl Z.W) ?_
    refine Z.a1 rfl <| Z.q1 <| Z.m1 rfl <| Z.m1 rfl <| Z.r1 rfl (Rd.conv rfl rfl Tryz.underlying5 (wrap_natU (k := .u8) rfl (show _ < 256 by omega)) (hS := Tryz.underlying274)) ?_
    refine Z.r1 rfl (Rd.len8 rfl Tryz.underlying9 rfl rfl rfl Z.W) ?_
    refine Z.r1 rfl (Rd.conv rfl rfl Tryz.underlying3 (wrap_natS (k := .i64) (Nat.lt_of_le_of_lt (len8_le _ Z.W) (by decide))) (hS := Tryz.underlying5)) ?_
    refine Z.r1 rfl (Rd.add rfl rfl rfl (by (have h8 := len8_le (n / 2 ^ 16 / 2 ^ 8) Z.W; omega))) ?_
    refine Z.a1 rfl <| Z.n1 ?_
    refine WC.ret (Ret.one Tryz.results158 rfl ?_)
    exact vi_eq hk Z.W
   ·
    refine WC.skip ?_
    refine thenQ.normal ?_
    refine Z.s1 <| Z.m1 rfl <| Z.m1 rfl <| Z.r1 rfl (Rd.conv rfl rfl Tryz.underlying5 (wrap_natU (k := .u8) rfl (show _ < 256 by omega)) (hS := Tryz.underlying274)) ?_
    refine Z.r1 rfl (Rd.len8 rfl Tryz.underlying9 rfl rfl rfl Z.W) ?_
    refine Z.r1 rfl (Rd.conv rfl rfl Tryz.underlying3 (wrap_natS (k := .i64) (Nat.lt_of_le_of_lt (len8_le _ Z.W) (by decide))) (hS := Tryz.underlying5)) ?_
    refine Z.r1 rfl (Rd.add rfl rfl rfl (by (have h8 := len8_le (n / 2 ^ 16) Z.W; omega))) ?_
    refine Z.a1 rfl <| Z.n1 ?_
    refine WC.ret (Ret.one Tryz.results158 rfl ?_)
    exact vi_eq hk Z.W
  ·
   refine WC.skip ?_
   refine thenQ.normal ?_
   refine Z.s2 <| Z.m1 rfl <| Z.r1 rfl (Rd.geq rfl rfl rfl) <| Z.n1 ?_
   refine WC.ite rfl (fun hc3 => ?_) (fun hc3 => ?_)
   ·
    first | have e3 := blen_div (n := n / 2 ^ 32 / 2 ^ 16) (k := 8) Z.W | have e3 := blen_div (n := n / 2 ^ 32) (k := 8) Z.W | have e3 := blen_div (n := n / 2 ^ 16) (k := 8) Z.W | have e3 := blen_div (n := n) (k := 8) Z.W
    refine Z.s1 <| Z.m1 rfl <| Z.r1 rfl (Rd.shrN (n := 8) rfl rfl rfl rfl rfl (by decide)) ?_
    refine Z.a1 rfl <| Z.g1 <| Z.m1 rfl <| Z.r1 rfl (Rd.add rfl rfl rfl Z.W) ?_
    refine Z.a1 rfl <| Z.q1 <| Z.m1 rfl <| Z.m1 rfl <| Z.r1 rfl (Rd.conv rfl rfl Tryz.underlying5 (wrap_natU (k := .u8) rfl (show _ < 256 by omega)) (hS := Tryz.underlying274)) ?_
    refine Z.r1 rfl (Rd.len8 rfl Tryz.underlying9 rfl rfl rfl Z.W) ?_
    refine Z.r1 rfl (Rd.conv rfl rfl Tryz.underlying3 (wrap_natS (k := .i64) (Nat.lt_of_le_of_lt (len8_le _ Z.W) (by decide))) (hS := Tryz.underlying5)) ?_
    refine Z.r1 rfl (Rd.add rfl rfl rfl (by (have h8 := len8_le (n / 2 ^ 8) Z.W; omega))) ?_
    refine Z.a1 rfl <| Z.n1 ?_
    refine WC.ret (Ret.one Tryz.results158 rfl ?_)
    exact vi_eq hk Z.W
   ·
    refine WC.skip ?_
    refine thenQ.normal ?_
    refine Z.s1 <| Z.m1 rfl <| Z.m1 rfl <| Z.r1 rfl (Rd.conv rfl rfl Tryz.underlying5 (wrap_natU (k := .u8) rfl (show _ < 256 by omega)) (hS := Tryz.underlying274)) ?_
    refine Z.r1 rfl (Rd.len8 rfl Tryz.underlying9 rfl rfl rfl Z.W) ?_
    refine Z.r1 rfl (Rd.conv rfl rfl Tryz.underlying3 (wrap_natS (k := .i64) (Nat.lt_of_le_of_lt (len8_le _ Z.W) (by decide))) (hS := Tryz.underlying5)) ?_
    refine Z.r1 rfl (Rd.add rfl rfl rfl (by (have h8 := len8_le (n) Z.W; omega))) ?_
    refine Z.a1 rfl <| Z.n1 ?_
    refine WC.ret (Ret.one Tryz.results158 rfl ?_)
    exact vi_eq hk Z.W
set_option maxRecDepth 20000 in
theorem len_spec {R : List RO} {O : List Own} {POST : Value → List RO → List Own → Prop} {n : Nat} (hn : n < 18446744073709551616) (hk : POST (.int .i64 (blen n)) R O) : Fun Tryz.prog 90 #[.int .u64 n] R O POST := by
 refine Fun.enter (l := [_]) Tryz.func90 rfl Tryz.ntmps90 rfl (L0 := [(0, _)]) rfl ?_
 refine Z.s1 <| Z.a1 rfl <| Z.n1 ?_
 refine WC.seq ?_
 refine WC.cond rfl (fun hc1 => ?_) (fun hc1 => ?_)
 ·
  simp at hc1
 ·
  refine WC.skip ?_
  refine thenQ.normal ?_
  refine Z.s1 <| Z.m1 rfl ?_
  refine WL.op rfl ?_
  refine OpW.call rfl rfl Z.E Z.K rfl rfl rfl ?_
  refine len64_spec hn ?_
  refine Z.a1 rfl <| Z.n1 ?_
  refine WC.ret (Ret.one Tryz.results90 rfl ?_)
  exact hk
end Go.Proofs.YtnjfgcpmcjmddaaGreatDoor
namespace Go.Proofs.YtnjfgcpmcjmddaaGreatDoor
open Go Go.SL
def st (x : Nat) : Nat := x / 2 ^^^ (if x % 2 = 1 then 3988292384 else 0)
def stn : Nat → Nat → Nat
 | 0, x => x
 | k + 1, x => stn k (st x)
theorem xor_swap (a b c d : Nat) : (a ^^^ b) ^^^ (c ^^^ d) = (a ^^^ c) ^^^ (b ^^^ d) := by
 apply Nat.eq_of_testBit_eq; intro i
 simp only [Nat.testBit_xor]
 cases a.testBit i <;> cases b.testBit i <;> cases c.testBit i <;> cases d.testBit i <;> rfl
theorem st_xor (a b : Nat) : st (a ^^^ b) = st a ^^^ st b := by
 unfold st
 rw [Nat.xor_div_two, xor_swap (a / 2)]
 congr 1
 by_cases h1 : a % 2 = 1 <;> by_cases h2 : b % 2 = 1 <;> simp [Nat.xor_mod_two_eq_one, h1, h2]
theorem st_lt {x : Nat} (h : x < 2 ^ 32) : st x < 2 ^ 32 := Nat.xor_lt_two_pow Z.W (by split <;> decide)
theorem st_two (x : Nat) : st (2 * x) = x := by
 unfold st
 rw [if_neg Z.W, Nat.xor_zero]; omega
theorem stn_xor : ∀ (k a b : Nat), stn k (a ^^^ b) = stn k a ^^^ stn k b
 | 0, _, _ => rfl
 | k + 1, a, b => by rw [stn, st_xor, stn_xor k]; rfl
theorem stn_lt : ∀ (k : Nat) {x : Nat}, x < 2 ^ 32 → stn k x < 2 ^ 32
 | 0, _, h => h
 | k + 1, _, h => stn_lt k (st_lt h)
theorem stn_add : ∀ (a b x : Nat), stn (a + b) x = stn b (stn a x)
 | 0, b, x => by rw [Nat.zero_add]; rfl
 | a + 1, b, x => by rw [show a + 1 + b = (a + b) + 1 from by omega, stn, stn_add a b]; rfl
theorem stn_pow : ∀ (k x : Nat), stn k (2 ^ k * x) = x
 | 0, x => by rw [Nat.pow_zero, Nat.one_mul]; rfl
 | k + 1, x => by rw [stn, Nat.pow_succ, show 2 ^ k * 2 * x = 2 * (2 ^ k * x) from by rw [Nat.mul_comm (2 ^ k) 2, Nat.mul_assoc], st_two, stn_pow k]
theorem split16 (x : Nat) : 2 ^ 4 * (x / 16) ^^^ (x &&& 15) = x := by
 have h1 : x &&& 15 = x % 16 := Nat.and_two_pow_sub_one_eq_mod x 4
 rw [h1]
 have e1 : (2 ^ 4 * (x / 16) ^^^ (x % 16)) / 2 ^ 4 = x / 16 := by rw [Nat.xor_div_two_pow, Nat.mul_div_cancel_left _ (by decide), Nat.div_eq_of_lt (Nat.mod_lt _ (by decide)), Nat.xor_zero]
 have e2 : (2 ^ 4 * (x / 16) ^^^ (x % 16)) % 2 ^ 4 = x % 16 := by rw [Nat.xor_mod_two_pow, Nat.mul_mod_right, Nat.zero_xor, Nat.mod_mod]
 generalize 2 ^ 4 * (x / 16) ^^^ (x % 16) = y at *
 omega
theorem nib (x : Nat) : x / 2 ^ 4 ^^^ stn 4 (x &&& 15) = stn 4 x := by
 conv => rhs; rw [← split16 x, stn_xor, stn_pow]
theorem and15_lt (x : Nat) : x &&& 15 < 16 := Nat.lt_of_le_of_lt Nat.and_le_right (by decide)
def tabZ : List Int := [0, 498536548, 997073096, 651767980, 1994146192, 1802195444, 1303535960, 1342533948, 3988292384, 4027552580, 3604390888, 3412177804, 2607071920, 2262029012, 2685067896, 3183342108]
def tabV : List Value := tabZ.map fun z => .int .u32 z
theorem tab_get {k : Nat} (h : k < 16) : tabV[k]? = some (.int .u32 ((stn 4 k : Nat) : Int)) := by
 have : ∀ k < 16, tabZ[k]? = some ((stn 4 k : Nat) : Int) := by decide +kernel
 rw [tabV, List.getElem?_map, this k h]; rfl
abbrev tabR : RO := garr 0 tabV
def stb (r : Nat) (c : UInt8) : Nat := stn 8 (r ^^^ c.toNat)
def reg (r : Nat) (s : List UInt8) : Nat := s.foldl stb r
theorem stb_lt {r : Nat} (h : r < 2 ^ 32) (c : UInt8) : stb r c < 2 ^ 32 := stn_lt 8 (Nat.xor_lt_two_pow h (Nat.lt_trans (UInt8.toNat_lt c) (by decide)))
theorem reg_lt : ∀ (s : List UInt8) {r : Nat}, r < 2 ^ 32 → reg r s < 2 ^ 32
 | [], _, h => h
 | c :: s, _, h => reg_lt s (stb_lt h c)
theorem reg_append (r : Nat) (s t : List UInt8) : reg r (s ++ t) = reg (reg r s) t := List.foldl_append
theorem reg_snoc {s : List UInt8} {i r : Nat} (h : i < s.length) : reg r (s.take (i + 1)) = stb (reg r (s.take i)) s[i]! := by
 rw [List.take_add_one, get!_of_lt h, reg_append]; rfl
def sumE (s : List UInt8) : Nat := 4294967295 - reg 4294967295 s
set_option maxRecDepth 20000 in
set_option maxHeartbeats 1000000 in
theorem crcSum_spec {R : List RO} {O : List Own} {POST : Value → List RO → List Own → Prop} {s : List UInt8} (ht : tabR ∈ R) (hs : s.length ≤ 9223372036854775807)
 (hk : POST (.int .u32 (sumE s : Nat)) R O) : Fun Tryz.prog 176 #[vs s] R O POST := by
 refine Fun.enter (l := [_]) Tryz.func176 rfl Tryz.ntmps176 rfl (L0 := [(0, _)]) rfl ?_
 refine Z.s1 <| Z.a1 rfl <| Z.q1 <| Z.a1 rfl <| Z.n1 <| Z.s2 <| Z.m1 rfl <| Z.r1 rfl (Rd.slen (ts := #[]) (ty := 0) rfl rfl Tryz.underlying9) ?_
 refine Z.m1 rfl <| Z.n1 ?_
 refine WC.block ?_
 refine WC.pick [7, 3, 0, 6] Z.P ?_
 refine WC.loop1o 2 (fun (i : Nat) => [(7, .int .i64 (i : Int)), (3, .int .u32 ((reg 4294967295 (s.take i) : Nat) : Int))]) (fun (i : Nat) => i ≤ s.length) (fun (i : Nat) => s.length - i) (0) Z.L ?hinv1 (by repeat (first | exact Sub.nil | refine Sub.cons rfl (by rfl) ?_)) (fun _ h => h) ?_
 case hinv1 =>
  exact Nat.zero_le _
 intro i
 rintro h1
 have hr : reg 4294967295 (s.take i) < 2 ^ 32 := reg_lt _ (by decide)
 refine Z.s1 <| Z.r1 rfl (Rd.lss rfl rfl rfl) <| Z.n1 ?_
 refine WC.seq ?_
 refine WC.ite rfl (fun hc1 => ?_) (fun hc1 => ?_)
 ·
  have hc : s[i]!.toNat < 2 ^ 32 := Nat.lt_trans (UInt8.toNat_lt s[i]!) (by decide)
  have hX : reg 4294967295 (s.take i) ^^^ s[i]!.toNat < 2 ^ 32 := Nat.xor_lt_two_pow hr hc
  have hsn := reg_snoc (s := s) (i := i) (r := 4294967295) Z.W
  have hY : stn 4 (reg 4294967295 (s.take i) ^^^ s[i]!.toNat) < 2 ^ 32 := stn_lt 4 hX
  refine WC.skip ?_
  refine thenQ.normal ?_
  refine WC.seq ?_
  refine WC.block ?_
  refine Z.s1 <| Z.m1 rfl <| Z.a1 rfl <| Z.q1 <| Z.m1 rfl <| Z.m1 rfl <| Z.m1 rfl <| Z.r1 rfl (Rd.sidx (k := i) rfl Tryz.underlying9 rfl rfl Z.W (by exact get!_of_lt Z.W)) ?_
  refine Z.r1 rfl (Rd.conv rfl rfl Tryz.underlying272 (wrap_natU rfl hc) (hS := Tryz.underlying5)) ?_
  refine Z.r1 rfl (Rd.xorU rfl rfl rfl rfl rfl rfl hr hc) <| Z.a1 rfl <| Z.q1 <| Z.m1 rfl <| Z.r1 rfl (Rd.shrN (a := reg 4294967295 (s.take i) ^^^ s[i]!.toNat) (n := 4) rfl rfl rfl rfl rfl (by decide)) ?_
  refine Z.m1 rfl <| Z.r1 rfl (Rd.andU (a := reg 4294967295 (s.take i) ^^^ s[i]!.toNat) (b := 15) rfl rfl rfl rfl rfl rfl hX (by decide)) ?_
  refine Z.r1 rfl (Rd.idxArr1 (k := (reg 4294967295 (s.take i) ^^^ s[i]!.toNat) &&& 15) rfl A355 rfl rfl rfl (and15_lt _)) ?_
  refine Z.r1 rfl (Rd.getGl rfl C272 rfl ht (tab_get (and15_lt _))) <| Z.r1 rfl (Rd.xorU rfl rfl rfl rfl rfl rfl (Nat.lt_of_le_of_lt (Nat.div_le_self _ _) hX) (stn_lt 4 (Nat.lt_trans (and15_lt _) (by decide)))) ?_
  refine WL.say 22 (u := .int .u32 ((stn 4 (reg 4294967295 (s.take i) ^^^ s[i]!.toNat) : Nat) : Int)) rfl (by rw [nib]) ?_
  refine Z.a1 rfl <| Z.g1 <| Z.m1 rfl <| Z.r1 rfl (Rd.shrN (a := stn 4 (reg 4294967295 (s.take i) ^^^ s[i]!.toNat)) (n := 4) rfl rfl rfl rfl rfl (by decide)) ?_
  refine Z.m1 rfl <| Z.r1 rfl (Rd.andU (a := stn 4 (reg 4294967295 (s.take i) ^^^ s[i]!.toNat)) (b := 15) rfl rfl rfl rfl rfl rfl hY (by decide)) ?_
  refine Z.r1 rfl (Rd.idxArr1 (k := stn 4 (reg 4294967295 (s.take i) ^^^ s[i]!.toNat) &&& 15) rfl A355 rfl rfl rfl (and15_lt _)) ?_
  refine Z.r1 rfl (Rd.getGl rfl C272 rfl ht (tab_get (and15_lt _))) <| Z.r1 rfl (Rd.xorU rfl rfl rfl rfl rfl rfl (Nat.lt_of_le_of_lt (Nat.div_le_self _ _) hY) (stn_lt 4 (Nat.lt_trans (and15_lt _) (by decide)))) ?_
  refine WL.say 29 (u := .int .u32 ((reg 4294967295 (s.take (i + 1)) : Nat) : Int)) rfl (by rw [nib, ← stn_add, hsn]; rfl) ?_
  refine Z.a1 rfl ?_
  refine WL.nil ?_
  refine blockQ.normal ?_
  refine thenQ.normal ?_
  refine WC.region ?_
  refine Z.r1 rfl (Rd.add rfl rfl rfl Z.W) ?_
  refine Z.m1 rfl ?_
  refine WL.nil ?_
  exact loopQ1.mk (i + 1) Z.W Z.W (by repeat (first | exact Sub.nil | refine Sub.cons rfl (by rfl) ?_)) Z.F
 ·
  have hi : s.take i = s := List.take_of_length_le Z.W
  rw [hi] at hr ⊢
  refine WC.exit ?_
  refine thenQ.exit ?_
  refine loopQ1.exit ?_
  refine blockQ.exit ?_
  refine thenQ.normal ?_
  refine Z.s1 <| Z.m1 rfl <| Z.r1 rfl (Rd.bnotU rfl rfl rfl rfl hr rfl) ?_
  refine WL.say 32 (u := .int .u32 (sumE s : Nat)) rfl rfl ?_
  refine Z.a1 rfl <| Z.n1 ?_
  refine WC.ret (Ret.one Tryz.results176 rfl ?_)
  exact hk
end Go.Proofs.YtnjfgcpmcjmddaaGreatDoor
namespace Go.Proofs.YtnjfgcpmcjmddaaGreatDoor
open Go Go.SL Go.Ex
section
variable {ρ : Rho} {R : List RO} {O F : List Own} {B : Bs} {OB : List Own} {h h' : Go.Ex.Hp}
theorem crcW_eq (c : Nat) : crcW c = st c := by
 show ifb (Nat.beq (Nat.mod c 2) 1) (Nat.xor (Nat.div c 2) 0xEDB88320) (Nat.div c 2) = c / 2 ^^^ (if c % 2 = 1 then 3988292384 else 0)
 rw [ifb_eq]
 by_cases h : c % 2 = 1
 · rw [if_pos (by rw [Nat.beq_eq]; exact h), if_pos h]; rfl
 · rw [if_neg (by rw [Nat.beq_eq]; exact h), if_neg h, Nat.xor_zero]; rfl
theorem crcB_eq (c : Nat) : crcB c = stn 8 c := by
 show crcW (crcW (crcW (crcW (crcW (crcW (crcW (crcW c))))))) = _
 simp only [crcW_eq]
 rfl
theorem crcF_eq : ∀ (s : List Nat) (r : Nat), (∀ n ∈ s, n < 256) → crcF s r = reg r (txt s)
 | [], _, _ => rfl
 | b :: s, r, h => by
   have hb := h b List.mem_cons_self
   show fN (crcB (Nat.xor r b)) (crcF s) = reg (stb r (UInt8.ofNat b)) (txt s)
   rw [fN_eq, crcF_eq s _ fun n hn => h n (List.mem_cons_of_mem _ hn), crcB_eq]
   have : (UInt8.ofNat b).toNat = b := by simp [Nat.mod_eq_of_lt hb]
   rw [stb, this]; rfl
theorem xor_ones {r : Nat} (h : r < 2 ^ 32) : r ^^^ 4294967295 = 4294967295 - r := by
 apply Nat.eq_of_testBit_eq
 intro i
 have e : 4294967295 - r = 2 ^ 32 - (r + 1) := by omega
 rw [e, Nat.testBit_two_pow_sub_succ h, Nat.testBit_xor, show 4294967295 = 2 ^ 32 - 1 from rfl, Nat.testBit_two_pow_sub_one]
 by_cases hi : i < 32
 · simp [hi]
 · have : r.testBit i = false := Nat.testBit_lt_two_pow (Nat.lt_of_lt_of_le h (Nat.pow_le_pow_right (by decide) Z.W))
   simp [hi, this]
theorem kCrc_ok (ht : tabR ∈ R) : KOne Tryz.prog R 176 kCrc := by
 refine .still Z.K fun args B h q hq => ?_
 unfold kCrc at hq
 split at hq
 · rename_i s
   obtain ⟨hl, hq⟩ := ifb_none hq
   have hl := Nat.le_of_ble_eq_true hl
   rw [ln_eq] at hl
   rw [fN_eq] at hq
   cases hq
   refine ⟨rfl, fun ρ vs hvs => ?_⟩
   cases hvs with
   | cons h1 hr =>
     cases hr
     cases h1 with
     | st hst =>
       refine ⟨.int .u32 (sumE (txt s) : Nat), ?_, fun O => crcSum_spec ht (by simp [txt]; omega) ⟨rfl, rfl, rfl⟩⟩
       have e1 : Nat.xor (crcF s 0xFFFFFFFF) 0xFFFFFFFF = sumE (txt s) := by
        rw [crcF_eq s _ hst]
        show reg 4294967295 (txt s) ^^^ 4294967295 = _
        rw [xor_ones (reg_lt _ (by decide))]
        rfl
       rw [e1]
       exact .it _ _
 · cases hq
theorem repeatL_txt (s : List Nat) : ∀ n, Lib.repeatL (txt s) n = txt (rep s n)
 | 0 => rfl
 | n + 1 => by
   show txt s ++ Lib.repeatL (txt s) n = txt (app s (rep s n))
   rw [repeatL_txt s n, app_eq, txt, txt, txt, List.map_append]
theorem kRepeat_ok : KOne Tryz.prog R 94 kRepeat := by
 refine .still Z.K fun args B h q hq => ?_
 unfold kRepeat at hq
 split at hq
 · rename_i s n
   obtain ⟨m, hm, hq⟩ := bnd_some hq
   obtain ⟨hl, hq⟩ := ifb_none hq
   obtain ⟨hm1, hl⟩ := and2 hl
   have hl := Nat.le_of_ble_eq_true hl
   have hm1 := Nat.le_of_ble_eq_true hm1
   rw [ln_eq] at hl
   cases hq
   refine ⟨rfl, fun ρ vs hvs => ?_⟩
   cases hvs with
   | cons h1 hr =>
     cases hr with
     | cons h2 hr =>
       cases hr
       cases h2
       cases h1 with
       | st hst =>
         obtain rfl := toN_some hm
         refine ⟨vs (txt (rep s m)), .st ?_, fun O => ?_⟩
         · rw [rep_eq]
           intro n hn
           obtain ⟨l, hl, hn⟩ := List.mem_flatten.1 hn
           rw [List.eq_of_mem_replicate hl] at hn
           exact hst n hn
         · have := fun w => Tryz.strings_Repeat ⟨(txt s).toArray⟩ m w Z.W (by show (txt s).toArray.size * _ ≤ _; simp [txt]; omega)
           refine Fun.below (v := vs (txt (rep s m))) (fun w => ?_) ⟨rfl, rfl, rfl⟩
           have h1 := this w
           rw [show (ByteArray.mk (txt s).toArray).data.toList = txt s from rfl, repeatL_txt] at h1
           exact h1
 · cases hq
theorem bGet_ok {u i off : Nat} {q : BQ} (hq : bGet B h u i off = some q) (hN : q.h.nx = h.nx → True) :
 q.h.nx = h.nx ∧ (∀ n ∈ q.s, True) ∧ ∀ (ρ : Rho) (OB O : List Own), HR ρ B OB h O → ∀ {b : Nat}, ρ i = some (.b b) → ∃ cs p v O', VRs ρ q.cs cs ∧ (p = .pointer none ∨ p = pself b off) ∧ cs[off]? = some p ∧ cs[off + 1]? = some v ∧ HR ρ B OB q.h O' ∧ (∀ n ∈ q.s, n < 256) ∧
  ∀ (R : List RO) (F : List Own) (w : World), Sat R (O ++ F) w → Sat R (rowC b q.t cs :: accC u 1 (SL.one vy) v (txt q.s) :: (O' ++ F)) w := by
 obtain ⟨p, hp, hq⟩ := bnd_some hq
 obtain ⟨ch, h1⟩ := p
 have hnx := take_nx hp
 unfold bRow at hq
 split at hq
 · rename_i t cs heq
   have heq : ch = .row t cs := heq
   subst heq
   obtain ⟨a, ha, hq⟩ := bnd_some hq
   obtain ⟨hself, hq⟩ := ifb_none hq
   obtain ⟨b2, hb2, hq⟩ := bnd_some hq
   have hself' : a = .np ∨ a = .pt i off := by
    unfold selfA at hself
    split at hself
    · exact .inl rfl
    · obtain ⟨h1, h2⟩ := and2 hself
      rw [beqN h1, beqN h2]; exact .inr rfl
    · cases hself
   have hp2 : ∀ {ρ : Rho} {vs : List Value} {b : Nat}, VRs ρ cs vs → ρ i = some (.b b) → ∃ p, (p = .pointer none ∨ p = pself b off) ∧ vs[off]? = some p := fun hv hi => by
    rw [nth_eq] at ha
    obtain ⟨u, hu, hvu⟩ := hv.get ha
    rcases hself' with rfl | rfl
    · cases hvu; exact ⟨_, .inl rfl, hu⟩
    · cases hvu with
      | pt hi' => rw [hi] at hi'; cases hi'; exact ⟨_, .inr rfl, hu⟩
   unfold bTxt at hq
   split at hq
   · cases hq
     refine ⟨hnx, fun _ _ => trivial, fun ρ OB O H b hi => ?_⟩
     obtain ⟨own, O', hT, hC, hH, _⟩ := H.take hp
     cases hC with
     | row hi' hv =>
       rw [hi] at hi'; cases hi'
       obtain ⟨p, hp1, hp2⟩ := hp2 hv hi
       rw [nth_eq] at hb2
       obtain ⟨v, hv1, hv2⟩ := hv.get hb2
       cases hv2
       refine ⟨_, p, _, O', hv, hp1, hp2, hv1, hH, fun n hn => absurd hn List.not_mem_nil, fun R F w hs => ?_⟩
       have hs1 := hs.perm (take_left hT F).perm
       have hs2 : Sat R (accC u 1 (SL.one vy) (.slice none 0 0) (txt []) :: (rowC b t _ :: (O' ++ F))) w := hs1.emp _ rfl fun w => World.ownsRow_nil w 0 _ _
       exact hs2.perm (List.Perm.swap ..)
   · rename_i j o n
     obtain ⟨ho, hq⟩ := ifb_none hq
     obtain rfl := beqN ho
     obtain ⟨p2, hp3, hq⟩ := bnd_some hq
     obtain ⟨ch2, h2⟩ := p2
     have hnx2 := take_nx hp3
     unfold bBuf at hq
     split at hq
     · rename_i tv s heq
       have heq : ch2 = .byt tv s := heq
       subst heq
       obtain ⟨hc, hq⟩ := ifb_none hq
       cases hq
       obtain ⟨hc1, hc2⟩ := and2 hc
       obtain rfl := beqN hc1
       have hc2 := beqN hc2
       rw [ln_eq] at hc2
       subst hc2
       refine ⟨by show h2.nx = h.nx; have z1 : h2.nx = h1.nx := hnx2; have z2 : h1.nx = h.nx := hnx; omega, fun _ _ => trivial, fun ρ OB O H b hi => ?_⟩
       obtain ⟨own, O', hT, hC, hH, _⟩ := H.take hp
       cases hC with
       | row hi' hv =>
         rw [hi] at hi'; cases hi'
         obtain ⟨p, hp1, hp2⟩ := hp2 hv hi
         rw [nth_eq] at hb2
         obtain ⟨v, hv1, hv2⟩ := hv.get hb2
         obtain ⟨own2, O2, hT2, hC2, hH2, _⟩ := hH.take hp3
         cases hC2 with
         | byt hj hlt =>
           rename_i cap og
           have hvs : v = slv og s.length cap := by
            generalize hsl : s.length = n at hv2
            cases hv2 with
            | ac0 hj' => rw [hj] at hj'; cases hj'; rfl
            | ac hj' _ hcap =>
              rw [hj] at hj'; cases hj'
              rw [hcap rfl]; rfl
           subst hvs
           refine ⟨_, p, _, O2, hv, hp1, hp2, hv1, hH2, hlt, fun R F w hs => ?_⟩
           have hs1 := hs.perm (take_left hT F).perm
           exact hs1.perm (List.Perm.cons _ (take_left hT2 F).perm)
     · cases hq
   · cases hq
 · cases hq
theorem acc_slv {u : Nat} {v : Value} {bs : List UInt8} {w : World} (h : (accC u 1 (SL.one vy) v bs).pred w) : ∃ og cap, v = slv og bs.length cap := by
 obtain ⟨_, h⟩ := h
 rcases h with ⟨rfl, h0⟩ | ⟨g, cap, cur, rfl, _⟩
 · exact ⟨none, 0, rfl⟩
 · exact ⟨some g, cap, rfl⟩
theorem acc_VR {ρ : Rho} {og : Option Nat} {cap i n : Nat} (hi : ρ i = some (.s og cap)) {u : Nat} {bs : List UInt8} {w : World} (hn : bs.length = n) (h : (accC u 1 (SL.one vy) (slv og bs.length cap) bs).pred w) : VR ρ (.ac i 0 n) (slv og bs.length cap) := by
 obtain ⟨_, h⟩ := h
 rcases h with ⟨h1, h0⟩ | ⟨g, cap', cur, h1, _, _, h2, _⟩
 · cases og with
   | none =>
     have : n = 0 := by rw [← hn]; exact h0
     subst this
     exact .ac0 hi
   | some g => cases h1
 · cases og with
   | none => cases h1
   | some g' =>
     simp only [slv, Value.slice.injEq, Option.some.injEq, Addr.mk.injEq, and_true, true_and] at h1
     obtain ⟨rfl, rfl⟩ := h1
     rw [hn] at h2 ⊢
     exact .ac hi h2 fun _ => rfl
theorem spl_two {cs : List Value} {off : Nat} {a b : Value} (h : off + 1 < cs.length) : Go.SL.spl cs off [a, b] = (cs.set off a).set (off + 1) b := by
 apply List.ext_getElem?
 intro i
 rw [Go.SL.spl, List.getElem?_set, List.getElem?_set, List.length_set]
 by_cases h1 : i < off
 · rw [if_neg Z.W, if_neg Z.W, List.append_assoc, List.getElem?_append_left (by rw [List.length_take]; omega), List.getElem?_take_of_lt h1]
 · rw [List.append_assoc, List.getElem?_append_right (by rw [List.length_take]; omega), List.length_take, Nat.min_eq_left Z.W]
   by_cases h2 : i = off
   · subst h2; rw [if_neg Z.W, if_pos rfl, if_pos Z.W]; simp
   · by_cases h3 : i = off + 1
     · subst h3; rw [if_pos rfl, if_pos Z.W, show off + 1 - off = 1 from by omega]; simp
     · rw [if_neg Z.W, if_neg Z.W, List.getElem?_append_right (by simp; omega), List.getElem?_drop]
       congr 1
       simp only [List.length_cons, List.length_nil]; omega
theorem kWriteString_ok : KOne Tryz.prog R 109 (kWriteString Tryz.prog 5 207) := by
 intro args B h q hq
 unfold kWriteString at hq
 split at hq
 · rename_i i off s
   obtain ⟨q1, hq1, hq⟩ := bnd_some hq
   obtain ⟨hlies, hq⟩ := ifb_none hq
   obtain ⟨hlen, hq⟩ := ifb_none hq
   have hlen := Nat.le_of_ble_eq_true hlen
   rw [ln_eq, ln_eq] at hlen
   rw [fN_eq, fN_eq] at hq
   cases hq
   obtain ⟨hnx, _, hget⟩ := bGet_ok hq1 (fun _ => trivial)
   refine ⟨by show h.nx ≤ q1.h.nx + 1; omega, fun ρ OB O F vs w hvs H hN hs => .inl ⟨by kernel_rfl, ?_⟩⟩
   have hN : Nw ρ h.nx (q1.h.nx + 1) := hN
   cases hvs with
   | cons h1 hr =>
     cases hr with
     | cons h2 hr =>
       cases hr
       cases h1 with
       | pt hi =>
         rename_i b
         cases h2 with
         | st hst =>
           obtain ⟨cs, p, v, O', hcs, hp, hp1, hv1, hH, hlt, hsat⟩ := hget ρ OB O H hi
           have hln : ln q1.cs = cs.length := by rw [ln_eq, hcs.length]
           have hlies' : liesAt Tryz.prog Tryz.prog.depth q1.t (cs.length / Tryz.prog.cellsOf q1.t) off 207 1 = true := by
            rw [← hln]; exact hlies
           have hoff : off + 1 < cs.length := (List.getElem?_eq_some_iff.1 hv1).1
           refine (bws_spec (POST := fun v2 R' O2 => v2 = .tuple #[.int .i64 (txt s).length, .nilIface] ∧ R' = R ∧ ∃ v', O2 = rowC b q1.t ((cs.set off (pself b off)).set (off + 1) v') :: accC 5 1 (SL.one vy) v' (txt q1.s ++ txt s) :: (O' ++ F)) hp hp1 hv1 hlies' (by simp [txt]; omega) (fun v' _ => ⟨rfl, rfl, v', rfl⟩) w (hsat R F w hs)).mono ?_
           rintro e w' ⟨v2, R', O2, rfl, ⟨rfl, rfl, v', rfl⟩, hs'⟩
           have hacc := hs'.see (List.mem_cons_of_mem _ List.mem_cons_self)
           have ets : txt q1.s ++ txt s = txt (app q1.s s) := by rw [app_eq, txt, txt, txt, List.map_append]
           rw [ets] at hacc hs'
           obtain ⟨og, cap, rfl⟩ := acc_slv hacc
           have htl : (txt (app q1.s s)).length = ln (app q1.s s) := by rw [ln_eq]; simp [txt]
           have hX := Ext.set (hN h.nx (Nat.le_refl _) Z.W) (.s og cap)
           have hset : (ρ.set h.nx (.s og cap)) h.nx = some (.s og cap) := Rho.set_self ..
           have hi2 := hX.1 _ _ hi
           have hlt2 : ∀ n ∈ app q1.s s, n < 256 := fun n hn => by
            rw [app_eq] at hn
            rcases List.mem_append.1 hn with h | h
            · exact hlt n h
            · exact hst n h
           have hac := acc_VR hset htl hacc
           have hrow : VRs (ρ.set h.nx (.s og cap)) (splA q1.cs off [.pt i off, .ac h.nx 0 (ln (app q1.s s))]) ((cs.set off (pself b off)).set (off + 1) (slv og (txt (app q1.s s)).length cap)) := by
            rw [← spl_two hoff]
            exact (hcs.mono hX.1).spl (.cons (.pt hi2) (.cons hac .nil)) _
           have hbyt : CR (ρ.set h.nx (.s og cap)) h.nx (.byt 5 (app q1.s s)) (accC 5 1 (SL.one vy) (slv og (txt (app q1.s s)).length cap) (txt (app q1.s s))) := by
            have := CR.byt (t := 5) hset hlt2
            rw [show (app q1.s s).length = (txt (app q1.s s)).length from by simp [txt]] at this
            exact this
           refine ⟨_, ρ.set h.nx (.s og cap), rowC b q1.t _ :: accC 5 1 (SL.one vy) _ _ :: O', rfl, ?_, ?_, ?_, hs'⟩
           · show Ext ρ _ h.nx (q1.h.nx + 1)
             rw [hnx]; exact hX
           · have : ((txt s).length : Int) = Int.ofNat (ln s) := by rw [ln_eq]; simp [txt]
             rw [this]
             exact .tu (.cons (.it _ _) (.cons .ni .nil))
           · rw [hnx]
             exact ((hH.mono hX.1).put hbyt).put (.row hi2 hrow)
 · cases hq
theorem kString_ok : KOne Tryz.prog R 110 (kString 5) := by
 intro args B h q hq
 unfold kString at hq
 split at hq
 · rename_i i off
   obtain ⟨q1, hq1, hq⟩ := bnd_some hq
   cases hq
   obtain ⟨hnx, _, hget⟩ := bGet_ok hq1 (fun _ => trivial)
   refine ⟨by show h.nx ≤ q1.h.nx; omega, fun ρ OB O F vs w hvs H hN hs => .inl ⟨by kernel_rfl, ?_⟩⟩
   cases hvs with
   | cons h1 hr =>
     cases hr
     cases h1 with
     | pt hi =>
       rename_i b
       obtain ⟨cs, p, v, O', hcs, hp, hp1, hv1, hH, hlt, hsat⟩ := hget ρ OB O H hi
       refine (bstr_spec (POST := fun v2 R' O2 => v2 = Go.SL.vs (txt q1.s) ∧ R' = R ∧ O2 = rowC b q1.t cs :: (O' ++ F)) hv1 ⟨rfl, rfl, rfl⟩ w (hsat R F w hs)).mono ?_
       rintro e w' ⟨v2, R', O2, rfl, ⟨rfl, rfl, rfl⟩, hs'⟩
       refine ⟨_, ρ, rowC b q1.t cs :: O', rfl, ?_, .st hlt, hH.put (.row hi hcs), hs'⟩
       exact Ext.refl ..
 · cases hq
end
end Go.Proofs.YtnjfgcpmcjmddaaGreatDoor
namespace Go.Proofs.YtnjfgcpmcjmddaaGreatDoor
open Go Go.SL
abbrev vw (n : Nat) : Value := .int .u32 (n : Int)
def rotr (x n : Nat) : Nat := (x * 2 ^ (32 - n) % 2 ^ 32) ||| (x / 2 ^ n)
def ad (a b : Nat) : Nat := (a + b) % 4294967296
theorem ad_lt (a b : Nat) : ad a b < 2 ^ 32 := Nat.mod_lt _ (by decide)
theorem rotr_lt {x : Nat} (h : x < 2 ^ 32) (n : Nat) : rotr x n < 2 ^ 32 := Nat.or_lt_two_pow (Nat.mod_lt _ (by decide)) (Nat.lt_of_le_of_lt (Nat.div_le_self _ _) h)
theorem wrap_ad (a b : Nat) : IntKind.u32.wrap ((a : Int) + b) = ((ad a b : Nat) : Int) := by
 rw [ad]; simp only [IntKind.wrap, IntKind.signed, IntKind.bits, Bool.false_and, Bool.false_eq_true, if_false]; omega
theorem _root_.Go.SL.Rd.add32 {P : Program} {o : Oper} {L : Env} {R : List RO} {O : List Own} {t t' : TypeId} {x y : Operand} {a b : Nat} (ho : o.op = .binOp .add t x y t') (hx : ev L x = some (vw a)) (hy : ev L y = some (vw b)) : Rd P o L R O (vw (ad a b)) :=
 Rd.addk ho hx hy (wrap_ad a b)
theorem and31 (n : Nat) (h : 0 < n ∧ n < 32) : (18446744073709551616 - n) &&& 31 = 32 - n := by
 rw [show (31 : Nat) = 2 ^ 5 - 1 from rfl, Nat.and_two_pow_sub_one_eq_mod]; omega
set_option maxRecDepth 20000 in
theorem rotl_spec {R : List RO} {O : List Own} {POST : Value → List RO → List Own → Prop} {x n : Nat} (hx : x < 2 ^ 32) (hn : 0 < n ∧ n < 32)
 (hk : POST (vw (rotr x n)) R O) : Fun Tryz.prog 334 #[vw x, .int .i64 (-(n : Int))] R O POST := by
 refine Fun.enter (l := [_, _]) Tryz.func334 rfl Tryz.ntmps334 rfl (L0 := [(0, _), (1, _)]) rfl ?_
 refine Z.s1 <| Z.a1 rfl <| Z.q1 <| Z.m1 rfl <| Z.r1 rfl (Rd.convw rfl rfl Tryz.underlying139 (hS := Tryz.underlying3)) ?_
 refine WL.say 7 (u := .int .u64 ((18446744073709551616 - n : Nat) : Int)) rfl (by congr 1; simp only [IntKind.wrap, IntKind.signed, IntKind.bits, Bool.false_and, Bool.false_eq_true, if_false]; omega) ?_
 refine Z.r1 rfl (Rd.andU (b := 31) rfl rfl rfl rfl rfl rfl (show _ < 18446744073709551616 by omega) (by decide)) ?_
 refine WL.say 8 (u := .int .u64 ((32 - n : Nat) : Int)) rfl (by rw [and31 n hn]) ?_
 refine Z.a1 rfl <| Z.q1 <| Z.m1 rfl <| Z.m1 rfl <| Z.r1 rfl (Rd.shl32 (a := x) (m := 32 - n) rfl rfl rfl rfl rfl Z.W) ?_
 refine Z.m1 rfl <| Z.m1 rfl <| Z.r1 rfl (Rd.subk (r := (n : Int)) rfl rfl rfl (by rw [wrap_u64 Z.W]; omega)) ?_
 refine Z.r1 rfl (Rd.shrN (a := x) (n := n) rfl rfl rfl rfl rfl (by show n ≤ 32; omega)) ?_
 refine Z.r1 rfl (Rd.orU rfl rfl rfl rfl rfl rfl (Nat.mod_lt _ (by decide)) (Nat.lt_of_le_of_lt (Nat.div_le_self _ _) hx)) ?_
 refine Z.a1 rfl <| Z.n1 ?_
 refine WC.ret (Ret.one Tryz.results334 rfl ?_)
 exact hk
set_option maxRecDepth 20000 in
theorem right_spec {R : List RO} {O : List Own} {POST : Value → List RO → List Own → Prop} {x n : Nat} (hx : x < 2 ^ 32) (hn : 0 < n ∧ n < 32)
 (hk : POST (vw (rotr x n)) R O) : Fun Tryz.prog 294 #[vw x, .int .i64 (n : Int)] R O POST := by
 refine Fun.enter (l := [_, _]) Tryz.func294 rfl Tryz.ntmps294 rfl (L0 := [(0, _), (1, _)]) rfl ?_
 refine Z.s1 <| Z.a1 rfl <| Z.q1 <| Z.m1 rfl <| Z.m1 rfl <| Z.r1 rfl (Rd.neg rfl rfl Z.W) ?_
 refine WL.op rfl ?_
 refine OpW.call rfl rfl Z.E Z.K rfl rfl rfl ?_
 refine rotl_spec hx hn ?_
 refine Z.a1 rfl <| Z.n1 ?_
 refine WC.ret (Ret.one Tryz.results294 rfl ?_)
 exact hk
def sg0 (x : Nat) : Nat := rotr x 7 ^^^ rotr x 18 ^^^ x / 2 ^ 3
def sg1 (x : Nat) : Nat := rotr x 17 ^^^ rotr x 19 ^^^ x / 2 ^ 10
theorem sh_lt {x : Nat} (h : x < 2 ^ 32) (n : Nat) : x / 2 ^ n < 2 ^ 32 := Nat.lt_of_le_of_lt (Nat.div_le_self _ _) h
def wordK (s : List UInt8) (p : Nat) : Nat → Nat
 | 0 => 0
 | k + 1 => wordK s p k * 256 + s[p + k]!.toNat
theorem wordK_lt (s : List UInt8) (p : Nat) : ∀ k, wordK s p k < 256 ^ k
 | 0 => by rw [wordK]; decide
 | k + 1 => by
   have h := wordK_lt s p k
   have hc := UInt8.toNat_lt s[p + k]!
   rw [wordK, Nat.pow_succ]; omega
def mixW (w : List Nat) (i : Nat) : Nat := ad (ad (ad w[i - 16]! w[i - 7]!) (sg0 w[i - 15]!)) (sg1 w[i - 2]!)
def sched (s : List UInt8) : Nat → List Nat
 | 0 => []
 | i + 1 => sched s i ++ [if i < 16 then wordK s (4 * i) 4 else mixW (sched s i) i]
theorem vw_one {l : List Nat} : ((l.map vw).all Value.oneCell') = true := by
 rw [List.all_eq_true]; intro x hx; obtain ⟨n, _, rfl⟩ := List.mem_map.1 hx; rfl
theorem sched_length (s : List UInt8) : ∀ i, (sched s i).length = i
 | 0 => rfl
 | i + 1 => by rw [sched, List.length_append, sched_length s i]; rfl
theorem sched_lt (s : List UInt8) : ∀ i, ∀ x ∈ sched s i, x < 2 ^ 32
 | 0, x, h => by cases h
 | i + 1, x, h => by
   rw [sched] at h
   rcases List.mem_append.1 h with h | h
   · exact sched_lt s i x h
   · simp only [List.mem_singleton] at h
     subst h
     split
     · exact Nat.lt_of_lt_of_le (wordK_lt s _ 4) (by decide)
     · exact ad_lt _ _
theorem sched_get_lt (s : List UInt8) {i j : Nat} (h : j < i) : (sched s i)[j]! < 2 ^ 32 := by
 rw [getElem!_pos _ _ (by rw [sched_length]; exact h)]; exact sched_lt s i _ (List.getElem_mem _)
def wrow (s : List UInt8) (i : Nat) : List Value := (sched s i).map vw ++ List.replicate (64 - i) (vw 0)
theorem wrow_set {s : List UInt8} {i n : Nat} (h : i < 64) : (wrow s i).set i (vw n) = (sched s i).map vw ++ vw n :: List.replicate (63 - i) (vw 0) := by
 rw [wrow, List.set_append_right _ _ (by rw [List.length_map, sched_length]; exact Nat.le_refl _), List.length_map, sched_length, Nat.sub_self, show 64 - i = (63 - i) + 1 from by omega, List.replicate_succ]; rfl
theorem wrow_done {s : List UInt8} {i n : Nat} (h : i < 64) (hn : n = if i < 16 then wordK s (4 * i) 4 else mixW (sched s i) i) : (sched s i).map vw ++ vw n :: List.replicate (63 - i) (vw 0) = wrow s (i + 1) := by
 rw [wrow, sched, List.map_append, ← hn, show 64 - (i + 1) = 63 - i from by omega, List.append_assoc]; rfl
theorem wrow_cons {s : List UInt8} {i : Nat} (h : i < 64) : wrow s i = (sched s i).map vw ++ vw (wordK s (4 * i) 0) :: List.replicate (63 - i) (vw 0) := by
 rw [wrow, show 64 - i = (63 - i) + 1 from by omega, List.replicate_succ]; rfl
theorem sched_cell (s : List UInt8) {i j : Nat} (h : j < i) : ((sched s i).map vw)[j]? = some (vw (sched s i)[j]!) := by
 rw [List.getElem?_map, get!_of_lt (by rw [sched_length]; exact h)]; rfl
theorem mid_get {α : Type} (x : List α) (y : α) (z : List α) {k : Nat} (h : x.length = k) : (x ++ y :: z)[k]? = some y := by subst h; rw [List.getElem?_append_right (Nat.le_refl _), Nat.sub_self]; rfl
theorem mid_set {α : Type} (x : List α) (y v : α) (z : List α) {k : Nat} (h : x.length = k) : (x ++ y :: z).set k v = x ++ v :: z := by subst h; rw [List.set_append_right _ _ (Nat.le_refl _), Nat.sub_self]; rfl
theorem or_byte {a : Nat} (ha : a < 256 ^ 3) (c : UInt8) : (a * 2 ^ 8 % 2 ^ 32) ||| c.toNat = a * 256 + c.toNat := by
 rw [Nat.mod_eq_of_lt Z.W, Nat.mul_comm a, ← Nat.two_pow_add_eq_or_of_lt (UInt8.toNat_lt c)]
set_option maxRecDepth 20000 in
set_option maxHeartbeats 4000000 in
theorem words_spec {R : List RO} {O : List Own} {POST : Value → List RO → List Own → Prop} {s : List UInt8} (hs : s.length = 64)
 (hk : POST (.agg ((sched s 64).map vw).toArray) R O) : Fun Tryz.prog 293 #[vs s] R O POST := by
 refine Fun.thin (post' := fun v R' O' => v = .agg ((sched s 64).map vw).toArray ∧ R' = R ∧ ∃ b, O' = rowC b 424 ((sched s 64).map vw) :: O) ?_ (by rintro v R' O' ⟨rfl, rfl, b, rfl⟩; exact ⟨_, O, hk, fun w h => h.drop⟩)
 refine Fun.enter (l := [_]) Tryz.func293 rfl Tryz.ntmps293 rfl (L0 := [(0, _)]) rfl ?_
 refine Z.s1 ?_
 refine WL.op rfl ?_
 refine OpW.alloc rfl I424 rfl Z.N rfl rfl ?_; intro b2
 refine Z.q1 ?_
 refine WL.op rfl ?_
 refine OpW.alloc rfl I424 rfl Z.N rfl rfl ?_; intro b3
 refine Z.n1 <| Z.s2 <| Z.m1 rfl <| Z.n1 ?_
 refine WC.block ?_
 refine WC.pick [9, 0, 2, 3] Z.P ?_
 refine WC.loop1 1 (fun (i : Nat) => [(9, .int .i64 (i : Int))]) (fun (i : Nat) => rowC b3 424 (wrow s i) :: rowC b2 424 (List.replicate 64 (vw 0)) :: O) (fun (i : Nat) => i ≤ 16) (fun (i : Nat) => 16 - i) (0) Z.L ?hinv1 (by repeat (first | exact Sub.nil | refine Sub.cons rfl (by rfl) ?_)) (fun _ h => h) ?_
 case hinv1 =>
  exact Nat.zero_le _
 intro i
 rintro i1
 refine Z.s1 <| Z.r1 rfl (Rd.lss rfl rfl rfl) <| Z.n1 ?_
 refine WC.seq ?_
 refine WC.ite rfl (fun hc1 => ?_) (fun hc1 => ?_)
 ·
  refine WC.heap (fun w h => by rw [wrow_cons Z.W] at h; exact h) ?_
  refine WC.skip ?_
  refine thenQ.normal ?_
  refine WC.seq ?_
  refine WC.block ?_
  refine Z.s1 <| Z.m1 rfl <| Z.a1 rfl <| Z.q1 <| Z.m1 rfl <| Z.n1 ?_
  refine WC.block ?_
  refine WC.pick [12, 0, 2, 3, 4, 9] Z.P ?_
  refine WC.loop1 1 (fun (k : Nat) => [(12, .int .i64 (k : Int))]) (fun (k : Nat) => rowC b3 424 ((sched s i).map vw ++ vw (wordK s (4 * i) k) :: List.replicate (63 - i) (vw 0)) :: rowC b2 424 (List.replicate 64 (vw 0)) :: O) (fun (k : Nat) => k ≤ 4) (fun (k : Nat) => 4 - k) (0) Z.L ?hinv2 (by repeat (first | exact Sub.nil | refine Sub.cons rfl (by rfl) ?_)) (fun _ h => h) ?_
  case hinv2 =>
   exact Nat.zero_le _
  intro k
  rintro k1
  refine Z.s1 <| Z.r1 rfl (Rd.lss rfl rfl rfl) <| Z.n1 ?_
  refine WC.seq ?_
  refine WC.ite rfl (fun hc2 => ?_) (fun hc2 => ?_)
  ·
   have hw := wordK_lt s (4 * i) k
   have hw3 : wordK s (4 * i) k < 256 ^ 3 := Nat.lt_of_lt_of_le hw (Nat.pow_le_pow_right (by decide) Z.W)
   have hml : ((sched s i).map vw).length = i := by rw [List.length_map, sched_length]
   have hcl : ((sched s i).map vw ++ vw (wordK s (4 * i) k) :: List.replicate (63 - i) (vw 0)).length = 64 := by rw [List.length_append, hml, List.length_cons, List.length_replicate]; omega
   have hc : s[4 * i + k]!.toNat < 2 ^ 32 := Nat.lt_trans (UInt8.toNat_lt _) (by decide)
   refine WC.skip ?_
   refine thenQ.normal ?_
   refine WC.seq ?_
   refine WC.block ?_
   refine Z.s1 <| Z.m1 rfl <| Z.a1 rfl <| Z.n1 ?_
   refine WC.tail 14 mixed Z.K ?_
   refine Z.d1 rfl (Rd.move rfl rfl) <| Z.d1 rfl (Rd.move rfl rfl) <| Z.d1 rfl (by exact Rd.idxArr1 (k := i) rfl A424 rfl rfl Z.W Z.W) ?_
   refine Z.d1 rfl (Rd.row1 rfl C272 rfl Z.M (mid_get _ _ _ hml)) ?_
   refine Z.d1 rfl (Rd.shl32 (a := wordK s (4 * i) k) (m := 8) rfl rfl rfl rfl rfl (by decide)) ?_
   refine Z.d1 rfl (Rd.move rfl rfl) <| Z.d1 rfl (Rd.move rfl rfl) <| Z.d1 rfl (Rd.mul rfl rfl rfl Z.W) ?_
   refine Z.d1 rfl (Rd.move rfl rfl) <| Z.d1 rfl (Rd.add rfl rfl rfl Z.W) ?_
   refine Z.d1 rfl (Rd.sidx (k := 4 * i + k) rfl Tryz.underlying9 rfl rfl Z.W (by exact get!_of_lt Z.W)) ?_
   refine Z.d1 rfl (Rd.conv rfl rfl Tryz.underlying272 (wrap_natU rfl hc) (hS := Tryz.underlying5)) ?_
   refine Z.d1 rfl (Rd.orU rfl rfl rfl rfl rfl rfl (Nat.mod_lt _ (by decide)) hc) ?_
   refine WS.say 27 (u := vw (wordK s (4 * i) (k + 1))) rfl (by rw [or_byte hw3]; rfl) ?_
   refine Z.d1 rfl (by exact Rd.idxArr1 (k := i) rfl A424 rfl rfl Z.W Z.W) ?_
   refine WS.switch ?_
   refine WL.op rfl ?_
   refine OpW.store1 rfl Z272 rfl rfl (by exact ⟨rfl, rfl⟩) Z.T Z.W rfl ?_
   refine WL.heap (fun w h => by rw [mid_set _ _ _ _ hml] at h; exact h) ?_
   refine WL.nil ?_
   refine blockQ.normal ?_
   refine thenQ.normal ?_
   refine WC.region ?_
   refine Z.r1 rfl (Rd.add rfl rfl rfl Z.W) ?_
   refine Z.m1 rfl ?_
   refine WL.nil ?_
   exact loopQ1.mk (k + 1) Z.W Z.W (by repeat (first | exact Sub.nil | refine Sub.cons rfl (by rfl) ?_)) Z.F
  ·
   refine WC.exit ?_
   refine thenQ.exit ?_
   refine loopQ1.exit ?_
   refine blockQ.exit ?_
   refine blockQ.normal ?_
   refine thenQ.normal ?_
   refine WC.region ?_
   refine Z.r1 rfl (Rd.add rfl rfl rfl Z.W) ?_
   refine Z.m1 rfl ?_
   refine WL.nil ?_
   obtain rfl : k = 4 := by omega
   exact loopQ1.mk (i + 1) Z.W Z.W (by repeat (first | exact Sub.nil | refine Sub.cons rfl (by rfl) ?_)) (fun w h => by rw [← wrow_done (n := wordK s (4 * i) 4) Z.W (by rw [if_pos Z.W])]; exact Z.Fw h)
 ·
  refine WC.exit ?_
  refine thenQ.exit ?_
  refine loopQ1.exit ?_
  refine blockQ.exit ?_
  refine thenQ.normal ?_
  refine Z.s2 <| Z.a1 rfl <| Z.n1 ?_
  refine WC.block ?_
  refine WC.pick [6, 2, 3] Z.P ?_
  refine WC.loop1 1 (fun (j : Nat) => [(6, .int .i64 (j : Int))]) (fun (j : Nat) => rowC b3 424 (wrow s j) :: rowC b2 424 (List.replicate 64 (vw 0)) :: O) (fun (j : Nat) => 16 ≤ j ∧ j ≤ 64) (fun (j : Nat) => 64 - j) (16) Z.L ?hinv3 (by repeat (first | exact Sub.nil | refine Sub.cons rfl (by rfl) ?_)) (fun w h => by
  obtain rfl : i = 16 := by omega
  exact Z.Fw h) ?_
  case hinv3 =>
   exact ⟨Nat.le_refl _, by omega⟩
  intro j
  rintro ⟨j1, j2⟩
  refine Z.s2 <| Z.m1 rfl <| Z.r1 rfl (Rd.lss rfl rfl rfl) <| Z.n1 ?_
  refine WC.ite rfl (fun hc3 => ?_) (fun hc3 => ?_)
  ·
   have g15 := sched_get_lt s (i := j) (j := j - 15) Z.W
   have g2 := sched_get_lt s (i := j) (j := j - 2) Z.W
   have hml : ((sched s j).map vw).length = j := by rw [List.length_map, sched_length]
   have hwl : (wrow s j).length = 64 := by rw [wrow, List.length_append, hml, List.length_replicate]; omega
   refine WC.skip ?_
   refine thenQ.normal ?_
   refine WC.seq ?_
   refine WC.block ?_
   refine WC.seq ?_
   refine WC.still mixed Z.K ?_
   refine Z.b1 rfl (Rd.move rfl rfl) <| Z.b1 rfl (Rd.sub rfl rfl rfl Z.W) ?_
   refine Z.b1 rfl (by exact Rd.idxArr1 (k := j - 15) rfl A424 rfl rfl Z.W Z.W) ?_
   refine Z.b1 rfl (Rd.row1 rfl C272 rfl Z.M (pref_app _ _ (sched_cell s Z.W))) ?_
   refine Z.b1 rfl (Rd.move rfl rfl) <| Z.b1 rfl (Rd.sub rfl rfl rfl Z.W) ?_
   refine Z.b1 rfl (by exact Rd.idxArr1 (k := j - 2) rfl A424 rfl rfl Z.W Z.W) ?_
   refine Z.b1 rfl (Rd.row1 rfl C272 rfl Z.M (pref_app _ _ (sched_cell s Z.W))) ?_
   refine Z.b1 rfl (Rd.assign rfl rfl) <| Z.b1 rfl (Rd.assign rfl rfl) ?_
   refine WA.nil ?_
   refine thenQ.normal ?_
   refine WC.drawn (prefC b3 ((sched s j).map vw) :: rowC b2 424 (List.replicate 64 (vw 0)) :: O) 30 rfl mixed ?_
   refine WD.take 0 rfl Z.K (by exact Held.see Z.S Z.T (row_pref pref_app) Z.O) rfl rfl rfl (Rd.move rfl rfl) ?_
   refine WD.take 1 rfl Z.K (by exact Held.see Z.S Z.T (row_pref pref_app) Z.O) rfl rfl rfl (Rd.move rfl rfl) ?_
   refine WD.take 2 rfl Z.K (by exact Held.see Z.S Z.T (row_pref pref_app) Z.O) rfl rfl rfl (Rd.sub rfl rfl rfl Z.W) ?_
   refine WD.take 3 rfl Z.K (by exact Held.see Z.S Z.T (row_pref pref_app) Z.O) rfl rfl rfl ((by exact Rd.idxArr1 (k := j - 16) rfl A424 rfl rfl Z.W Z.W)) ?_
   refine WD.take 4 rfl Z.K (by exact Held.see Z.S Z.T (row_pref pref_app) Z.O) rfl rfl rfl (Rd.pref rfl C272 rfl Z.M (sched_cell s Z.W)) ?_
   refine WD.take 5 rfl Z.K (by exact Held.see Z.S Z.T (row_pref pref_app) Z.O) rfl rfl rfl (Rd.move rfl rfl) ?_
   refine WD.take 6 rfl Z.K (by exact Held.see Z.S Z.T (row_pref pref_app) Z.O) rfl rfl rfl (Rd.sub rfl rfl rfl Z.W) ?_
   refine WD.take 7 rfl Z.K (by exact Held.see Z.S Z.T (row_pref pref_app) Z.O) rfl rfl rfl ((by exact Rd.idxArr1 (k := j - 7) rfl A424 rfl rfl Z.W Z.W)) ?_
   refine WD.take 8 rfl Z.K (by exact Held.see Z.S Z.T (row_pref pref_app) Z.O) rfl rfl rfl (Rd.pref rfl C272 rfl Z.M (sched_cell s Z.W)) ?_
   refine WD.take 9 rfl Z.K (by exact Held.see Z.S Z.T (row_pref pref_app) Z.O) rfl rfl rfl (Rd.add32 rfl rfl rfl) ?_
   refine WD.take 10 rfl Z.K (by exact Held.see Z.S Z.T (row_pref pref_app) Z.O) rfl rfl rfl (Rd.move rfl rfl) ?_
   refine WD.take 12 rfl Z.K (by exact Held.see Z.S Z.T (row_pref pref_app) Z.O) rfl rfl rfl (Rd.move rfl rfl) ?_
   refine WD.take 15 rfl Z.K (by exact Held.see Z.S Z.T (row_pref pref_app) Z.O) rfl rfl rfl (Rd.move rfl rfl) ?_
   refine WD.take 16 rfl Z.K (by exact Held.see Z.S Z.T (row_pref pref_app) Z.O) rfl rfl rfl (Rd.shrN (a := (sched s j)[j - 15]!) (n := 3) rfl rfl rfl rfl rfl (by decide)) ?_
   refine WD.take 19 rfl Z.K (by exact Held.see Z.S Z.T (row_pref pref_app) Z.O) rfl rfl rfl (Rd.move rfl rfl) ?_
   refine WD.take 21 rfl Z.K (by exact Held.see Z.S Z.T (row_pref pref_app) Z.O) rfl rfl rfl (Rd.move rfl rfl) ?_
   refine WD.take 24 rfl Z.K (by exact Held.see Z.S Z.T (row_pref pref_app) Z.O) rfl rfl rfl (Rd.move rfl rfl) ?_
   refine WD.take 25 rfl Z.K (by exact Held.see Z.S Z.T (row_pref pref_app) Z.O) rfl rfl rfl (Rd.shrN (a := (sched s j)[j - 2]!) (n := 10) rfl rfl rfl rfl rfl (by decide)) ?_
   refine WD.one 11 rfl Z.K rfl ?_
   refine OpW.call rfl rfl Z.E Z.K rfl rfl rfl ?_
   refine right_spec g15 (by decide) ?_
   refine ⟨(by exact Held.see Z.S Z.T (row_pref pref_app) Z.O), ?_⟩
   refine WD.one 13 rfl Z.K rfl ?_
   refine OpW.call rfl rfl Z.E Z.K rfl rfl rfl ?_
   refine right_spec g15 (by decide) ?_
   refine ⟨(by exact Held.see Z.S Z.T (row_pref pref_app) Z.O), ?_⟩
   refine WD.take 14 rfl Z.K (by exact Held.see Z.S Z.T (row_pref pref_app) Z.O) rfl rfl rfl (Rd.xorU rfl rfl rfl rfl rfl rfl (rotr_lt g15 _) (rotr_lt g15 _)) ?_
   refine WD.take 17 rfl Z.K (by exact Held.see Z.S Z.T (row_pref pref_app) Z.O) rfl rfl rfl (Rd.xorU rfl rfl rfl rfl rfl rfl (Nat.xor_lt_two_pow (rotr_lt g15 _) (rotr_lt g15 _)) (sh_lt g15 _)) ?_
   refine WD.take 18 rfl Z.K (by exact Held.see Z.S Z.T (row_pref pref_app) Z.O) rfl rfl rfl (Rd.add32 rfl rfl rfl) ?_
   refine WD.one 20 rfl Z.K rfl ?_
   refine OpW.call rfl rfl Z.E Z.K rfl rfl rfl ?_
   refine right_spec g2 (by decide) ?_
   refine ⟨(by exact Held.see Z.S Z.T (row_pref pref_app) Z.O), ?_⟩
   refine WD.one 22 rfl Z.K rfl ?_
   refine OpW.call rfl rfl Z.E Z.K rfl rfl rfl ?_
   refine right_spec g2 (by decide) ?_
   refine ⟨(by exact Held.see Z.S Z.T (row_pref pref_app) Z.O), ?_⟩
   refine WD.take 23 rfl Z.K (by exact Held.see Z.S Z.T (row_pref pref_app) Z.O) rfl rfl rfl (Rd.xorU rfl rfl rfl rfl rfl rfl (rotr_lt g2 _) (rotr_lt g2 _)) ?_
   refine WD.take 26 rfl Z.K (by exact Held.see Z.S Z.T (row_pref pref_app) Z.O) rfl rfl rfl (Rd.xorU rfl rfl rfl rfl rfl rfl (Nat.xor_lt_two_pow (rotr_lt g2 _) (rotr_lt g2 _)) (sh_lt g2 _)) ?_
   refine WD.take 27 rfl Z.K (by exact Held.see Z.S Z.T (row_pref pref_app) Z.O) rfl rfl rfl (Rd.add32 rfl rfl rfl) ?_
   refine WD.take 28 rfl Z.K (by exact Held.see Z.S Z.T (row_pref pref_app) Z.O) rfl rfl rfl ((by exact Rd.idxArr1 (k := j) rfl A424 rfl rfl Z.W Z.W)) ?_
   refine WD.one 29 rfl Z.K rfl ?_
   refine OpW.store1 rfl Z272 rfl rfl (by exact ⟨rfl, rfl⟩) Z.T Z.W rfl ?_
   refine ⟨(by exact Held.see Z.S Z.T (row_pref (pref_set Z.W)) Z.O), ?_⟩
   refine WD.done Z.K ?_
   refine blockQ.normal ?_
   refine thenQ.normal ?_
   refine WC.region ?_
   refine Z.m1 rfl <| Z.r1 rfl (Rd.add rfl rfl rfl Z.W) ?_
   refine Z.a1 rfl ?_
   refine WL.nil ?_
   exact loopQ1.mk (j + 1) ⟨by omega, by omega⟩ Z.W (by repeat (first | exact Sub.nil | refine Sub.cons rfl (by rfl) ?_)) (fun w h => by
   rw [wrow_set Z.W, wrow_done Z.W (by rw [if_neg Z.W]; rfl)] at h
   exact Z.Fw h)
  ·
   obtain rfl : j = 64 := by omega
   have hwz : wrow s 64 = (sched s 64).map vw := by rw [wrow, Nat.sub_self, List.replicate_zero, List.append_nil]
   have hwl : ((sched s 64).map vw).length = 64 := by rw [List.length_map, sched_length]
   refine WC.heap (fun w h => by rw [hwz] at h; exact h) ?_
   refine WC.exit ?_
   refine thenQ.exit ?_
   refine loopQ1.exit ?_
   refine blockQ.exit ?_
   refine thenQ.normal ?_
   refine Z.s1 <| Z.r1 rfl (Rd.rowW rfl G424 rfl Z.M hwl) ?_
   refine WL.op rfl ?_
   refine OpW.storeW rfl G424 rfl rfl Z.T hwl (by simp) vw_one rfl ?_
   refine Z.n1 ?_
   refine WC.heap (R' := R) (O' := rowC b2 424 ((sched s 64).map vw) :: O) Z.F ?_
   refine WC.ret (Ret.cellRow Tryz.results293 rfl Z.M G424 hwl ?_)
   exact ⟨rfl, rfl, _, rfl⟩
end Go.Proofs.YtnjfgcpmcjmddaaGreatDoor
namespace Go.Proofs.YtnjfgcpmcjmddaaGreatDoor
open Go Go.SL
structure St8 where
 a : Nat
 b : Nat
 c : Nat
 d : Nat
 e : Nat
 f : Nat
 g : Nat
 h : Nat
def St8.cs (v : St8) : List Value := [vw v.a, vw v.b, vw v.c, vw v.d, vw v.e, vw v.f, vw v.g, vw v.h]
structure St8.Ok (v : St8) : Prop where
 a : v.a < 2 ^ 32
 b : v.b < 2 ^ 32
 c : v.c < 2 ^ 32
 d : v.d < 2 ^ 32
 e : v.e < 2 ^ 32
 f : v.f < 2 ^ 32
 g : v.g < 2 ^ 32
 h : v.h < 2 ^ 32
def first8 : St8 := ⟨1779033703, 3144134277, 1013904242, 2773480762, 1359893119, 2600822924, 528734635, 1541459225⟩
theorem first8_ok : first8.Ok := ⟨by decide, by decide, by decide, by decide, by decide, by decide, by decide, by decide⟩
def bg1 (e : Nat) : Nat := rotr e 6 ^^^ rotr e 11 ^^^ rotr e 25
def bg0 (a : Nat) : Nat := rotr a 2 ^^^ rotr a 13 ^^^ rotr a 22
def chE (e f g : Nat) : Nat := (e &&& f) ^^^ ((4294967295 - e) &&& g)
def majE (a b c : Nat) : Nat := (a &&& b) ^^^ (a &&& c) ^^^ (b &&& c)
def tE (v : St8) (k w : Nat) : Nat := ad (ad (ad (ad v.h (bg1 v.e)) (chE v.e v.f v.g)) k) w
def uE (v : St8) : Nat := ad (bg0 v.a) (majE v.a v.b v.c)
def St8.round (v : St8) (k w : Nat) : St8 := ⟨ad (tE v k w) (uE v), v.a, v.b, v.c, ad v.d (tE v k w), v.e, v.f, v.g⟩
theorem St8.Ok.round {v : St8} (h : v.Ok) (k w : Nat) : (v.round k w).Ok := ⟨ad_lt _ _, h.a, h.b, h.c, ad_lt _ _, h.e, h.f, h.g⟩
def St8.add (v x : St8) : St8 := ⟨ad v.a x.a, ad v.b x.b, ad v.c x.c, ad v.d x.d, ad v.e x.e, ad v.f x.f, ad v.g x.g, ad v.h x.h⟩
theorem St8.add_ok (v x : St8) : (v.add x).Ok := ⟨ad_lt _ _, ad_lt _ _, ad_lt _ _, ad_lt _ _, ad_lt _ _, ad_lt _ _, ad_lt _ _, ad_lt _ _⟩
def rootsN : List Nat := [
 1116352408, 1899447441, 3049323471, 3921009573, 961987163, 1508970993, 2453635748, 2870763221,
 3624381080, 310598401, 607225278, 1426881987, 1925078388, 2162078206, 2614888103, 3248222580,
 3835390401, 4022224774, 264347078, 604807628, 770255983, 1249150122, 1555081692, 1996064986,
 2554220882, 2821834349, 2952996808, 3210313671, 3336571891, 3584528711, 113926993, 338241895,
 666307205, 773529912, 1294757372, 1396182291, 1695183700, 1986661051, 2177026350, 2456956037,
 2730485921, 2820302411, 3259730800, 3345764771, 3516065817, 3600352804, 4094571909, 275423344,
 430227734, 506948616, 659060556, 883997877, 958139571, 1322822218, 1537002063, 1747873779,
 1955562222, 2024104815, 2227730452, 2361852424, 2428436474, 2756734187, 3204031479, 3329325298]
def rootsZ : List Int := rootsN.map fun n : Nat => (n : Int)
def rootsV : List Value := rootsZ.map fun z => .int .u32 z
abbrev rootsR : RO := garr 2 rootsV
theorem roots_get {k : Nat} (h : k < 64) : rootsV[k]? = some (vw rootsN[k]!) := by
 have hl : rootsN.length = 64 := by decide
 rw [rootsV, rootsZ, List.map_map, List.getElem?_map, get!_of_lt (by rw [hl]; exact h)]; rfl
def rounds (ws : List Nat) (v : St8) : Nat → St8
 | 0 => v
 | i + 1 => (rounds ws v i).round rootsN[i]! ws[i]!
theorem rounds_ok {ws : List Nat} {v : St8} (h : v.Ok) : ∀ i, (rounds ws v i).Ok
 | 0 => h
 | i + 1 => (rounds_ok h i).round _ _
def nextS (v : St8) (s : List UInt8) : St8 := v.add (rounds (sched s 64) v 64)
theorem nextS_ok (v : St8) (s : List UInt8) : (nextS v s).Ok := St8.add_ok _ _
theorem not_lt (e : Nat) : 4294967295 - e < 2 ^ 32 := Nat.lt_of_le_of_lt (Nat.sub_le _ _) (by decide)
theorem and_lt {a : Nat} (h : a < 2 ^ 32) (b : Nat) : a &&& b < 2 ^ 32 := Nat.lt_of_le_of_lt Nat.and_le_left h
theorem _root_.Go.SL.Rd.not32 {P : Program} {o : Oper} {L : Env} {R : List RO} {O : List Own} {t : TypeId} {x : Operand} {a : Nat} (ho : o.op = .unOp .xor t x) (hx : ev L x = some (vw a)) (ha : a < 2 ^ 32) : Rd P o L R O (vw (4294967295 - a)) :=
 Rd.bnotU (k := .u32) ho hx rfl rfl ha rfl
def mixC (v x : St8) (i : Nat) : List Value := (v.add x).cs.take i ++ v.cs.drop i
theorem cs_length (v : St8) : v.cs.length = 8 := rfl
theorem mixC_step (v x : St8) : ∀ i, i < 8 → ∃ p q, v.cs[i]? = some (vw p) ∧ x.cs[i]? = some (vw q) ∧ (mixC v x i)[i]? = some (vw p) ∧ (mixC v x i).set i (vw (ad p q)) = mixC v x (i + 1)
 | 0, _ => ⟨_, _, rfl, rfl, rfl, rfl⟩
 | 1, _ => ⟨_, _, rfl, rfl, rfl, rfl⟩
 | 2, _ => ⟨_, _, rfl, rfl, rfl, rfl⟩
 | 3, _ => ⟨_, _, rfl, rfl, rfl, rfl⟩
 | 4, _ => ⟨_, _, rfl, rfl, rfl, rfl⟩
 | 5, _ => ⟨_, _, rfl, rfl, rfl, rfl⟩
 | 6, _ => ⟨_, _, rfl, rfl, rfl, rfl⟩
 | 7, _ => ⟨_, _, rfl, rfl, rfl, rfl⟩
 | i + 8, h => by omega
set_option maxRecDepth 20000 in
set_option maxHeartbeats 4000000 in
theorem stateNext_spec {R : List RO} {O : List Own} {POST : Value → List RO → List Own → Prop} {v : St8} {s : List UInt8} (hr : rootsR ∈ R) (hv : v.Ok) (hs : s.length = 64)
 (hk : POST (.agg (nextS v s).cs.toArray) R O) : Fun Tryz.prog 252 #[.agg v.cs.toArray, vs s] R O POST := by
 refine Fun.thin (post' := fun r R' O' => r = .agg (nextS v s).cs.toArray ∧ R' = R ∧ ∃ b, O' = rowC b 314 (nextS v s).cs :: O) ?_ (by rintro r R' O' ⟨rfl, rfl, b, rfl⟩; exact ⟨_, O, hk, fun w h => h.drop⟩)
 refine Fun.enter (l := [_, _]) Tryz.func252 rfl Tryz.ntmps252 rfl (L0 := [(0, _), (1, _)]) rfl ?_
 refine Z.s1 ?_
 refine WL.op rfl ?_
 refine OpW.box rfl rfl Z.N rfl rfl ?_; intro b2
 refine WL.op rfl ?_
 refine OpW.alloc rfl I314 rfl Z.N rfl rfl ?_; intro b4
 refine Z.q1 <| Z.r1 rfl (by exact Rd.rowS rfl G314 rfl Z.M Z.N rfl) ?_
 refine WL.op rfl ?_
 refine OpW.alloc rfl I314 rfl Z.N rfl rfl ?_; intro b5
 refine WL.op rfl ?_
 refine OpW.storeS rfl G314 rfl rfl Z.N Z.T rfl rfl Z.N rfl ?_
 refine Z.n1 <| Z.s2 <| Z.m1 rfl ?_
 refine WL.op rfl ?_
 refine OpW.call rfl rfl Z.E Z.K rfl rfl rfl ?_
 refine words_spec hs ?_
 refine Z.m1 rfl <| Z.n1 ?_
 refine WC.block ?_
 refine WC.pick [14, 2, 4, 5, 13] Z.P ?_
 refine WC.loop1 1 (fun (i : Nat) => [(14, .int .i64 (i : Int))]) (fun (i : Nat) => rowC b5 314 (rounds (sched s 64) v i).cs :: rowC b4 314 (List.replicate 8 (vw 0)) :: rowC b2 314 v.cs :: O) (fun (i : Nat) => i ≤ 64) (fun (i : Nat) => 64 - i) (0) Z.L ?hinv1 (by repeat (first | exact Sub.nil | refine Sub.cons rfl (by rfl) ?_)) (fun _ h => h) ?_
 case hinv1 =>
  exact Nat.zero_le _
 intro i
 rintro i1
 obtain ⟨x, hx⟩ : ∃ x, x = rounds (sched s 64) v i := ⟨_, rfl⟩
 have hxo := rounds_ok (ws := sched s 64) hv i
 rw [← hx] at hxo ⊢
 refine Z.s1 <| Z.r1 rfl (Rd.lss rfl rfl rfl) <| Z.n1 ?_
 refine WC.seq ?_
 refine WC.ite rfl (fun hc1 => ?_) (fun hc1 => ?_)
 ·
  have hwl := sched_get_lt s (i := 64) (j := i) Z.W
  have hst : rounds (sched s 64) v (i + 1) = x.round rootsN[i]! (sched s 64)[i]! := by rw [rounds, ← hx]
  refine WC.skip ?_
  refine thenQ.normal ?_
  refine WC.seq ?_
  refine WC.block ?_
  refine Z.s1 <| Z.m1 rfl <| Z.r1 rfl (Rd.idxAgg (k := i) rfl A424 C272 rfl rfl Z.W Z.W (sched_cell s Z.W)) ?_
  refine Z.a1 rfl <| Z.a1 rfl <| Z.n1 ?_
  refine WC.pick [2, 4, 5, 6, 7, 13, 14] Z.P ?_
  refine WC.val 8 (vw (tE x rootsN[i]! (sched s 64)[i]!)) ?_ ?_
  ·
   refine WC.drawnA 34 rfl mixed ?_
   refine WD.take 0 rfl Z.K Held.all rfl rfl rfl ((by exact Rd.idxArr1 (k := 7) rfl A314 rfl rfl rfl Z.W)) ?_
   refine WD.take 1 rfl Z.K Held.all rfl rfl rfl ((by exact Rd.row1 rfl C272 rfl Z.M (by rfl))) ?_
   refine WD.take 2 rfl Z.K Held.all rfl rfl rfl ((by exact Rd.idxArr1 (k := 4) rfl A314 rfl rfl rfl Z.W)) ?_
   refine WD.take 3 rfl Z.K Held.all rfl rfl rfl ((by exact Rd.row1 rfl C272 rfl Z.M (by rfl))) ?_
   refine WD.take 5 rfl Z.K Held.all rfl rfl rfl ((by exact Rd.idxArr1 (k := 4) rfl A314 rfl rfl rfl Z.W)) ?_
   refine WD.take 6 rfl Z.K Held.all rfl rfl rfl ((by exact Rd.row1 rfl C272 rfl Z.M (by rfl))) ?_
   refine WD.take 9 rfl Z.K Held.all rfl rfl rfl ((by exact Rd.idxArr1 (k := 4) rfl A314 rfl rfl rfl Z.W)) ?_
   refine WD.take 10 rfl Z.K Held.all rfl rfl rfl ((by exact Rd.row1 rfl C272 rfl Z.M (by rfl))) ?_
   refine WD.take 14 rfl Z.K Held.all rfl rfl rfl ((by exact Rd.idxArr1 (k := 4) rfl A314 rfl rfl rfl Z.W)) ?_
   refine WD.take 15 rfl Z.K Held.all rfl rfl rfl ((by exact Rd.row1 rfl C272 rfl Z.M (by rfl))) ?_
   refine WD.take 16 rfl Z.K Held.all rfl rfl rfl ((by exact Rd.idxArr1 (k := 5) rfl A314 rfl rfl rfl Z.W)) ?_
   refine WD.take 17 rfl Z.K Held.all rfl rfl rfl ((by exact Rd.row1 rfl C272 rfl Z.M (by rfl))) ?_
   refine WD.take 18 rfl Z.K Held.all rfl rfl rfl (Rd.andU rfl rfl rfl rfl rfl rfl hxo.e hxo.f) ?_
   refine WD.take 19 rfl Z.K Held.all rfl rfl rfl ((by exact Rd.idxArr1 (k := 4) rfl A314 rfl rfl rfl Z.W)) ?_
   refine WD.take 20 rfl Z.K Held.all rfl rfl rfl ((by exact Rd.row1 rfl C272 rfl Z.M (by rfl))) ?_
   refine WD.take 21 rfl Z.K Held.all rfl rfl rfl (Rd.not32 rfl rfl hxo.e) ?_
   refine WD.take 22 rfl Z.K Held.all rfl rfl rfl ((by exact Rd.idxArr1 (k := 6) rfl A314 rfl rfl rfl Z.W)) ?_
   refine WD.take 23 rfl Z.K Held.all rfl rfl rfl ((by exact Rd.row1 rfl C272 rfl Z.M (by rfl))) ?_
   refine WD.take 24 rfl Z.K Held.all rfl rfl rfl (Rd.andU rfl rfl rfl rfl rfl rfl (not_lt _) hxo.g) ?_
   refine WD.take 25 rfl Z.K Held.all rfl rfl rfl (Rd.xorU rfl rfl rfl rfl rfl rfl (and_lt hxo.e _) (and_lt (not_lt _) _)) ?_
   refine WD.take 27 rfl Z.K Held.all rfl rfl rfl (Rd.move rfl rfl) ?_
   refine WD.take 28 rfl Z.K Held.all rfl rfl rfl ((by exact Rd.idxArr1 (k := i) rfl A424 rfl rfl Z.W Z.W)) ?_
   refine WD.take 29 rfl Z.K Held.all rfl rfl rfl (Rd.getGl rfl C272 rfl hr (roots_get Z.W)) ?_
   refine WD.take 31 rfl Z.K Held.all rfl rfl rfl (Rd.move rfl rfl) ?_
   refine WD.one 4 rfl Z.K rfl ?_
   refine OpW.call rfl rfl Z.E Z.K rfl rfl rfl ?_
   refine right_spec hxo.e (by decide) ?_
   refine ⟨Z.H, ?_⟩
   refine WD.one 7 rfl Z.K rfl ?_
   refine OpW.call rfl rfl Z.E Z.K rfl rfl rfl ?_
   refine right_spec hxo.e (by decide) ?_
   refine ⟨Z.H, ?_⟩
   refine WD.take 8 rfl Z.K Z.H rfl rfl rfl (Rd.xorU rfl rfl rfl rfl rfl rfl (rotr_lt hxo.e _) (rotr_lt hxo.e _)) ?_
   refine WD.one 11 rfl Z.K rfl ?_
   refine OpW.call rfl rfl Z.E Z.K rfl rfl rfl ?_
   refine right_spec hxo.e (by decide) ?_
   refine ⟨Z.H, ?_⟩
   refine WD.take 12 rfl Z.K Z.H rfl rfl rfl (Rd.xorU rfl rfl rfl rfl rfl rfl (Nat.xor_lt_two_pow (rotr_lt hxo.e _) (rotr_lt hxo.e _)) (rotr_lt hxo.e _)) ?_
   refine WD.take 13 rfl Z.K Z.H rfl rfl rfl (Rd.add32 rfl rfl rfl) ?_
   refine WD.take 26 rfl Z.K Z.H rfl rfl rfl (Rd.add32 rfl rfl rfl) ?_
   refine WD.take 30 rfl Z.K Z.H rfl rfl rfl (Rd.add32 rfl rfl rfl) ?_
   refine WD.take 32 rfl Z.K Z.H rfl rfl rfl (Rd.add32 rfl rfl rfl) ?_
   refine WD.take 33 rfl Z.K Z.H rfl rfl rfl (Rd.assign rfl rfl) ?_
   refine WD.done Z.K ?_
   exact ⟨by repeat (first | exact Sub.nil | refine Sub.cons rfl (by rfl) ?_), by exact (fun _ h => h.thin (SubL.mem Z.S))⟩
  ·
   refine WC.pick [2, 4, 5, 8, 13, 14] Z.P ?_
   refine WC.val 9 (vw (uE x)) ?_ ?_
   ·
    refine WC.drawnA 30 rfl mixed ?_
    refine WD.take 0 rfl Z.K Held.all rfl rfl rfl ((by exact Rd.idxArr1 (k := 0) rfl A314 rfl rfl rfl Z.W)) ?_
    refine WD.take 1 rfl Z.K Held.all rfl rfl rfl ((by exact Rd.row1 rfl C272 rfl Z.M (by rfl))) ?_
    refine WD.take 3 rfl Z.K Held.all rfl rfl rfl ((by exact Rd.idxArr1 (k := 0) rfl A314 rfl rfl rfl Z.W)) ?_
    refine WD.take 4 rfl Z.K Held.all rfl rfl rfl ((by exact Rd.row1 rfl C272 rfl Z.M (by rfl))) ?_
    refine WD.take 7 rfl Z.K Held.all rfl rfl rfl ((by exact Rd.idxArr1 (k := 0) rfl A314 rfl rfl rfl Z.W)) ?_
    refine WD.take 8 rfl Z.K Held.all rfl rfl rfl ((by exact Rd.row1 rfl C272 rfl Z.M (by rfl))) ?_
    refine WD.take 11 rfl Z.K Held.all rfl rfl rfl ((by exact Rd.idxArr1 (k := 0) rfl A314 rfl rfl rfl Z.W)) ?_
    refine WD.take 12 rfl Z.K Held.all rfl rfl rfl ((by exact Rd.row1 rfl C272 rfl Z.M (by rfl))) ?_
    refine WD.take 13 rfl Z.K Held.all rfl rfl rfl ((by exact Rd.idxArr1 (k := 1) rfl A314 rfl rfl rfl Z.W)) ?_
    refine WD.take 14 rfl Z.K Held.all rfl rfl rfl ((by exact Rd.row1 rfl C272 rfl Z.M (by rfl))) ?_
    refine WD.take 15 rfl Z.K Held.all rfl rfl rfl (Rd.andU rfl rfl rfl rfl rfl rfl hxo.a hxo.b) ?_
    refine WD.take 16 rfl Z.K Held.all rfl rfl rfl ((by exact Rd.idxArr1 (k := 0) rfl A314 rfl rfl rfl Z.W)) ?_
    refine WD.take 17 rfl Z.K Held.all rfl rfl rfl ((by exact Rd.row1 rfl C272 rfl Z.M (by rfl))) ?_
    refine WD.take 18 rfl Z.K Held.all rfl rfl rfl ((by exact Rd.idxArr1 (k := 2) rfl A314 rfl rfl rfl Z.W)) ?_
    refine WD.take 19 rfl Z.K Held.all rfl rfl rfl ((by exact Rd.row1 rfl C272 rfl Z.M (by rfl))) ?_
    refine WD.take 20 rfl Z.K Held.all rfl rfl rfl (Rd.andU rfl rfl rfl rfl rfl rfl hxo.a hxo.c) ?_
    refine WD.take 21 rfl Z.K Held.all rfl rfl rfl (Rd.xorU rfl rfl rfl rfl rfl rfl (and_lt hxo.a _) (and_lt hxo.a _)) ?_
    refine WD.take 22 rfl Z.K Held.all rfl rfl rfl ((by exact Rd.idxArr1 (k := 1) rfl A314 rfl rfl rfl Z.W)) ?_
    refine WD.take 23 rfl Z.K Held.all rfl rfl rfl ((by exact Rd.row1 rfl C272 rfl Z.M (by rfl))) ?_
    refine WD.take 24 rfl Z.K Held.all rfl rfl rfl ((by exact Rd.idxArr1 (k := 2) rfl A314 rfl rfl rfl Z.W)) ?_
    refine WD.take 25 rfl Z.K Held.all rfl rfl rfl ((by exact Rd.row1 rfl C272 rfl Z.M (by rfl))) ?_
    refine WD.take 26 rfl Z.K Held.all rfl rfl rfl (Rd.andU rfl rfl rfl rfl rfl rfl hxo.b hxo.c) ?_
    refine WD.take 27 rfl Z.K Held.all rfl rfl rfl (Rd.xorU rfl rfl rfl rfl rfl rfl (Nat.xor_lt_two_pow (and_lt hxo.a _) (and_lt hxo.a _)) (and_lt hxo.b _)) ?_
    refine WD.one 2 rfl Z.K rfl ?_
    refine OpW.call rfl rfl Z.E Z.K rfl rfl rfl ?_
    refine right_spec hxo.a (by decide) ?_
    refine ⟨Z.H, ?_⟩
    refine WD.one 5 rfl Z.K rfl ?_
    refine OpW.call rfl rfl Z.E Z.K rfl rfl rfl ?_
    refine right_spec hxo.a (by decide) ?_
    refine ⟨Z.H, ?_⟩
    refine WD.take 6 rfl Z.K Z.H rfl rfl rfl (Rd.xorU rfl rfl rfl rfl rfl rfl (rotr_lt hxo.a _) (rotr_lt hxo.a _)) ?_
    refine WD.one 9 rfl Z.K rfl ?_
    refine OpW.call rfl rfl Z.E Z.K rfl rfl rfl ?_
    refine right_spec hxo.a (by decide) ?_
    refine ⟨Z.H, ?_⟩
    refine WD.take 10 rfl Z.K Z.H rfl rfl rfl (Rd.xorU rfl rfl rfl rfl rfl rfl (Nat.xor_lt_two_pow (rotr_lt hxo.a _) (rotr_lt hxo.a _)) (rotr_lt hxo.a _)) ?_
    refine WD.take 28 rfl Z.K Z.H rfl rfl rfl (Rd.add32 rfl rfl rfl) ?_
    refine WD.take 29 rfl Z.K Z.H rfl rfl rfl (Rd.assign rfl rfl) ?_
    refine WD.done Z.K ?_
    exact ⟨by repeat (first | exact Sub.nil | refine Sub.cons rfl (by rfl) ?_), by exact (fun _ h => h.thin (SubL.mem Z.S))⟩
   ·
    refine WC.region ?_
    refine Z.m1 rfl <| Z.m1 rfl <| Z.r1 rfl (Rd.add32 rfl rfl rfl) <| Z.r1 rfl (by exact Rd.idxArr1 (k := 0) rfl A314 rfl rfl rfl Z.W) ?_
    refine Z.r1 rfl (by exact Rd.row1 rfl C272 rfl Z.M (by rfl)) ?_
    refine Z.r1 rfl (by exact Rd.idxArr1 (k := 1) rfl A314 rfl rfl rfl Z.W) ?_
    refine Z.r1 rfl (by exact Rd.row1 rfl C272 rfl Z.M (by rfl)) ?_
    refine Z.r1 rfl (by exact Rd.idxArr1 (k := 2) rfl A314 rfl rfl rfl Z.W) ?_
    refine Z.r1 rfl (by exact Rd.row1 rfl C272 rfl Z.M (by rfl)) ?_
    refine Z.r1 rfl (by exact Rd.idxArr1 (k := 3) rfl A314 rfl rfl rfl Z.W) ?_
    refine Z.r1 rfl (by exact Rd.row1 rfl C272 rfl Z.M (by rfl)) ?_
    refine Z.m1 rfl <| Z.r1 rfl (Rd.add32 rfl rfl rfl) <| Z.r1 rfl (by exact Rd.idxArr1 (k := 4) rfl A314 rfl rfl rfl Z.W) ?_
    refine Z.r1 rfl (by exact Rd.row1 rfl C272 rfl Z.M (by rfl)) ?_
    refine Z.r1 rfl (by exact Rd.idxArr1 (k := 5) rfl A314 rfl rfl rfl Z.W) ?_
    refine Z.r1 rfl (by exact Rd.row1 rfl C272 rfl Z.M (by rfl)) ?_
    refine Z.r1 rfl (by exact Rd.idxArr1 (k := 6) rfl A314 rfl rfl rfl Z.W) ?_
    refine Z.r1 rfl (by exact Rd.row1 rfl C272 rfl Z.M (by rfl)) ?_
    refine Z.r1 rfl (Rd.buildA (ps := [(0, _), (1, _), (2, _), (3, _), (4, _), (5, _), (6, _), (7, _)]) rfl A314 I314 rfl Z.K Z.E rfl Z.C Z.K rfl) ?_
    refine WL.op rfl ?_
    refine OpW.storeW (ds := (x.round rootsN[i]! (sched s 64)[i]!).cs) rfl G314 rfl rfl Z.T rfl rfl rfl rfl ?_
    refine WL.nil ?_
    refine blockQ.normal ?_
    refine thenQ.normal ?_
    refine WC.region ?_
    refine Z.r1 rfl (Rd.add rfl rfl rfl Z.W) ?_
    refine Z.m1 rfl ?_
    refine WL.nil ?_
    exact loopQ1.mk (i + 1) Z.W Z.W (by repeat (first | exact Sub.nil | refine Sub.cons rfl (by rfl) ?_)) (fun w h => by rw [hst]; exact Z.Fw h)
 ·
  refine WC.exit ?_
  refine thenQ.exit ?_
  refine loopQ1.exit ?_
  refine blockQ.exit ?_
  refine thenQ.normal ?_
  refine Z.s2 <| Z.m1 rfl <| Z.n1 ?_
  refine WC.block ?_
  refine WC.pick [101, 2, 4, 5] Z.P ?_
  refine WC.loop1 1 (fun (j : Nat) => [(101, .int .i64 (j : Int))]) (fun (j : Nat) => rowC b5 314 x.cs :: rowC b4 314 (List.replicate 8 (vw 0)) :: rowC b2 314 (mixC v x j) :: O) (fun (j : Nat) => j ≤ 8) (fun (j : Nat) => 8 - j) (0) Z.L ?hinv2 (by repeat (first | exact Sub.nil | refine Sub.cons rfl (by rfl) ?_)) (fun _ h => h) ?_
  case hinv2 =>
   exact Nat.zero_le _
  intro j
  rintro j1
  refine Z.s1 <| Z.r1 rfl (Rd.lss rfl rfl rfl) <| Z.n1 ?_
  refine WC.seq ?_
  refine WC.ite rfl (fun hc2 => ?_) (fun hc2 => ?_)
  ·
   obtain ⟨p, q, m1, m2, m3, m4⟩ := mixC_step v x j Z.W
   have m5 : (mixC v x j).length = 8 := by rw [mixC, List.length_append, List.length_take, List.length_drop, cs_length, cs_length]; omega
   refine WC.skip ?_
   refine thenQ.normal ?_
   refine WC.seq ?_
   refine WC.block ?_
   refine Z.s1 <| Z.m1 rfl <| Z.a1 rfl <| Z.n1 ?_
   refine WC.tail 8 mixed Z.K ?_
   refine Z.d1 rfl (Rd.move rfl rfl) <| Z.d1 rfl (by exact Rd.idxArr1 (k := j) rfl A314 rfl rfl Z.W Z.W) ?_
   refine Z.d1 rfl (Rd.row1 rfl C272 rfl Z.M m3) ?_
   refine Z.d1 rfl (Rd.move rfl rfl) <| Z.d1 rfl (by exact Rd.idxArr1 (k := j) rfl A314 rfl rfl Z.W Z.W) ?_
   refine Z.d1 rfl (Rd.row1 rfl C272 rfl Z.M m2) ?_
   refine Z.d1 rfl (Rd.add32 rfl rfl rfl) <| Z.d1 rfl (by exact Rd.idxArr1 (k := j) rfl A314 rfl rfl Z.W Z.W) ?_
   refine WS.switch ?_
   refine WL.op rfl ?_
   refine OpW.store1 rfl Z272 rfl rfl (by exact ⟨rfl, rfl⟩) Z.T Z.W rfl ?_
   refine WL.heap (fun w h => by rw [m4] at h; exact h) ?_
   refine WL.nil ?_
   refine blockQ.normal ?_
   refine thenQ.normal ?_
   refine WC.region ?_
   refine Z.r1 rfl (Rd.add rfl rfl rfl Z.W) ?_
   refine Z.m1 rfl ?_
   refine WL.nil ?_
   exact loopQ1.mk (j + 1) Z.W Z.W (by repeat (first | exact Sub.nil | refine Sub.cons rfl (by rfl) ?_)) Z.F
  ·
   obtain rfl : j = 8 := by omega
   obtain rfl : i = 64 := by omega
   have hfin : mixC v x 8 = (nextS v s).cs := by rw [hx]; rfl
   refine WC.heap (fun w h => by rw [hfin] at h; exact h) ?_
   refine WC.exit ?_
   refine thenQ.exit ?_
   refine loopQ1.exit ?_
   refine blockQ.exit ?_
   refine thenQ.normal ?_
   refine Z.s1 <| Z.r1 rfl (Rd.rowW rfl G314 rfl Z.M rfl) ?_
   refine WL.op rfl ?_
   refine OpW.storeW rfl G314 rfl rfl Z.T rfl rfl rfl rfl ?_
   refine Z.n1 ?_
   refine WC.heap (R' := R) (O' := rowC b4 314 (nextS v s).cs :: O) Z.F ?_
   refine WC.ret (Ret.cellRow Tryz.results252 rfl Z.M G314 rfl ?_)
   exact ⟨rfl, rfl, _, rfl⟩
set_option maxRecDepth 20000 in
theorem first_spec {R : List RO} {O : List Own} {POST : Value → List RO → List Own → Prop} (hk : POST (.agg first8.cs.toArray) R O) : Fun Tryz.prog 251 #[] R O POST := by
 refine Fun.thin (post' := fun r R' O' => r = .agg first8.cs.toArray ∧ R' = R ∧ ∃ b, O' = rowC b 314 first8.cs :: O) ?_ (by rintro r R' O' ⟨rfl, rfl, b, rfl⟩; exact ⟨_, O, hk, fun w h => h.drop⟩)
 refine Fun.enter (l := []) Tryz.func251 rfl Tryz.ntmps251 rfl (L0 := []) rfl ?_
 refine Z.s1 ?_
 refine WL.op rfl ?_
 refine OpW.alloc rfl I314 rfl Z.N rfl rfl ?_; intro b0
 refine Z.q1 <| Z.r1 rfl (Rd.buildA (ps := [(0, _), (1, _), (2, _), (3, _), (4, _), (5, _), (6, _), (7, _)]) rfl A314 I314 rfl Z.K Z.E rfl Z.C Z.K rfl) ?_
 refine WL.op rfl ?_
 refine OpW.storeW (ds := first8.cs) rfl G314 rfl rfl Z.T rfl rfl rfl rfl ?_
 refine Z.n1 ?_
 refine WC.ret (Ret.cellRow Tryz.results251 rfl Z.M G314 rfl ?_)
 exact ⟨rfl, rfl, _, rfl⟩
end Go.Proofs.YtnjfgcpmcjmddaaGreatDoor
namespace Go.Proofs.YtnjfgcpmcjmddaaGreatDoor
open Go Go.SL
def blocks (v : St8) (r : List UInt8) : St8 × List UInt8 :=
 if r.length < 64 then (v, r) else blocks (nextS v (r.take 64)) (r.drop 64)
termination_by r.length
decreasing_by rw [List.length_drop]; omega
theorem blocks_lt {v : St8} {r : List UInt8} (h : r.length < 64) : blocks v r = (v, r) := by rw [blocks, if_pos h]
theorem blocks_ge {v : St8} {r : List UInt8} (h : ¬ r.length < 64) : blocks v r = blocks (nextS v (r.take 64)) (r.drop 64) := by rw [blocks, if_neg h]
theorem blocks_ok (v : St8) (r : List UInt8) (h : v.Ok) : (blocks v r).1.Ok := by
 by_cases h1 : r.length < 64
 · rw [blocks_lt h1]; exact h
 · rw [blocks_ge h1]; exact blocks_ok _ _ (nextS_ok _ _)
termination_by r.length
decreasing_by rw [List.length_drop]; omega
theorem blocks_rest (v : St8) (r : List UInt8) : (blocks v r).2.length < 64 ∧ (blocks v r).2.length % 64 = r.length % 64 := by
 by_cases h1 : r.length < 64
 · rw [blocks_lt h1]; exact ⟨h1, rfl⟩
 · rw [blocks_ge h1]
   have h := blocks_rest (nextS v (r.take 64)) (r.drop 64)
   rw [List.length_drop] at h
   exact ⟨h.1, by omega⟩
termination_by r.length
decreasing_by rw [List.length_drop]; omega
theorem blocks_append (v : St8) (r s : List UInt8) : blocks (blocks v r).1 ((blocks v r).2 ++ s) = blocks v (r ++ s) := by
 by_cases h1 : r.length < 64
 · rw [blocks_lt h1]
 · rw [blocks_ge h1, blocks_append (nextS v (r.take 64)) (r.drop 64) s]
   have h2 : ¬ (r ++ s).length < 64 := by rw [List.length_append]; omega
   rw [blocks_ge h2, List.take_append_of_le_length Z.W, List.drop_append_of_le_length Z.W]
termination_by r.length
decreasing_by rw [List.length_drop]; omega
def hcell (v : St8) (g : Bool) (r : List UInt8) (n : Nat) : List Value := [vw v.a, vw v.b, vw v.c, vw v.d, vw v.e, vw v.f, vw v.g, vw v.h, .bool g, vs r, .int .i64 n]
def St8.begun (v : St8) (g : Bool) : St8 := if g then v else first8
theorem begun_ok {v : St8} {g : Bool} (h : g = true → v.Ok) : (v.begun g).Ok := by
 cases g
 · exact first8_ok
 · exact h rfl
set_option maxRecDepth 20000 in
set_option maxHeartbeats 4000000 in
theorem hput_spec {R : List RO} {O : List Own} {POST : Value → List RO → List Own → Prop} {v : St8} {g : Bool} {r s : List UInt8} {b n : Nat} (hr : rootsR ∈ R) (hv : g = true → v.Ok) (hn : n + s.length ≤ 4611686018427387904) (hrl : r.length + s.length ≤ 4611686018427387904)
 (hk : POST (.tuple #[]) R (rowC b 316 (hcell (blocks (v.begun g) (r ++ s)).1 true (blocks (v.begun g) (r ++ s)).2 (n + s.length)) :: O)) :
 Fun Tryz.prog 192 #[.pointer (some ⟨b, 0, none⟩), vs s] R (rowC b 316 (hcell v g r n) :: O) POST := by
 refine Fun.enter (l := [_, _]) Tryz.func192 rfl Tryz.ntmps192 rfl (L0 := [(0, _), (1, _)]) rfl ?_
 refine Z.s2 <| Z.m1 rfl <| Z.r1 rfl (by exact Rd.peq_sn rfl Tryz.underlying379 rfl rfl) ?_
 refine Z.n1 ?_
 refine WC.cond rfl (fun hc1 => ?_) (fun hc1 => ?_)
 ·
  cases hc1
 ·
  refine WC.skip ?_
  refine thenQ.normal ?_
  refine WC.cut (α := Unit) (fun _ => [(0, .pointer (some ⟨b, 0, none⟩)), (1, vs s)]) (fun _ => R) (fun _ => rowC b 316 (hcell (v.begun g) true r n) :: O) (fun _ => True) ?_ ?_
  ·
   refine Z.s1 <| Z.m1 rfl <| Z.r1 rfl (Rd.nilc rfl rfl) <| Z.r1 rfl (by exact Rd.field rfl F316_1 rfl rfl) ?_
   refine Z.r1 rfl (by exact Rd.row1 rfl C4 rfl Z.M (by rfl)) ?_
   refine Z.r1 rfl (by exact Rd.not rfl rfl) ?_
   refine Z.n1 ?_
   refine WC.cond rfl (fun hc2 => ?_) (fun hc2 => ?_)
   ·
    refine WC.region ?_
    refine Z.m1 rfl <| Z.m1 rfl ?_
    refine WL.op rfl ?_
    refine OpW.call rfl rfl Z.E Z.K rfl rfl rfl ?_
    refine first_spec ?_
    refine Z.r1 rfl (Rd.nilc rfl rfl) <| Z.r1 rfl (by exact Rd.field rfl F316_0 rfl rfl) ?_
    refine WL.op rfl ?_
    refine OpW.storeS rfl G314 rfl rfl Z.N Z.T rfl rfl Z.N rfl ?_
    refine Z.r1 rfl (Rd.nilc rfl rfl) <| Z.r1 rfl (by exact Rd.field rfl F316_1 rfl rfl) ?_
    refine WL.op rfl ?_
    refine OpW.store1 rfl Z4 rfl rfl (by exact ⟨rfl, rfl⟩) Z.T (by (simp; done)) rfl ?_
    refine WL.nil ?_
    -- cut_c2 1
    obtain rfl : g = false := by simpa using hc2
    exact ⟨(), trivial, (by repeat (first | exact Sub.nil | refine Sub.cons rfl (by rfl) ?_)), Z.F⟩
   ·
    refine WC.skip ?_
    -- cut_c2 2
    obtain rfl : g = true := by simpa using hc2
    exact ⟨(), trivial, (by repeat (first | exact Sub.nil | refine Sub.cons rfl (by rfl) ?_)), Z.F⟩
  ·
   intro _ _
   have hvo := begun_ok hv
   generalize v.begun g = v0 at *
   refine Z.s1 <| Z.m1 rfl <| Z.r1 rfl (Rd.nilc rfl rfl) <| Z.r1 rfl (by exact Rd.field rfl F316_3 rfl rfl) ?_
   refine Z.r1 rfl (by exact Rd.row1 rfl C3 rfl Z.M (by rfl)) ?_
   refine Z.m1 rfl <| Z.r1 rfl (Rd.slen (ts := #[]) (ty := 0) rfl rfl Tryz.underlying9) ?_
   refine Z.r1 rfl (Rd.add rfl rfl rfl Z.W) ?_
   refine Z.r1 rfl (Rd.nilc rfl rfl) <| Z.r1 rfl (by exact Rd.field rfl F316_3 rfl rfl) ?_
   refine WL.op rfl ?_
   refine OpW.store1 rfl Z3 rfl rfl (by exact ⟨rfl, rfl⟩) Z.T (by exact of_decide_eq_true rfl) rfl ?_
   refine Z.q1 <| Z.m1 rfl <| Z.r1 rfl (Rd.nilc rfl rfl) <| Z.r1 rfl (by exact Rd.field rfl F316_2 rfl rfl) ?_
   refine Z.r1 rfl (by exact Rd.row1 rfl C9 rfl Z.M (by rfl)) ?_
   refine Z.m1 rfl <| Z.r1 rfl (Rd.scat rfl rfl rfl Z.W) ?_
   refine Z.r1 rfl (Rd.nilc rfl rfl) <| Z.r1 rfl (by exact Rd.field rfl F316_2 rfl rfl) ?_
   refine WL.op rfl ?_
   refine OpW.store1 rfl Z9 rfl rfl (by exact ⟨rfl, rfl⟩) Z.T (by exact of_decide_eq_true rfl) rfl ?_
   refine Z.n1 ?_
   refine WC.block ?_
   refine WC.pick [0] Z.P ?_
   refine WC.loop2 0 (fun (x : St8) (q : List UInt8) => []) (fun (x : St8) (q : List UInt8) => rowC b 316 (hcell x true q (n + s.length)) :: O) (fun (x : St8) (q : List UInt8) => x.Ok ∧ blocks x q = blocks v0 (r ++ s)) (fun (x : St8) (q : List UInt8) => q.length) (v0) (r ++ s) Z.L ?hinv1 (by repeat (first | exact Sub.nil | refine Sub.cons rfl (by rfl) ?_)) (fun _ h => h) ?_
   case hinv1 =>
    exact ⟨hvo, rfl⟩
   intro x q
   rintro ⟨h1, h2⟩
   refine Z.s2 <| Z.m1 rfl <| Z.r1 rfl (Rd.nilc rfl rfl) <| Z.r1 rfl (by exact Rd.field rfl F316_2 rfl rfl) ?_
   refine Z.r1 rfl (by exact Rd.row1 rfl C9 rfl Z.M (by rfl)) ?_
   refine Z.r1 rfl (Rd.slen (ts := #[]) (ty := 0) rfl rfl Tryz.underlying9) ?_
   refine Z.r1 rfl (Rd.geq rfl rfl rfl) <| Z.n1 ?_
   refine WC.ite rfl (fun hc3 => ?_) (fun hc3 => ?_)
   ·
    have hbg := blocks_ge (v := x) (r := q) Z.W
    refine WC.skip ?_
    refine thenQ.normal ?_
    refine WC.block ?_
    refine WC.seq ?_
    refine WC.drawn (O) 14 rfl mixed ?_
    refine WD.take 0 rfl Z.K Z.H rfl rfl rfl (Rd.move rfl rfl) ?_
    refine WD.take 1 rfl Z.K Z.H rfl rfl rfl (Rd.move rfl rfl) ?_
    refine WD.take 2 rfl Z.K Z.H rfl rfl rfl (Rd.nilc rfl rfl) ?_
    refine WD.take 3 rfl Z.K Z.H rfl rfl rfl ((by exact Rd.field rfl F316_0 rfl rfl)) ?_
    refine WD.take 5 rfl Z.K Z.H rfl rfl rfl (Rd.move rfl rfl) ?_
    refine WD.take 6 rfl Z.K Z.H rfl rfl rfl (Rd.nilc rfl rfl) ?_
    refine WD.take 7 rfl Z.K Z.H rfl rfl rfl ((by exact Rd.field rfl F316_2 rfl rfl)) ?_
    refine WD.two 4 8 rfl rfl Z.K rfl rfl ?_ ?_
    ·
     refine OpW.rd rfl rfl ((by exact Rd.rowS rfl G314 rfl Z.M Z.N rfl)) ?_
     refine ⟨Z.H, ?_⟩
     refine WD.one 8 rfl Z.K rfl ?_
     refine OpW.rd rfl rfl ((by exact Rd.row1 rfl C9 rfl Z.M (by rfl))) ?_
     refine ⟨Z.H, ?_⟩
     refine WD.take 9 rfl Z.K Z.H rfl rfl rfl (Rd.scut_h (hi := 64) rfl Tryz.underlying9 rfl rfl rfl Z.W) ?_
     refine WD.one 10 rfl Z.K rfl ?_
     refine OpW.call rfl rfl Z.E Z.K rfl rfl rfl ?_
     refine stateNext_spec (v := x) (s := q.take 64) hr h1 (by rw [List.length_take]; omega) ?_
     refine ⟨Z.H, ?_⟩
     refine WD.take 11 rfl Z.K Z.H rfl rfl rfl (Rd.nilc rfl rfl) ?_
     refine WD.take 12 rfl Z.K Z.H rfl rfl rfl ((by exact Rd.field rfl F316_0 rfl rfl)) ?_
     refine WD.one 13 rfl Z.K rfl ?_
     refine OpW.storeS rfl G314 rfl rfl Z.N Z.T rfl rfl Z.N rfl ?_
     refine ⟨Z.H, ?_⟩
     refine WD.done Z.K ?_
     refine thenQ.normal ?_
     refine WC.region ?_
     refine Z.m1 rfl <| Z.m1 rfl <| Z.r1 rfl (Rd.nilc rfl rfl) <| Z.r1 rfl (by exact Rd.field rfl F316_2 rfl rfl) ?_
     refine Z.r1 rfl (by exact Rd.row1 rfl C9 rfl Z.M (by rfl)) ?_
     refine Z.r1 rfl (Rd.scut_l (lo := 64) rfl Tryz.underlying9 rfl rfl rfl Z.W) ?_
     refine Z.r1 rfl (Rd.nilc rfl rfl) <| Z.r1 rfl (by exact Rd.field rfl F316_2 rfl rfl) ?_
     refine WL.op rfl ?_
     refine OpW.store1 rfl Z9 rfl rfl (by exact ⟨rfl, rfl⟩) Z.T (by (simp; done)) rfl ?_
     refine WL.nil ?_
     refine blockQ.normal ?_
     exact loopQ2.mk (nextS x (q.take 64)) (q.drop 64) ⟨nextS_ok _ _, by rw [← h2, hbg]⟩ (by rw [List.length_drop]; omega) (by repeat (first | exact Sub.nil | refine Sub.cons rfl (by rfl) ?_)) Z.F
    ·
     refine OpW.rd rfl rfl ((by exact Rd.row1 rfl C9 rfl Z.M (by rfl))) ?_
     refine ⟨Z.H, ?_⟩
     refine WD.take 9 rfl Z.K Z.H rfl rfl rfl (Rd.scut_h (hi := 64) rfl Tryz.underlying9 rfl rfl rfl Z.W) ?_
     refine WD.one 4 rfl Z.K rfl ?_
     refine OpW.rd rfl rfl ((by exact Rd.rowS rfl G314 rfl Z.M Z.N rfl)) ?_
     refine ⟨Z.H, ?_⟩
     refine WD.one 10 rfl Z.K rfl ?_
     refine OpW.call rfl rfl Z.E Z.K rfl rfl rfl ?_
     refine stateNext_spec (v := x) (s := q.take 64) hr h1 (by rw [List.length_take]; omega) ?_
     refine ⟨Z.H, ?_⟩
     refine WD.take 11 rfl Z.K Z.H rfl rfl rfl (Rd.nilc rfl rfl) ?_
     refine WD.take 12 rfl Z.K Z.H rfl rfl rfl ((by exact Rd.field rfl F316_0 rfl rfl)) ?_
     refine WD.one 13 rfl Z.K rfl ?_
     refine OpW.storeS rfl G314 rfl rfl Z.N Z.T rfl rfl Z.N rfl ?_
     refine ⟨Z.H, ?_⟩
     refine WD.done Z.K ?_
     refine thenQ.normal ?_
     refine WC.region ?_
     refine Z.m1 rfl <| Z.m1 rfl <| Z.r1 rfl (Rd.nilc rfl rfl) <| Z.r1 rfl (by exact Rd.field rfl F316_2 rfl rfl) ?_
     refine Z.r1 rfl (by exact Rd.row1 rfl C9 rfl Z.M (by rfl)) ?_
     refine Z.r1 rfl (Rd.scut_l (lo := 64) rfl Tryz.underlying9 rfl rfl rfl Z.W) ?_
     refine Z.r1 rfl (Rd.nilc rfl rfl) <| Z.r1 rfl (by exact Rd.field rfl F316_2 rfl rfl) ?_
     refine WL.op rfl ?_
     refine OpW.store1 rfl Z9 rfl rfl (by exact ⟨rfl, rfl⟩) Z.T (by (simp; done)) rfl ?_
     refine WL.nil ?_
     refine blockQ.normal ?_
     exact loopQ2.mk (nextS x (q.take 64)) (q.drop 64) ⟨nextS_ok _ _, by rw [← h2, hbg]⟩ (by rw [List.length_drop]; omega) (by repeat (first | exact Sub.nil | refine Sub.cons rfl (by rfl) ?_)) Z.F
   ·
    have hbl := blocks_lt (v := x) (r := q) Z.W
    rw [hbl] at h2
    rw [← h2] at hk
    refine WC.exit ?_
    refine thenQ.exit ?_
    refine loopQ2.exit ?_
    refine blockQ.exit ?_
    refine Ret.normal (Ret.zero Tryz.results192 ?_)
    exact hk
end Go.Proofs.YtnjfgcpmcjmddaaGreatDoor
namespace Go.Proofs.YtnjfgcpmcjmddaaGreatDoor
open Go Go.SL
def padE (n : Nat) : List UInt8 := 128 :: List.replicate ((119 - n % 64) % 64) 0
def lenB (n i : Nat) : UInt8 := UInt8.ofNat (n * 8 / 2 ^ (56 - 8 * i) % 256)
def lenE (n : Nat) : List UInt8 := (List.range 8).map (lenB n)
def St8.wl (v : St8) : List Nat := [v.a, v.b, v.c, v.d, v.e, v.f, v.g, v.h]
theorem wl_cs (v : St8) : v.cs = v.wl.map vw := rfl
def be4 (n : Nat) : List UInt8 := [UInt8.ofNat (n / 2 ^ 24 % 256), UInt8.ofNat (n / 2 ^ 16 % 256), UInt8.ofNat (n / 2 ^ 8 % 256), UInt8.ofNat (n % 256)]
def digestS (v : St8) : List UInt8 := v.wl.flatMap be4
def finS (v : St8) (r : List UInt8) (n : Nat) : St8 := (blocks v (r ++ padE n ++ lenE n)).1
def shaE (t : List UInt8) : List UInt8 := digestS (finS first8 t t.length)
def HashOf (v : St8) (g : Bool) (r : List UInt8) (n : Nat) (t : List UInt8) : Prop := (g = true → v.Ok) ∧ blocks first8 t = (v.begun g, r) ∧ n = t.length
theorem HashOf.new (v : St8) : HashOf v false [] 0 [] := ⟨(fun h => by cases h), blocks_lt (by decide), rfl⟩
theorem HashOf.put {v : St8} {g : Bool} {r : List UInt8} {n : Nat} {t : List UInt8} (h : HashOf v g r n t) (s : List UInt8) : HashOf (blocks (v.begun g) (r ++ s)).1 true (blocks (v.begun g) (r ++ s)).2 (n + s.length) (t ++ s) := by
 obtain ⟨h1, h2, h3⟩ := h
 have ha := blocks_append first8 t s
 rw [h2] at ha
 exact ⟨fun _ => blocks_ok _ _ (begun_ok h1), by rw [← ha]; rfl, by rw [h3, List.length_append]⟩
theorem HashOf.rest {v : St8} {g : Bool} {r : List UInt8} {n : Nat} {t : List UInt8} (h : HashOf v g r n t) : r.length < 64 ∧ r.length % 64 = n % 64 := by
 have h1 := blocks_rest first8 t
 rw [h.2.1, ← h.2.2] at h1
 exact h1
theorem HashOf.sum {v : St8} {g : Bool} {r : List UInt8} {n : Nat} {t : List UInt8} (h : HashOf v g r n t) : digestS (finS (v.begun g) r n) = shaE t := by
 have ha := blocks_append first8 t (padE n ++ lenE n)
 rw [h.2.1] at ha
 rw [shaE, finS, finS, ← h.2.2, List.append_assoc, ha, List.append_assoc]
theorem lenE_length (n : Nat) : (lenE n).length = 8 := by simp [lenE]
theorem len_step {n i : Nat} (hi : i < 7) : (n / 2 ^ (56 - 8 * i) * 8 % 256) ||| (n / 2 ^ (48 - 8 * i) &&& 255) / 2 ^ 5 = n * 8 / 2 ^ (56 - 8 * i) % 256 := by
 obtain ⟨q, hq⟩ : ∃ q, q = n / 2 ^ (48 - 8 * i) := ⟨_, rfl⟩
 have e1 : n / 2 ^ (56 - 8 * i) = q / 256 := by
  rw [hq, Nat.div_div_eq_div_mul, show 56 - 8 * i = (48 - 8 * i) + 8 from by omega, Nat.pow_add]
 have e2 : n * 8 / 2 ^ (56 - 8 * i) = q / 32 := by
  rw [hq, Nat.div_div_eq_div_mul, show 56 - 8 * i = ((48 - 8 * i) + 5) + 3 from by omega, Nat.pow_add _ _ 3, Nat.mul_div_mul_right _ _ (by decide), Nat.pow_add]
 rw [e1, e2, ← hq, show (255 : Nat) = 2 ^ 8 - 1 from rfl, Nat.and_two_pow_sub_one_eq_mod]
 have e3 : q / 256 * 8 % 256 = 2 ^ 3 * (q / 256 % 32) := by omega
 rw [e3, ← Nat.two_pow_add_eq_or_of_lt Z.W]
 omega
theorem last_step (n : Nat) : n / 2 ^ (56 - 8 * 7) * 8 % 256 = n * 8 / 2 ^ (56 - 8 * 7) % 256 := by simp
def hlrow (n i : Nat) : List Value := ((List.range i).map (lenB n)).map vy ++ List.replicate (8 - i) (vy 0)
theorem lrow_set {n i : Nat} (h : i < 8) (c : UInt8) : (hlrow n i).set i (vy c) = ((List.range i).map (lenB n)).map vy ++ vy c :: List.replicate (7 - i) (vy 0) := by
 rw [hlrow, List.set_append_right _ _ (by simp), List.length_map, List.length_map, List.length_range, Nat.sub_self, show 8 - i = (7 - i) + 1 from by omega, List.replicate_succ]; rfl
theorem lrow_done {n i : Nat} (h : i < 8) : ((List.range i).map (lenB n)).map vy ++ vy (lenB n i) :: List.replicate (7 - i) (vy 0) = hlrow n (i + 1) := by
 rw [hlrow, List.range_succ, List.map_append, List.map_append, show 8 - (i + 1) = 7 - i from by omega, List.append_assoc]; rfl
theorem flat_snoc {l : List Nat} {i : Nat} (h : i < l.length) : (l.take (i + 1)).flatMap be4 = (l.take i).flatMap be4 ++ be4 l[i]! := by
 rw [List.take_add_one, get!_of_lt h, List.flatMap_append]; simp
theorem be4_length (l : List Nat) : (l.flatMap be4).length = 4 * l.length := by
 induction l with
 | nil => rfl
 | cons a l ih => rw [List.flatMap_cons, List.length_append, ih, List.length_cons]; simp [be4]; omega
theorem repeat_zero (n : Nat) : Lib.repeatL [0] n = List.replicate n 0 := by
 have := Lib.repeatL_replicate 0 1 n
 rwa [Nat.mul_one] at this
theorem byte_wrapS (n : Nat) : IntKind.u8.wrap (n : Int) = ((UInt8.ofNat (n % 256)).toNat : Int) := by
 have : (UInt8.ofNat (n % 256)).toNat = n % 256 := by simp
 rw [this]; simp only [IntKind.wrap, IntKind.signed, IntKind.bits, Bool.false_and, Bool.false_eq_true, if_false]; omega
set_option maxRecDepth 20000 in
set_option maxHeartbeats 4000000 in
theorem hsum_spec {R : List RO} {O : List Own} {POST : Value → List RO → List Own → Prop} {v : St8} {g : Bool} {r t : List UInt8} {b n : Nat} (hr : rootsR ∈ R) (hh : HashOf v g r n t) (hn : n ≤ 281474976710656)
 (hk : POST (vs (shaE t)) R (rowC b 316 (hcell v g r n) :: O)) :
 Fun Tryz.prog 193 #[.pointer (some ⟨b, 0, none⟩)] R (rowC b 316 (hcell v g r n) :: O) POST := by
 obtain ⟨hr1, hr2⟩ := hh.rest
 have hpl : (padE n).length = (119 - n % 64) % 64 + 1 := by simp [padE]
 refine Fun.enter (l := [_]) Tryz.func193 rfl Tryz.ntmps193 rfl (L0 := [(0, _)]) rfl ?_
 refine Z.s1 <| Z.a1 rfl <| Z.n1 <| Z.s2 <| Z.m1 rfl <| Z.r1 rfl (by exact Rd.peq_sn rfl Tryz.underlying379 rfl rfl) ?_
 refine Z.n1 ?_
 refine WC.cond rfl (fun hc1 => ?_) (fun hc1 => ?_)
 ·
  cases hc1
 ·
  refine WC.skip ?_
  refine thenQ.normal ?_
  refine Z.s1 <| Z.m1 rfl <| Z.r1 rfl (Rd.nilc rfl rfl) <| Z.r1 rfl (by exact Rd.rowS rfl G316 rfl Z.M Z.N rfl) ?_
  refine WL.op rfl ?_
  refine OpW.alloc rfl I316 rfl Z.N rfl rfl ?_; intro b3
  refine WL.op rfl ?_
  refine OpW.storeS rfl G316 rfl rfl Z.N Z.T rfl rfl Z.N rfl ?_
  refine Z.q1 <| Z.m1 rfl <| Z.r1 rfl (Rd.nilc rfl rfl) <| Z.r1 rfl (by exact Rd.field rfl F316_3 rfl rfl) ?_
  refine Z.r1 rfl (by exact Rd.row1 rfl C3 rfl Z.M (by rfl)) ?_
  refine Z.r1 rfl (Rd.remN (a := n) (b := 64) rfl rfl rfl rfl rfl (by decide)) ?_
  refine Z.r1 rfl (Rd.sub rfl rfl rfl Z.W) ?_
  refine WL.say 19 (u := .int .i64 ((119 - n % 64 : Nat) : Int)) rfl (by congr 1; omega) ?_
  refine Z.r1 rfl (Rd.remN (a := 119 - n % 64) (b := 64) rfl rfl rfl rfl rfl (by decide)) ?_
  refine WL.op rfl ?_
  refine OpW.call rfl rfl Z.E Z.K rfl rfl rfl ?_
  refine Fun.below (v := vs (Lib.repeatL [0] ((119 - n % 64) % 64))) (fun w => Tryz.strings_Repeat ⟨#[0]⟩ ((119 - n % 64) % 64) w Z.W (by show 1 * _ ≤ _; omega)) ?_
  rw [repeat_zero]
  refine Z.r1 rfl (Rd.scat rfl rfl rfl (by rw [List.length_replicate, List.length_singleton]; omega)) ?_
  refine WL.op rfl ?_
  refine OpW.call rfl rfl Z.E Z.K rfl rfl rfl ?_
  refine hput_spec (v := v) (g := g) (r := r) (s := padE n) hr hh.1 Z.W Z.W ?_
  obtain ⟨x, hx⟩ : ∃ x, x = blocks (v.begun g) (r ++ padE n) := ⟨_, rfl⟩
  have hxo := blocks_ok (v.begun g) (r ++ padE n) (begun_ok hh.1)
  have hxr := blocks_rest (v.begun g) (r ++ padE n)
  have hxa := blocks_append (v.begun g) (r ++ padE n) (lenE n)
  rw [← hx] at hxo hxr hxa ⊢
  refine Z.q1 ?_
  refine WL.op rfl ?_
  refine OpW.alloc rfl I382 rfl Z.N rfl rfl ?_; intro b4
  refine Z.n1 <| Z.s2 <| Z.m1 rfl <| Z.n1 ?_
  refine WC.block ?_
  refine WC.pick [24, 0, 3, 4] Z.P ?_
  refine WC.loop1 1 (fun (i : Nat) => [(24, .int .i64 (i : Int))]) (fun (i : Nat) => rowC b4 382 (hlrow n i) :: rowC b3 316 (hcell x.1 true x.2 (n + (padE n).length)) :: rowC b 316 (hcell v g r n) :: O) (fun (i : Nat) => i ≤ 8) (fun (i : Nat) => 8 - i) (0) Z.L ?hinv1 (by repeat (first | exact Sub.nil | refine Sub.cons rfl (by rfl) ?_)) (fun _ h => h) ?_
  case hinv1 =>
   exact Nat.zero_le _
  intro i
  rintro i1
  refine Z.s1 <| Z.r1 rfl (Rd.lss rfl rfl rfl) <| Z.n1 ?_
  refine WC.seq ?_
  refine WC.ite rfl (fun hc2 => ?_) (fun hc2 => ?_)
  ·
   have hml : (((List.range i).map (lenB n)).map vy).length = i := by simp
   have hll : (hlrow n i).length = 8 := by rw [hlrow, List.length_append, hml, List.length_replicate]; omega
   have hd1 := Nat.div_le_self n (2 ^ (56 - 8 * i))
   have hd2 := Nat.div_le_self n (2 ^ (48 - 8 * i))
   refine WC.skip ?_
   refine thenQ.normal ?_
   refine WC.seq ?_
   refine WC.block ?_
   refine Z.s1 <| Z.m1 rfl <| Z.a1 rfl <| Z.q1 <| Z.m1 rfl <| Z.m1 rfl <| Z.r1 rfl (Rd.nilc rfl rfl) <| Z.r1 rfl (by exact Rd.field rfl F316_3 rfl rfl) ?_
   refine Z.r1 rfl (by exact Rd.row1 rfl C3 rfl Z.M (by rfl)) ?_
   refine Z.m1 rfl <| Z.r1 rfl (Rd.mul rfl rfl rfl Z.W) ?_
   refine Z.r1 rfl (Rd.sub rfl rfl rfl Z.W) ?_
   refine Z.r1 rfl (Rd.shrN (a := n) (n := 56 - 8 * i) rfl rfl rfl rfl Z.W (by show 56 - 8 * i ≤ 64; omega)) ?_
   refine Z.r1 rfl (Rd.shlS (a := n / 2 ^ (56 - 8 * i)) (n := 3) rfl rfl rfl rfl rfl (by decide) Z.W) ?_
   refine Z.r1 rfl (Rd.convw rfl rfl Tryz.underlying5 (hS := Tryz.underlying3)) ?_
   refine WL.say 37 (u := vy (UInt8.ofNat (n / 2 ^ (56 - 8 * i) * 8 % 256))) rfl (by rw [byte_wrapS]) ?_
   refine Z.r1 rfl (by exact Rd.idxArr1 (k := i) rfl A382 rfl rfl Z.W Z.W) ?_
   refine WL.op rfl ?_
   refine OpW.store1 rfl Z5 rfl rfl (by exact ⟨rfl, rfl⟩) Z.T Z.W rfl ?_
   refine WL.heap (fun w h => by rw [lrow_set Z.W] at h; exact h) ?_
   refine Z.q1 <| Z.m1 rfl <| Z.r1 rfl (Rd.lss rfl rfl rfl) <| Z.n1 ?_
   refine WC.ite rfl (fun hc3 => ?_) (fun hc3 => ?_)
   ·
    refine WC.tail 16 mixed Z.K ?_
    refine Z.d1 rfl (Rd.move rfl rfl) <| Z.d1 rfl (by exact Rd.idxArr1 (k := i) rfl A382 rfl rfl Z.W Z.W) ?_
    refine Z.d1 rfl (Rd.row1 rfl C5 rfl Z.M (mid_get _ _ _ hml)) ?_
    refine Z.d1 rfl (Rd.move rfl rfl) <| Z.d1 rfl (Rd.nilc rfl rfl) <| Z.d1 rfl (by exact Rd.field rfl F316_3 rfl rfl) ?_
    refine Z.d1 rfl (by exact Rd.row1 rfl C3 rfl Z.M (by rfl)) ?_
    refine Z.d1 rfl (Rd.move rfl rfl) <| Z.d1 rfl (Rd.mul rfl rfl rfl Z.W) ?_
    refine Z.d1 rfl (Rd.sub rfl rfl rfl Z.W) ?_
    refine Z.d1 rfl (Rd.shrN (a := n) (n := 48 - 8 * i) rfl rfl rfl rfl Z.W (by show 48 - 8 * i ≤ 64; omega)) ?_
    refine Z.d1 rfl (Rd.andS (a := n / 2 ^ (48 - 8 * i)) (c := 255) rfl rfl rfl rfl rfl (show _ < 9223372036854775808 by omega) (by decide)) ?_
    refine Z.d1 rfl (Rd.shrN (a := n / 2 ^ (48 - 8 * i) &&& 255) (n := 5) rfl rfl rfl rfl rfl (by decide)) ?_
    have h255 : n / 2 ^ (48 - 8 * i) &&& 255 ≤ 255 := Nat.and_le_right
    refine Z.d1 rfl (Rd.conv rfl rfl Tryz.underlying5 (wrap_natU rfl (show _ < 256 by omega)) (hS := Tryz.underlying3)) ?_
    refine Z.d1 rfl (Rd.orU rfl rfl rfl rfl rfl rfl (UInt8.toNat_lt _) (show _ < 256 by omega)) ?_
    refine WS.say 55 (u := vy (lenB n i)) rfl (by
    have e : ∀ m : Nat, m < 256 → (UInt8.ofNat m).toNat = m := fun m h => by simp; omega
    rw [e _ (Nat.mod_lt _ (by decide)), len_step Z.W, lenB, vy, e _ (Nat.mod_lt _ (by decide))]) ?_
    refine Z.d1 rfl (by exact Rd.idxArr1 (k := i) rfl A382 rfl rfl Z.W Z.W) ?_
    refine WS.switch ?_
    refine WL.op rfl ?_
    refine OpW.store1 rfl Z5 rfl rfl (by exact ⟨rfl, rfl⟩) Z.T (by (simp; done)) rfl ?_
    refine WL.heap (fun w h => by rw [mid_set _ _ _ _ hml] at h; exact h) ?_
    refine WL.nil ?_
    refine blockQ.normal ?_
    refine thenQ.normal ?_
    refine WC.region ?_
    refine Z.r1 rfl (Rd.add rfl rfl rfl Z.W) ?_
    refine Z.m1 rfl ?_
    refine WL.nil ?_
    exact loopQ1.mk (i + 1) Z.W Z.W (by repeat (first | exact Sub.nil | refine Sub.cons rfl (by rfl) ?_)) (fun w h => by rw [← lrow_done Z.W]; exact Z.Fw h)
   ·
    refine WC.skip ?_
    refine blockQ.normal ?_
    refine thenQ.normal ?_
    refine WC.region ?_
    refine Z.r1 rfl (Rd.add rfl rfl rfl Z.W) ?_
    refine Z.m1 rfl ?_
    refine WL.nil ?_
    obtain rfl : i = 7 := by omega
    exact loopQ1.mk (7 + 1) Z.W Z.W (by repeat (first | exact Sub.nil | refine Sub.cons rfl (by rfl) ?_)) (fun w h => by rw [← lrow_done Z.W, lenB, ← last_step]; exact Z.Fw h)
  ·
   obtain rfl : i = 8 := by omega
   refine WC.heap (R' := R) (O' := rowC b4 382 ((lenE n).map vy) :: rowC b3 316 (hcell x.1 true x.2 (n + (padE n).length)) :: rowC b 316 (hcell v g r n) :: O) (fun w h => by
    have e : hlrow n 8 = (lenE n).map vy := by rw [hlrow, Nat.sub_self, List.replicate_zero, List.append_nil]; rfl
    rw [e] at h; exact h) ?_
   refine WC.exit ?_
   refine thenQ.exit ?_
   refine loopQ1.exit ?_
   refine blockQ.exit ?_
   refine thenQ.normal ?_
   refine Z.s1 <| Z.r1 rfl (Rd.sliceArr rfl A382 rfl (by decide)) ?_
   refine Z.r1 rfl (Rd.strOfR (bs := lenE n) rfl Tryz.underlying38 Tryz.underlying9 Tryz.underlying5 rfl Z.M rfl (lenE_length n) Z.W) ?_
   refine WL.op rfl ?_
   refine OpW.call rfl rfl Z.E Z.K rfl rfl rfl ?_
   have hlE := lenE_length n
   refine Fun.heap (R' := R) (O' := rowC b3 316 (hcell x.1 true x.2 (n + (padE n).length)) :: rowC b 316 (hcell v g r n) :: O) Z.F ?_
   refine hput_spec (v := x.1) (g := true) (r := x.2) (s := lenE n) hr (fun _ => hxo) Z.W Z.W ?_
   rw [show x.1.begun true = x.1 from rfl, hxa]
   obtain ⟨y, hy⟩ : ∃ y, y = (blocks (v.begun g) (r ++ padE n ++ lenE n)).1 := ⟨_, rfl⟩
   rw [← hy]
   have hdg : digestS y = shaE t := by rw [hy]; exact hh.sum
   refine Z.q1 ?_
   refine WL.op rfl ?_
   refine OpW.make1 (m := 0) (c := 32) rfl S38 rfl rfl rfl rfl rfl Z.W Z.W Z.W rfl rfl ?_; intro b61
   refine WL.heap (fun w h => Sat.accCap (α := UInt8) (enc := SL.one vy) (size := 1) (c := 32) Z.T (by simp) (by decide) h) ?_
   refine Z.a1 rfl <| Z.n1 <| Z.s2 <| Z.r1 rfl (by exact Rd.field rfl F316_0 rfl rfl) ?_
   refine Z.r1 rfl (Rd.rowS (ds := y.cs) rfl G314 rfl Z.M Z.N rfl) ?_
   refine Z.m1 rfl <| Z.n1 ?_
   refine WC.block ?_
   refine WC.pick [64, 6, 63] Z.P ?_
   refine WC.loop2 2 (fun (j : Nat) (u : Value) => [(64, .int .i64 (j : Int)), (6, u)]) (fun (j : Nat) (u : Value) => accC 5 1 (SL.one vy) u ((y.wl.take j).flatMap be4) :: rowC b3 316 (hcell y true (blocks (v.begun g) (r ++ padE n ++ lenE n)).2 (n + (padE n).length + (lenE n).length)) :: rowC b 316 (hcell v g r n) :: O) (fun (j : Nat) (u : Value) => j ≤ 8 ∧ OneV u) (fun (j : Nat) (u : Value) => 8 - j) (0) (.slice (some ⟨b61, 0, none⟩) 0 32) Z.L ?hinv2 (by repeat (first | exact Sub.nil | refine Sub.cons rfl (by rfl) ?_)) (fun _ h => h) ?_
   case hinv2 =>
    exact ⟨Nat.zero_le _, OneV.sl⟩
   intro j u
   rintro ⟨j1, j2⟩
   refine Z.s1 <| Z.r1 rfl (Rd.lss rfl rfl rfl) <| Z.n1 ?_
   refine WC.seq ?_
   refine WC.ite rfl (fun hc4 => ?_) (fun hc4 => ?_)
   ·
    have hyl : y.wl.length = 8 := rfl
    have hfs := flat_snoc (l := y.wl) (i := j) Z.W
    have hfl := be4_length (y.wl.take j)
    rw [List.length_take] at hfl
    refine WC.skip ?_
    refine thenQ.normal ?_
    refine WC.seq ?_
    refine WC.block ?_
    refine Z.s1 <| Z.r1 rfl (Rd.idxAgg (k := j) rfl A314 C272 rfl rfl Z.W Z.W (by rw [wl_cs, List.getElem?_map, get!_of_lt (xs := y.wl) Z.W]; rfl)) ?_
    refine Z.a1 rfl <| Z.g1 <| Z.m1 rfl <| Z.m1 rfl <| Z.r1 rfl (Rd.shrN (a := y.wl[j]!) (n := 24) rfl rfl rfl rfl rfl (by decide)) ?_
    refine Z.r1 rfl (by exact Rd.convw rfl rfl Tryz.underlying5 (hS := Tryz.underlying272)) ?_
    refine WL.say 70 (u := vy (UInt8.ofNat (y.wl[j]! / 2 ^ 24 % 256))) rfl (by rw [byte_wrapS]) ?_
    refine Z.m1 rfl <| Z.r1 rfl (Rd.shrN (a := y.wl[j]!) (n := 16) rfl rfl rfl rfl rfl (by decide)) ?_
    refine Z.r1 rfl (by exact Rd.convw rfl rfl Tryz.underlying5 (hS := Tryz.underlying272)) ?_
    refine WL.say 73 (u := vy (UInt8.ofNat (y.wl[j]! / 2 ^ 16 % 256))) rfl (by rw [byte_wrapS]) ?_
    refine Z.m1 rfl <| Z.r1 rfl (Rd.shrN (a := y.wl[j]!) (n := 8) rfl rfl rfl rfl rfl (by decide)) ?_
    refine Z.r1 rfl (by exact Rd.convw rfl rfl Tryz.underlying5 (hS := Tryz.underlying272)) ?_
    refine WL.say 76 (u := vy (UInt8.ofNat (y.wl[j]! / 2 ^ 8 % 256))) rfl (by rw [byte_wrapS]) ?_
    refine Z.m1 rfl <| Z.r1 rfl (by exact Rd.convw rfl rfl Tryz.underlying5 (hS := Tryz.underlying272)) ?_
    refine WL.say 78 (u := vy (UInt8.ofNat (y.wl[j]! % 256))) rfl (by rw [byte_wrapS]) ?_
    refine WL.op rfl ?_
    refine OpW.buildSl (ps := [(0, _), (1, _), (2, _), (3, _)]) rfl S38 Z.E rfl rfl Z.C Z.K rfl rfl rfl ?_; intro b79
    refine WL.op rfl ?_
    refine OpW.appendRow (enc := SL.one vy) rfl S38 rfl rfl Z.T Z.T (be4 y.wl[j]!) rfl (by rfl) rfl (by intro x; rfl) (by intro x; rfl) (by exact ⟨by simp only [maxLen, List.length_append, List.length_nil, List.length_cons, List.length_drop, List.length_take, List.length_map]; omega, by omega⟩) rfl rfl ?_; intro v80 hv80
    refine Z.a1 rfl ?_
    refine WL.nil ?_
    refine blockQ.normal ?_
    refine thenQ.normal ?_
    refine WC.region ?_
    refine Z.r1 rfl (Rd.add rfl rfl rfl Z.W) ?_
    refine Z.m1 rfl ?_
    refine WL.nil ?_
    exact loopQ2.mk (j + 1) v80 ⟨by omega, hv80⟩ Z.W (by repeat (first | exact Sub.nil | refine Sub.cons rfl (by rfl) ?_)) (fun w h => by rw [hfs]; exact Z.Fw h)
   ·
    obtain rfl : j = 8 := by omega
    have hfin : (y.wl.take 8).flatMap be4 = shaE t := hdg
    refine WC.heap (fun w h => by rw [hfin] at h; exact h) ?_
    refine WC.exit ?_
    refine thenQ.exit ?_
    refine loopQ2.exit ?_
    refine blockQ.exit ?_
    refine thenQ.normal ?_
    refine Z.s1 <| Z.m1 rfl <| Z.r1 rfl (by exact Rd.strOfA rfl Tryz.underlying38 Tryz.underlying9 Tryz.underlying5 rfl Z.M) ?_
    refine Z.a1 rfl <| Z.n1 ?_
    refine WC.heap (R' := R) (O' := rowC b 316 (hcell v g r n) :: O) Z.F ?_
    refine WC.ret (Ret.one Tryz.results193 rfl ?_)
    exact hk
end Go.Proofs.YtnjfgcpmcjmddaaGreatDoor
namespace Go.Proofs.YtnjfgcpmcjmddaaGreatDoor
open Go Go.SL
theorem flatten_snoc {l : List (List UInt8)} {i : Nat} (h : i < l.length) : (l.take (i + 1)).flatten = (l.take i).flatten ++ l[i]! := by
 rw [List.take_add_one, get!_of_lt h, List.flatten_append]; simp
theorem flatten_take_le (l : List (List UInt8)) (i : Nat) : (l.take i).flatten.length ≤ l.flatten.length := by
 have h : l.flatten = (l.take i).flatten ++ (l.drop i).flatten := by rw [← List.flatten_append, List.take_append_drop]
 rw [h, List.length_append]; omega
set_option maxRecDepth 20000 in
set_option maxHeartbeats 1000000 in
theorem shaSum_spec {R : List RO} {O : List Own} {POST : Value → List RO → List Own → Prop} {l : List (List UInt8)} {lv : Value} (hr : rootsR ∈ R) (hl : SlE (SL.one vs) lv l ∈ R) (hn : l.flatten.length ≤ 281474976710656)
 (hk : POST (vs (shaE l.flatten)) R O) : Fun Tryz.prog 124 #[lv] R O POST := by
 refine Fun.len hl fun hll => ?_
 refine Fun.enter (l := [_]) Tryz.func124 rfl Tryz.ntmps124 rfl (L0 := [(0, _)]) rfl ?_
 refine Z.s1 <| Z.a1 rfl <| Z.q1 ?_
 refine WL.op rfl ?_
 refine OpW.alloc rfl I316 rfl Z.N rfl rfl ?_; intro b3
 refine Z.n1 <| Z.s2 <| Z.m1 rfl <| Z.r1 rfl (by exact Rd.lenE rfl rfl Tryz.underlying24 Z.M) ?_
 refine Z.m1 rfl <| Z.n1 ?_
 refine WC.block ?_
 refine WC.pick [8, 3, 6, 7] Z.P ?_
 refine WC.loop5 1 (fun (i : Nat) (v : St8) (g : Bool) (r : List UInt8) (n : Nat) => [(8, .int .i64 (i : Int))]) (fun (i : Nat) (v : St8) (g : Bool) (r : List UInt8) (n : Nat) => rowC b3 316 (hcell v g r n) :: O) (fun (i : Nat) (v : St8) (g : Bool) (r : List UInt8) (n : Nat) => i ≤ l.length ∧ HashOf v g r n (l.take i).flatten) (fun (i : Nat) (v : St8) (g : Bool) (r : List UInt8) (n : Nat) => l.length - i) (0) (⟨0, 0, 0, 0, 0, 0, 0, 0⟩) (false) ([]) (0) Z.L ?hinv1 (by repeat (first | exact Sub.nil | refine Sub.cons rfl (by rfl) ?_)) (fun _ h => h) ?_
 case hinv1 =>
  exact ⟨Nat.zero_le _, HashOf.new _⟩
 intro i v g r n
 rintro ⟨h1, h2⟩
 refine Z.s1 <| Z.r1 rfl (Rd.lss rfl rfl rfl) <| Z.n1 ?_
 refine WC.seq ?_
 refine WC.ite rfl (fun hc1 => ?_) (fun hc1 => ?_)
 ·
  have hf := flatten_snoc (l := l) (i := i) Z.W
  have hfl := congrArg List.length hf
  rw [List.length_append] at hfl
  have hfn := flatten_take_le l (i + 1)
  have hrr := h2.rest
  have hnn : n = (l.take i).flatten.length := h2.2.2
  refine WC.skip ?_
  refine thenQ.normal ?_
  refine WC.seq ?_
  refine WC.block ?_
  refine Z.s1 <| Z.r1 rfl (by exact Rd.idx1 (k := i) rfl S24 rfl rfl Z.W Z.M Z.W) ?_
  refine Z.r1 rfl (by exact Rd.get rfl C9 rfl Z.M (by exact get!_of_lt Z.W)) ?_
  refine Z.a1 rfl <| Z.g1 <| Z.m1 rfl ?_
  refine WL.op rfl ?_
  refine OpW.call rfl rfl Z.E Z.K rfl rfl rfl ?_
  refine hput_spec hr h2.1 Z.W Z.W ?_
  refine WL.nil ?_
  refine blockQ.normal ?_
  refine thenQ.normal ?_
  refine WC.region ?_
  refine Z.r1 rfl (Rd.add rfl rfl rfl Z.W) ?_
  refine Z.m1 rfl ?_
  refine WL.nil ?_
  exact loopQ5.mk (i + 1) _ _ _ _ ⟨by omega, by rw [hf]; exact h2.put _⟩ Z.W (by repeat (first | exact Sub.nil | refine Sub.cons rfl (by rfl) ?_)) Z.F
 ·
  have hi : l.take i = l := List.take_of_length_le Z.W
  rw [hi] at h2
  have hnn : n = l.flatten.length := h2.2.2
  refine WC.exit ?_
  refine thenQ.exit ?_
  refine loopQ5.exit ?_
  refine blockQ.exit ?_
  refine thenQ.normal ?_
  refine Z.s1 ?_
  refine WL.op rfl ?_
  refine OpW.call rfl rfl Z.E Z.K rfl rfl rfl ?_
  refine hsum_spec hr h2 Z.W ?_
  refine Z.a1 rfl <| Z.n1 ?_
  refine WC.heap (R' := R) (O' := O) Z.F ?_
  refine WC.ret (Ret.one Tryz.results124 rfl ?_)
  exact hk
def digs : List UInt8 := [48, 49, 50, 51, 52, 53, 54, 55, 56, 57, 97, 98, 99, 100, 101, 102]
def dg (n : Nat) : UInt8 := digs[n]!
def val (c : UInt8) : Int := Lib.indexByte digs c
def hx (c : UInt8) : List UInt8 := [dg (c.toNat / 16), dg (c.toNat % 16)]
end Go.Proofs.YtnjfgcpmcjmddaaGreatDoor
namespace Go.Proofs.YtnjfgcpmcjmddaaGreatDoor
open Go Go.SL Go.Ex
noncomputable section
def frc {α : Type} : List Nat → (List Nat → α) → α
 | [], k => k []
 | a :: r, k => fN a fun a => frc r fun r => k (a :: r)
def st8F {α : Type} (v : St8) (k : St8 → α) : α := fN v.a fun a => fN v.b fun b => fN v.c fun c => fN v.d fun d => fN v.e fun e => fN v.f fun f => fN v.g fun g => fN v.h fun h => k ⟨a, b, c, d, e, f, g, h⟩
def blkF : Nat → St8 → List UInt8 → St8
 | 0, v, _ => v
 | f + 1, v, r => ifb (Nat.blt r.length 64) v (st8F (nextS v (r.take 64)) fun v => blkF f v (r.drop 64))
def shaN (s : List Nat) : List Nat := (digestS (blkF 64 first8 (txt s ++ padE (ln s) ++ lenE (ln s)))).map (·.toNat)
def asSt : AV → Option (List Nat)
 | .st s => some s
 | _ => none
def shaO (s : List Nat) (h : Go.Ex.Hp) : Option (AV × Go.Ex.Hp) := ifb (Nat.ble (ln s) 3000) (frc (shaN s) fun d => some (.st d, h)) none
def shaRow (len cap : Nat) (q : Ch × Go.Ex.Hp) : Option (AV × Go.Ex.Hp) := match q.1 with
 | .row _ cs => ifb (Nat.beq (ln cs) len && (Nat.ble len 1000000 && Nat.beq cap len)) (bnd (mapO asSt cs) fun ss => shaO ss.flatten q.2) none
 | _ => none
def kSha (l : List AV) (B : Bs) (h : Go.Ex.Hp) : Option (AV × Go.Ex.Hp) := match l with
 | [.sl i off len cap] => ifb (Nat.beq off 0) (bnd (h.take B i) (shaRow len cap)) none
 | _ => none
end
section
variable {ρ : Rho} {R : List RO} {O F : List Own} {B : Bs} {OB : List Own} {h h' : Go.Ex.Hp}
theorem frc_eq {α : Type} : ∀ (l : List Nat) (k : List Nat → α), frc l k = k l
 | [], _ => rfl
 | a :: r, k => by
   show fN a _ = _
   rw [fN_eq, frc_eq r]
theorem st8F_eq {α : Type} (v : St8) (k : St8 → α) : st8F v k = k v := by simp only [st8F, fN_eq]
theorem blkF_eq : ∀ (f : Nat) (v : St8) (r : List UInt8), r.length < 64 * (f + 1) → blkF f v r = (blocks v r).1
 | 0, v, r, h => by rw [blocks_lt Z.W]; rfl
 | f + 1, v, r, h => by
   show ifb (Nat.blt r.length 64) v (st8F (nextS v (r.take 64)) fun v => blkF f v (r.drop 64)) = _
   rw [ifb_eq, st8F_eq]
   by_cases hl : r.length < 64
   · rw [if_pos (by rw [Nat.blt_eq]; exact hl), blocks_lt hl]
   · rw [if_neg (by rw [Nat.blt_eq]; exact hl), blocks_ge hl, blkF_eq f _ _ (by rw [List.length_drop]; omega)]
theorem shaN_eq {s : List Nat} (h : s.length ≤ 3000) : shaN s = (shaE (txt s)).map (·.toNat) := by
 have hl : (txt s).length = s.length := by simp [txt]
 unfold shaN shaE finS
 rw [ln_eq, hl, blkF_eq]
 rw [List.length_append, List.length_append, hl, lenE_length]
 simp only [padE, List.length_cons, List.length_replicate]
 omega
theorem asSt_ok : ∀ {cs : List AV} {ss : List (List Nat)} {vs : List Value}, mapO asSt cs = some ss → VRs ρ cs vs → (∀ n ∈ ss.flatten, n < 256) ∧ vs = (ss.map txt).flatMap (Go.SL.one Go.SL.vs)
 | [], ss, vs, h, hv => by cases h; cases hv; exact ⟨fun n hn => absurd hn List.not_mem_nil, rfl⟩
 | a :: cs, ss, vs, h, hv => by
   obtain ⟨s, hs, h⟩ := bnd_some h
   obtain ⟨t, ht, h⟩ := bnd_some (x := mapO asSt cs) h
   cases h
   cases hv with
   | cons hv hr =>
     obtain ⟨h1, rfl⟩ := asSt_ok ht hr
     unfold asSt at hs
     split at hs
     · cases hs
       cases hv with
       | st hlt =>
         refine ⟨fun n hn => ?_, rfl⟩
         rw [List.flatten_cons] at hn
         rcases List.mem_append.1 hn with hn | hn
         · exact hlt n hn
         · exact h1 n hn
     · cases hs
theorem txt_flat (ss : List (List Nat)) : (ss.map txt).flatten = txt ss.flatten := by
 rw [txt, List.map_flatten]
theorem kSha_ok (ht : rootsR ∈ R) : KOne Tryz.prog R 124 kSha := by
 intro args B h q hq
 unfold kSha at hq
 split at hq
 · rename_i i off len cap
   obtain ⟨ho, hq⟩ := ifb_none hq
   obtain rfl := beqN ho
   obtain ⟨p, hp, hq⟩ := bnd_some hq
   obtain ⟨ch, h1⟩ := p
   have hnx := take_nx hp
   unfold shaRow at hq
   split at hq
   · rename_i t cs heq
     have heq : ch = .row t cs := heq
     subst heq
     obtain ⟨hc, hq2⟩ := ifb_none hq
     clear hq
     obtain ⟨hc1, hc2⟩ := and2 hc
     obtain ⟨hc3, hc2⟩ := and2 hc2
     have hc1 := beqN hc1
     obtain rfl := beqN hc2
     have hcm : cap ≤ 9223372036854775807 := Nat.le_trans (Nat.le_of_ble_eq_true hc3) (by decide)
     rw [ln_eq] at hc1
     obtain ⟨ss, hss, hq⟩ := bnd_some hq2
     clear hq2
     obtain ⟨hlen, hq⟩ := ifb_none hq
     rw [frc_eq] at hq
     cases hq
     have hlen := Nat.le_of_ble_eq_true hlen
     rw [ln_eq] at hlen
     have hnx : h1.nx = h.nx := hnx
     refine ⟨Nat.le_of_eq hnx.symm, fun ρ OB O F vs w hvs H hN hs => .inl ⟨by kernel_rfl, ?_⟩⟩
     cases hvs with
     | cons hv1 hr =>
       cases hr
       cases hv1 with
       | sl hi hcap =>
         rename_i g
         obtain ⟨own, O', hT, hC, hH, _⟩ := H.take hp
         cases hC with
         | row hi' hv =>
           rename_i g' vs
           rw [hi] at hi'; cases hi'
           obtain ⟨hlt, rfl⟩ := asSt_ok hss hv
           have hsl : ss.length = cap := by
            have := hv.length
            rw [flat_one, List.length_map, List.length_map] at this
            omega
           have hs' := hs.perm (take_left hT F).perm
           have hs2 := Sat.shareRow (enc := Go.SL.one Go.SL.vs) (xs := ss.map txt) (m := cap) (.head _) rfl (by simp [hsl]) hcm hs'
           refine (shaSum_spec (POST := fun v2 R' O2 => v2 = Go.SL.vs (shaE (txt ss.flatten)) ∧ (∀ p ∈ R, p ∈ R') ∧ O2 = O' ++ F) (l := ss.map txt) (List.mem_cons_of_mem _ ht) List.mem_cons_self (by rw [txt_flat]; simp only [txt, List.length_map]; omega) ⟨by rw [txt_flat], fun p hp => List.mem_cons_of_mem _ hp, rfl⟩ w hs2).mono ?_
           rintro e w' ⟨v2, R', O2, rfl, ⟨rfl, hR, rfl⟩, hs3⟩
           refine ⟨_, ρ, O', rfl, ?_, ?_, hH, hs3.thin hR⟩
           · show Ext ρ ρ h.nx h1.nx
             exact Ext.refl ..
           · show VR ρ (.st (shaN ss.flatten)) _
             rw [shaN_eq hlen]
             have := VR.st (ρ := ρ) (s := (shaE (txt ss.flatten)).map (·.toNat)) (fun n hn => by
              obtain ⟨b, _, rfl⟩ := List.mem_map.1 hn
              exact UInt8.toNat_lt b)
             rwa [txt_toNat] at this
   · cases hq
 · cases hq
end
end Go.Proofs.YtnjfgcpmcjmddaaGreatDoor
namespace Go.Ex
open Go Go.SL
noncomputable section
def prefB : List Nat → List Nat → Bool
 | [], _ => true
 | _ :: _, [] => false
 | a :: u, b :: s => ifb (Nat.beq a b) (prefB u s) false
def idxF (u : List Nat) : List Nat → Nat → Option Nat
 | [], k => ifb (prefB u []) (some k) none
 | b :: s, k => ifb (prefB u (b :: s)) (some k) (idxF u s (k + 1))
def idxA : Option Nat → AV
 | some k => .it .i64 (Int.ofNat k)
 | none => .it .i64 (-1)
def hasA : Option Nat → AV
 | some _ => .bo true
 | none => .bo false
def kIndex (l : List AV) (_ : Bs) (h : Go.Ex.Hp) : Option (AV × Go.Ex.Hp) := match l with
 | [.st s, .st u] => ifb (Nat.ble (ln s) 1000000) (some (idxA (idxF u s 0), h)) none
 | _ => none
def cntN (c : Nat) : List Nat → Nat
 | [] => 0
 | a :: r => ifb (Nat.beq a c) (Nat.succ (cntN c r)) (cntN c r)
def kCnt (l : List AV) (_ : Bs) (h : Go.Ex.Hp) : Option (AV × Go.Ex.Hp) := match l with
 | [.st s, .it .u8 n] => bnd (toN n) fun c => ifb (Nat.blt c 256) (fN (cntN c s) fun k => some (.it .i64 (Int.ofNat k), h)) none
 | _ => none
def kContains (l : List AV) (_ : Bs) (h : Go.Ex.Hp) : Option (AV × Go.Ex.Hp) := match l with
 | [.st s, .st u] => ifb (Nat.ble (ln s) 1000000) (some (hasA (idxF u s 0), h)) none
 | _ => none
end
theorem u8_of_inj {a b : Nat} (ha : a < 256) (hb : b < 256) (h : UInt8.ofNat a = UInt8.ofNat b) : a = b := by
 have := congrArg UInt8.toNat h
 rw [UInt8.toNat_ofNat', UInt8.toNat_ofNat'] at this
 omega
theorem prefB_eq : ∀ (u s : List Nat), (∀ n ∈ u, n < 256) → (∀ n ∈ s, n < 256) → prefB u s = (txt u).isPrefixOf (txt s)
 | [], s, _, _ => by cases s <;> rfl
 | _ :: _, [], _, _ => rfl
 | a :: u, b :: s, hu, hs => by
   have ih := prefB_eq u s (fun n h => hu n (List.mem_cons_of_mem _ h)) (fun n h => hs n (List.mem_cons_of_mem _ h))
   have ha := hu a List.mem_cons_self
   have hb := hs b List.mem_cons_self
   show ifb (Nat.beq a b) (prefB u s) false = (UInt8.ofNat a :: txt u).isPrefixOf (UInt8.ofNat b :: txt s)
   rw [List.isPrefixOf, ← ih, ifb_eq]
   by_cases e : a = b
   · subst e; simp
   · have e2 : ¬ UInt8.ofNat a = UInt8.ofNat b := fun h => e (u8_of_inj ha hb h)
     rw [if_neg (by rw [Nat.beq_eq]; exact e)]
     simp [e2]
def idxI : Option Nat → Int
 | some k => (k : Int)
 | none => -1
theorem idxF_add (u : List Nat) : ∀ (s : List Nat) (k : Nat), idxF u s k = (idxF u s 0).map (· + k)
 | [], k => by
   simp only [idxF, ifb_eq]
   split <;> simp
 | b :: s, k => by
   simp only [idxF, ifb_eq]
   split
   · simp
   · rw [idxF_add u s (k + 1), idxF_add u s (0 + 1), Option.map_map]
     congr 1
     funext j
     show j + (k + 1) = j + (0 + 1) + k
     omega
theorem idxF_eq (u : List Nat) (hu : ∀ n ∈ u, n < 256) : ∀ (s : List Nat), (∀ n ∈ s, n < 256) → Lib.index (txt s) (txt u) = idxI (idxF u s 0)
 | [], _ => by
   cases u with
   | nil => rfl
   | cons a u => rfl
 | b :: s, hs => by
   have ih := idxF_eq u hu s (fun n h => hs n (List.mem_cons_of_mem _ h))
   have hp := prefB_eq u (b :: s) hu hs
   show Lib.index (UInt8.ofNat b :: txt s) (txt u) = _
   rw [Lib.index, show (txt u).isPrefixOf (UInt8.ofNat b :: txt s) = prefB u (b :: s) from hp.symm, ih]
   simp only [idxF, ifb_eq]
   rw [idxF_add u s (0 + 1)]
   by_cases h : prefB u (b :: s) = true
   · rw [if_pos h, if_pos h]; rfl
   · rw [if_neg h, if_neg h]
     cases idxF u s 0 with
     | none => rfl
     | some k =>
       have : ((idxI (some k)) == (-1 : Int)) = false := by
        rw [beq_eq_false_iff_ne]
        show ¬ (k : Int) = -1
        omega
       rw [this]
       show (k : Int) + 1 = ((k + (0 + 1) : Nat) : Int)
       omega
theorem cntN_eq {c : Nat} (hc : c < 256) : ∀ {s : List Nat}, (∀ n ∈ s, n < 256) → cntN c s = Lib.countByte (txt s) (UInt8.ofNat c)
 | [], _ => rfl
 | a :: r, h => by
   have ha := h a List.mem_cons_self
   have ih := cntN_eq hc (s := r) fun n hn => h n (List.mem_cons_of_mem _ hn)
   show ifb (Nat.beq a c) (Nat.succ (cntN c r)) (cntN c r) = List.count (UInt8.ofNat c) (UInt8.ofNat a :: txt r)
   rw [List.count_cons, ifb_eq, ih]
   by_cases e : a = c
   · subst e
     rw [if_pos (by rw [Nat.beq_eq]), if_pos (by simp)]; rfl
   · rw [if_neg (by rw [Nat.beq_eq]; exact e), if_neg (by simp only [beq_iff_eq]; exact fun h2 => e (u8_of_inj ha hc h2))]; rfl
section
variable {P : Program} {R : List RO}
theorem kCnt_ok {g : Nat} {fn : Func} (hf : P.funcs[g]? = some fn) (hname : (fn.name == "runtime.NumGoroutine") = false) (hb : fn.body.isNone = true) (hn : Extern.findNext fn = none) (he : Extern.find fn = some Extern.BytealgCount.count) : KOne P R g kCnt := by
 intro args B h q hq
 unfold kCnt at hq
 split at hq
 · rename_i s n
   obtain ⟨c, hc, hq⟩ := bnd_some hq
   obtain ⟨hlt, hq⟩ := ifb_none hq
   have hlt := Nat.le_of_ble_eq_true hlt
   rw [fN_eq] at hq
   cases hq
   refine ⟨Nat.le_refl _, fun ρ OB O F vs w hvs H hN hs => .inr ?_⟩
   cases hvs with
   | cons h1 hr =>
     cases hr with
     | cons h2 hr =>
       cases hr
       cases h1 with
       | st hst =>
         cases h2
         obtain rfl := toN_some hc
         have hrun := Lib.run_countString (P := P) ⟨(txt s).toArray⟩ (c : Int) w
         have h3 := run_callFunc_extern hf hname hb hn he #[.string ⟨(txt s).toArray⟩, .int .u8 (c : Int)] w
         rw [hrun, Result.andThen_ok] at h3
         refine ⟨_, _, h3, _, ρ, O, rfl, Ext.refl .., ?_, H, hs⟩
         show VR ρ (.it .i64 (Int.ofNat (cntN c s))) _
         rw [cntN_eq (show c < 256 from hlt) hst]
         exact .it _ _
 · cases hq
end
end Go.Ex
namespace Go.Proofs.YtnjfgcpmcjmddaaGreatDoor
open Go Go.SL Go.Ex
def anyN (g : Nat) : RO := fun w => ∃ m, w.cell? ⟨g, 0, none⟩ = some (.int .i64 m)
section
variable {R : List RO} {O : List Own} {POST : Value → List RO → List Own → Prop}
theorem index2_spec {s sub : List UInt8} (hg : anyN 1 ∈ R) (hs : s.length < 4294967281) (hk : POST (.int .i64 (Lib.index s sub)) R O) : Fun Tryz.prog 209 #[vs s, vs sub] R O POST := fun w hw => by
 obtain ⟨m, hm⟩ := hw.read hg
 refine (Tryz.strings_Index ⟨s.toArray⟩ ⟨sub.toArray⟩ m w (by simpa [ByteArray.size] using hs) hm).mono fun e w' ⟨he, hb⟩ => ⟨_, R, O, he, hk, by rw [hb]; exact hw⟩
theorem kIndex_ok (hg : anyN 1 ∈ R) : KOne Tryz.prog R 209 kIndex := by
 refine .still Z.K fun args B h q hq => ?_
 unfold kIndex at hq
 split at hq
 · rename_i s u
   obtain ⟨hl, hq⟩ := ifb_none hq
   have hl := Nat.le_of_ble_eq_true hl
   rw [ln_eq] at hl
   cases hq
   refine ⟨rfl, fun ρ vs hvs => ?_⟩
   cases hvs with
   | cons h1 hr =>
     cases hr with
     | cons h2 hr =>
       cases hr
       cases h2 with
       | st hu =>
         cases h1 with
         | st hst =>
           refine ⟨.int .i64 (Lib.index (txt s) (txt u)), ?_, fun O => index2_spec hg (by simp [txt]; omega) ⟨rfl, rfl, rfl⟩⟩
           rw [idxF_eq u hu s hst]
           cases idxF u s 0 with
           | none => exact .it _ _
           | some k => exact .it _ _
 · cases hq
theorem contains2_spec {s sub : List UInt8} (hg : anyN 1 ∈ R) (hs : s.length < 4294967281) (hk : POST (.bool (Lib.contains s sub)) R O) : Fun Tryz.prog 242 #[vs s, vs sub] R O POST := fun w hw => by
 obtain ⟨m, hm⟩ := hw.read hg
 refine (Tryz.strings_Contains ⟨s.toArray⟩ ⟨sub.toArray⟩ m w (by simpa [ByteArray.size] using hs) hm).mono fun e w' ⟨he, hb⟩ => ⟨_, R, O, he, hk, by rw [hb]; exact hw⟩
theorem kContains_ok (hg : anyN 1 ∈ R) : KOne Tryz.prog R 242 kContains := by
 refine .still Z.K fun args B h q hq => ?_
 unfold kContains at hq
 split at hq
 · rename_i s u
   obtain ⟨hl, hq⟩ := ifb_none hq
   have hl := Nat.le_of_ble_eq_true hl
   rw [ln_eq] at hl
   cases hq
   refine ⟨rfl, fun ρ vs hvs => ?_⟩
   cases hvs with
   | cons h1 hr =>
     cases hr with
     | cons h2 hr =>
       cases hr
       cases h2 with
       | st hu =>
         cases h1 with
         | st hst =>
           refine ⟨.bool (Lib.contains (txt s) (txt u)), ?_, fun O => contains2_spec hg (by simp [txt]; omega) ⟨rfl, rfl, rfl⟩⟩
           unfold Lib.contains
           rw [idxF_eq u hu s hst]
           cases idxF u s 0 with
           | none => exact .bo _
           | some k =>
             rw [show decide (0 ≤ idxI (some k)) = true from decide_eq_true (Int.natCast_nonneg k)]
             exact .bo _
 · cases hq
end
end Go.Proofs.YtnjfgcpmcjmddaaGreatDoor
namespace Go.SL
open Go
section
variable {P : Program} {n : Sz} {o : Oper} {L : Env} {R : List RO} {O O' : List Own} {K : Env → List RO → List Own → Prop}
theorem Sat.setRow {b off : Nat} {e : TypeId} {cs : List Value} {v : Value} {w : World} (hs' : Sat R (rowC b e cs :: O) w) : Sat R (rowC b e (cs.set off v) :: O) (w.setCell ⟨b, off, none⟩ v) := by
 have hp : (rowC b e cs).pred w := hs'.see List.mem_cons_self
 have hlt' : b < w.heap.size := hs'.lt b (by simp [owned, rowC])
 refine hs'.update _ ⟨rfl, rfl, rfl, by simp, fun j hj hn => heap_setCell_other w _ _ v (by simpa [rowC] using hn)⟩ (by simp [rowC]) (by simpa [rowC] using hlt') (by simp [rowC]) (fun w'' ha _ => ?_)
 show w''.heap[b]? = _
 rw [ha.2.2.2.2 b (by simpa using hlt') (by simp [rowC])]
 exact setCell_row hp off v
theorem Sat.drew1 {w : World} (h : Sat R O w) : Sat R O w.drew := h.drew _
end
end Go.SL
namespace Go.Proofs.YtnjfgcpmcjmddaaGreatDoor
open Go Go.SL
namespace Once
theorem disable (w : World) : (callFunc 403 #[]).run Tryz.prog w = .ok (.value (.tuple #[])) w := run_call_mark0 Tryz.func403 Z.K Z.K Z.K .disable Z.K w
theorem enable (w : World) : (callFunc 405 #[]).run Tryz.prog w = .ok (.value (.tuple #[])) w := run_call_mark0 Tryz.func405 Z.K Z.K Z.K .enable Z.K w
theorem acquire (a : Addr) (w : World) : (callFunc 406 #[.pointer (some a)]).run Tryz.prog w = .ok (.value (.tuple #[])) w := run_call_marked Tryz.func406 Z.K Z.K Z.K .acquire Z.K a w
theorem releaseMerge (a : Addr) (w : World) : (callFunc 408 #[.pointer (some a)]).run Tryz.prog w = .ok (.value (.tuple #[])) w := run_call_marked Tryz.func408 Z.K Z.K Z.K .releaseMerge Z.K a w
theorem store_deferred (a : Addr) (x : Value) (u : FrameMode) (w : World) (hc : w.cell? a = some x) (hz : w.frozen? a = false) :
 CallsD Tryz.prog 384 #[.pointer (some a), .bool true] u w fun e u' w' => u' = u ∧ (e = .returned (.tuple #[]) ∧ w' = w.drew.setCell a (.int .u32 1)) := by
 have hc' : w.drew.cell? a = some x := by go_simp
 have hz' : w.drew.frozen? a = false := by go_simp
 have hst := run_call_store (P := Tryz.prog) Tryz.func395 Z.K Z.K Z.K Z.K (k := .u32) (y := 1) hc' hz'
 go_enter_d Tryz.func384, Tryz.ntmps384
 go_wp2
 go_region_calls
 all_goals (go_end0; exact ⟨rfl, rfl⟩)
set_option maxRecDepth 100000 in
theorem unlock_deferred (a : Addr) (u : FrameMode) (w : World) (hc : w.cell? a = some (.int .i32 1)) (hz : w.frozen? a = false) :
 CallsD Tryz.prog 383 #[.pointer (some a)] u w fun e u' w' => u' = u ∧ (e = .returned (.tuple #[]) ∧ w' = w.setCell a (.int .i32 0)) := by
 have hd := disable
 have he := enable
 have hr := releaseMerge
 have hadd := run_call_add (P := Tryz.prog) Tryz.func409 Z.K Z.K Z.K .i32 Z.K (y := -1) (s := 0) hc hz (by simp [go_sem]; rfl)
 have hcv := run_convert_to_unsafe (P := Tryz.prog) (src := 511) (dst := 353) Tryz.underlying511 Tryz.underlying353 Z.K hc
 go_enter_d Tryz.func383, Tryz.ntmps383
 go_wp2
 go_end0
 go_wp2
 go_end0
 exact ⟨rfl, rfl⟩
set_option maxRecDepth 100000 in
theorem lock_free (a : Addr) (w : World) (hc : w.cell? a = some (.int .i32 0)) (hz : w.frozen? a = false) :
 Calls Tryz.prog 382 #[.pointer (some a)] w fun e w' => e = .returned (.tuple #[]) ∧ w' = w.setCell a (.int .i32 1) := by
 have hd := disable
 have he := enable
 have ha := acquire
 have hcas := run_call_cas_hit (P := Tryz.prog) Tryz.func404 Z.K Z.K Z.K .i32 Z.K (y := 1) hc hz
 have hc' : (w.setCell a (.int .i32 1)).cell? a = some (.int .i32 1) := World.cell?_setCell_same w a _ hc
 have hcv := run_convert_to_unsafe (P := Tryz.prog) (src := 511) (dst := 353) Tryz.underlying511 Tryz.underlying353 Z.K hc'
 go_enter Tryz.func382, Tryz.ntmps382
 go_wp2
 first | go_end0 | (simp only [Exit.inBlock, Exit.then]; refine bodyPost_ret (results_none rfl _ _ _) rfl ?_) | refine bodyPost_ret (results_none rfl _ _ _) rfl ?_
 go_wp2
 go_end0
 exact ⟨rfl, rfl⟩
set_option maxRecDepth 100000 in
set_option maxHeartbeats 1600000 in
theorem slow_any (b off f : Nat) (fa fc : List Value) (hf : hasBody Tryz.prog f = true) (Q : World → Prop) (w : World) (h0 : w.cell? ⟨b, off, none⟩ = some (.int .u32 0)) (h1 : w.cell? ⟨b, off + 1, none⟩ = some (.int .i32 0))
 (f0 : w.frozen? ⟨b, off, none⟩ = false) (f1 : w.frozen? ⟨b, off + 1, none⟩ = false)
 (hc : Calls Tryz.prog f (fa.toArray ++ fc.toArray) (w.setCell ⟨b, off + 1, none⟩ (.int .i32 1)) fun e w' => ∃ v, e = .returned v ∧ Q w' ∧ w'.cell? ⟨b, off, none⟩ = some (.int .u32 0) ∧ w'.cell? ⟨b, off + 1, none⟩ = some (.int .i32 1) ∧ w'.frozen? ⟨b, off, none⟩ = false ∧ w'.frozen? ⟨b, off + 1, none⟩ = false) :
 Calls Tryz.prog 369 #[.pointer (some ⟨b, off, none⟩), .func (.func f) fa.toArray fc.toArray] w fun e w' => e = .returned (.tuple #[]) ∧ ∃ w2, Q w2 ∧ w' = (w2.drew.setCell ⟨b, off, none⟩ (.int .u32 1)).setCell ⟨b, off + 1, none⟩ (.int .i32 0) := by
 have hl := run_call_load (P := Tryz.prog) Tryz.func381 Z.K Z.K Z.K .u32 Z.K (w := w.setCell ⟨b, off + 1, none⟩ (.int .i32 1)) (a := ⟨b, off, none⟩) (x := 0) ((World.cell?_setCell_other _ ⟨b, off + 1, none⟩ ⟨b, off, none⟩ _ (by simp)).trans h0)
 have hnot : ∀ (x : Bool) (w : World), (Op.unary .not (.bool x)).run Tryz.prog w = .ok (.bool (!x)) w := fun _ _ => rfl
 have hcf : ∀ (args : Array Value) (w : World), (callFunc f args).run Tryz.prog w = .ok (.enter f args) w := fun args w => run_callFunc hf args w
 go_enter_defers Tryz.func369, Tryz.ntmps369
 go_wp2_with (go_at_call 382; refine (lock_free ⟨b, off + 1, none⟩ _ (by go_simp) (by go_simp)).mono ?_; rintro e w' ⟨rfl, rfl⟩)
 go_wp2
 have hc2 : Calls Tryz.prog f (fa ++ fc).toArray (w.setCell ⟨b, off + 1, none⟩ (.int .i32 1)) fun e w' => ∃ v, e = .returned v ∧ Q w' ∧ w'.cell? ⟨b, off, none⟩ = some (.int .u32 0) ∧ w'.cell? ⟨b, off + 1, none⟩ = some (.int .i32 1) ∧ w'.frozen? ⟨b, off, none⟩ = false ∧ w'.frozen? ⟨b, off + 1, none⟩ = false := by simpa using hc
 refine hc2.mono ?_
 rintro e w1 ⟨v, rfl, hQ, c0, c1, z0, z1⟩
 go_wp2
 refine leaves_cons (f := 384) (args := #[.pointer (some ⟨b, off, none⟩), .bool true]) (by simp) (by simp [go_sem]) ?_
 refine (store_deferred ⟨b, off, none⟩ (.int .u32 0) .returning _ c0 z0).mono ?_
 rintro e u' w'' ⟨rfl, rfl, rfl⟩
 refine leaves_cons (f := 383) (args := #[.pointer (some ⟨b, off + 1, none⟩)]) (by simp [settle]) (by simp [go_sem]) ?_
 refine (unlock_deferred ⟨b, off + 1, none⟩ _ _ ?_ (by simp [z1])).mono ?_
 · refine (World.cell?_setCell_other _ ⟨b, off, none⟩ ⟨b, off + 1, none⟩ _ (by simp)).trans ?_
   rw [World.cell?_drew]
   exact c1
 rintro e u' w'' ⟨rfl, rfl, rfl⟩
 simp [Leaves, settle, results, Tryz.results369]
 exact ⟨w1, hQ, rfl⟩
set_option maxRecDepth 100000 in
theorem load_at (a : Addr) (w : World) (h0 : w.cell? a = some (.int .u32 0)) : Calls Tryz.prog 368 #[.pointer (some a)] w fun e w' => e = .returned (.bool false) ∧ w = w' := by
 have hl := run_call_load (P := Tryz.prog) Tryz.func381 Z.K Z.K Z.K .u32 Z.K (w := w) (a := a) (x := 0) h0
 go_enter Tryz.func368, Tryz.ntmps368
 go_wp2
 go_ret
 simp
set_option maxRecDepth 100000 in
theorem do_run (b off f : Nat) (fa fc : List Value) (hf : hasBody Tryz.prog f = true) (Q : World → Prop) (w : World) (h0 : w.cell? ⟨b, off, none⟩ = some (.int .u32 0)) (h1 : w.cell? ⟨b, off + 1, none⟩ = some (.int .i32 0))
 (f0 : w.frozen? ⟨b, off, none⟩ = false) (f1 : w.frozen? ⟨b, off + 1, none⟩ = false)
 (hc : Calls Tryz.prog f (fa.toArray ++ fc.toArray) (w.setCell ⟨b, off + 1, none⟩ (.int .i32 1)) fun e w' => ∃ v, e = .returned v ∧ Q w' ∧ w'.cell? ⟨b, off, none⟩ = some (.int .u32 0) ∧ w'.cell? ⟨b, off + 1, none⟩ = some (.int .i32 1) ∧ w'.frozen? ⟨b, off, none⟩ = false ∧ w'.frozen? ⟨b, off + 1, none⟩ = false) :
 Calls Tryz.prog 345 #[.pointer (some ⟨b, off, none⟩), .func (.func f) fa.toArray fc.toArray] w fun e w' => e = .returned (.tuple #[]) ∧ ∃ w2, Q w2 ∧ w' = (w2.drew.setCell ⟨b, off, none⟩ (.int .u32 1)).setCell ⟨b, off + 1, none⟩ (.int .i32 0) := by
 have hnot : ∀ (x : Bool) (w : World), (Op.unary .not (.bool x)).run Tryz.prog w = .ok (.bool (!x)) w := fun _ _ => rfl
 go_enter Tryz.func345, Tryz.ntmps345
 go_wp2_with (first | (go_at_call 368; refine (load_at ⟨b, off, none⟩ w h0).mono ?_; rintro e w' ⟨rfl, rfl⟩) | (go_at_call 369; refine (slow_any b off f fa fc hf Q w h0 h1 f0 f1 hc).mono ?_; rintro e w' ⟨rfl, w2, hQ, rfl⟩))
 go_end0
 exact ⟨rfl, w2, hQ, rfl⟩
set_option maxRecDepth 100000 in
theorem do_done (b off f : Nat) (fa fc : List Value) (w : World) (h0 : w.cell? ⟨b, off, none⟩ = some (.int .u32 1)) :
 Calls Tryz.prog 345 #[.pointer (some ⟨b, off, none⟩), .func (.func f) fa.toArray fc.toArray] w fun e w' => e = .returned (.tuple #[]) ∧ w' = w := by
 have hl := run_call_load (P := Tryz.prog) Tryz.func381 Z.K Z.K Z.K .u32 Z.K (w := w) (a := ⟨b, off, none⟩) (x := 1) h0
 have hnot : ∀ (x : Bool) (w : World), (Op.unary .not (.bool x)).run Tryz.prog w = .ok (.bool (!x)) w := fun _ _ => rfl
 go_enter Tryz.func345, Tryz.ntmps345
 go_wp2
 go_end0
 exact ⟨rfl, rfl⟩
end Once
theorem row_two {cs : List Value} {off : Nat} {a b : Value} {b' t : Nat} {R : List RO} {O : List Own} {w : World} (hs : Sat R (rowC b' t cs :: O) w) (h1 : off + 1 < cs.length) : Sat R (rowC b' t (Go.SL.spl cs off [a, b]) :: O) ((w.setCell ⟨b', off, none⟩ a).setCell ⟨b', off + 1, none⟩ b) := by
 rw [spl_two h1]
 exact (hs.setRow (off := off) (v := a)).setRow (off := off + 1) (v := b)
theorem once_t {R : List RO} : Go.Ex.OnceT Tryz.prog R 345 where
 body := by kernel_rfl
 done g off t f cs fa fc O w hc hs := by
  have hp : (rowC g t cs).pred w := hs.see List.mem_cons_self
  refine (Once.do_done g off f fa fc w (row_cell hp hc)).mono ?_
  rintro e w' ⟨rfl, rfl⟩
  exact ⟨rfl, hs⟩
 run g off t f cs fa fc O w Q hc0 hc1 hb hs hcall := by
  have hp : (rowC g t cs).pred w := hs.see List.mem_cons_self
  have hlt1 : off + 1 < cs.length := (List.getElem?_eq_some_iff.1 hc1).1
  have hspl : Go.SL.spl cs (off + 1) [.int .i32 1] = cs.set (off + 1) (.int .i32 1) := by
   unfold Go.SL.spl
   rw [List.set_eq_take_append_cons_drop, if_pos hlt1]
   simp
  have hs1 : Sat R (rowC g t (Go.SL.spl cs (off + 1) [.int .i32 1]) :: O) (w.setCell ⟨g, off + 1, none⟩ (.int .i32 1)) := by
   rw [hspl]; exact hs.setRow
  have hc := hcall _ hs1
  refine (Once.do_run g off f fa fc hb (fun w' => ∃ t' cs' O', cs'[off]? = some (.int .u32 0) ∧ cs'[off + 1]? = some (.int .i32 1) ∧ Q t' cs' O' ∧ Sat R (rowC g t' cs' :: O') w') w (row_cell hp hc0) (row_cell hp hc1) (row_free hp off) (row_free hp (off + 1)) ?_).mono ?_
  · have : fa.toArray ++ fc.toArray = (fa ++ fc).toArray := by simp
    rw [this]
    refine hc.mono ?_
    rintro e w' ⟨v, t', cs', O', rfl, h0, h1, hQ, hs'⟩
    have hp' : (rowC g t' cs').pred w' := hs'.see List.mem_cons_self
    exact ⟨v, rfl, ⟨t', cs', O', h0, h1, hQ, hs'⟩, row_cell hp' h0, row_cell hp' h1, row_free hp' off, row_free hp' (off + 1)⟩
  · rintro e w' ⟨rfl, w2, ⟨t', cs', O', h0, h1, hQ, hs'⟩, rfl⟩
    exact ⟨t', cs', O', rfl, hQ, row_two hs'.drew1 (List.getElem?_eq_some_iff.1 h1).1⟩
end Go.Proofs.YtnjfgcpmcjmddaaGreatDoor
namespace Go.Proofs.YtnjfgcpmcjmddaaGreatDoor
open Go Go.SL Go.Ex
noncomputable def kk_reads : List (Nat × KF) := [(109, kWriteString Tryz.prog 5 207), (110, kString 5), (94, kRepeat), (176, kCrc), (124, kSha), (331, kIdxB), (330, kCnt), (209, kIndex), (242, kContains), (230, kAtomAdd)]
noncomputable def qq_reads : List (Nat × List KQ) := [(54, [.s, .b]), (143, [.i .i64, .s])]
noncomputable def kx_reads : Fx := { P := Tryz.prog, G := fun _ => none, K := kfind kk_reads, Q := kfind qq_reads, once := 345 }
theorem run_reads : good (runF kx_reads 100000 351 [] [] h0) = true := by kernel_rfl
section
variable {R : List RO} {O : List Own} {POST : Value → List RO → List Own → Prop}
theorem kt_reads (ht : tabR ∈ R) (hr : rootsR ∈ R) (hg : anyN 1 ∈ R) : ∀ x ∈ kk_reads, KOne Tryz.prog R x.1 x.2 := by
 intro x hx
 unfold kk_reads at hx
 rcases List.mem_cons.1 hx with rfl | hx
 · exact kWriteString_ok
 rcases List.mem_cons.1 hx with rfl | hx
 · exact kString_ok
 rcases List.mem_cons.1 hx with rfl | hx
 · exact kRepeat_ok
 rcases List.mem_cons.1 hx with rfl | hx
 · exact kCrc_ok ht
 rcases List.mem_cons.1 hx with rfl | hx
 · exact kSha_ok hr
 rcases List.mem_cons.1 hx with rfl | hx
 · exact kIdxB_ok Tryz.func331 Z.K Z.K Z.K Z.K
 rcases List.mem_cons.1 hx with rfl | hx
 · exact kCnt_ok Tryz.func330 Z.K Z.K Z.K Z.K
 rcases List.mem_cons.1 hx with rfl | hx
 · exact kIndex_ok hg
 rcases List.mem_cons.1 hx with rfl | hx
 · exact kContains_ok hg
 rcases List.mem_cons.1 hx with rfl | hx
 · exact kAtomAdd_ok Tryz.func230 Z.K Z.K Z.K Z.K
 cases hx
theorem fx_reads (ht : tabR ∈ R) (hr : rootsR ∈ R) (hg : anyN 1 ∈ R) : FxOk kx_reads R where
 q := QOk.of (qtab_ok (P := Tryz.prog) (l := qq_reads) Z.K)
 g := fun g cs h => by cases h
 k := KTab.of (P := Tryz.prog) (l := kk_reads) (kt_reads ht hr hg) rfl rfl
 mix := by kernel_rfl
 once := fun _ => once_t
theorem reads_spec (ht : tabR ∈ R) (hr : rootsR ∈ R) (hg : anyN 1 ∈ R) (hk : POST (.bool true) R O) : Fun Tryz.prog 351 #[] R O POST := trial_ok (fx_reads ht hr hg) Z.K run_reads hk
end
end Go.Proofs.YtnjfgcpmcjmddaaGreatDoor
namespace Go.Proofs.YtnjfgcpmcjmddaaGreatDoor
open Go Go.SL Go.Ex
noncomputable def kk_makes : List (Nat × KF) := [(109, kWriteString Tryz.prog 5 207), (110, kString 5), (94, kRepeat), (176, kCrc), (124, kSha), (331, kIdxB), (330, kCnt), (209, kIndex), (242, kContains), (230, kAtomAdd), (351, kTrue)]
noncomputable def qq_makes : List (Nat × List KQ) := [(54, [.s, .b]), (143, [.i .i64, .s])]
noncomputable def kx_makes : Fx := { P := Tryz.prog, G := fun _ => none, K := kfind kk_makes, Q := kfind qq_makes, once := 345 }
theorem run_makes : good (runF kx_makes 100000 322 [] [] h0) = true := by kernel_rfl
section
variable {R : List RO} {O : List Own} {POST : Value → List RO → List Own → Prop}
theorem kt_makes (ht : tabR ∈ R) (hr : rootsR ∈ R) (hg : anyN 1 ∈ R) : ∀ x ∈ kk_makes, KOne Tryz.prog R x.1 x.2 := by
 intro x hx
 unfold kk_makes at hx
 rcases List.mem_cons.1 hx with rfl | hx
 · exact kWriteString_ok
 rcases List.mem_cons.1 hx with rfl | hx
 · exact kString_ok
 rcases List.mem_cons.1 hx with rfl | hx
 · exact kRepeat_ok
 rcases List.mem_cons.1 hx with rfl | hx
 · exact kCrc_ok ht
 rcases List.mem_cons.1 hx with rfl | hx
 · exact kSha_ok hr
 rcases List.mem_cons.1 hx with rfl | hx
 · exact kIdxB_ok Tryz.func331 Z.K Z.K Z.K Z.K
 rcases List.mem_cons.1 hx with rfl | hx
 · exact kCnt_ok Tryz.func330 Z.K Z.K Z.K Z.K
 rcases List.mem_cons.1 hx with rfl | hx
 · exact kIndex_ok hg
 rcases List.mem_cons.1 hx with rfl | hx
 · exact kContains_ok hg
 rcases List.mem_cons.1 hx with rfl | hx
 · exact kAtomAdd_ok Tryz.func230 Z.K Z.K Z.K Z.K
 rcases List.mem_cons.1 hx with rfl | hx
 · exact kTrue_ok Z.K fun O POST hk => reads_spec ht hr hg hk
 cases hx
theorem fx_makes (ht : tabR ∈ R) (hr : rootsR ∈ R) (hg : anyN 1 ∈ R) : FxOk kx_makes R where
 q := QOk.of (qtab_ok (P := Tryz.prog) (l := qq_makes) Z.K)
 g := fun g cs h => by cases h
 k := KTab.of (P := Tryz.prog) (l := kk_makes) (kt_makes ht hr hg) rfl rfl
 mix := by kernel_rfl
 once := fun _ => once_t
theorem makes_spec (ht : tabR ∈ R) (hr : rootsR ∈ R) (hg : anyN 1 ∈ R) (hk : POST (.bool true) R O) : Fun Tryz.prog 322 #[] R O POST := trial_ok (fx_makes ht hr hg) Z.K run_makes hk
end
end Go.Proofs.YtnjfgcpmcjmddaaGreatDoor
namespace Go.Proofs.YtnjfgcpmcjmddaaGreatDoor
open Go Go.SL Go.Ex
noncomputable def kk_stores : List (Nat × KF) := [(109, kWriteString Tryz.prog 5 207), (110, kString 5), (94, kRepeat), (176, kCrc), (124, kSha), (331, kIdxB), (330, kCnt), (209, kIndex), (242, kContains), (230, kAtomAdd), (351, kTrue), (322, kTrue)]
noncomputable def qq_stores : List (Nat × List KQ) := [(54, [.s, .b]), (143, [.i .i64, .s])]
noncomputable def kx_stores : Fx := { P := Tryz.prog, G := fun _ => none, K := kfind kk_stores, Q := kfind qq_stores, once := 345 }
theorem run_stores : good (runF kx_stores 100000 273 [] [] h0) = true := by kernel_rfl
section
variable {R : List RO} {O : List Own} {POST : Value → List RO → List Own → Prop}
theorem kt_stores (ht : tabR ∈ R) (hr : rootsR ∈ R) (hg : anyN 1 ∈ R) : ∀ x ∈ kk_stores, KOne Tryz.prog R x.1 x.2 := by
 intro x hx
 unfold kk_stores at hx
 rcases List.mem_cons.1 hx with rfl | hx
 · exact kWriteString_ok
 rcases List.mem_cons.1 hx with rfl | hx
 · exact kString_ok
 rcases List.mem_cons.1 hx with rfl | hx
 · exact kRepeat_ok
 rcases List.mem_cons.1 hx with rfl | hx
 · exact kCrc_ok ht
 rcases List.mem_cons.1 hx with rfl | hx
 · exact kSha_ok hr
 rcases List.mem_cons.1 hx with rfl | hx
 · exact kIdxB_ok Tryz.func331 Z.K Z.K Z.K Z.K
 rcases List.mem_cons.1 hx with rfl | hx
 · exact kCnt_ok Tryz.func330 Z.K Z.K Z.K Z.K
 rcases List.mem_cons.1 hx with rfl | hx
 · exact kIndex_ok hg
 rcases List.mem_cons.1 hx with rfl | hx
 · exact kContains_ok hg
 rcases List.mem_cons.1 hx with rfl | hx
 · exact kAtomAdd_ok Tryz.func230 Z.K Z.K Z.K Z.K
 rcases List.mem_cons.1 hx with rfl | hx
 · exact kTrue_ok Z.K fun O POST hk => reads_spec ht hr hg hk
 rcases List.mem_cons.1 hx with rfl | hx
 · exact kTrue_ok Z.K fun O POST hk => makes_spec ht hr hg hk
 cases hx
theorem fx_stores (ht : tabR ∈ R) (hr : rootsR ∈ R) (hg : anyN 1 ∈ R) : FxOk kx_stores R where
 q := QOk.of (qtab_ok (P := Tryz.prog) (l := qq_stores) Z.K)
 g := fun g cs h => by cases h
 k := KTab.of (P := Tryz.prog) (l := kk_stores) (kt_stores ht hr hg) rfl rfl
 mix := by kernel_rfl
 once := fun _ => once_t
theorem stores_spec (ht : tabR ∈ R) (hr : rootsR ∈ R) (hg : anyN 1 ∈ R) (hk : POST (.bool true) R O) : Fun Tryz.prog 273 #[] R O POST := trial_ok (fx_stores ht hr hg) Z.K run_stores hk
end
end Go.Proofs.YtnjfgcpmcjmddaaGreatDoor
namespace Go.Proofs.YtnjfgcpmcjmddaaGreatDoor
open Go Go.SL Go.Ex
noncomputable def kk_splits : List (Nat × KF) := [(109, kWriteString Tryz.prog 5 207), (110, kString 5), (94, kRepeat), (176, kCrc), (124, kSha), (331, kIdxB), (330, kCnt), (209, kIndex), (242, kContains), (230, kAtomAdd), (351, kTrue), (322, kTrue), (273, kTrue)]
noncomputable def qq_splits : List (Nat × List KQ) := [(54, [.s, .b]), (143, [.i .i64, .s])]
noncomputable def kx_splits : Fx := { P := Tryz.prog, G := fun _ => none, K := kfind kk_splits, Q := kfind qq_splits, once := 345 }
theorem run_splits : good (runF kx_splits 100000 206 [] [] h0) = true := by kernel_rfl
section
variable {R : List RO} {O : List Own} {POST : Value → List RO → List Own → Prop}
theorem kt_splits (ht : tabR ∈ R) (hr : rootsR ∈ R) (hg : anyN 1 ∈ R) : ∀ x ∈ kk_splits, KOne Tryz.prog R x.1 x.2 := by
 intro x hx
 unfold kk_splits at hx
 rcases List.mem_cons.1 hx with rfl | hx
 · exact kWriteString_ok
 rcases List.mem_cons.1 hx with rfl | hx
 · exact kString_ok
 rcases List.mem_cons.1 hx with rfl | hx
 · exact kRepeat_ok
 rcases List.mem_cons.1 hx with rfl | hx
 · exact kCrc_ok ht
 rcases List.mem_cons.1 hx with rfl | hx
 · exact kSha_ok hr
 rcases List.mem_cons.1 hx with rfl | hx
 · exact kIdxB_ok Tryz.func331 Z.K Z.K Z.K Z.K
 rcases List.mem_cons.1 hx with rfl | hx
 · exact kCnt_ok Tryz.func330 Z.K Z.K Z.K Z.K
 rcases List.mem_cons.1 hx with rfl | hx
 · exact kIndex_ok hg
 rcases List.mem_cons.1 hx with rfl | hx
 · exact kContains_ok hg
 rcases List.mem_cons.1 hx with rfl | hx
 · exact kAtomAdd_ok Tryz.func230 Z.K Z.K Z.K Z.K
 rcases List.mem_cons.1 hx with rfl | hx
 · exact kTrue_ok Z.K fun O POST hk => reads_spec ht hr hg hk
 rcases List.mem_cons.1 hx with rfl | hx
 · exact kTrue_ok Z.K fun O POST hk => makes_spec ht hr hg hk
 rcases List.mem_cons.1 hx with rfl | hx
 · exact kTrue_ok Z.K fun O POST hk => stores_spec ht hr hg hk
 cases hx
theorem fx_splits (ht : tabR ∈ R) (hr : rootsR ∈ R) (hg : anyN 1 ∈ R) : FxOk kx_splits R where
 q := QOk.of (qtab_ok (P := Tryz.prog) (l := qq_splits) Z.K)
 g := fun g cs h => by cases h
 k := KTab.of (P := Tryz.prog) (l := kk_splits) (kt_splits ht hr hg) rfl rfl
 mix := by kernel_rfl
 once := fun _ => once_t
theorem splits_spec (ht : tabR ∈ R) (hr : rootsR ∈ R) (hg : anyN 1 ∈ R) (hk : POST (.bool true) R O) : Fun Tryz.prog 206 #[] R O POST := trial_ok (fx_splits ht hr hg) Z.K run_splits hk
end
end Go.Proofs.YtnjfgcpmcjmddaaGreatDoor
namespace Go.Proofs.YtnjfgcpmcjmddaaGreatDoor
open Go Go.SL Go.Ex
noncomputable def kk_objects : List (Nat × KF) := [(109, kWriteString Tryz.prog 5 207), (110, kString 5), (94, kRepeat), (176, kCrc), (124, kSha), (331, kIdxB), (330, kCnt), (209, kIndex), (242, kContains), (230, kAtomAdd), (351, kTrue), (322, kTrue), (273, kTrue), (206, kTrue)]
noncomputable def qq_objects : List (Nat × List KQ) := [(54, [.s, .b]), (143, [.i .i64, .s])]
noncomputable def kx_objects : Fx := { P := Tryz.prog, G := fun _ => none, K := kfind kk_objects, Q := kfind qq_objects, once := 345 }
theorem run_objects : good (runF kx_objects 100000 137 [] [] h0) = true := by kernel_rfl
section
variable {R : List RO} {O : List Own} {POST : Value → List RO → List Own → Prop}
theorem kt_objects (ht : tabR ∈ R) (hr : rootsR ∈ R) (hg : anyN 1 ∈ R) : ∀ x ∈ kk_objects, KOne Tryz.prog R x.1 x.2 := by
 intro x hx
 unfold kk_objects at hx
 rcases List.mem_cons.1 hx with rfl | hx
 · exact kWriteString_ok
 rcases List.mem_cons.1 hx with rfl | hx
 · exact kString_ok
 rcases List.mem_cons.1 hx with rfl | hx
 · exact kRepeat_ok
 rcases List.mem_cons.1 hx with rfl | hx
 · exact kCrc_ok ht
 rcases List.mem_cons.1 hx with rfl | hx
 · exact kSha_ok hr
 rcases List.mem_cons.1 hx with rfl | hx
 · exact kIdxB_ok Tryz.func331 Z.K Z.K Z.K Z.K
 rcases List.mem_cons.1 hx with rfl | hx
 · exact kCnt_ok Tryz.func330 Z.K Z.K Z.K Z.K
 rcases List.mem_cons.1 hx with rfl | hx
 · exact kIndex_ok hg
 rcases List.mem_cons.1 hx with rfl | hx
 · exact kContains_ok hg
 rcases List.mem_cons.1 hx with rfl | hx
 · exact kAtomAdd_ok Tryz.func230 Z.K Z.K Z.K Z.K
 rcases List.mem_cons.1 hx with rfl | hx
 · exact kTrue_ok Z.K fun O POST hk => reads_spec ht hr hg hk
 rcases List.mem_cons.1 hx with rfl | hx
 · exact kTrue_ok Z.K fun O POST hk => makes_spec ht hr hg hk
 rcases List.mem_cons.1 hx with rfl | hx
 · exact kTrue_ok Z.K fun O POST hk => stores_spec ht hr hg hk
 rcases List.mem_cons.1 hx with rfl | hx
 · exact kTrue_ok Z.K fun O POST hk => splits_spec ht hr hg hk
 cases hx
theorem fx_objects (ht : tabR ∈ R) (hr : rootsR ∈ R) (hg : anyN 1 ∈ R) : FxOk kx_objects R where
 q := QOk.of (qtab_ok (P := Tryz.prog) (l := qq_objects) Z.K)
 g := fun g cs h => by cases h
 k := KTab.of (P := Tryz.prog) (l := kk_objects) (kt_objects ht hr hg) rfl rfl
 mix := by kernel_rfl
 once := fun _ => once_t
theorem objects_spec (ht : tabR ∈ R) (hr : rootsR ∈ R) (hg : anyN 1 ∈ R) (hk : POST (.bool true) R O) : Fun Tryz.prog 137 #[] R O POST := trial_ok (fx_objects ht hr hg) Z.K run_objects hk
end
end Go.Proofs.YtnjfgcpmcjmddaaGreatDoor
namespace Go.Proofs.YtnjfgcpmcjmddaaGreatDoor
open Go Go.SL Go.Ex
noncomputable def kk_lies : List (Nat × KF) := [(109, kWriteString Tryz.prog 5 207), (110, kString 5), (94, kRepeat), (176, kCrc), (124, kSha), (331, kIdxB), (330, kCnt), (209, kIndex), (242, kContains), (230, kAtomAdd), (351, kTrue), (322, kTrue), (273, kTrue), (206, kTrue), (137, kTrue)]
noncomputable def qq_lies : List (Nat × List KQ) := [(54, [.s, .b]), (143, [.i .i64, .s])]
noncomputable def kx_lies : Fx := { P := Tryz.prog, G := fun _ => none, K := kfind kk_lies, Q := kfind qq_lies, once := 345 }
theorem run_lies : good (runF kx_lies 100000 83 [] [] h0) = true := by kernel_rfl
section
variable {R : List RO} {O : List Own} {POST : Value → List RO → List Own → Prop}
theorem kt_lies (ht : tabR ∈ R) (hr : rootsR ∈ R) (hg : anyN 1 ∈ R) : ∀ x ∈ kk_lies, KOne Tryz.prog R x.1 x.2 := by
 intro x hx
 unfold kk_lies at hx
 rcases List.mem_cons.1 hx with rfl | hx
 · exact kWriteString_ok
 rcases List.mem_cons.1 hx with rfl | hx
 · exact kString_ok
 rcases List.mem_cons.1 hx with rfl | hx
 · exact kRepeat_ok
 rcases List.mem_cons.1 hx with rfl | hx
 · exact kCrc_ok ht
 rcases List.mem_cons.1 hx with rfl | hx
 · exact kSha_ok hr
 rcases List.mem_cons.1 hx with rfl | hx
 · exact kIdxB_ok Tryz.func331 Z.K Z.K Z.K Z.K
 rcases List.mem_cons.1 hx with rfl | hx
 · exact kCnt_ok Tryz.func330 Z.K Z.K Z.K Z.K
 rcases List.mem_cons.1 hx with rfl | hx
 · exact kIndex_ok hg
 rcases List.mem_cons.1 hx with rfl | hx
 · exact kContains_ok hg
 rcases List.mem_cons.1 hx with rfl | hx
 · exact kAtomAdd_ok Tryz.func230 Z.K Z.K Z.K Z.K
 rcases List.mem_cons.1 hx with rfl | hx
 · exact kTrue_ok Z.K fun O POST hk => reads_spec ht hr hg hk
 rcases List.mem_cons.1 hx with rfl | hx
 · exact kTrue_ok Z.K fun O POST hk => makes_spec ht hr hg hk
 rcases List.mem_cons.1 hx with rfl | hx
 · exact kTrue_ok Z.K fun O POST hk => stores_spec ht hr hg hk
 rcases List.mem_cons.1 hx with rfl | hx
 · exact kTrue_ok Z.K fun O POST hk => splits_spec ht hr hg hk
 rcases List.mem_cons.1 hx with rfl | hx
 · exact kTrue_ok Z.K fun O POST hk => objects_spec ht hr hg hk
 cases hx
theorem fx_lies (ht : tabR ∈ R) (hr : rootsR ∈ R) (hg : anyN 1 ∈ R) : FxOk kx_lies R where
 q := QOk.of (qtab_ok (P := Tryz.prog) (l := qq_lies) Z.K)
 g := fun g cs h => by cases h
 k := KTab.of (P := Tryz.prog) (l := kk_lies) (kt_lies ht hr hg) rfl rfl
 mix := by kernel_rfl
 once := fun _ => once_t
theorem lies_spec (ht : tabR ∈ R) (hr : rootsR ∈ R) (hg : anyN 1 ∈ R) (hk : POST (.bool true) R O) : Fun Tryz.prog 83 #[] R O POST := trial_ok (fx_lies ht hr hg) Z.K run_lies hk
end
end Go.Proofs.YtnjfgcpmcjmddaaGreatDoor
namespace Go.Proofs.YtnjfgcpmcjmddaaGreatDoor
open Go Go.SL Go.Ex
noncomputable def kk_shelved : List (Nat × KF) := [(109, kWriteString Tryz.prog 5 207), (110, kString 5), (94, kRepeat), (176, kCrc), (124, kSha), (331, kIdxB), (330, kCnt), (209, kIndex), (242, kContains), (230, kAtomAdd), (351, kTrue), (322, kTrue), (273, kTrue), (206, kTrue), (137, kTrue), (83, kTrue)]
noncomputable def qq_shelved : List (Nat × List KQ) := [(54, [.s, .b]), (143, [.i .i64, .s])]
noncomputable def kx_shelved : Fx := { P := Tryz.prog, G := fun _ => none, K := kfind kk_shelved, Q := kfind qq_shelved, once := 345 }
theorem run_shelved : good (runF kx_shelved 100000 48 [] [] h0) = true := by kernel_rfl
section
variable {R : List RO} {O : List Own} {POST : Value → List RO → List Own → Prop}
theorem kt_shelved (ht : tabR ∈ R) (hr : rootsR ∈ R) (hg : anyN 1 ∈ R) : ∀ x ∈ kk_shelved, KOne Tryz.prog R x.1 x.2 := by
 intro x hx
 unfold kk_shelved at hx
 rcases List.mem_cons.1 hx with rfl | hx
 · exact kWriteString_ok
 rcases List.mem_cons.1 hx with rfl | hx
 · exact kString_ok
 rcases List.mem_cons.1 hx with rfl | hx
 · exact kRepeat_ok
 rcases List.mem_cons.1 hx with rfl | hx
 · exact kCrc_ok ht
 rcases List.mem_cons.1 hx with rfl | hx
 · exact kSha_ok hr
 rcases List.mem_cons.1 hx with rfl | hx
 · exact kIdxB_ok Tryz.func331 Z.K Z.K Z.K Z.K
 rcases List.mem_cons.1 hx with rfl | hx
 · exact kCnt_ok Tryz.func330 Z.K Z.K Z.K Z.K
 rcases List.mem_cons.1 hx with rfl | hx
 · exact kIndex_ok hg
 rcases List.mem_cons.1 hx with rfl | hx
 · exact kContains_ok hg
 rcases List.mem_cons.1 hx with rfl | hx
 · exact kAtomAdd_ok Tryz.func230 Z.K Z.K Z.K Z.K
 rcases List.mem_cons.1 hx with rfl | hx
 · exact kTrue_ok Z.K fun O POST hk => reads_spec ht hr hg hk
 rcases List.mem_cons.1 hx with rfl | hx
 · exact kTrue_ok Z.K fun O POST hk => makes_spec ht hr hg hk
 rcases List.mem_cons.1 hx with rfl | hx
 · exact kTrue_ok Z.K fun O POST hk => stores_spec ht hr hg hk
 rcases List.mem_cons.1 hx with rfl | hx
 · exact kTrue_ok Z.K fun O POST hk => splits_spec ht hr hg hk
 rcases List.mem_cons.1 hx with rfl | hx
 · exact kTrue_ok Z.K fun O POST hk => objects_spec ht hr hg hk
 rcases List.mem_cons.1 hx with rfl | hx
 · exact kTrue_ok Z.K fun O POST hk => lies_spec ht hr hg hk
 cases hx
theorem fx_shelved (ht : tabR ∈ R) (hr : rootsR ∈ R) (hg : anyN 1 ∈ R) : FxOk kx_shelved R where
 q := QOk.of (qtab_ok (P := Tryz.prog) (l := qq_shelved) Z.K)
 g := fun g cs h => by cases h
 k := KTab.of (P := Tryz.prog) (l := kk_shelved) (kt_shelved ht hr hg) rfl rfl
 mix := by kernel_rfl
 once := fun _ => once_t
theorem shelved_spec (ht : tabR ∈ R) (hr : rootsR ∈ R) (hg : anyN 1 ∈ R) (hk : POST (.bool true) R O) : Fun Tryz.prog 48 #[] R O POST := trial_ok (fx_shelved ht hr hg) Z.K run_shelved hk
end
end Go.Proofs.YtnjfgcpmcjmddaaGreatDoor
namespace Go.Proofs.YtnjfgcpmcjmddaaGreatDoor
open Go Go.SL Go.Ex
noncomputable def kk_refers : List (Nat × KF) := [(109, kWriteString Tryz.prog 5 207), (110, kString 5), (94, kRepeat), (176, kCrc), (124, kSha), (331, kIdxB), (330, kCnt), (209, kIndex), (242, kContains), (230, kAtomAdd), (351, kTrue), (322, kTrue), (273, kTrue), (206, kTrue), (137, kTrue), (83, kTrue), (48, kTrue)]
noncomputable def qq_refers : List (Nat × List KQ) := [(54, [.s, .b]), (143, [.i .i64, .s])]
noncomputable def kx_refers : Fx := { P := Tryz.prog, G := fun _ => none, K := kfind kk_refers, Q := kfind qq_refers, once := 345 }
theorem run_refers : good (runF kx_refers 100000 21 [] [] h0) = true := by kernel_rfl
section
variable {R : List RO} {O : List Own} {POST : Value → List RO → List Own → Prop}
theorem kt_refers (ht : tabR ∈ R) (hr : rootsR ∈ R) (hg : anyN 1 ∈ R) : ∀ x ∈ kk_refers, KOne Tryz.prog R x.1 x.2 := by
 intro x hx
 unfold kk_refers at hx
 rcases List.mem_cons.1 hx with rfl | hx
 · exact kWriteString_ok
 rcases List.mem_cons.1 hx with rfl | hx
 · exact kString_ok
 rcases List.mem_cons.1 hx with rfl | hx
 · exact kRepeat_ok
 rcases List.mem_cons.1 hx with rfl | hx
 · exact kCrc_ok ht
 rcases List.mem_cons.1 hx with rfl | hx
 · exact kSha_ok hr
 rcases List.mem_cons.1 hx with rfl | hx
 · exact kIdxB_ok Tryz.func331 Z.K Z.K Z.K Z.K
 rcases List.mem_cons.1 hx with rfl | hx
 · exact kCnt_ok Tryz.func330 Z.K Z.K Z.K Z.K
 rcases List.mem_cons.1 hx with rfl | hx
 · exact kIndex_ok hg
 rcases List.mem_cons.1 hx with rfl | hx
 · exact kContains_ok hg
 rcases List.mem_cons.1 hx with rfl | hx
 · exact kAtomAdd_ok Tryz.func230 Z.K Z.K Z.K Z.K
 rcases List.mem_cons.1 hx with rfl | hx
 · exact kTrue_ok Z.K fun O POST hk => reads_spec ht hr hg hk
 rcases List.mem_cons.1 hx with rfl | hx
 · exact kTrue_ok Z.K fun O POST hk => makes_spec ht hr hg hk
 rcases List.mem_cons.1 hx with rfl | hx
 · exact kTrue_ok Z.K fun O POST hk => stores_spec ht hr hg hk
 rcases List.mem_cons.1 hx with rfl | hx
 · exact kTrue_ok Z.K fun O POST hk => splits_spec ht hr hg hk
 rcases List.mem_cons.1 hx with rfl | hx
 · exact kTrue_ok Z.K fun O POST hk => objects_spec ht hr hg hk
 rcases List.mem_cons.1 hx with rfl | hx
 · exact kTrue_ok Z.K fun O POST hk => lies_spec ht hr hg hk
 rcases List.mem_cons.1 hx with rfl | hx
 · exact kTrue_ok Z.K fun O POST hk => shelved_spec ht hr hg hk
 cases hx
theorem fx_refers (ht : tabR ∈ R) (hr : rootsR ∈ R) (hg : anyN 1 ∈ R) : FxOk kx_refers R where
 q := QOk.of (qtab_ok (P := Tryz.prog) (l := qq_refers) Z.K)
 g := fun g cs h => by cases h
 k := KTab.of (P := Tryz.prog) (l := kk_refers) (kt_refers ht hr hg) rfl rfl
 mix := by kernel_rfl
 once := fun _ => once_t
theorem refers_spec (ht : tabR ∈ R) (hr : rootsR ∈ R) (hg : anyN 1 ∈ R) (hk : POST (.bool true) R O) : Fun Tryz.prog 21 #[] R O POST := trial_ok (fx_refers ht hr hg) Z.K run_refers hk
end
end Go.Proofs.YtnjfgcpmcjmddaaGreatDoor
namespace Go.Proofs.YtnjfgcpmcjmddaaGreatDoor.Gr
open Go Go.SL
def L2 : List Nd := [([97], [], 0), ([98], [[97]], 0)]
def nv2 (b : Nat) : List Nv := [([97], (none, 0, 0), 0), ([98], (some ⟨b, 0, none⟩, 1, 1), 0)]
theorem nds2 {b : Nat} {w : World} (h0 : SlE (SL.one vs) nilS ([] : List T) w) (h1 : SlE (SL.one vs) (.slice (some ⟨b, 0, none⟩) 1 1) ([[97]] : List T) w) : ndsP (nv2 b) L2 w := by
 intro i hi
 rcases i with _ | _ | i
 · exact h0
 · exact h1
 · exact absurd hi (by simp [L2])
theorem nls2 {b : Nat} {i : Nat} (hi : i < L2.length) : (nv2 b)[i]!.1 = L2[i]!.1 ∧ (nv2 b)[i]!.2.2 = L2[i]!.2.2 := by
 rcases i with _ | _ | i
 · exact ⟨rfl, rfl⟩
 · exact ⟨rfl, rfl⟩
 · exact absurd hi (by simp [L2])
theorem L2_nodup : (ids L2).Nodup := by decide
theorem L2_small : ∀ n ∈ L2, n.2.1.length ≤ 100 := by decide
theorem L2_back : Back L2 := by
 intro i hi p hp
 rcases i with _ | _ | i
 · exact absurd hp List.not_mem_nil
 · exact ⟨0, by decide, (List.mem_singleton.1 hp).symm⟩
 · exact absurd hi (by simp [L2])
theorem come_2 : Come (gOf L2) [[98]] [97] := by
 refine ⟨[98], List.mem_cons_self, by decide, .step (by decide) ?_ (.refl _)⟩
 exact (pars_at L2_nodup (i := 1) (by decide)).2 List.mem_cons_self
theorem diff_x : (Ld.diffE [] [[120]]).length = 1 := by
 have h := Go.Lcs.trace_len 0 0 ([] : List T) [[120]]
 rw [Go.Lcs.lcs_nil_left] at h
 rw [Ld.diffE, List.length_map]
 simpa using h
section
variable {R : List RO} {O O' : List Own} {POST : Value → List RO → List Own → Prop}
set_option maxRecDepth 20000 in
set_option maxHeartbeats 400000 in
theorem grows_spec (ht : tabR ∈ R) (hr : rootsR ∈ R) (hx : anyN 1 ∈ R) (hk : POST (.bool true) R O) : Fun Tryz.prog 8 #[] R O POST := by
 have hc : Closed (gOf L2) := L2_back.closed L2_nodup
 have hs : Small (gOf L2) := gOf_small (by decide) L2_small
 refine Fun.enter (l := []) Tryz.func8 rfl Tryz.ntmps8 rfl (L0 := []) rfl ?_
 refine Z.s1 <| Z.a1 rfl <| Z.q1 <| Z.r1 rfl (Rd.buildN (ps := [(0, _)]) rfl Bs62 I62 rfl Z.E Z.C (by apply NFo.mk; repeat (first | exact NF.nil | apply NF.cons))) ?_
 refine WL.op rfl ?_
 refine OpW.buildSl (ps := [(0, _)]) rfl S24 Z.E rfl rfl Z.C Z.K rfl rfl rfl ?_; intro b7
 refine Z.r1 rfl (Rd.buildN (ps := [(0, _), (1, _)]) rfl Bs62 I62 rfl Z.E Z.C (by apply NFo.mk; repeat (first | exact NF.nil | apply NF.cons))) ?_
 refine WL.op rfl ?_
 refine OpW.buildSl (ps := [(0, _), (1, _)]) rfl S63 Z.E rfl rfl Z.C Z.K rfl rfl rfl ?_; intro b9
 refine WL.heap (fun w h => Sat.shareRow (b := b7) (enc := SL.one vs) (xs := [[97]]) Z.T rfl rfl (by decide) h) ?_
 refine WL.heap (fun w h => Sat.shareRow (b := b9) (enc := encN) (xs := nv2 b7) Z.T rfl rfl (by show (2 : Nat) ≤ _; decide) h) ?_
 refine WL.heap (fun w h => h.nilE (α := T) (enc := SL.one vs)) ?_
 refine WL.heap (fun w h => h.derive (q := ndsP (nv2 b7) L2) (fun w hR => nds2 (hR _ Z.M) (hR _ Z.M))) ?_
 refine WL.op rfl ?_
 refine OpW.call rfl rfl Z.E Z.K rfl rfl rfl ?_
 refine newOk_spec (L := L2) ⟨nv2 b7, Z.M, List.mem_cons_self, rfl, fun i hi => nls2 hi⟩ L2_nodup L2_back (by decide) L2_small ?_; intro gv p1 p2 p3 hone hG
 refine Z.m1 rfl <| Z.x1 rfl <| Z.x1 rfl <| Z.a1 rfl <| Z.a1 rfl <| Z.q1 ?_
 refine WL.op rfl ?_
 refine OpW.buildSl (ps := [(0, _)]) rfl S24 Z.E rfl rfl Z.C Z.K rfl rfl rfl ?_; intro b14
 refine WL.heap (fun w h => Sat.shareRow (b := b14) (enc := SL.one vs) (xs := [[120]]) Z.T rfl rfl (by decide) h) ?_
 refine WL.heap (fun w h => h.nilE (α := T) (enc := SL.one vs)) ?_
 refine WL.op rfl ?_
 refine OpW.call rfl rfl Z.E Z.K rfl rfl rfl ?_
 refine Ld.diff_spec (xs := []) (ys := [[120]]) Z.M Z.M (by decide) (by decide) ?_; intro v15
 refine Z.m1 rfl <| Z.x1 rfl <| Z.x1 rfl <| Z.a1 rfl <| Z.a1 rfl <| Z.q1 ?_
 refine WL.op rfl ?_
 refine OpW.call rfl rfl Z.E Z.K rfl rfl rfl ?_
 refine refers_spec Z.M Z.M Z.M ?_
 refine WL.say 18 (u := .bool (decide True)) rfl (by simp) ?_
 refine Z.m1 rfl ?_
 refine WL.case 19 rfl (fun hg19 => ?_) (fun hg19 => ?_)
 ·
  refine Z.y1 rfl (Rd.move rfl rfl) <| Z.y1 rfl (Rd.eql rfl rfl rfl) <| Z.r1 rfl (Rd.pick_t rfl rfl rfl) <| Z.m1 rfl ?_
  refine WL.case 23 rfl (fun hg23 => ?_) (fun hg23 => ?_)
  ·
   refine Z.y1 rfl (Rd.move rfl rfl) ?_
   refine WL.op_yes rfl rfl rfl rfl ?_
   refine OpW.call rfl rfl Z.E Z.K rfl rfl rfl ?_
   refine anc_spec (a := [97]) (b := [98]) (hG.mono (fun _ hp => by repeat (first | exact hp | refine List.mem_cons_of_mem _ ?_))) hc hs ?_
   refine WL.say 25 (u := .bool (decide True)) rfl (by rw [decide_eq_true come_2]; simp) ?_
   refine Z.r1 rfl (Rd.pick_t rfl rfl rfl) <| Z.m1 rfl ?_
   refine WL.case 27 rfl (fun hg27 => ?_) (fun hg27 => ?_)
   ·
    refine Z.y1 rfl (Rd.move rfl rfl) <| Z.y1 rfl (Rd.eql rfl rfl rfl) <| Z.r1 rfl (Rd.pick_t rfl rfl rfl) <| Z.m1 rfl ?_
    refine WL.case 31 rfl (fun hg31 => ?_) (fun hg31 => ?_)
    ·
     refine Z.y1 rfl (Rd.move rfl rfl) <| Z.y1 rfl (by exact Rd.lenE rfl rfl Tryz.underlying64 Z.M) ?_
     refine Z.y1 rfl (Rd.eql rfl rfl rfl) ?_
     refine WL.say 34 (u := .bool true) rfl (by rw [diff_x]; rfl) ?_
     refine Z.r1 rfl (Rd.pick_t rfl rfl rfl) <| Z.a1 rfl <| Z.n1 ?_
     refine WC.heap (R' := R) (O' := O) (fun w h => h.thin (fun _ hp => by repeat (first | exact hp | refine List.mem_cons_of_mem _ ?_))) ?_
     refine WC.ret (Ret.one Tryz.results8 rfl ?_)
     exact hk
    ·
     exact absurd rfl hg31
   ·
    exact absurd trivial hg27
  ·
   exact absurd rfl hg23
 ·
  exact absurd trivial hg19
end
end Go.Proofs.YtnjfgcpmcjmddaaGreatDoor.Gr
